import Derived.Test.YtpjnmgjphfnmmaaM2
open Option renaming some→Xa,none→Xe,map_some→Xo
open Bool renaming true→Xb,false→Xc,and_eq_true→Xs
open Option.some renaming injEq→Xf,inj→Xr
open List renaming map_cons→Xg,mem_of_getElem?→Xh,getElem?_eq_some_iff→Xi,mem_map→Xj,getElem?_map→Xk,mem_cons→Xl,replicate→Xm,getElem?_eq_getElem→Xp,length_map→Xq,mem_append→Xt,append_assoc→Xu,getElem?_append_left→Xv,getElem?_take→Xw,getElem?_append_right→Xy,map_nil→Xz,length_append→XA,getElem?_cons_zero→XB,mem_singleton→XC,all_eq_true→XE,getElem?_drop→XH,length_cons→XJ,mem_iff_getElem?→XK,map_append→XL,mem_of_mem_take→XO,mem_of_mem_drop→XW,eq_nil_of_length_eq_zero→XY,getElem?_cons_succ→X5,getElem?_set_self→X8,append_nil→Wc,mem_replicate→Wd,mem_cons_of_mem→We,getElem?_set_ne→Wg,getElem_mem→Wl,map_toArray→Wn,mem_or_eq_of_mem_set→Wo,ext_getElem?→Ua,map_take→Uf,map_drop→Ul,flatten_append→Us,length_set→Ux,getElem?_modify→Uy,mem_cons_self→U1
open Prod.mk renaming injEq→Xn
open Nat renaming lt_or_ge→Xx,le_refl→XD,zero_add→XF,lt_of_lt_of_le→XI,mul_le_mul_right→XN,le_add_right→XR,le_trans→XV,add_sub_cancel→X4,succ_mul→X9,zero_le→Wh,lt_succ_self→Wp,add_zero→Wq,add_assoc→Ub,mul_one→Uo
open Array renaming toList_inj→XG,getElem?_eq_getElem→XZ,getElem?_eq_some_iff→Wa,toArray_toList→Ui,range→UN,getElem?_modify→U0,getElem?_push→Te
set_option linter.unusedVariables false
set_option linter.unusedSimpArgs false
set_option linter.defProp false
namespace Go.AM
theorem ZaL {y:AV} {k:Nat} {e e':TypeId} {xs xs':List (List AV)} (h:Zp y k=Xa (e,xs)) (hg:y.isG=Xc) :
  Zp (Zm y k Xb e' xs') k=Xa (e',xs')∧(∀ q,q≠k→Zp (Zm y k Xb e' xs') q=Zp y q)∧(∀ q,q≠k→ZY (Zm y k Xb e' xs') q=ZY y q)∧ZY (Zm y k Xb e' xs') k=Xa (e',xs')∧
   (Zm y k Xb e' xs').isG=Xc∧(∀ cs,y = .box cs→∃ cs',Zm y k Xb e' xs' = .box cs'):=by
 rcases ZB h with ⟨rfl,rfl⟩ | ⟨cs,q,rfl,rfl,hq⟩ | ⟨cs,q,rfl,rfl,hq⟩
 case inr.inr=>cases hg
 ·refine ⟨rfl,fun q hq=>?_,fun q hq=>?_,rfl,rfl,fun cs h=>by cases h⟩ <;> (cases q with | zero=>exact (hq rfl).elim | succ q=>rfl)
 ·have hlt:=(Xi.1 hq).1
  refine ⟨by simp only [Zm,Zp,X8 hlt],fun q' hq'=>?_,fun q' hq'=>?_,by simp only [Zm,ZY,X8 hlt],rfl,fun cs' _=>⟨_,rfl⟩⟩ <;>
   (cases q' with
   | zero => rfl
   | succ q' => simp only [Zm, Zp, ZY]; rw [Wg (by omega)])
theorem Sim.deepStep {c:Ctx} {σ:Nat→AV} {tm:Array Value} {w w':World} {lim lim':Lm} {X:Nat→Nat→Option Nat} (h:Sim c σ tm w lim X) {d k b:Nat} {E E':TypeId} {xs xs':List (List AV)} {Y':Nat→Option Nat}
  (hp:Zp (σ d) k=Xa (E,xs)) (hng:(σ d).isG=Xc) (hX:X d k=Xa b) (hw:ZU w lim w' lim' (fun b'=>b'=b∨∃ j,X (ngN+b) j=Xa b'))
  (hown:∀ v,ZV c.P w lim Xb E xs v (Xa b)→ZV c.P w' lim' Xb E' xs' v (Xa b)) (hl:xs'.length=xs.length) (hrk:Zaq w w' b) (href:E'=E∨∀ i,¬ Jh (σ i) d k) (hmo:ZgE c.P w' lim' E' xs' (X d))
  (hY:∀ j b',Y' j=Xa b'→(∃ j0,X (ngN+b) j0=Xa b')∨(b' < w'.heap.size∧(c.A b'∨c.w0.heap.size≤b')∧∀ i q,X i q≠Xa b')) (hYi:∀ j j' b',Y' j=Xa b'→Y' j'=Xa b'→j=j')
  (hN:Ze c.P E'=Xb→VZ c.P w' lim' E' xs' b Y') :
  Sim c (upd σ d (Zm (σ d) k Xb E' xs')) tm w' lim' (Ke X (ngN+b) Y'):=by
 obtain ⟨q1,q2,q3,q4,q5,q6⟩:=ZaL (e':=E') (xs':=xs') hp hng
 have hdf:d < ngN:=by
  rcases Xx d ngN with hlt | hge
  ·exact hlt
  ·rw [h.far d hge] at hp;cases hp
 have hdn:d < c.nt:=JL h (by intro e;rw [e] at hp;cases hp) hng
 have hbl:b < w.heap.size:=(h.ours d k b hX).1
 -- all other blocks are kept
 have kept:∀ i q b',X i q=Xa b'→¬ (i=d∧q=k)→i≠ngN+b→Zeh w lim w' lim' b':=fun i q b' hb h1 h2=>hw.blk b' (h.ours i q b' hb).1 fun hs=>by
  rcases hs with rfl | ⟨j,hj⟩
  ·exact h1 (h.dist i q d k b' hb hX)
  ·exact h2 (h.dist i q (ngN+b) j b' hb hj).1
 have hrowd:Ke X (ngN+b) Y' d=X d:=Zc X Y' (by omega)
 have hG:∀ i,(σ i).isG=Xb→i < ngN∧i≠d:=fun i hi=>by
  refine ⟨?_,fun e=>by rw [e,hng] at hi;cases hi⟩
  rcases Xx i ngN with hlt | hge
  ·exact hlt
  ·rw [h.far i hge] at hi;cases hi
 have hrow:∀ i,i < ngN→Ke X (ngN+b) Y' i=X i:=fun i hi=>Zc X Y' (by omega)
 have hlow:∀ i p,Zp (σ i) p≠Xe→i < ngN:=fun i p hi=>by
  rcases Xx i ngN with hlt | hge
  ·exact hlt
  ·rw [h.far i hge] at hi;exact (hi rfl).elim
 refine ⟨fun i=>?_,h.size,fun i hi=>?_,fun i hi=>?_,fun i p i' p' b' g g'=>?_,fun i p b' g=>?_,h.frm.step hw fun b' hs=>?_,fun i v hv=>?_,fun i e1 xs1 he=>?_,fun i b' hb=>?_,h.ntN,fun i hi=>?_,fun i p e1 xs1 b1 g1 g2 g3=>?_,fun b1 m b' hb=>?_,h.stfU (VO q5)⟩
 ·by_cases hi:i=d
  ·subst hi
   rw [Zs]
   have hr:=h.rel i
   rcases ZB hp with ⟨g1,rfl⟩ | ⟨cs,q,g1,rfl,g2⟩ | ⟨_,_,g1,_⟩
   case inr.inr=>rw [g1] at hng;cases hng
   ·rw [g1] at hr ⊢
    have hr':ZV c.P w lim Xb E xs (tm.getD i undef) (X i 0):=hr
    show ZV c.P w' lim' Xb E' xs' _ (Ke X (ngN+b) Y' i 0)
    rw [hrowd,hX]
    rw [hX] at hr'
    exact hown _ hr'
   ·rw [g1] at hr ⊢
    obtain ⟨b0,arr,t,k1,k2,k3,k4,k5,k6,k7⟩:=(show ZG c.P w lim (X i) cs _ from hr)
    have hk0:=kept i 0 b0 k1 (by omega) (by omega)
    show ZG c.P w' lim' (Ke X (ngN+b) Y' i) (cs.set q (.own Xb E' xs')) _
    rw [hrowd]
    refine ⟨b0,arr,t,k1,k2,hk0.1.trans k3,by rw [Ux];exact k4,hk0.2.trans k5,fun x hx=>?_,fun j x u hx hu=>?_⟩
    ·rcases Wo hx with hx | hx
     ·exact k6 x hx
     ·exact .inr (.inl ⟨_,_,_,hx⟩)
    ·by_cases hj:j=q
     ·subst hj
      rw [X8 (Xi.1 g2).1] at hx
      simp only [Xf] at hx
      subst hx
      have hc:ZV c.P w lim Xb E xs u (X i (j+1)):=k7 j _ u g2 hu
      show ZV c.P w' lim' Xb E' xs' u (X i (j+1))
      rw [hX] at hc ⊢
      exact hown u hc
     ·rw [Wg (fun h=>hj h.symm)] at hx
      exact (k7 j x u hx hu).mono hw.ext fun b' hb'=>kept i (j+1) b' hb' (by omega) (by omega)
  ·rw [Zb σ _ hi]
   rcases Xx i ngN with hlt | hge
   ·have hm:=(h.rel i).mono hw.ext (fun p b' hb=>kept i p b' hb (fun hh=>hi hh.1) (by omega)) (fun d' p b' hr hb=>by
     by_cases hbb:b'=b
     ·subst hbb;exact hrk
     ·have hd':d' < ngN:=by
       obtain ⟨pp,hpp⟩:=Y4 h (.inl hr)
       exact hlow d' p (by rw [hpp];exact fun h=>by cases h)
      exact .of (hw.blk b' (h.ours d' p b' hb).1 fun hs=>by
       rcases hs with e | ⟨j,hj⟩
       ·exact hbb e
       ·have:=(h.dist d' p (ngN+b) j b' hb hj).1;omega).1) fun _ _=>hw.t
    refine hm.chg (hrow i hlt) (fun d' cs hd'=>?_) (fun d' hd'=>?_) fun d' p hr=>?_
    ·by_cases hdd:d'=d
     ·subst hdd
      obtain ⟨cs',hcs⟩:=q6 cs hd'
      exact ⟨⟨cs',by rw [Zs];exact hcs⟩,by rw [hrowd]⟩
     ·have:d' < ngN:=by
       rcases Xx d' ngN with hlt | hge
       ·exact hlt
       ·rw [h.far d' hge] at hd';cases hd'
      exact ⟨⟨cs,by rw [Zb σ _ hdd];exact hd'⟩,by rw [hrow d' this]⟩
    ·obtain ⟨g1,g2⟩:=hG d' hd'
     exact ⟨by rw [Zb σ _ g2];exact hd',by rw [hrow d' g1]⟩
    ·obtain ⟨pp,hpp⟩:=Y4 h hr
     have hd':=hlow d' p (by rw [hpp];exact fun h=>by cases h)
     refine ⟨?_,by rw [hrow d' hd']⟩
     by_cases hdd:d'=d
     ·subst hdd
      rw [Zs]
      by_cases hpk:p=k
      ·subst hpk
       rcases href with rfl | href
       ·intro e1 ys hy
        rw [hp] at hy
        simp only [Xf,Xn] at hy
        obtain ⟨rfl,rfl⟩:=hy
        exact ⟨xs',q1,hl⟩
       ·exact (href i hr).elim
      ·intro e1 ys hy
       exact ⟨ys,by rw [q2 p hpk];exact hy,rfl⟩
     ·rw [Zb σ _ hdd];exact KO.refl _ _
   ·rw [h.far i hge];trivial
 ·by_cases hid:i=d
  ·omega
  ·rw [Zb σ _ hid];exact h.out i hi
 ·by_cases hid:i=d
  ·subst hid;rw [Zs,q5] at hi;cases hi
  ·rw [Zb σ _ hid] at hi;exact h.ghost i hi
 ·by_cases h1:i=ngN+b<;>by_cases h2:i'=ngN+b
  ·subst h1;subst h2
   rw [Zl] at g g'
   exact ⟨rfl,hYi p p' b' g g'⟩
  ·subst h1
   rw [Zl] at g
   rw [Zc X Y' h2] at g'
   rcases hY p b' g with ⟨j0,hj⟩ | ⟨_,_,hno⟩
   ·exact (h2 (h.dist i' p' (ngN+b) j0 b' g' hj).1).elim
   ·exact (hno i' p' g').elim
  ·subst h2
   rw [Zl] at g'
   rw [Zc X Y' h1] at g
   rcases hY p' b' g' with ⟨j0,hj⟩ | ⟨_,_,hno⟩
   ·exact (h1 (h.dist i p (ngN+b) j0 b' g hj).1).elim
   ·exact (hno i p g).elim
  ·rw [Zc X Y' h1] at g
   rw [Zc X Y' h2] at g'
   exact h.dist i p i' p' b' g g'
 ·by_cases h1:i=ngN+b
  ·subst h1
   rw [Zl] at g
   rcases hY p b' g with ⟨j0,hj⟩ | ⟨m1,m2,_⟩
   ·exact ⟨XI (h.ours _ j0 b' hj).1 hw.size,(h.ours _ j0 b' hj).2⟩
   ·exact ⟨m1,m2⟩
  ·rw [Zc X Y' h1] at g
   exact ⟨XI (h.ours i p b' g).1 hw.size,(h.ours i p b' g).2⟩
 ·rcases hs with rfl | ⟨j,hj⟩
  ·exact (h.ours d k b' hX).2
  ·exact (h.ours _ j b' hj).2
 ·obtain ⟨g1,cs,g2⟩:=h.pin i v hv
  by_cases hid:i=d
  ·subst hid
   obtain ⟨cs',hcs⟩:=q6 cs g2
   exact ⟨g1,cs',by rw [Zs];exact hcs⟩
  ·exact ⟨g1,cs,by rw [Zb σ _ hid];exact g2⟩
 ·by_cases hid:i=d
  ·subst hid
   rw [Zs] at he
   rw [hrowd]
   have hk0:k=0:=by
    cases k with
    | zero => rfl
    | succ k =>
     rw [he] at q1
     simp [Zp] at q1
   subst hk0
   rw [he] at q1
   simp only [Zp,Xf,Xn] at q1
   obtain ⟨rfl,rfl⟩:=q1
   exact hmo
  ·rw [Zb σ _ hid] at he
   have hif:i < ngN:=by
    rcases Xx i ngN with hlt | hge
    ·exact hlt
    ·rw [h.far i hge] at he;cases he
   rw [hrow i hif]
   exact (h.mp i e1 xs1 he).mono hw.ext fun p b' hb=>kept i p b' hb (fun hh=>hid hh.1) (by omega)
 ·obtain ⟨g1,g2⟩:=h.gpin i b' hb
  obtain ⟨m1,m2⟩:=hG i g2
  exact ⟨by rw [hrow i m1];exact g1,by rw [Zb σ _ m2];exact g2⟩
 ·rw [Zb σ _ (by omega)];exact h.far i hi
 ·have hif:i < ngN:=by
   rcases Xx i ngN with hlt | hge
   ·exact hlt
   ·rw [Zb σ _ (by omega),h.far i hge] at g1;cases g1
  rw [hrow i hif] at g3
  by_cases hik:i=d∧p=k
  ·obtain ⟨rfl,rfl⟩:=hik
   rw [Zs,q4] at g1
   simp only [Xf,Xn] at g1
   obtain ⟨rfl,rfl⟩:=g1
   rw [hX] at g3
   cases g3
   rw [Zl]
   exact hN g2
  ·have hbb:b1≠b:=fun e=>hik (h.dist i p d k b1 g3 (by rw [e];exact hX))
   rw [Zc X Y' (by omega)]
   have hold:ZY (σ i) p=Xa (e1,xs1):=by
    by_cases hid:i=d
    ·subst hid
     rw [Zs,q3 p (fun e=>hik ⟨rfl,e⟩)] at g1
     exact g1
    ·rw [Zb σ _ hid] at g1;exact g1
   exact (h.nst i p e1 xs1 b1 hold g2 g3).mono hw.ext (kept i p b1 g3 hik (by omega)).1 fun j b' hb'=>kept _ j b' hb' (fun hh=>by omega) (by omega)
 ·by_cases hbb:b1=b
  ·subst hbb;exact XI hbl hw.size
  ·rw [Zc X Y' (by omega)] at hb
   exact XI (h.yfr b1 m b' hb) hw.size
theorem ZU.sub {w:World} {lim:Lm} {w':World} {lim':Lm} {S S':Nat→Prop} (h:ZU w lim w' lim' S) (hs:∀ b,S b→S' b):ZU w lim w' lim' S':=
 ⟨h.os,h.tape,h.output,h.size,h.frz,fun b hb hn=>h.blk b hb fun hh=>hn (hs b hh),h.ext,h.t⟩
theorem JS {α:Type} (zs vs:List α) (off:Nat) (h:off+vs.length≤zs.length) (j:Nat):(zs.take off++vs++zs.drop (off+vs.length))[j]? = if off≤j∧j < off+vs.length then vs[j-off]? else zs[j]?:=by
 have l1:(zs.take off).length=off:=by rw [List.length_take];omega
 rw [Xu]
 rcases Xx j off with hlt | hge
 ·rw [Xv (by omega),List.getElem?_take_of_lt hlt,if_neg (by omega)]
 ·rw [Xy (by omega),l1]
  rcases Xx (j-off) vs.length with hlt | hge'
  ·rw [Xv hlt,if_pos (by omega)]
  ·rw [Xy hge',XH,if_neg (by omega)]
   congr 1
   omega
theorem ZnJ {P:Program} {e:TypeId} (h:Ze P e=Xb):bT e=e-2097152∧2097152≤e:=by
 have h8:2097152≤e:=by simp only [Ze,Xs,decide_eq_true_eq] at h;exact h.1
 exact ⟨if_pos h8,h8⟩
theorem Zmy {P:Program} {e:TypeId} (h:Ze P (e+2097152)=Xb):bT (e+2097152)=e:=by
 rw [(ZnJ h).1];exact X4 e 2097152
theorem VA {P:Program} {w w':World} {lim lim':Lm} {E E':TypeId} {xs xs':List (List AV)} {b:Nat} {arr arr':Array Value} (hm:Zj P E=Xc∨Ze P E=Xb) (hd:Zes P w E (Xa b)) (hheap:w.heap[b]? = Xa (.cells arr (bT E) (0,0))) (hheap':w'.heap[b]? = Xa (.cells arr' (bT E) (0,0)))
  (hsz:arr'.size=arr.size) (hl:xs'.length=xs.length) (hl0:lim' b=0) (h1:∀ x∈xs',x.length=P.cellsOf (bT E)) (h2:∀ x∈xs',∀ z∈x,z.isCell=Xb) (h3:∀ (j:Nat) (z:AV) (u:Value),xs'.flatten[j]? = Xa z→arr'[j]? = Xa u→Rep w' lim' z u)
  (hE:E'=bT E∨(Ze P E'=Xb∧bT E'=bT E∧Zj P (bT E)=Xc)):∀ v,ZV P w lim Xb E xs v (Xa b)→ZV P w' lim' Xb E' xs' v (Xa b):=by
 intro v ho
 obtain ⟨arr0,cap,g1,g2,g3,g4,g5,g6,g7,g8,g9⟩:=K1 ho hm hd
 rw [hheap] at g2
 simp only [Xf,Obj.cells.injEq,and_true] at g2
 subst g2
 have key:=ZdG (P:=P) (w:=w') (lim:=lim') (e:=bT E) (xs:=xs') (cap:=cap) hheap' hl0 (by omega) g5 (by rw [hsz];exact g6) h1 h2 h3
 rw [hl] at key
 rw [g1]
 rcases hE with rfl | ⟨k1,k2,k3⟩
 ·exact key
 ·refine .inr (.inr ⟨rfl,.inr (.inl ⟨k1,by rw [k2];exact k3,?_⟩)⟩)
  rw [k2]
  exact key.noMap k3
theorem KL {c:Ctx} {σ:Nat→AV} {tm:Array Value} {w:World} {lim:Lm} {X:Nat→Nat→Option Nat} (h:Sim c σ tm w lim X) {d q k p:Nat} {e:TypeId} {xs:List (List AV)} {v:Value}
  (hd:Zp (σ d) q=Xa (e,xs)) (hv:ZQ c.P w lim X σ k (.eref d q p) v) (hnm:Zj c.P e=Xc∨Ze c.P e=Xb) :
   ∃ b arr cap,X d q=Xa b∧v = .pointer (Xa ⟨b,p,Xe⟩)∧w.heap[b]? = Xa (.cells arr (bT e) (0,0))∧lim b=0∧xs.length≤cap∧cap≤maxLen∧
   arr.size=cap*c.P.cellsOf (bT e)∧(∀ x∈xs,x.length=c.P.cellsOf (bT e))∧(∀ x∈xs,∀ c∈x,c.isCell=Xb)∧∀ (j:Nat) (c:AV) (u:Value),xs.flatten[j]? = Xa c→arr[j]? = Xa u→Rep w lim c u:=by
 obtain ⟨b,e',xs',h1,h2,h3⟩:=hv
 rw [hd] at h1
 simp only [Xf,Xn] at h1
 obtain ⟨rfl,rfl⟩:=h1
 obtain ⟨u,ho⟩:=Yd h hd
 rw [h2] at ho
 obtain ⟨arr0,cap,g1,g2,g3⟩:=K1 ho hnm (by rw [← h2];exact h.deepB (Z4 hd))
 exact ⟨b,arr0,cap,h2,h3.ptr hnm,g2,g3⟩
theorem ZbI {c:Ctx} {σ:Nat→AV} {tm:Array Value} {w:World} {lim:Lm} {X:Nat→Nat→Option Nat} (h:Sim c σ tm w lim X) {d q b:Nat} {e:TypeId} {xs:List (List AV)} (hd:Zp (σ d) q=Xa (e,xs)) (hX:X d q=Xa b) (hdp:Ze c.P e=Xb):Zj c.P (bT e)=Xc:=by
 obtain ⟨u,ho⟩:=Yd h hd
 rw [hX] at ho
 rcases ho with ⟨us,k1,k2,_⟩ | ⟨_,h',_⟩ | ⟨_,⟨_,_,_,_,_,et,k1,_⟩ | h' | ⟨_,_,_,_,_,_,⟨_,_,k1⟩,_⟩⟩
 ·exfalso
  rcases k1.2 with ⟨hv,_⟩ | ⟨g,cap,cur,hv,_,hg,_⟩
  ·rw [hv] at k2;cases k2
  ·obtain ⟨arr,ha⟩:=h.deepB (Z4 hd) hdp b hX
   have hgb:g=b:=by rw [hv] at k2;exact Xr k2
   rw [hgb,ha] at hg
   simp only [Xf,Obj.cells.injEq,and_true] at hg
   obtain ⟨m1,m2⟩:=ZnJ hdp
   have h9:=hg.2
   rw [m1] at h9
   exact absurd h9 (Nat.ne_of_lt (Nat.sub_lt (XI (by decide) m2) (by decide)))
 ·cases h'
 ·rw [KP k1] at hdp;cases hdp
 ·exact h'.2.1
 ·rw [YS k1] at hdp;cases hdp
def ZlU (z:AV):Bool:=match z with | .nest _ _ _ _=>Xc | _=>Xb
theorem Zdt {P:Program} {o:Oper} {σ:Nat→AV} {T E:TypeId} {a x:Operand} {d q i off:Nat} {xs:List (List AV)} {vc vc':List AV} {y:AV} (ho:o.op = .store T a x) (ha:Zn P σ a = .eref d q (i*P.cellsOf (bT E)+off)) (hd:Zp (σ d) q=Xa (E,xs)) (hng:(σ d).isG=Xc)
  (hx:Zn P σ x=y) (hy:y.cells? = Xa vc) (hn:vc.length=P.cellsOf T) (h0:P.cellsOf T≠0) (hi:i < xs.length) (hfit:off+P.cellsOf T≤P.cellsOf (bT E))
  (hw:vc'.length=vc.length∧∀ (w:World) (lim:Lm) (us:List Value),JJ w lim vc us→JJ w lim vc' us) (hnn:∀ z∈vc',ZlU z=Xb) (hdp:Ze P E=Xb) :
  Jg P o σ .dead [(d,Zm (σ d) q Xb E (ZC xs i off vc'))] [d]:=by
 intro c hc σ' tm w lim X hid hag hsim next Q hnx
 have hga:Zn P σ' a=Zn P σ a:=Zw fun t ht=>hid t (by simp [Zo (o:=o) (x:=a) (by rw [ho];simp [Op.operands]) ht])
 have hgx:Zn P σ' x=Zn P σ x:=Zw fun t ht=>hid t (by simp [Zo (o:=o) (x:=x) (by rw [ho];simp [Op.operands]) ht])
 have hsd:σ' d=σ d:=hag d (by simp)
 have hd':Zp (σ' d) q=Xa (E,xs):=by rw [hsd,hd]
 have hva:=JF hc hsim ha hga
 rw [← hc] at hva
 have hdp':Ze c.P E=Xb:=by rw [hc];exact hdp
 obtain ⟨us,h4,h5⟩:=KM hy (JF hc hsim hx hgx)
 obtain ⟨b,arr,cap,g1,h3,g3,g4,g6,g7,g8,g9,g10,g11⟩:=KL hsim hd' hva (.inr hdp')
 have hbm:=ZbI hsim hd' g1 hdp'
 rw [hc] at g8 g9 h3
 obtain ⟨inf,hinf⟩:=Zr h0
 have h5':=hw.2 w lim us h5
 have hlen:us.length=P.cellsOf T:=by rw [← h5.1,hn]
 have hmul:i*P.cellsOf (bT E)+P.cellsOf (bT E)≤xs.length*P.cellsOf (bT E):=by
  rw [← X9];exact XN _ hi
 have hcap:xs.length*P.cellsOf (bT E)≤cap*P.cellsOf (bT E):=XN _ g6
 have hmem:=Yw (i:=i) g9 g10 (by rw [hw.1,hn];exact hfit) h5'.2.1
 have hst:=JY (P:=P) (T:=T) (w:=w) (b:=b) (off:=i*P.cellsOf (bT E)+off) (v:=Act.eval ⟨tm,[]⟩ x) hinf h4 hlen g3 (by rw [hlen,g8];omega) (fun u hu=>by
  obtain ⟨j,hj⟩:=XK.1 hu
  have hlt:j < vc.length:=by rw [h5.1];exact (Xi.1 hj).1
  exact (h5.2.2 j _ u (Xp hlt) hj).oneCell (h5.2.1 _ (Wl hlt)))
 obtain ⟨arr',harr⟩:∃ arr',arr'=(arr.toList.take (i*P.cellsOf (bT E)+off)++us++arr.toList.drop (i*P.cellsOf (bT E)+off+us.length)).toArray:=⟨_,rfl⟩
 have hsz:arr'.size=arr.size:=by rw [harr];simp [g8];omega
 have hstep:=YJ (cs:=arr') g3 g4
 have hfl:=JD (i:=i) (o:=off) (e:=vc') g9 hi (by rw [hw.1,hn];exact hfit)
 have hxl:=Zg xs _ g9
 have hrep:∀ (j:Nat) (z:AV) (u:Value),(ZC xs i off vc').flatten[j]? = Xa z→arr'[j]? = Xa u→Rep w lim z u:=fun j z u hz hu=>by
  rw [hfl] at hz
  rw [harr] at hu
  refine Zgk (R:=Rep w lim) (us:=arr.toList) (fun j z u hz hu=>g11 j z u hz (by simpa using hu)) h5'.2.2 (by rw [hw.1,h5.1]) ?_ ?_ j z u hz (by simpa using hu)
  ·rw [hxl];omega
  ·simp [g8];omega
 have hY:∀ j b',X (ngN+b) j=Xa b'→Zeh w lim (w.setRow b arr') lim b':=fun j b' hb'=>hstep.blk b' (hsim.ours _ j b' hb').1 fun e=>by
  have hdf:d < ngN:=by
   rcases Xx d ngN with hlt | hge
   ·exact hlt
   ·rw [hsim.far d hge] at hd';cases hd'
  have:=(hsim.dist (ngN+b) j d q b' hb' (by rw [e];exact g1)).1
  omega
 have hset:=hsim.deepStep (w':=w.setRow b arr') (lim':=lim) (E':=E) (xs':=ZC xs i off vc') (Y':=X (ngN+b)) hd' (by rw [hsd];exact hng) g1 (hstep.sub fun _ h=>.inl h)
  (VA (.inr hdp') (by rw [← g1];exact hsim.deepB (Z4 hd')) g3 (setRow_heap w b arr arr' _ _ g3) hsz (by simp [ZC]) g4 (fun x hx=>by rw [hc];exact (hmem x hx).1) (fun x hx=>(hmem x hx).2) (fun j z u hz hu=>(hrep j z u hz hu).mono hstep.ext) (.inr ⟨hdp',rfl,hbm⟩))
  (by simp [ZC]) (Kg g3 hsz b) (.inl rfl) (.mv (.inr (.inl hdp'))) (fun j b' hb'=>.inl ⟨j,hb'⟩) (fun j j' b' h1 h2=>(hsim.dist _ j _ j' b' h1 h2).2)
  (fun _=>⟨⟨arr',setRow_heap w b arr arr' _ _ g3⟩,fun j s e ys u hz hu=>by
   rw [hfl,JS _ _ _ (by rw [hxl,hw.1,hn];omega)] at hz
   split at hz
   ·have:=hnn _ (Xh hz)
    cases this
   ·rename_i hj
    have hN:=(hsim.nst d q E xs b (Z4 hd') hdp' g1).2
    have hu':w.cell? ⟨b,j,Xe⟩=Xa u:=by
     rw [Zh (setRow_heap w b arr arr' _ _ g3),harr] at hu
     rw [Zh g3]
     have hu2:(arr.toList.take (i*P.cellsOf (bT E)+off)++us++arr.toList.drop (i*P.cellsOf (bT E)+off+us.length))[j]? = Xa u:=by simpa using hu
     rw [JS _ _ _ (by simp [g8];omega),if_neg (by rw [← h5'.1];exact hj)] at hu2
     simpa using hu2
    obtain ⟨m1,m2,m3⟩:=hN j s e ys u hz hu'
    exact ⟨m1,m2,m3.mono hstep.ext (hY j)⟩⟩)
 rw [hsd] at hset
 refine JA (w':=w.setRow b arr') ?_ (hnx undef _ ?_)
 ·rw [harr];simp only [execOp,ho,h3,Sem.run_bind,hst,Result.andThen_ok,Sem.run_pure]
 ·exact Zq hset rfl (k:=0) trivial
theorem ZdE {T':Odr} {P:Program} {o:Oper} {σ:Nat→AV} {T E e:TypeId} {a:Operand} {t d q i off:Nat} {xs ys:List (List AV)} {us:List (Nat×AV)} (ho:o.op = .store T a (.tmp t)) (ha:Zn P σ a = .eref d q (i*P.cellsOf (bT E)+off)) (hd:Zp (σ d) q=Xa (E,xs)) (hng:(σ d).isG=Xc)
  (ht:σ t = .own Xb e ys) (hn:P.cellsOf T=1) (hi:i < xs.length) (hfit:off < P.cellsOf (bT E)) (hdp:Ze P E=Xb) (hem:Zj P e=Xc) (hus:Yc T' σ t us) (hdt:d≠t) :
  Yz T' P o σ .dead (((t,.dead)::us)++[(d,Zm (σ d) q Xb E (ZC xs i off [.nest (P.cellsOf e) Xb e ys]))]) [d]:=by
 intro c hc σ' tm w lim X hid hag hT hsim next Q hnx
 have hga:Zn P σ' a=Zn P σ a:=Zw fun t ht=>hid t (by simp [Zo (o:=o) (x:=a) (by rw [ho];simp [Op.operands]) ht])
 have hsd:σ' d=σ d:=hag d (by simp)
 have hd':Zp (σ' d) q=Xa (E,xs):=by rw [hsd,hd]
 have ht':σ' t = .own Xb e ys:=by rw [hag t (by simp),ht]
 have hda:=hus.all hT
 have hva:=JF hc hsim ha hga
 rw [← hc] at hva
 have hdp':Ze c.P E=Xb:=by rw [hc];exact hdp
 have hem':Zj c.P e=Xc:=by rw [hc];exact hem
 obtain ⟨b,arr,cap,g1,h3,g3,g4,g6,g7,g8,g9,g10,g11⟩:=KL hsim hd' hva (.inr hdp')
 have hbm:=ZbI hsim hd' g1 hdp'
 rw [hc] at g8 g9 h3
 obtain ⟨inf,hinf⟩:=Zr (P:=P) (T:=T) (by omega)
 have hdf:d < ngN:=by
  rcases Xx d ngN with hlt | hge
  ·exact hlt
  ·rw [hsim.far d hge] at hd';cases hd'
 obtain ⟨X1,k1,k2,k3,k4⟩:=hsim.freeAll (us:=us) ht' (.inr hda)
 have hxd:Jm σ' ((t,KX c.P Xb e ys)::us) d=σ' d:=by
  refine ZcW _ _ _ ?_
  simp only [Xg,Xl,not_or]
  refine ⟨hdt,fun hm=>?_⟩
  obtain ⟨u,hu,hud⟩:=Xj.1 hm
  obtain ⟨_,_,p,hp⟩:=hda.1 u hu
  rw [hud] at hp
  rcases hp with hp | ⟨_,hp⟩ <;> (rw [hp] at hd';cases hd')
 have hX1:X1 d q=Xa b:=by
  have hd1:Zp (Jm σ' ((t,KX c.P Xb e ys)::us) d) q=Xa (E,xs):=by rw [hxd];exact hd'
  have hr1:=k1.rel d
  have hr0:=hsim.rel d
  rw [hxd] at hr1
  rcases ZB hd' with ⟨e1,rfl⟩ | ⟨cs,q',e1,rfl,hq'⟩ | ⟨cs,q',e1,rfl,hq'⟩
  ·rw [e1] at hr1 hr0
   have a1:ZV c.P w lim Xb E xs _ (X1 d 0):=hr1
   have a0:ZV c.P w lim Xb E xs _ (X d 0):=hr0
   rw [g1] at a0
   obtain ⟨arr0,cap0,m1,_⟩:=K1 a0 (.inr hdp') (by rw [← g1];exact hsim.deepB (Z4 hd'))
   rcases a1.one (.inr hdp') (k1.deepB (Z4 hd1)) with ⟨us1,n1,n2,_⟩ | ⟨_,_,a,n3⟩
   ·rw [m1] at n2;exact n2.symm
   ·rw [m1] at n3
    simp only [Value.slice.injEq,Xf] at n3
    omega
  ·rw [e1] at hr1 hr0
   obtain ⟨b1,arr1,t1,a1,a2,a3,a4,a5,a6,a7⟩:=(show ZG c.P w lim (X1 d) cs _ from hr1)
   obtain ⟨b2,arr2,t2,c1,c2,c3,c4,c5,c6,c7⟩:=(show ZG c.P w lim (X d) cs _ from hr0)
   have hbb:b1=b2:=by rw [a2] at c2;simpa using c2
   subst hbb
   rw [a3] at c3
   simp only [Xf,Obj.cells.injEq,and_true] at c3
   obtain ⟨rfl,_⟩:=c3
   have hlt:=(Xi.1 hq').1
   have hu1:arr1[q']? = Xa (arr1[q']'(by omega)):=XZ (by omega)
   have o1:ZV c.P w lim Xb E xs _ (X1 d (q'+1)):=a7 q' _ _ hq' hu1
   have o0:ZV c.P w lim Xb E xs _ (X d (q'+1)):=c7 q' _ _ hq' hu1
   rw [g1] at o0
   obtain ⟨arr0,cap0,m1,_⟩:=K1 o0 (.inr hdp') (by rw [← g1];exact hsim.deepB (Z4 hd'))
   rcases o1.one (.inr hdp') (k1.deepB (Z4 hd1)) with ⟨us1,n1,n2,_⟩ | ⟨_,_,a,n3⟩
   ·rw [m1] at n2;exact n2.symm
   ·rw [m1] at n3
    simp only [Value.slice.injEq,Xf] at n3
    omega
  ·rw [e1] at hsd;rw [← hsd] at hng;cases hng
 have hd1:Zp (Jm σ' ((t,KX c.P Xb e ys)::us) d) q=Xa (E,xs):=by rw [hxd];exact hd'
 have hval:∃ a n cp,tm.getD t undef = .slice a n cp:=by
  rcases k2.noMap hem' with ⟨us1,hr,_⟩ | ⟨_,_,b1,hv⟩
  ·rcases hr.2 with ⟨hv,_⟩ | ⟨g,cap,cur,hv,_⟩ <;> exact ⟨_,_,_,hv⟩
  ·exact ⟨_,_,_,hv⟩
 have hmul:i*P.cellsOf (bT E)+P.cellsOf (bT E)≤xs.length*P.cellsOf (bT E):=by
  rw [← X9];exact XN _ hi
 have hcap:xs.length*P.cellsOf (bT E)≤cap*P.cellsOf (bT E):=XN _ g6
 have hmem:=Yw (i:=i) (o:=off) (e:=[AV.nest (P.cellsOf e) Xb e ys]) g9 g10 (by simp;omega) (fun z hz=>by simp at hz;subst hz;rfl)
 have hcl:=ZV.cells1 k2
 have hst:=JY (P:=P) (T:=T) (w:=w) (b:=b) (off:=i*P.cellsOf (bT E)+off) (v:=tm.getD t undef) (us:=[tm.getD t undef]) hinf (by rw [hcl.1]) (by simp [hn]) g3 (by simp [g8];omega) (fun u hu=>by simp at hu;subst hu;simpa using hcl.2)
 obtain ⟨arr',harr⟩:∃ arr',arr'=(arr.toList.take (i*P.cellsOf (bT E)+off)++[tm.getD t undef]++arr.toList.drop (i*P.cellsOf (bT E)+off+1)).toArray:=⟨_,rfl⟩
 have hsz:arr'.size=arr.size:=by rw [harr];simp [g8];omega
 have hstep:=YJ (cs:=arr') g3 g4
 have hfl:=JD (i:=i) (o:=off) (e:=[AV.nest (P.cellsOf e) Xb e ys]) g9 hi (by simp;omega)
 have hxl:=Zg xs _ g9
 have hget:∀ j,(ZC xs i off [AV.nest (P.cellsOf e) Xb e ys]).flatten[j]? = if j=i*P.cellsOf (bT E)+off then Xa (.nest (P.cellsOf e) Xb e ys) else xs.flatten[j]?:=fun j=>by
  rw [hfl,JS _ _ _ (by simp [hxl];omega)]
  by_cases hj:j=i*P.cellsOf (bT E)+off
  ·subst hj;rw [if_pos (by simp),if_pos rfl];simp
  ·rw [if_neg (by simp;omega),if_neg hj]
 have hget':∀ j,arr'[j]? = if j=i*P.cellsOf (bT E)+off then Xa (tm.getD t undef) else arr[j]?:=fun j=>by
  have hal:arr.toList.length=cap*P.cellsOf (bT E):=by simpa using g8
  have h9:arr'[j]? = (arr.toList.take (i*P.cellsOf (bT E)+off)++[tm.getD t undef]++arr.toList.drop (i*P.cellsOf (bT E)+off+1))[j]?:=by rw [harr];simp
  rw [h9]
  refine (JS arr.toList [tm.getD t undef] (i*P.cellsOf (bT E)+off) (by simp [g8];omega) j).trans ?_
  by_cases hj:j=i*P.cellsOf (bT E)+off
  ·subst hj;rw [if_pos (by simp),if_pos rfl];simp
  ·rw [if_neg (by simp;omega),if_neg hj];simp
 have hrep:∀ (j:Nat) (z:AV) (u:Value),(ZC xs i off [AV.nest (P.cellsOf e) Xb e ys]).flatten[j]? = Xa z→arr'[j]? = Xa u→Rep w lim z u:=fun j z u hz hu=>by
  rw [hget] at hz
  rw [hget'] at hu
  by_cases hj:j=i*P.cellsOf (bT E)+off
  ·rw [if_pos hj] at hz hu
   obtain ⟨a,n,cp,hv⟩:=hval
   simp only [Xf] at hz hu
   subst hz
   rw [← hu,hv]
   exact .nest
  ·rw [if_neg hj] at hz hu
   exact g11 j z u hz hu
 have hYk:∀ i' j b',X1 i' j=Xa b'→i'≠d→Zeh w lim (w.setRow b arr') lim b':=fun i' j b' hb' hne=>hstep.blk b' (k1.ours _ j b' hb').1 fun e'=>hne (k1.dist i' j d q b' hb' (by rw [e'];exact hX1)).1
 have hset:=k1.deepStep (w':=w.setRow b arr') (lim':=lim) (E':=E) (xs':=ZC xs i off [AV.nest (P.cellsOf e) Xb e ys]) (Y':=fun j=>if j=i*P.cellsOf (bT E)+off then X t 0 else X1 (ngN+b) j) hd1 (by rw [hxd,hsd];exact hng) hX1 (hstep.sub fun _ h=>.inl h)
  (VA (.inr hdp') (by rw [← hX1];exact k1.deepB (Z4 hd1)) g3 (setRow_heap w b arr arr' _ _ g3) hsz (by simp [ZC]) g4 (fun x hx=>by rw [hc];exact (hmem x hx).1) (fun x hx=>(hmem x hx).2) (fun j z u hz hu=>(hrep j z u hz hu).mono hstep.ext) (.inr ⟨hdp',rfl,hbm⟩))
  (by simp [ZC]) (Kg g3 hsz b) (.inl rfl) (.mv (.inr (.inl hdp'))) (fun j b' hb'=>by
   by_cases hj:j=i*P.cellsOf (bT E)+off
   ·rw [if_pos hj] at hb'
    obtain ⟨m1,m2⟩:=k3 b' hb'
    exact .inr ⟨by simpa using (hsim.ours t 0 b' hb').1,m1,m2⟩
   ·rw [if_neg hj] at hb';exact .inl ⟨j,hb'⟩) (fun j j' b' h1 h2=>by
   by_cases hj:j=i*P.cellsOf (bT E)+off<;>by_cases hj':j'=i*P.cellsOf (bT E)+off
   ·rw [hj,hj']
   ·rw [if_pos hj] at h1;rw [if_neg hj'] at h2;exact ((k3 b' h1).2 _ _ h2).elim
   ·rw [if_neg hj] at h1;rw [if_pos hj'] at h2;exact ((k3 b' h2).2 _ _ h1).elim
   ·rw [if_neg hj] at h1;rw [if_neg hj'] at h2;exact (k1.dist _ j _ j' b' h1 h2).2)
  (fun _=>⟨⟨arr',setRow_heap w b arr arr' _ _ g3⟩,fun j s e1 ys1 u hz hu=>by
   rw [hget] at hz
   rw [Zh (setRow_heap w b arr arr' _ _ g3),hget'] at hu
   by_cases hj:j=i*P.cellsOf (bT E)+off
   ·rw [if_pos hj] at hz hu
    simp only [Xf,AV.nest.injEq,true_and] at hz hu
    obtain ⟨rfl,rfl,rfl⟩:=hz
    subst hu
    show _∧_∧VQ c.P _ lim Xb e ys (tm.getD t undef) (if j=i*P.cellsOf (bT E)+off then X t 0 else X1 (ngN+b) j)
    rw [if_pos hj]
    refine ⟨by rw [hc],hem',?_⟩
    have ho1:VQ c.P w lim Xb e ys (tm.getD t undef) (X t 0):=k2.noMap hem'
    refine ho1.mono hstep.ext fun b' hb'=>hstep.blk b' (hsim.ours t 0 b' hb').1 fun e'=>(k3 b' hb').2 d q (by rw [e'];exact hX1)
   ·rw [if_neg hj] at hz hu
    show _∧_∧VQ c.P _ lim Xb e1 ys1 u (if j=i*P.cellsOf (bT E)+off then X t 0 else X1 (ngN+b) j)
    rw [if_neg hj]
    obtain ⟨m1,m2,m3⟩:=(k1.nst d q E xs b (Z4 hd1) hdp' hX1).2 j s e1 ys1 u hz (by rw [Zh g3];exact hu)
    exact ⟨m1,m2,m3.mono hstep.ext fun b' hb'=>hYk _ j b' hb' (by omega)⟩⟩)
 rw [hxd,hsd] at hset
 refine JA (w':=w.setRow b arr') ?_ (hnx undef _ ?_)
 ·have hev:Act.eval ⟨tm,[]⟩ (.tmp t)=tm.getD t undef:=rfl
  simp only [XJ,List.length_nil,XF] at hst
  rw [harr]
  simp only [execOp,ho,h3,hev,Sem.run_bind,hst,Result.andThen_ok,Sem.run_pure]
 ·rw [Kk]
  exact Zq hset rfl (k:=0) trivial
theorem Zhx {z:AV} (h:z.isCell=Xb):(Zcf z).isCell=Xb:=by
 unfold Zcf
 split
 ·rfl
 ·exact h
theorem ZqR {z:AV} {s:Nat} {e:TypeId} {ys:List (List AV)} (h:Zcf z = .nest s Xb e ys):False:=by
 unfold Zcf at h
 split at h
 ·cases h
 ·rename_i hn
  exact hn _ _ _ h
theorem VQ.lim0 {P:Program} {w:World} {lim:Lm} {e:TypeId} {xs:List (List AV)} {v:Value} {b:Nat} (h:VQ P w lim Xb e xs v (Xa b)):lim b=0:=by
 rcases h with ⟨us,_,_,h,_⟩ | ⟨_,h,_⟩
 ·exact h b rfl
 ·cases h
theorem VQ.see {P:Program} {w:World} {lim lim':Lm} {e:TypeId} {xs:List (List AV)} {v:Value} {ob:Option Nat} (h:VQ P w lim Xb e xs v ob) (he:Ext w lim w lim') (hl:∀ b,ob=Xa b→lim' b=xs.length*P.cellsOf e):VQ P w lim' Xc e xs v ob:=by
 rcases h with ⟨us,h1,h2,h3,h4,h5,h6⟩ | h
 ·exact .inl ⟨us,h1,h2,fun b hb=>by rw [if_neg (by simp),hl b hb,h1.1],h4,h5,fun j c u hc hu=>(h6 j c u hc hu).mono he⟩
 ·exact .inr h
theorem Sim.deepFreeze {c:Ctx} {σ:Nat→AV} {tm:Array Value} {w:World} {lim:Lm} {X:Nat→Nat→Option Nat} (h:Sim c σ tm w lim X) {d k b:Nat} {E E':TypeId} {xs xs':List (List AV)} (F:Nat→Prop)
  (hp:Zp (σ d) k=Xa (E,xs)) (hng:(σ d).isG=Xc) (hX:X d k=Xa b) (hdp:Ze c.P E=Xb) (hE':E'=E∨(E'=bT E∧∀ i,¬ Jh (σ i) d k)) (hl:xs'.length=xs.length) (h1:∀ x∈xs',x.length=c.P.cellsOf (bT E)) (h2:∀ x∈xs',∀ z∈x,z.isCell=Xb)
  (hxs:∀ j z,xs'.flatten[j]? = Xa z→∃ c0,xs.flatten[j]? = Xa c0∧(F j→z=Zcf c0)∧(¬ F j→z=c0)) :
  ∃ lim' X',Sim c (upd σ d (Zm (σ d) k Xb E' xs')) tm w lim' X'∧∀ (arr:Array Value),w.heap[b]? = Xa (.cells arr (bT E) (0,0))→∀ (j:Nat) (z:AV) (u:Value),xs'.flatten[j]? = Xa z→arr[j]? = Xa u→Rep w lim' z u:=by
 classical
 obtain ⟨v0,ho⟩:=Yd h hp
 rw [hX] at ho
 have hdb:Zes c.P w E (Xa b):=by rw [← hX];exact h.deepB (Z4 hp)
 obtain ⟨arr,cap,g1,g2,g3,g4,g5,g6,g7,g8,g9⟩:=K1 ho (.inr hdp) hdb
 have hbm:=ZbI h hp hX hdp
 have hN:=(h.nst d k E xs b (Z4 hp) hdp hX).2
 have hdf:d < ngN:=by
  rcases Xx d ngN with hlt | hge
  ·exact hlt
  ·rw [h.far d hge] at hp;cases hp
 have hxl:=Zg xs _ g7
 have hcell:∀ j,j < xs.flatten.length→∃ u,arr[j]? = Xa u:=fun j hj=>by
  have hm:xs.length*c.P.cellsOf (bT E)≤cap*c.P.cellsOf (bT E):=XN _ g4
  exact ⟨arr[j]'(by omega),XZ (by omega)⟩
 let R:Nat→Nat→Prop:=fun b' n=>∃ j s e ys,F j∧X (ngN+b) j=Xa b'∧xs.flatten[j]? = Xa (.nest s Xb e ys)∧n=ys.length*s
 let lim':Lm:=⟨fun b'=>if hb:∃ n,R b' n then Classical.choose hb else lim b',lim.t⟩
 have hR:∀ b' n,R b' n→lim' b'=n:=fun b' n hr=>by
  have hb:∃ n,R b' n:=⟨n,hr⟩
  show (if hb:∃ n,R b' n then Classical.choose hb else lim b')=n
  rw [dif_pos hb]
  obtain ⟨j1,s1,e1,ys1,m1,m2,m3,m4⟩:=Classical.choose_spec hb
  obtain ⟨j2,s2,e2,ys2,n1,n2,n3,n4⟩:=hr
  have hj:=(h.dist _ j1 _ j2 b' m2 n2).2
  subst hj
  rw [m3] at n3
  simp only [Xf,AV.nest.injEq,true_and] at n3
  obtain ⟨rfl,rfl,rfl⟩:=n3
  rw [m4,n4]
 have hnR:∀ b',(¬ ∃ n,R b' n)→lim' b'=lim b':=fun b' hb=>dif_neg hb
 have hR0:∀ b' n,R b' n→lim b'=0:=fun b' n hr=>by
  obtain ⟨j,s,e,ys,m1,m2,m3,_⟩:=hr
  obtain ⟨u,hu⟩:=hcell j (Xi.1 m3).1
  obtain ⟨_,_,m4⟩:=hN j s e ys u m3 (by rw [Zh g2];exact hu)
  rw [m2] at m4
  exact m4.lim0
 have hext:Ext w lim w lim':=⟨fun b' _=>⟨by
  by_cases hb:∃ n,R b' n
  ·obtain ⟨n,hr⟩:=hb;rw [hR0 b' n hr];exact Wh _
  ·rw [hnR b' hb];exact XD _,fun _ _ _ hu=>hu⟩,fun _ _ h=>h⟩
 have hstep:ZU w lim w lim' (fun b'=>∃ j,X (ngN+b) j=Xa b'):=⟨rfl,rfl,rfl,XD _,fun _ _=>rfl,fun b' _ hn=>⟨rfl,hnR b' fun ⟨n,j,_,_,_,_,m2,_⟩=>hn ⟨j,m2⟩⟩,hext,rfl⟩
 have hbb:lim' b=0:=by
  rw [hnR b fun ⟨n,j,_,_,_,_,m2,_⟩=>by
   have:=(h.dist (ngN+b) j d k b m2 hX).1;omega]
  exact g3
 have hrep:∀ (j:Nat) (z:AV) (u:Value),xs'.flatten[j]? = Xa z→arr[j]? = Xa u→Rep w lim' z u:=fun j z u hz hu=>by
  obtain ⟨c0,m1,m2,m3⟩:=hxs j z hz
  have hold:=(g9 j c0 u m1 hu).mono hext
  by_cases hF:F j
  ·rw [m2 hF]
   unfold Zcf
   split
   ·rename_i s e ys
    obtain ⟨n1,n2,n3⟩:=hN j s e ys u m1 (by rw [Zh g2];exact hu)
    subst n1
    exact ZV.rep (n3.see hext fun b' hb'=>hR b' _ ⟨j,_,e,ys,hF,hb',m1,rfl⟩).own Xc rfl
   ·exact hold
  ·rw [m3 hF];exact hold
 have hbt:bT (bT E)=bT E:=K3 hbm
 refine ⟨lim',_,h.deepStep (E':=E') (Y':=X (ngN+b)) hp hng hX (hstep.sub fun _ hh=>.inr hh) (VA (.inr hdp) hdb g2 g2 rfl hl hbb h1 h2 hrep ?_) hl (.of rfl) (hE'.imp id fun h=>h.2) ?_ (fun j b' hb'=>.inl ⟨j,hb'⟩) (fun j j' b' q1 q2=>(h.dist _ j _ j' b' q1 q2).2) (fun hd'=>⟨⟨arr,?_⟩,fun j s e ys u hz hu=>?_⟩),fun arr' ha'=>?_⟩
 ·rcases hE' with rfl | ⟨rfl,_⟩
  ·exact .inr ⟨hdp,rfl,hbm⟩
  ·exact .inl rfl
 ·rcases hE' with rfl | ⟨rfl,_⟩
  ·exact .mv (.inr (.inl hdp))
  ·exact .noMap hbm
 ·rcases hE' with rfl | ⟨rfl,_⟩
  ·exact g2
  ·rw [hbt];exact g2
 ·obtain ⟨c0,m1,m2,m3⟩:=hxs j _ hz
  by_cases hF:F j
  ·exact (ZqR (m2 hF).symm).elim
  ·have:=m3 hF
   subst this
   obtain ⟨n1,n2,n3⟩:=hN j s e ys u m1 hu
   refine ⟨n1,n2,n3.mono hext fun b' hb'=>⟨rfl,hnR b' fun ⟨n,j',_,_,_,q1,q2,_⟩=>?_⟩⟩
   have:=(h.dist _ j' _ j b' q2 hb').2
   subst this
   exact hF q1
 ·rw [g2] at ha'
  simp only [Xf,Obj.cells.injEq,and_true] at ha'
  subst ha'
  exact hrep
theorem Sim.retype0 {c:Ctx} {σ:Nat→AV} {tm:Array Value} {w:World} {lim:Lm} {X:Nat→Nat→Option Nat} (h:Sim c σ tm w lim X) {d k:Nat} {E E':TypeId} {xs:List (List AV)}
  (hp:Zp (σ d) k=Xa (E,xs)) (hng:(σ d).isG=Xc) (hX:X d k=Xe) (hm:Zj c.P E=Xc∨Ze c.P E=Xb) (hm':Zj c.P E'=Xc∨Ze c.P E'=Xb) (href:∀ i,¬ Jh (σ i) d k) :
  xs = []∧Sim c (upd σ d (Zm (σ d) k Xb E' [])) tm w lim X:=by
 obtain ⟨v0,ho⟩:=Yd h hp
 have hdb:Zes c.P w E (X d k):=h.deepB (Z4 hp)
 have hnew:∀ v,ZV c.P w lim Xb E xs v Xe→xs = []∧ZV c.P w lim Xb E' [] v Xe:=fun v hv=>by
  rcases hv.one hm (by rw [← hX];exact hdb) with ⟨us,g1,g2,_⟩ | ⟨g1,_,g3⟩
  ·rcases g1.2 with ⟨hv,hn⟩ | ⟨g,cap,cur,hv,_⟩
   ·subst hv
    exact ⟨XY hn,.inl ⟨[],World.ownsRow_nil _ 0 _ _,rfl,by simp,by simp,by simp,by simp⟩⟩
   ·rw [hv] at g2;cases g2
  ·exact ⟨g1,.inr (.inl ⟨rfl,rfl,g3⟩)⟩
 have hxs:xs = []:=by rw [hX] at ho;exact (hnew _ ho).1
 refine ⟨hxs,?_⟩
 subst hxs
 obtain ⟨q1,q2,q3,q4,q5,q6⟩:=ZaL (e':=E') (xs':=[]) hp hng
 have hG:∀ i,(σ i).isG=Xb→i≠d:=fun i hi e=>by rw [e,hng] at hi;cases hi
 have hdd:σ d≠.dead:=fun e=>by rw [e] at hp;cases hp
 refine ⟨fun i=>?_,h.size,fun i hi=>?_,fun i hi=>?_,h.dist,h.ours,h.frm,fun i v hv=>?_,fun i e1 xs1 he=>?_,fun i b hb=>?_,h.ntN,fun i hi=>?_,fun i p e1 xs1 b1 m1 m2 m3=>?_,h.yfr,h.stfU (VO q5)⟩
 ·by_cases hi:i=d
  ·subst hi
   rw [Zs]
   have hr:=h.rel i
   rcases ZB hp with ⟨g1,rfl⟩ | ⟨cs,q,g1,rfl,g2⟩ | ⟨_,_,g1,_⟩
   case inr.inr=>rw [g1] at hng;cases hng
   ·rw [g1] at hr ⊢
    have hr':ZV c.P w lim Xb E [] (tm.getD i undef) (X i 0):=hr
    rw [hX] at hr'
    show ZV c.P w lim Xb E' [] _ (X i 0)
    rw [hX]
    exact (hnew _ hr').2
   ·rw [g1] at hr ⊢
    obtain ⟨b0,arr,t,k1,k2,k3,k4,k5,k6,k7⟩:=(show ZG c.P w lim (X i) cs _ from hr)
    refine ⟨b0,arr,t,k1,k2,k3,by rw [Ux];exact k4,k5,fun x hx=>?_,fun j x u hx hu=>?_⟩
    ·rcases Wo hx with hx | hx
     ·exact k6 x hx
     ·exact .inr (.inl ⟨_,_,_,hx⟩)
    ·by_cases hj:j=q
     ·subst hj
      rw [X8 (Xi.1 g2).1] at hx
      simp only [Xf] at hx
      subst hx
      have hc:ZV c.P w lim Xb E [] u (X i (j+1)):=k7 j _ u g2 hu
      rw [hX] at hc
      show ZV c.P w lim Xb E' [] u (X i (j+1))
      rw [hX]
      exact (hnew u hc).2
     ·rw [Wg (fun h=>hj h.symm)] at hx
      exact k7 j x u hx hu
  ·rw [Zb σ _ hi]
   refine (h.rel i).chg rfl (fun d' cs hd'=>⟨?_,rfl⟩) (fun d' hd'=>⟨?_,rfl⟩) fun d' p hr=>⟨?_,rfl⟩
   ·by_cases hdd:d'=d
    ·subst hdd;rw [Zs];exact q6 cs hd'
    ·exact ⟨cs,by rw [Zb σ _ hdd];exact hd'⟩
   ·rw [Zb σ _ (hG d' hd')];exact hd'
   ·by_cases hdd:d'=d
    ·subst hdd
     rw [Zs]
     have hpk:p≠k:=fun e=>href i (e ▸ hr)
     intro e1 ys hy
     exact ⟨ys,by rw [q2 p hpk];exact hy,rfl⟩
    ·rw [Zb σ _ hdd];exact KO.refl _ _
 ·by_cases hid:i=d
  ·subst hid
   rcases h.out i hi with h1 | h1
   ·exact (hdd h1).elim
   ·exact (hG i h1 rfl).elim
  ·rw [Zb σ _ hid];exact h.out i hi
 ·by_cases hid:i=d
  ·subst hid;rw [Zs,q5] at hi;cases hi
  ·rw [Zb σ _ hid] at hi;exact h.ghost i hi
 ·obtain ⟨g1,cs,g2⟩:=h.pin i v hv
  by_cases hid:i=d
  ·subst hid
   obtain ⟨cs',hcs⟩:=q6 cs g2
   exact ⟨g1,cs',by rw [Zs];exact hcs⟩
  ·exact ⟨g1,cs,by rw [Zb σ _ hid];exact g2⟩
 ·by_cases hid:i=d
  ·subst hid
   rw [Zs] at he
   have hk0:k=0:=by
    cases k with
    | zero => rfl
    | succ k => rw [he] at q1; simp [Zp] at q1
   subst hk0
   exact .none hX
  ·rw [Zb σ _ hid] at he;exact h.mp i e1 xs1 he
 ·obtain ⟨g1,g2⟩:=h.gpin i b hb
  exact ⟨g1,by rw [Zb σ _ (hG i g2)];exact g2⟩
 ·by_cases hid:i=d
  ·subst hid;exact (hdd (h.far i hi)).elim
  ·rw [Zb σ _ hid];exact h.far i hi
 ·by_cases hid:i=d
  ·subst hid
   by_cases hpk:p=k
   ·subst hpk;rw [hX] at m3;cases m3
   ·rw [Zs,q3 p hpk] at m1
    exact h.nst i p e1 xs1 b1 m1 m2 m3
  ·rw [Zb σ _ hid] at m1
   exact h.nst i p e1 xs1 b1 m1 m2 m3
theorem KI (f:AV→AV):∀ (xs:List (List AV)) (j:Nat),(xs.map fun r=>r.map f).flatten[j]? = (xs.flatten[j]?).map f
 | xs, j => by rw [← List.map_flatten, Xk]
theorem Sim.undeep {c:Ctx} {σ:Nat→AV} {tm:Array Value} {w:World} {lim:Lm} {X:Nat→Nat→Option Nat} (h:Sim c σ tm w lim X) {d k:Nat} {E:TypeId} {xs:List (List AV)}
  (hp:Zp (σ d) k=Xa (E,xs)) (hng:(σ d).isG=Xc) (hdp:Ze c.P E=Xb) (hem:Zj c.P (bT E)=Xc) (href:∀ i,¬ Jh (σ i) d k):∃ lim' X',Sim c (upd σ d (Zm (σ d) k Xb (bT E) (ZrE xs))) tm w lim' X':=by
 cases hX:X d k with
 | none =>
  obtain ⟨rfl,h1⟩:=h.retype0 (E':=bT E) hp hng hX (.inr hdp) (.inl hem) href
  exact ⟨lim,X,h1⟩
 | some b =>
  obtain ⟨v0,ho⟩:=Yd h hp
  rw [hX] at ho
  obtain ⟨arr,cap,g1,g2,g3,g4,g5,g6,g7,g8,g9⟩:=K1 ho (.inr hdp) (by rw [← hX];exact h.deepB (Z4 hp))
  have hA:∀ x∈ZrE xs,x.length=c.P.cellsOf (bT E):=fun x hx=>by
   obtain ⟨r,hr,rfl⟩:=Xj.1 hx
   rw [Xq];exact g7 r hr
  have hB:∀ x∈ZrE xs,∀ z∈x,z.isCell=Xb:=fun x hx z hz=>by
   obtain ⟨r,hr,rfl⟩:=Xj.1 hx
   obtain ⟨y,hy,rfl⟩:=Xj.1 hz
   exact Zhx (g8 r hr y hy)
  obtain ⟨lim',X',h1,_⟩:=h.deepFreeze (E':=bT E) (xs':=ZrE xs) (fun _=>True) hp hng hX hdp (.inr ⟨rfl,href⟩) (by simp [ZrE]) hA hB (fun j z hz=>by
   rw [ZrE,KI] at hz
   cases hc:xs.flatten[j]? with
   | none => rw [hc] at hz; cases hz
   | some c0 =>
    rw [hc] at hz
    simp only [Xo,Xf] at hz
    exact ⟨c0,rfl,fun _=>hz.symm,fun hh=>(hh trivial).elim⟩)
  exact ⟨lim',X',h1⟩
theorem Zn7 {z:AV} (h:z.isCell=Xb):(ZqF z).isCell=Xb:=by
 unfold ZqF
 split
 ·rfl
 ·exact h
theorem Zpa {w:World} {lim:Lm} {z:AV} {v:Value} (h:Rep w lim z v):Rep w lim (ZqF z) v:=by
 unfold ZqF
 split
 ·cases h;exact .nest
 ·exact h
theorem ZqC {z:AV} {s:Nat} {e:TypeId} {ys:List (List AV)} (h:ZqF z = .nest s Xb e ys):False:=by
 unfold ZqF at h
 split at h
 ·cases h
 ·rename_i hn
  exact hn _ _ _ h
theorem Sim.deepen {c:Ctx} {σ:Nat→AV} {tm:Array Value} {w:World} {lim:Lm} {X:Nat→Nat→Option Nat} (h:Sim c σ tm w lim X) {d k:Nat} {e E:TypeId} {xs:List (List AV)}
  (hp:Zp (σ d) k=Xa (e,xs)) (hng:(σ d).isG=Xc) (hem:Zj c.P e=Xc) (hdp:Ze c.P E=Xb) (hE:bT E=e) (href:∀ i,¬ Jh (σ i) d k):∃ X',Sim c (upd σ d (Zm (σ d) k Xb E (ZrC xs))) tm w lim X':=by
 cases hX:X d k with
 | none =>
  obtain ⟨rfl,h1⟩:=h.retype0 (E':=E) hp hng hX (.inl hem) (.inr hdp) href
  exact ⟨X,h1⟩
 | some b =>
  obtain ⟨v0,ho⟩:=Yd h hp
  rw [hX] at ho
  have hdb:Zes c.P w e (Xa b):=by rw [← hX];exact h.deepB (Z4 hp)
  obtain ⟨arr,cap,g1,g2,g3,g4,g5,g6,g7,g8,g9⟩:=K1 ho (.inl hem) hdb
  have hbe:bT e=e:=K3 hem
  refine ⟨_,h.deepStep (w':=w) (lim':=lim) (E':=E) (xs':=ZrC xs) (Y':=X (ngN+b)) hp hng hX (ZU.refl w lim _) (VA (.inl hem) hdb g2 g2 rfl (by simp [ZrC]) g3 (fun x hx=>?_) (fun x hx z hz=>?_) (fun j z u hz hu=>?_) (.inr ⟨hdp,by rw [hE,hbe],by rw [hbe];exact hem⟩)) (by simp [ZrC]) (.of rfl) (.inr href) (.mv (.inr (.inl hdp)))
   (fun j b' hb'=>.inl ⟨j,hb'⟩) (fun j j' b' q1 q2=>(h.dist _ j _ j' b' q1 q2).2) (fun _=>⟨⟨arr,by rw [hE,← hbe];exact g2⟩,fun j s e1 ys u hz hu=>?_⟩)⟩
  ·obtain ⟨r,hr,rfl⟩:=Xj.1 hx
   rw [Xq];exact g7 r hr
  ·obtain ⟨r,hr,rfl⟩:=Xj.1 hx
   obtain ⟨y,hy,rfl⟩:=Xj.1 hz
   exact Zn7 (g8 r hr y hy)
  ·rw [ZrC,KI] at hz
   cases hc:xs.flatten[j]? with
   | none => rw [hc] at hz; cases hz
   | some c0 =>
    rw [hc] at hz
    simp only [Xo,Xf] at hz
    subst hz
    exact Zpa (g9 j c0 u hc hu)
  ·rw [ZrC,KI] at hz
   cases hc:xs.flatten[j]? with
   | none => rw [hc] at hz; cases hz
   | some c0 =>
    rw [hc] at hz
    simp only [Xo,Xf] at hz
    exact (ZqC hz).elim
theorem ZfN {xs:List (List AV)} {s i off:Nat} {row:List AV} {z:AV} (h:∀ x∈xs,x.length=s) (hr:xs[i]? = Xa row) (hz:row[off]? = Xa z):xs.flatten[i*s+off]? = Xa z:=by
 have hlt:=(Xi.1 hz).1
 rw [h row (Xh hr)] at hlt
 rw [J0 xs s h i row hr off hlt]
 exact hz
theorem Zek {P:Program} {o:Oper} {σ:Nat→AV} {T E e:TypeId} {a:Operand} {d q i off s:Nat} {xs ys:List (List AV)} {row:List AV} (ho:o.op = .load T a) (hT:ZS P T=Xa Xc) (ha:Zn P σ a = .eref d q (i*P.cellsOf (bT E)+off)) (hd:Zp (σ d) q=Xa (E,xs)) (hng:(σ d).isG=Xc)
  (hrow:xs[i]? = Xa row) (hz:row[off]? = Xa (.nest s Xb e ys)) (hdp:Ze P E=Xb) :
  Jg P o σ (.own Xb e ys) [(d,Zm (σ d) q Xb E (ZC xs i off [.nest s Xc e []]))] [d]:=by
 intro c hc σ' tm w lim X hid hag hsim next Q hnx
 have hga:Zn P σ' a=Zn P σ a:=Zw fun t ht=>hid t (by simp [Zo (o:=o) (x:=a) (by rw [ho];simp [Op.operands]) ht])
 have hsd:σ' d=σ d:=hag d (by simp)
 have hd':Zp (σ' d) q=Xa (E,xs):=by rw [hsd,hd]
 have hva:=JF hc hsim ha hga
 rw [← hc] at hva
 have hdp':Ze c.P E=Xb:=by rw [hc];exact hdp
 obtain ⟨b,arr,cap,g1,h3,g3,g4,g6,g7,g8,g9,g10,g11⟩:=KL hsim hd' hva (.inr hdp')
 have hbm:=ZbI hsim hd' g1 hdp'
 have hflat:=ZfN g9 hrow hz
 rw [hc] at g8 g9 h3 hflat
 have hdf:d < ngN:=by
  rcases Xx d ngN with hlt | hge
  ·exact hlt
  ·rw [hsim.far d hge] at hd';cases hd'
 have hxl:=Zg xs _ g9
 have hil:=(Xi.1 hrow).1
 have hol:off < P.cellsOf (bT E):=by rw [← g9 row (Xh hrow)];exact (Xi.1 hz).1
 have hmul:i*P.cellsOf (bT E)+P.cellsOf (bT E)≤xs.length*P.cellsOf (bT E):=by
  rw [← X9];exact XN _ hil
 have hcap:xs.length*P.cellsOf (bT E)≤cap*P.cellsOf (bT E):=XN _ g6
 have hmem:=Yw (i:=i) (o:=off) (e:=[AV.nest s Xc e []]) g9 g10 (by simp;omega) (fun z hz=>by simp at hz;subst hz;rfl)
 obtain ⟨u,hu⟩:∃ u,arr[i*P.cellsOf (bT E)+off]? = Xa u:=⟨arr[i*P.cellsOf (bT E)+off]'(by omega),XZ (by omega)⟩
 have hcell:w.cell? ⟨b,i*P.cellsOf (bT E)+off,Xe⟩=Xa u:=by rw [Zh g3];exact hu
 obtain ⟨n1,n2,n3⟩:=(hsim.nst d q E xs b (Z4 hd') hdp' g1).2 _ s e ys u hflat hcell
 have hfl:=JD (i:=i) (o:=off) (e:=[AV.nest s Xc e []]) g9 hil (by simp;omega)
 have hget:∀ j,(ZC xs i off [AV.nest s Xc e []]).flatten[j]? = if j=i*P.cellsOf (bT E)+off then Xa (.nest s Xc e []) else xs.flatten[j]?:=fun j=>by
  rw [hfl,JS _ _ _ (by simp [hxl];omega)]
  by_cases hj:j=i*P.cellsOf (bT E)+off
  ·subst hj;rw [if_pos (by simp),if_pos rfl];simp
  ·rw [if_neg (by simp;omega),if_neg hj]
 have hset:=hsim.deepStep (w':=w) (lim':=lim) (E':=E) (xs':=ZC xs i off [AV.nest s Xc e []]) (Y':=fun j=>if j=i*P.cellsOf (bT E)+off then Xe else X (ngN+b) j) hd' (by rw [hsd];exact hng) g1 (ZU.refl w lim _)
  (VA (.inr hdp') (by rw [← g1];exact hsim.deepB (Z4 hd')) g3 g3 rfl (by simp [ZC]) g4 (fun x hx=>by rw [hc];exact (hmem x hx).1) (fun x hx=>(hmem x hx).2) (fun j z u' hz' hu'=>by
   rw [hget] at hz'
   by_cases hj:j=i*P.cellsOf (bT E)+off
   ·rw [if_pos hj] at hz'
    simp only [Xf] at hz'
    subst hz'
    have:=g11 j _ u' (by rw [hj];exact hflat) hu'
    cases this
    exact .nest
   ·rw [if_neg hj] at hz';exact g11 j z u' hz' hu') (.inr ⟨hdp',rfl,hbm⟩))
  (by simp [ZC]) (.of rfl) (.inl rfl) (.mv (.inr (.inl hdp'))) (fun j b' hb'=>by
   by_cases hj:j=i*P.cellsOf (bT E)+off
   ·rw [if_pos hj] at hb';cases hb'
   ·rw [if_neg hj] at hb';exact .inl ⟨j,hb'⟩) (fun j j' b' q1 q2=>by
   by_cases hj:j=i*P.cellsOf (bT E)+off
   ·rw [if_pos hj] at q1;cases q1
   ·by_cases hj':j'=i*P.cellsOf (bT E)+off
    ·rw [if_pos hj'] at q2;cases q2
    ·rw [if_neg hj] at q1;rw [if_neg hj'] at q2;exact (hsim.dist _ j _ j' b' q1 q2).2)
  (fun _=>⟨⟨arr,g3⟩,fun j s1 e1 ys1 u' hz' hu'=>by
   rw [hget] at hz'
   by_cases hj:j=i*P.cellsOf (bT E)+off
   ·rw [if_pos hj] at hz';cases hz'
   ·rw [if_neg hj] at hz'
    show _∧_∧VQ c.P w lim Xb e1 ys1 u' (if j=i*P.cellsOf (bT E)+off then Xe else X (ngN+b) j)
    rw [if_neg hj]
    exact (hsim.nst d q E xs b (Z4 hd') hdp' g1).2 j s1 e1 ys1 u' hz' hu'⟩)
 rw [hsd] at hset
 refine Zi (v:=u) (w':=w) ?_ (hnx _ w (ZT (ob:=X (ngN+b) (i*P.cellsOf (bT E)+off)) hset n3.own (fun b' hb'=>⟨(hsim.ours _ _ b' hb').2,fun i' j' hij=>?_⟩) (fun _=>.noMap n2) fun _ hd0=>by rw [ZL n2] at hd0;cases hd0))
 ·simp [execOp,ho,h3,Jw hT hcell]
 ·by_cases hi':i'=ngN+b
  ·subst hi'
   rw [Zl] at hij
   by_cases hj:j'=i*P.cellsOf (bT E)+off
   ·rw [if_pos hj] at hij;cases hij
   ·rw [if_neg hj] at hij
    exact hj (hsim.dist _ j' _ _ b' hij hb').2
  ·rw [Zc X _ hi'] at hij
   exact hi' (hsim.dist i' j' _ _ b' hij hb').1
theorem Zpm {xs:List (List AV)} {i off m:Nat} {row:List AV} (hr:xs[i]? = Xa row) (h:off+m≤row.length):ZlG xs i off m=ZC xs i off (((row.drop off).take m).map Zcf):=by
 unfold ZlG ZC
 refine Ua fun j=>?_
 rw [Uy,Uy]
 by_cases hj:i=j
 ·subst hj
  rw [hr]
  simp only [if_pos,Option.map_eq_map,Xo,setCells]
  have:(List.map Zcf (List.take m (List.drop off row))).length=m:=by simp;omega
  rw [this]
 ·simp only [if_neg hj]
theorem Sim.deepRead {c:Ctx} {σ:Nat→AV} {tm:Array Value} {w:World} {lim:Lm} {X:Nat→Nat→Option Nat} (h:Sim c σ tm w lim X) {d q k i off m:Nat} {E:TypeId} {xs:List (List AV)} {row:List AV} {v:Value} (hd:Zp (σ d) q=Xa (E,xs)) (hng:(σ d).isG=Xc)
  (hv:ZQ c.P w lim X σ k (.eref d q (i*c.P.cellsOf (bT E)+off)) v) (hrow:xs[i]? = Xa row) (hn:off+m≤c.P.cellsOf (bT E)) (hdp:Ze c.P E=Xb) :
  ∃ b lim' X' us,v = .pointer (Xa ⟨b,i*c.P.cellsOf (bT E)+off,Xe⟩)∧Sim c (upd σ d (Zm (σ d) q Xb E (ZlG xs i off m))) tm w lim' X'∧us.length=m∧(∀ (j:Nat) (u:Value),us[j]? = Xa u→w.cell? ⟨b,i*c.P.cellsOf (bT E)+off+j,Xe⟩=Xa u)∧
   JJ w lim' (((row.drop off).take m).map Zcf) us:=by
 obtain ⟨b,arr,cap,g1,h3,g3,g4,g6,g7,g8,g9,g10,g11⟩:=KL h hd hv (.inr hdp)
 have hil:=(Xi.1 hrow).1
 have hrl:=g9 row (Xh hrow)
 have hmul:i*c.P.cellsOf (bT E)+c.P.cellsOf (bT E)≤xs.length*c.P.cellsOf (bT E):=by
  rw [← X9];exact XN _ hil
 have hcap:xs.length*c.P.cellsOf (bT E)≤cap*c.P.cellsOf (bT E):=XN _ g6
 have hxl:=Zg xs _ g9
 have hset:=Zpm (off:=off) (m:=m) hrow (by omega)
 have hlen:(((row.drop off).take m).map Zcf).length=m:=by simp;omega
 have hcs:∀ z∈((row.drop off).take m).map Zcf,z.isCell=Xb:=fun z hz=>by
  obtain ⟨y,hy,rfl⟩:=Xj.1 hz
  exact Zhx (g10 row (Xh hrow) y (XW (XO hy)))
 have hmem:=Yw (i:=i) (o:=off) g9 g10 (by rw [hlen];exact hn) hcs
 have hfl:=JD (i:=i) (o:=off) (e:=((row.drop off).take m).map Zcf) g9 hil (by rw [hlen];exact hn)
 have hget:∀ j,(ZlG xs i off m).flatten[j]? = if i*c.P.cellsOf (bT E)+off≤j∧j < i*c.P.cellsOf (bT E)+off+m then (((row.drop off).take m).map Zcf)[j-(i*c.P.cellsOf (bT E)+off)]? else xs.flatten[j]?:=fun j=>by
  rw [hset,hfl,JS _ _ _ (by rw [hlen,hxl];omega),hlen]
 have hrowat:∀ j,j < m→xs.flatten[i*c.P.cellsOf (bT E)+off+j]? = row[off+j]?:=fun j hj=>by
  rw [Ub];exact J0 xs _ g9 i row hrow (off+j) (by omega)
 obtain ⟨lim',X',k1,k2⟩:=h.deepFreeze (E':=E) (xs':=ZlG xs i off m) (fun j=>i*c.P.cellsOf (bT E)+off≤j∧j < i*c.P.cellsOf (bT E)+off+m) hd hng g1 hdp (.inl rfl) (by rw [hset];simp [ZC]) (fun x hx=>by rw [hset] at hx;exact (hmem x hx).1) (fun x hx=>by rw [hset] at hx;exact (hmem x hx).2) (fun j z hz=>by
  rw [hget] at hz
  by_cases hj:i*c.P.cellsOf (bT E)+off≤j∧j < i*c.P.cellsOf (bT E)+off+m
  ·rw [if_pos hj,Xk,Xw,if_pos (by omega),XH] at hz
   have hr:=hrowat (j-(i*c.P.cellsOf (bT E)+off)) (by omega)
   rw [show i*c.P.cellsOf (bT E)+off+(j-(i*c.P.cellsOf (bT E)+off))=j by omega] at hr
   rw [hr]
   cases hc:row[off+(j-(i*c.P.cellsOf (bT E)+off))]? with
   | none => rw [hc] at hz; cases hz
   | some c0 =>
    rw [hc] at hz
    simp only [Xo,Xf] at hz
    exact ⟨c0,rfl,fun _=>hz.symm,fun hh=>(hh hj).elim⟩
  ·rw [if_neg hj] at hz
   exact ⟨z,hz,fun hh=>(hj hh).elim,fun _=>rfl⟩)
 refine ⟨b,lim',X',(arr.toList.drop (i*c.P.cellsOf (bT E)+off)).take m,h3,k1,by simp [g8];omega,fun j u hj=>?_,?_⟩
 ·rw [Xw] at hj
  split at hj
  ·rw [XH] at hj
   rw [Zh g3]
   simpa using hj
  ·cases hj
 ·refine ⟨by rw [hlen];simp [g8];omega,hcs,fun j z u hz hu=>?_⟩
  have hjm:j < m:=by rw [← hlen];exact (Xi.1 hz).1
  rw [Xw,if_pos hjm,XH] at hu
  refine k2 arr g3 (i*c.P.cellsOf (bT E)+off+j) z u ?_ (by simpa using hu)
  rw [hget,if_pos (by omega),show i*c.P.cellsOf (bT E)+off+j-(i*c.P.cellsOf (bT E)+off)=j by omega]
  exact hz
theorem ZaV {P:Program} {o:Oper} {σ:Nat→AV} {T E:TypeId} {a:Operand} {d q i off:Nat} {xs:List (List AV)} {row:List AV} (ho:o.op = .load T a) (hT:ZS P T=Xa Xb) (ha:Zn P σ a = .eref d q (i*P.cellsOf (bT E)+off)) (hd:Zp (σ d) q=Xa (E,xs)) (hng:(σ d).isG=Xc)
  (hrow:xs[i]? = Xa row) (hn:off+P.cellsOf T≤P.cellsOf (bT E)) (hdp:Ze P E=Xb) :
  Jg P o σ (.agg (((row.drop off).take (P.cellsOf T)).map Zcf)) [(d,Zm (σ d) q Xb E (ZlG xs i off (P.cellsOf T)))] [d]:=by
 intro c hc σ' tm w lim X hid hag hsim next Q hnx
 subst hc
 have hga:Zn c.P σ' a=Zn c.P σ a:=Zw fun t ht=>hid t (by simp [Zo (o:=o) (x:=a) (by rw [ho];simp [Op.operands]) ht])
 have hsd:σ' d=σ d:=hag d (by simp)
 obtain ⟨b,lim',X',us,h3,k1,k2,k3,k4⟩:=hsim.deepRead (m:=c.P.cellsOf T) (by rw [hsd];exact hd) (by rw [hsd];exact hng) (JF rfl hsim ha hga) hrow hn hdp
 rw [hsd] at k1
 refine Zi (v:=.agg us.toArray) (w':=w) ?_ (hnx _ w (Zq k1 rfl (k:=0) ?_))
 ·simp [execOp,ho,h3,JW hT k2 k3]
 ·exact .agg k4.1 k4.2.1 k4.2.2
theorem Zar {P:Program} {o:Oper} {σ:Nat→AV} {T E:TypeId} {a:Operand} {d q i off:Nat} {xs:List (List AV)} {row:List AV} {x:AV} (ho:o.op = .load T a) (hT:ZS P T=Xa Xc) (ha:Zn P σ a = .eref d q (i*P.cellsOf (bT E)+off)) (hd:Zp (σ d) q=Xa (E,xs)) (hng:(σ d).isG=Xc)
  (hrow:xs[i]? = Xa row) (hx:row[off]? = Xa x) (hn:off+1≤P.cellsOf (bT E)) (hdp:Ze P E=Xb) :
  Jg P o σ (Zcf x) [(d,Zm (σ d) q Xb E (ZlG xs i off 1))] [d]:=by
 intro c hc σ' tm w lim X hid hag hsim next Q hnx
 subst hc
 have hga:Zn c.P σ' a=Zn c.P σ a:=Zw fun t ht=>hid t (by simp [Zo (o:=o) (x:=a) (by rw [ho];simp [Op.operands]) ht])
 have hsd:σ' d=σ d:=hag d (by simp)
 obtain ⟨b,lim',X',us,h3,k1,k2,k3,k4⟩:=hsim.deepRead (m:=1) (by rw [hsd];exact hd) (by rw [hsd];exact hng) (JF rfl hsim ha hga) hrow hn hdp
 rw [hsd] at k1
 obtain ⟨u,rfl⟩:=List.length_eq_one_iff.1 k2
 have e1:(row.drop off).take 1 = [x]:=by rw [List.take_one,List.head?_drop,hx];rfl
 rw [e1] at k4
 have hcell:=k3 0 u rfl
 rw [Wq] at hcell
 obtain ⟨p1,p2⟩:=Kc (P:=c.P) (X:=X') (σ:=upd σ' d (Zm (σ d) q Xb E (ZlG xs i off 1))) (k:=0) (k4.2.1 (Zcf x) (by simp)) (k4.2.2 0 (Zcf x) u rfl rfl)
 refine Zi (v:=u) (w':=w) ?_ (hnx _ w (Zq k1 p1 (k:=0) p2))
 simp [execOp,ho,h3,Jw hT hcell]
def Zji (c:AV):AV:=match c with | .own _ _ _=>.gone | c=>c
theorem Zeu {T':Odr} {P:Program} {o:Oper} {σ:Nat→AV} {T:TypeId} {a:Operand} {d:Nat} {cs:List AV} {us:List (Nat×AV)} (ho:o.op = .load T a) (hT:ZS P T=Xa Xb) (ha:Zn P σ a = .ptr d 0) (hd:σ d = .box cs) (hn:cs.length=P.cellsOf T) (hwh:Whole cs) (hus:Yc T' σ d us) :
  Yz T' P o σ (.aggo cs) (us++[(d,.box (cs.map Zji))]) [d]:=by
 intro c hc σ' tm w lim X hid hag hT' hsim next Q hn'
 have hg:Zn P σ' a=Zn P σ a:=Zw fun t ht=>hid t (by simp [Zo (o:=o) (x:=a) (by rw [ho];simp [Op.operands]) ht])
 have hv:=JF hc hsim ha hg
 have hd':σ' d = .box cs:=by rw [hag d (by simp),hd]
 rw [← hc] at hv
 obtain ⟨b,h1,h2,h3⟩:=K6 hsim hd' hv
 obtain ⟨hd1,hd2⟩:=hus.all hT'
 obtain ⟨X1,k1,k2⟩:=hsim.drops us fun u hu=>by
  obtain ⟨m0,m1,k,m3⟩:=hd1 u hu
  obtain ⟨p1,p2,p3⟩:=YE m3
  exact ⟨m1,p2,JL hsim (fun e=>by rw [e] at m3;rcases m3 with m3 | ⟨_,m3⟩ <;> cases m3) p3⟩
 have hdm:d∉us.map (·.1):=by
  intro hm
  obtain ⟨u,hu,rfl⟩:=Xj.1 hm
  exact (hd1 u hu).1 rfl
 have hdead:∀ (σ:Nat→AV) (i:Nat),Jm σ us i=if i∈us.map (·.1) then .dead else σ i:=fun σ i=>Kr us σ i fun u hu=>(hd1 u hu).2.1
 have hds:Jm σ' us d = .box cs:=by rw [hdead,if_neg hdm,hd']
 have hnor:∀ i k,i≠d→Jh (Jm σ' us i) d k→False:=fun i k hi hr=>by
  rw [hdead] at hr
  split at hr
  ·rcases hr with hr | ⟨_,hr⟩ <;> cases hr
  ·rename_i hm
   exact hm (hd2 i k hi hr)
 have hXd:X1 d=X d:=k2 d hdm
 have hrel:=k1.rel d
 rw [hds] at hrel
 obtain ⟨b0,arr,ty,g1,g2,g3,g4,g5,g6,g7⟩:=(show ZG c.P w lim (X1 d) cs _ from hrel)
 have hb0:b0=b:=by rw [hXd] at g1;rw [g1] at h1;exact Xr h1
 subst hb0
 have hdn:d < c.nt:=JL hsim (by rw [hd'];exact fun h=>by cases h) (by rw [hd'];rfl)
 have hal:arr.toList.length=cs.length:=by simpa using g4
 have k3:Sim c (upd (Jm σ' us) d (.box (cs.map Zji))) tm w lim (Ke X1 d fun k=>if k=0 then X1 d 0 else Xe):=by
  refine k1.putRow (S:=fun _=>False) _ (ZU.refl w lim _) (fun _ hs=>hs.elim) hdn rfl (fun j _=>rfl) (.inr ⟨⟨_,rfl⟩,if_pos rfl,rfl⟩) (fun i q hi hr=>(hnor i q hi hr).elim) ?_ (fun k b hk=>?_) (fun k k' b hk hk'=>?_) (hns:=fun k e1 xs1 b m1 m2 m3=>?_)
  ·refine ⟨b0,arr,ty,by rw [Zl,if_pos rfl];exact g1,g2,g3,by simp [g4],g5,fun y hy=>?_,fun j y u hy hju=>?_⟩
   ·obtain ⟨z,hz,rfl⟩:=Xj.1 hy
    rcases g6 z hz with h | ⟨x,e,xs,rfl⟩ | rfl
    ·cases z<;>simp [AV.isCell] at h<;>exact .inl rfl
    ·exact .inr (.inr rfl)
    ·exact .inr (.inr rfl)
   ·rw [Zl,if_neg (by omega)]
    rw [Xk] at hy
    cases hz:cs[j]? with
    | none => rw [hz] at hy; cases hy
    | some z =>
     rw [hz] at hy
     simp only [Xo,Xf] at hy
     subst hy
     have hc1:=g7 j z u hz hju
     rcases g6 z (Xh hz) with h | ⟨x,e,xs,rfl⟩ | rfl
     ·cases z<;>simp [AV.isCell] at h<;>exact hc1
     ·exact trivial
     ·exact trivial
  ·by_cases e1:k=0
   ·rw [if_pos e1] at hk
    exact ⟨(k1.ours d 0 b hk).1,(k1.ours d 0 b hk).2,fun a j ha hj=>ha (k1.dist a j d 0 b hj hk).1⟩
   ·rw [if_neg e1] at hk;cases hk
  ·by_cases e1:k=0<;>by_cases e2:k'=0
   ·omega
   ·rw [if_neg e2] at hk';cases hk'
   ·rw [if_neg e1] at hk;cases hk
   ·rw [if_neg e1] at hk;cases hk
  ·by_cases e1:k=0
   ·subst e1;cases m1
   ·rw [if_neg e1] at m3;cases m3
 rw [← Kk] at k3
 have hrun:(execOp (Act.eval ⟨tm,[]⟩) o).run P w = .ok (.value (.agg arr)) w:=by
  have hl:=JW (P:=P) (w:=w) (b:=b0) (off:=0) (us:=arr.toList) hT (by rw [hal,hn]) (fun j u hj=>by rw [Zh g3,XF];simpa using hj)
  rw [Ui] at hl
  simp [execOp,ho,h2,hl]
 refine Zi hrun (hn' _ w ?_)
 cases hdst:o.dst with
 | none => exact ⟨lim, _, k3⟩
 | some d2 =>
  intro hd2' hm
  refine ⟨lim,_,k3.putRow (hns:=fun k e1 xs1 b m1 m2 m3=>by
   have hng:=hsim.ntN
   rw [Zc X1 _ (show ngN+b≠d by omega)]
   by_cases e1':k=0
   ·rw [if_pos e1'] at m3;cases m3
   ·rw [if_neg e1'] at m3
    refine k1.nst d k e1 xs1 b ?_ m2 m3
    rw [hds]
    cases k with
    | zero => omega
    | succ k => exact m1) (fun k => if k = 0 then Xe else X1 d k) (ZU.refl w lim (fun _ => False)) (fun _ hs => hs.elim) hd2' (tm' := tm.setIfInBounds d2 (.agg arr)) (by simp) (fun i hi => ZD tm d2 i _ hi)
   (.inl (ZA hm).1) (fun i q hi hr=>(k3.noRefs (ZA hm).none i q hi hr).elim) ?_ (fun k b hk=>?_) (fun k k' b hk hk'=>?_)⟩
  ·rw [Jp tm d2 _ (by rw [hsim.size];exact hd2')]
   refine ⟨arr.toList,by rw [Ui],hal,⟨g6,fun u hu=>?_⟩,fun j x u hx hu=>?_⟩
   ·obtain ⟨j,hj⟩:=XK.1 hu
    have hlt:j < cs.length:=by rw [← hal];exact (Xi.1 hj).1
    have hr:=g7 j _ u (Xp hlt) (by simpa using hj)
    rcases g6 _ (Wl hlt) with hx | ⟨x,e,xs,hx⟩ | hx
    ·generalize cs[j]=y at hr hx
     cases y<;>simp [AV.isCell] at hx<;>exact Rep.oneCell hr rfl
    ·rw [hx] at hr
     exact (ZV.cells1 (show ZV c.P w lim x e xs u _ from hr)).2
    ·exact (hwh _ (Wl hlt) hx).elim
   ·rw [Zl,if_neg (by omega)]
    exact g7 j x u hx (by simpa using hu)
  ·by_cases e1:k=0
   ·rw [if_pos e1] at hk;cases hk
   ·rw [if_neg e1] at hk
    refine ⟨(k1.ours d k b hk).1,(k1.ours d k b hk).2,fun i j hi hij=>?_⟩
    by_cases hid:i=d
    ·subst hid
     rw [Zl] at hij
     by_cases ej:j=0
     ·rw [if_pos ej] at hij
      have:=(k1.dist i 0 i k b hij hk).2;omega
     ·rw [if_neg ej] at hij;cases hij
    ·rw [Zc X1 _ hid] at hij
     exact hid (k1.dist i j d k b hij hk).1
  ·by_cases e1:k=0<;>by_cases e2:k'=0
   ·omega
   ·rw [if_pos e1] at hk;cases hk
   ·rw [if_pos e2] at hk';cases hk'
   ·rw [if_neg e1] at hk;rw [if_neg e2] at hk'
    exact (k1.dist d k d k' b hk hk').2
def Znu (c:AV):AV:=match c with | .nest _ Xb e ys=>.own Xb e ys | c=>c
def Zs4 (c:AV):Bool:=match c with | .nest _ Xc _ _=>Xc | _=>Xb
def Znk (c:AV):Bool:=match c with | .nest _ Xb _ _=>Xb | _=>Xc
theorem Zmf {z:AV} (h:z.isCell=Xb):(Zil z).isCell=Xb:=by
 unfold Zil
 split
 ·rfl
 ·exact h
theorem ZoK {w:World} {lim:Lm} {z:AV} {v:Value} (h:Rep w lim z v):Rep w lim (Zil z) v:=by
 unfold Zil
 split
 ·cases h
  exact .nest
 ·exact h
theorem Zrg {z:AV} {s:Nat} {e:TypeId} {ys:List (List AV)} (h:Zil z = .nest s Xb e ys):False:=by
 unfold Zil at h
 split at h
 ·cases h
 ·rename_i hn
  exact hn _ _ _ h
theorem Zpe {z:AV} (h:Znk z=Xb):∃ s e ys,z = .nest s Xb e ys:=by
 unfold Znk at h
 split at h
 ·exact ⟨_,_,_,rfl⟩
 ·cases h
set_option maxHeartbeats 1000000 in
theorem Zay {P:Program} {o:Oper} {σ:Nat→AV} {T E:TypeId} {a:Operand} {d q i:Nat} {xs:List (List AV)} {row:List AV} (ho:o.op = .load T a) (hT:ZS P T=Xa Xb) (ha:Zn P σ a = .eref d q (i*P.cellsOf (bT E)+0)) (hd:Zp (σ d) q=Xa (E,xs)) (hng:(σ d).isG=Xc)
  (hrow:xs[i]? = Xa row) (hn:P.cellsOf T=P.cellsOf (bT E)) (hdp:Ze P E=Xb) (hwh:∀ z∈row,Zs4 z=Xb) :
  Jg P o σ (.aggo (row.map Znu)) [(d,Zm (σ d) q Xb E (ZC xs i 0 (row.map Zil)))] [d]:=by
 intro c hc σ' tm w lim X hid hag hsim next Q hnx
 have hga:Zn P σ' a=Zn P σ a:=Zw fun t ht=>hid t (by simp [Zo (o:=o) (x:=a) (by rw [ho];simp [Op.operands]) ht])
 have hsd:σ' d=σ d:=hag d (by simp)
 have hd':Zp (σ' d) q=Xa (E,xs):=by rw [hsd,hd]
 have hva:=JF hc hsim ha hga
 rw [← hc] at hva
 have hdp':Ze c.P E=Xb:=by rw [hc];exact hdp
 obtain ⟨b,arr,cap,g1,h3,g3,g4,g6,g7,g8,g9,g10,g11⟩:=KL hsim hd' hva (.inr hdp')
 have hbm:=ZbI hsim hd' g1 hdp'
 rw [hc] at g8 g9 h3
 obtain ⟨s,hs⟩:∃ s,s=P.cellsOf (bT E):=⟨_,rfl⟩
 rw [← hs] at g8 g9 h3 hn
 rw [Wq] at h3
 have hxl:=Zg xs _ g9
 have hil:=(Xi.1 hrow).1
 have hrl:=g9 row (Xh hrow)
 have hmul:i*s+s≤xs.length*s:=by
  rw [← X9];exact XN _ hil
 have hcap:xs.length*s≤cap*s:=XN _ g6
 have hlen:(row.map Zil).length=s:=by rw [Xq,hrl]
 have hcs:∀ z∈row.map Zil,z.isCell=Xb:=fun z hz=>by
  obtain ⟨y,hy,rfl⟩:=Xj.1 hz
  exact Zmf (g10 row (Xh hrow) y hy)
 have hmem:=Yw (i:=i) (o:=0) g9 g10 (by rw [hlen];omega) hcs
 have hfl:=JD (i:=i) (o:=0) (e:=row.map Zil) g9 hil (by rw [hlen];omega)
 have hget:∀ j,(ZC xs i 0 (row.map Zil)).flatten[j]? = if i*s≤j∧j < i*s+s then (row.map Zil)[j-i*s]? else xs.flatten[j]?:=fun j=>by
  rw [hfl,Wq,JS _ _ _ (by rw [hlen,hxl];omega),hlen]
 have hrowat:∀ j,j < s→xs.flatten[i*s+j]? = row[j]?:=fun j hj=>J0 xs _ g9 i row hrow j hj
 have hnst:=(hsim.nst d q E xs b (Z4 hd') hdp' g1).2
 have hset:=hsim.deepStep (w':=w) (lim':=lim) (E':=E) (xs':=ZC xs i 0 (row.map Zil)) (Y':=fun j=>if i*s≤j∧j < i*s+s then Xe else X (ngN+b) j) hd' (by rw [hsd];exact hng) g1 (ZU.refl w lim _)
  (VA (.inr hdp') (by rw [← g1];exact hsim.deepB (Z4 hd')) g3 g3 rfl (by simp [ZC]) g4 (fun x hx=>by rw [hc,← hs];exact (hmem x hx).1) (fun x hx=>(hmem x hx).2) (fun j z u' hz' hu'=>by
   rw [hget] at hz'
   by_cases hj:i*s≤j∧j < i*s+s
   ·rw [if_pos hj,Xk] at hz'
    have hr:=hrowat (j-i*s) (by omega)
    rw [show i*s+(j-i*s)=j by omega] at hr
    cases hz:row[j-i*s]? with
    | none => rw [hz] at hz'; cases hz'
    | some y =>
     rw [hz] at hz'
     simp only [Xo,Xf] at hz'
     subst hz'
     exact ZoK (g11 j y u' (hr.trans hz) hu')
   ·rw [if_neg hj] at hz';exact g11 j z u' hz' hu') (.inr ⟨hdp',rfl,hbm⟩))
  (by simp [ZC]) (.of rfl) (.inl rfl) (.mv (.inr (.inl hdp'))) (fun j b' hb'=>by
   by_cases hj:i*s≤j∧j < i*s+s
   ·rw [if_pos hj] at hb';cases hb'
   ·rw [if_neg hj] at hb';exact .inl ⟨j,hb'⟩) (fun j j' b' q1 q2=>by
   by_cases hj:i*s≤j∧j < i*s+s
   ·rw [if_pos hj] at q1;cases q1
   ·by_cases hj':i*s≤j'∧j' < i*s+s
    ·rw [if_pos hj'] at q2;cases q2
    ·rw [if_neg hj] at q1;rw [if_neg hj'] at q2;exact (hsim.dist _ j _ j' b' q1 q2).2)
  (fun _=>⟨⟨arr,g3⟩,fun j s1 e1 ys1 u' hz' hu'=>by
   rw [hget] at hz'
   by_cases hj:i*s≤j∧j < i*s+s
   ·rw [if_pos hj,Xk] at hz'
    cases hz:row[j-i*s]? with
    | none => rw [hz] at hz'; cases hz'
    | some y =>
     rw [hz] at hz'
     simp only [Xo,Xf] at hz'
     exact (Zrg hz').elim
   ·rw [if_neg hj] at hz'
    show _∧_∧VQ c.P w lim Xb e1 ys1 u' (if i*s≤j∧j < i*s+s then Xe else X (ngN+b) j)
    rw [if_neg hj]
    exact hnst j s1 e1 ys1 u' hz' hu'⟩)
 rw [hsd] at hset
 obtain ⟨X1,hX1⟩:∃ X1,X1=Ke X (ngN+b) fun j=>if i*s≤j∧j < i*s+s then Xe else X (ngN+b) j:=⟨_,rfl⟩
 rw [← hX1] at hset
 obtain ⟨us,hus⟩:∃ us:List Value,us=(arr.toList.drop (i*s)).take s:=⟨_,rfl⟩
 have hul:us.length=s:=by rw [hus];simp [g8];omega
 have huat:∀ (j:Nat) (u:Value),us[j]? = Xa u→j < s∧arr[i*s+j]? = Xa u:=fun j u hj=>by
  rw [hus,Xw] at hj
  split at hj
  ·rename_i hlt
   rw [XH] at hj
   exact ⟨hlt,by simpa using hj⟩
  ·cases hj
 have hrun:(execOp (Act.eval ⟨tm,[]⟩) o).run P w = .ok (.value (.agg us.toArray)) w:=by
  have hl:=JW (P:=P) (w:=w) (b:=b) (off:=i*s) (us:=us) hT (by rw [hul,hn]) (fun j u hj=>by rw [Zh g3];exact (huat j u hj).2)
  simp [execOp,ho,h3,hl]
 refine Zi hrun (hnx _ w ?_)
 obtain ⟨ρr,hρ⟩:∃ r:Nat→Option Nat,r=fun k=>if k=0 then Xe else if (match row[k-1]? with | some z=>Znk z | none=>Xc)=Xb then X (ngN+b) (i*s+(k-1)) else Xe:=⟨_,rfl⟩
 have hr0:ρr 0=Xe:=by rw [hρ];rfl
 have hrs:∀ k b',ρr k=Xa b'→∃ j,k=j+1∧j < s∧X (ngN+b) (i*s+j)=Xa b':=fun k b' hk=>by
  rw [hρ] at hk
  dsimp only at hk
  cases k with
  | zero => cases hk
  | succ j =>
   rw [if_neg (by omega),X4] at hk
   cases hz':row[j]? with
   | none => rw [hz'] at hk; cases hk
   | some z =>
    rw [hz'] at hk
    dsimp only at hk
    split at hk
    ·exact ⟨j,rfl,by rw [← hrl];exact (Xi.1 hz').1,hk⟩
    ·cases hk
 cases hdst:o.dst with
 | none => exact ⟨lim, _, hset⟩
 | some d2 =>
  intro hd2' hm
  have hcell:∀ (j:Nat) (x:AV) (u:Value),(row.map Znu)[j]? = Xa x→us[j]? = Xa u→J8 c.P w lim (ρr (j+1)) x u:=fun j x u hx hu=>by
   obtain ⟨hjs,hua⟩:=huat j u hu
   rw [Xk] at hx
   cases hz:row[j]? with
   | none => rw [hz] at hx; cases hx
   | some z =>
    rw [hz] at hx
    simp only [Xo,Xf] at hx
    subst hx
    have hflat:=(hrowat j hjs).trans hz
    cases hnz:Znk z with
    | true =>
     obtain ⟨s1,e1,ys1,rfl⟩:=Zpe hnz
     obtain ⟨_,n2,n3⟩:=hnst (i*s+j) s1 e1 ys1 u hflat (by rw [Zh g3];exact hua)
     have hrj:ρr (j+1)=X (ngN+b) (i*s+j):=by
      rw [hρ]
      dsimp only
      rw [if_neg (by omega),X4,hz]
      rfl
     rw [hrj]
     exact n3.own
    | false =>
     have hrep:=g11 (i*s+j) z u hflat hua
     have hw0:=hwh z (Xh hz)
     have hic:=g10 row (Xh hrow) z (Xh hz)
     have:Znu z=z:=by
      unfold Znu
      split
      ·cases hnz
      ·rfl
     rw [this]
     cases z<;>first | exact hrep | (simp [AV.isCell] at hic;done)
  refine ⟨lim,_,hset.putRow ρr (ZU.refl w lim (fun _=>False)) (fun _ hs=>hs.elim) hd2' (tm':=tm.setIfInBounds d2 (.agg us.toArray)) (by simp) (fun i hi=>ZD tm d2 i _ hi)
   (.inl (ZA hm).1) (fun i q hi hr=>(hset.noRefs (ZA hm).none i q hi hr).elim) ?_ (fun k b' hk=>?_) (fun k k' b' hk hk'=>?_) (hns:=fun k e1 xs1 b1 m1 m2 m3=>?_)⟩
  ·rw [Jp tm d2 _ (by rw [hsim.size];exact hd2')]
   refine ⟨us,rfl,by rw [hul,Xq,hrl],⟨fun x hx=>?_,fun u hu=>?_⟩,fun j x u hx hu=>?_⟩
   ·obtain ⟨z,hz,rfl⟩:=Xj.1 hx
    have hic:=g10 row (Xh hrow) z hz
    unfold Znu
    split
    ·exact .inr (.inl ⟨_,_,_,rfl⟩)
    ·exact .inl hic
   ·obtain ⟨j,hj⟩:=XK.1 hu
    obtain ⟨hjs,hua⟩:=huat j u hj
    obtain ⟨z,hz⟩:∃ z,row[j]? = Xa z:=⟨row[j]'(by omega),Xp (by omega)⟩
    exact (g11 (i*s+j) z u ((hrowat j hjs).trans hz) hua).oneCell (g10 row (Xh hrow) z (Xh hz))
   ·rw [Zl]
    exact hcell j x u hx hu
  ·obtain ⟨j,rfl,hjs,hb'⟩:=hrs k b' hk
   refine ⟨(hsim.ours _ _ b' hb').1,(hsim.ours _ _ b' hb').2,fun i' j' hi' hij=>?_⟩
   rw [hX1] at hij
   by_cases e:i'=ngN+b
   ·subst e
    rw [Zl] at hij
    by_cases hj:i*s≤j'∧j' < i*s+s
    ·rw [if_pos hj] at hij;cases hij
    ·rw [if_neg hj] at hij
     have:=(hsim.dist _ j' _ _ b' hij hb').2
     omega
   ·rw [Zc X _ e] at hij
    exact e (hsim.dist i' j' _ _ b' hij hb').1
  ·obtain ⟨j,rfl,hjs,hb1⟩:=hrs k b' hk
   obtain ⟨j',rfl,hjs',hb2⟩:=hrs k' b' hk'
   have:=(hsim.dist _ _ _ _ b' hb1 hb2).2
   omega
  ·exfalso
   cases k with
   | zero => cases m1
   | succ k =>
    have hk:(row.map Znu)[k]? = Xa (.own Xb e1 xs1):=by
     simp only [ZY] at m1
     split at m1
     ·rename_i e2 xs2 he
      simp only [Xf,Xn] at m1
      rw [he,m1.1,m1.2]
     ·cases m1
    rw [Xk] at hk
    cases hz:row[k]? with
    | none => rw [hz] at hk; cases hk
    | some z =>
     rw [hz] at hk
     simp only [Xo,Xf] at hk
     have hks:k < s:=by rw [← hrl];exact (Xi.1 hz).1
     have hic:=g10 row (Xh hrow) z (Xh hz)
     have hzn:∃ s1,z = .nest s1 Xb e1 xs1:=by
      unfold Znu at hk
      split at hk
      ·cases hk
       exact ⟨_,rfl⟩
      ·rw [hk] at hic
       simp [AV.isCell] at hic
     obtain ⟨s1,rfl⟩:=hzn
     obtain ⟨u,hu⟩:∃ u,arr[i*s+k]? = Xa u:=⟨arr[i*s+k]'(by omega),XZ (by omega)⟩
     have:=(hnst (i*s+k) s1 e1 xs1 u ((hrowat k hks).trans hz) (by rw [Zh g3];exact hu)).2.1
     rw [ZL this] at m2
     cases m2
theorem W4 {P:Program} {o:Oper} {σ:Nat→AV} {T E:TypeId} {a:Operand} {d q i:Nat} {xs:List (List AV)} {row:List AV} (ho:o.op = .load T a) (hT:ZS P T=Xa Xb) (ha:Zn P σ a = .eref d q (i*P.cellsOf (bT E)+0)) (hd:Zp (σ d) q=Xa (E,xs)) (hng:(σ d).isG=Xc)
  (hrow:xs[i]? = Xa row) (hn:P.cellsOf T=P.cellsOf (bT E)) (hdp:Ze P E=Xb) (hwh:∀ z∈row.take (P.cellsOf T),Zs4 z=Xb) :
  Jg P o σ (.aggo ((row.take (P.cellsOf T)).map Znu)) [(d,Zm (σ d) q Xb E (ZC xs i 0 (row.map Zil)))] [d]:=by
 intro c hc σ' tm w lim X hid hag hsim next Q hnx
 have hga:Zn P σ' a=Zn P σ a:=Zw fun t ht=>hid t (by simp [Zo (o:=o) (x:=a) (by rw [ho];simp [Op.operands]) ht])
 have hd':Zp (σ' d) q=Xa (E,xs):=by rw [hag d (by simp),hd]
 have hva:=JF hc hsim ha hga
 rw [← hc] at hva
 obtain ⟨_,_,_,_,_,_,_,_,_,_,g9,_⟩:=KL hsim hd' hva (.inr (by rw [hc];exact hdp))
 have hrl:=g9 row (Xh hrow)
 rw [hc,← hn] at hrl
 have hrt:row.take (P.cellsOf T)=row:=List.take_of_length_le (by omega)
 rw [hrt] at hnx hwh
 exact Zay ho hT ha hd hng hrow hn hdp hwh c hc σ' tm w lim X hid hag hsim next Q hnx
theorem Zpt {xs:List (List AV)} {i:Nat} {row:List AV} (hr:xs[i]? = Xa row):Ztl xs i=ZC xs i 0 (row.map Zil):=by
 unfold Ztl ZC
 refine Ua fun j=>?_
 rw [Uy,Uy]
 by_cases hj:i=j
 ·subst hj
  rw [hr]
  simp [setCells]
 ·simp only [if_neg hj]
theorem Zcn {P:Program} {o:Oper} {σ:Nat→AV} {T:TypeId} {a:Operand} {d:Nat} {cs:List AV} (ho:o.op = .load T a) (hT:ZS P T=Xa Xb) (ha:Zn P σ a = .ptr d 0) (hd:σ d = .box cs) (hn:cs.length=P.cellsOf T) (hwh:Whole cs) :
  Jg P o σ (.aggo (cs.map Zji)) [] [d]:=by
 intro c hc σ' tm w lim X hid hag hsim next Q hnx
 have hg:Zn P σ' a=Zn P σ a:=Zw fun t ht=>hid t (by simp [Zo (o:=o) (x:=a) (by rw [ho];simp [Op.operands]) ht])
 have hv:=JF hc hsim ha hg
 have hd':σ' d = .box cs:=by rw [hag d (by simp),hd]
 rw [← hc] at hv
 obtain ⟨b,h1,h2,h3⟩:=K6 hsim hd' hv
 obtain ⟨b0,arr,ty,g1,g2,g3,g4,g5,g6,g7⟩:=h3
 have hb0:b0=b:=by rw [g1] at h1;exact Xr h1
 subst hb0
 have hal:arr.toList.length=cs.length:=by simpa using g4
 have hrun:(execOp (Act.eval ⟨tm,[]⟩) o).run P w = .ok (.value (.agg arr)) w:=by
  have hl:=JW (P:=P) (w:=w) (b:=b0) (off:=0) (us:=arr.toList) hT (by rw [hal,hn]) (fun j u hj=>by rw [Zh g3,XF];simpa using hj)
  rw [Ui] at hl
  simp [execOp,ho,h2,hl]
 refine Zi hrun (hnx _ w ?_)
 cases hdst:o.dst with
 | none => exact ⟨lim, X, hsim⟩
 | some d2 =>
  intro hd2' hm
  refine ⟨lim,_,hsim.putRow (fun _=>Xe) (ZU.refl w lim (fun _=>False)) (fun _ hs=>hs.elim) hd2' (tm':=tm.setIfInBounds d2 (.agg arr)) (by simp) (fun i hi=>ZD tm d2 i _ hi)
   (.inl (ZA hm).1) (fun i q hi hr=>(hsim.noRefs (ZA hm).none i q hi hr).elim) ?_ (fun k b' hk=>by cases hk) (fun k k' b' hk _=>by cases hk) (hns:=fun k e1 xs1 b1 m1 m2 m3=>by cases m3)⟩
  rw [Jp tm d2 _ (by rw [hsim.size];exact hd2')]
  refine ⟨arr.toList,by rw [Ui],by rw [hal,Xq],⟨fun x hx=>?_,fun u hu=>?_⟩,fun j x u hx hu=>?_⟩
  ·obtain ⟨z,hz,rfl⟩:=Xj.1 hx
   rcases g6 z hz with h | ⟨x,e,xs,rfl⟩ | rfl
   ·cases z<;>simp [AV.isCell] at h<;>exact .inl rfl
   ·exact .inr (.inr rfl)
   ·exact .inr (.inr rfl)
  ·obtain ⟨j,hj⟩:=XK.1 hu
   have hlt:j < cs.length:=by rw [← hal];exact (Xi.1 hj).1
   have hr:=g7 j _ u (Xp hlt) (by simpa using hj)
   rcases g6 _ (Wl hlt) with hx | ⟨x,e,xs,hx⟩ | hx
   ·generalize cs[j]=y at hr hx
    cases y<;>simp [AV.isCell] at hx<;>exact Rep.oneCell hr rfl
   ·rw [hx] at hr
    exact (ZV.cells1 (show ZV c.P w lim x e xs u _ from hr)).2
   ·exact (hwh _ (Wl hlt) hx).elim
  ·rw [Xk] at hx
   cases hz:cs[j]? with
   | none => rw [hz] at hx; cases hx
   | some z =>
    rw [hz] at hx
    simp only [Xo,Xf] at hx
    subst hx
    have hc1:=g7 j z u hz (by simpa using hu)
    rcases g6 z (Xh hz) with h | ⟨x,e,xs,rfl⟩ | rfl
    ·cases z<;>simp [AV.isCell] at h<;>exact hc1
    ·exact trivial
    ·exact trivial
def YK (z:Int):List AV:=[.val (.int .i64 z)]
def ZdT (P:Program) (srt:List FuncId):Prop:=
 ∀ f∈srt,Callable P f∧(∀ (p:Option Addr) (cap:Nat) (w:World),Calls P f #[.slice p 0 cap] w fun e w'=>e = .returned (.tuple #[])∧w'=w)∧
  ∀ (w:World) (lim:Lm) (b cap:Nat) (arr:Array Value) (e:TypeId) (zs:List Int),zs≠[]→zs.length≤1048576→zs.length≤cap→cap≤maxLen→arr.size=cap→w.heap[b]? = Xa (.cells arr e (0,0))→lim b=0→arr.toList.take zs.length=zs.map (Value.int .i64)→
   Calls P f #[.slice (Xa ⟨b,0,Xe⟩) zs.length cap] w fun e' w'=>e' = .returned (.tuple #[])∧∃ arr',w'.heap[b]? = Xa (.cells arr' e (0,0))∧arr'.size=arr.size∧
    arr'.toList.take zs.length=(zs.mergeSort fun x y=>decide (x≤y)).map (Value.int .i64)∧ZU w lim w' lim (fun b'=>b'=b)
theorem Znw {l:List (List AV)} (h:l.all ZjE=Xb):∃ zs:List Int,l=zs.map YK:=by
 induction l with
 | nil => exact ⟨[], rfl⟩
 | cons r l ih =>
  rw [List.all_cons,Xs] at h
  obtain ⟨zs,rfl⟩:=ih h.2
  have h1:=h.1
  unfold ZjE at h1
  split at h1
  ·rename_i z
   exact ⟨z::zs,rfl⟩
  ·cases h1
theorem ZkV (zs:List Int):ZhU (zs.map YK)=(zs.mergeSort fun x y=>decide (x≤y)).map YK:=by
 have:(zs.map YK).filterMap ZM=zs:=by
  induction zs with
  | nil => rfl
  | cons z zs ih => rw [Xg, List.filterMap_cons_some (f := ZM) (a := YK z) (b := z) rfl, ih]
 unfold ZhU
 rw [this]
 rfl
theorem ZgS (zs:List Int):(zs.map YK).flatten=zs.map fun z=>AV.val (.int .i64 z):=ZaT zs
theorem ZgJ {P:Program} {w:World} {lim:Lm} {x:Bool} {e:TypeId} {xs:List (List AV)} {v:Value} {ob:Option Nat} (h:ZV P w lim x e xs v ob) (hne:xs≠[]) (hnm:Zj P e=Xc) :
  ∃ b arr cap,ob=Xa b∧v = .slice (Xa ⟨b,0,Xe⟩) xs.length cap∧w.heap[b]? = Xa (.cells arr e (0,0))∧xs.length≤cap∧cap≤maxLen∧arr.size=cap*P.cellsOf e∧
   (∀ x∈xs,x.length=P.cellsOf e)∧(∀ x∈xs,∀ z∈x,z.isCell=Xb)∧(∀ (j:Nat) (z:AV) (u:Value),xs.flatten[j]? = Xa z→arr.toList[j]? = Xa u→Rep w lim z u)∧(∀ b',ob=Xa b'→x=Xb→lim b'=0):=by
 rcases h.noMap hnm with ⟨us,h1,h2,h3,h4,h5,h6⟩ | ⟨h,_⟩
 ·rcases h1.2 with ⟨hv,hn⟩ | ⟨g,cap,cur,hv,hbg,hg,hnc,hcm,hcs,htake⟩
  ·exact (hne (XY hn)).elim
  ·refine ⟨g,cur,cap,by rw [← h2,hv];rfl,hv,hg,hnc,hcm,hcs,h4,h5,fun j z u hz hu=>h6 j z u hz ?_,fun b' hb' hx=>by rw [h3 b' hb',if_pos hx]⟩
   have hj:=(Xi.1 hz).1
   rw [Zg xs _ h4] at hj
   rw [← htake,Xw,if_pos hj]
   exact hu
 ·exact (hne h).elim
theorem ZoM {P:Program} {o:Oper} {σ:Nat→AV} {srt:List FuncId} {f:FuncId} {cl:Call} {x:Operand} {d:Nat} {e:TypeId} {zs:List Int} (hsrt:ZdT P srt) (hf:f∈srt) (ho:o.op = .call cl) (hcl:cl.callee = .value (.func f)) (hargs:cl.args.toList = [x])
  (hx:Zn P σ x = .mref d 0) (hd:σ d = .own Xb e (zs.map YK)) (h1:P.cellsOf e=1) (hnm:Zj P e=Xc) (hlen:zs.length≤1048576) :
  Jg P o σ .dead [(d,.own Xb e (ZhU (zs.map YK)))] [d]:=by
 intro c hc σ' tm w lim X hid hag hsim next Q hn
 have hargs':cl.args = #[x]:=by apply XG.1;rw [hargs]
 have hgx:Zn P σ' x=Zn P σ x:=Zw fun t ht=>hid t (Zo (x:=x) (by rw [ho];simp [Op.operands,Call.operands,hcl,hargs']) ht)
 have hv:=JF hc hsim hx hgx
 have hsd:σ' d=σ d:=hag d (by simp)
 have hd':σ' d = .own Xb e (zs.map YK):=by rw [hsd,hd]
 rw [← hc] at hv
 have hnm':Zj c.P e=Xc:=by rw [hc];exact hnm
 obtain ⟨e',xs',m1,m2⟩:=hv
 rw [hd'] at m1
 simp only [Zp,Xf,Xn] at m1
 obtain ⟨rfl,rfl⟩:=m1
 obtain ⟨k1,k2,k3⟩:=hsrt f hf
 have hown:=hsim.rel d
 rw [hd'] at hown
 have hown:ZV c.P w lim Xb e (zs.map YK) (tm.getD d undef) (X d 0):=hown
 have hdn:d < c.nt:=JL hsim (by rw [hd'];exact fun h=>by cases h) (by rw [hd'];rfl)
 have hnil:zs = []→(tm.getD d undef=tm.getD d undef)→Sim c (upd σ' d (.own Xb e (ZhU (zs.map YK)))) tm w lim X:=fun hz _=>by
  have:upd σ' d (.own Xb e (ZhU (zs.map YK)))=σ':=by
   funext i
   by_cases hi:i=d
   ·subst hi;rw [Zs,hd',hz];simp [ZhU]
   ·rw [Zb _ _ hi]
  rw [this]
  exact hsim
 unfold Oper.wp
 by_cases hz:zs = []
 ·have hvx:∃ p cap,Act.eval ⟨tm,[]⟩ x = .slice p 0 cap:=by
   rcases m2.noMap hnm' with ⟨_,_,h | ⟨a,h⟩⟩ | ⟨b,arr,cap,_,_,_,h⟩
   ·exact ⟨_,_,h⟩
   ·exact ⟨_,_,h⟩
   ·rw [hz] at h;exact ⟨_,_,h⟩
  obtain ⟨p,cap,hvx⟩:=hvx
  rw [Zcu ho hcl hargs k1 hvx,Oper.upon_enter]
  refine (k2 p cap w).mono ?_
  rintro e1 w' ⟨rfl,rfl⟩
  exact hn _ _ (Zq (hnil hz rfl) rfl (k:=0) trivial)
 ·have hxs:zs.map YK≠[]:=by simpa using hz
  obtain ⟨b,arr,cap,hXd,hvd,hg,hnc,hcm,hcs,hxl,hxc,hxr,hlim⟩:=ZgJ hown hxs hnm'
  have hlb:lim b=0:=hlim b hXd rfl
  have hvx:Act.eval ⟨tm,[]⟩ x = .slice (Xa ⟨b,0,Xe⟩) zs.length cap:=by
   rcases m2.noMap hnm' with ⟨h,_⟩ | ⟨b',arr',cap',q1,q2,q3,q4⟩
   ·rw [hXd] at h;cases h
   ·rw [hXd] at q1
    cases q1
    rw [hg] at q2
    cases q2
    rw [hc,h1] at q3 hcs
    rw [q4,Xq,show cap'=cap by omega]
  rw [Xq] at hnc
  rw [hc,h1,Uo] at hcs
  have htake:arr.toList.take zs.length=zs.map (Value.int .i64):=by
   apply Ua
   intro j
   rw [Xw,Xk]
   split
   ·rename_i hj
    have hja:j < arr.size:=by omega
    have hr:=hxr j (.val (.int .i64 zs[j])) arr[j] (by rw [ZgS,Xk,Xp hj];rfl) (by simp [hja])
    rw [Xp hj,Xo,← YR hr]
    simp [hja]
   ·rename_i hj
    rw [List.getElem?_eq_none (by omega)]
    rfl
  rw [Zcu ho hcl hargs k1 hvx,Oper.upon_enter]
  refine (k3 w lim b cap arr e zs hz hlen hnc hcm hcs hg hlb htake).mono ?_
  rintro e1 w' ⟨rfl,arr',n1,n2,n3,n4⟩
  obtain ⟨ss,hss⟩:∃ ss,ss=zs.mergeSort fun x y=>decide (x≤y):=⟨_,rfl⟩
  have hsl:ss.length=zs.length:=by rw [hss];exact List.length_mergeSort zs
  rw [← hss] at n3
  have hnew:∀ v,ZV c.P w lim Xb e (zs.map YK) v (Xa b)→ZV c.P w' lim Xb e (ss.map YK) v (Xa b):=fun v hv=>by
   obtain ⟨b2,arr2,cap2,p1,p2,p3,p4,p5,p6,_,_,_,_⟩:=ZgJ hv hxs hnm'
   cases p1
   rw [hg] at p3
   cases p3
   rw [hc,h1,Uo] at p6
   rw [p2,show (zs.map YK).length=(ss.map YK).length by rw [Xq,Xq,hsl]]
   refine ZdG n1 hlb (by rw [Xq,hsl];omega) p5 (by rw [hc,h1,Uo,n2,p6]) (fun r hr=>?_) (fun r hr y hy=>?_) fun j y u hy hu=>?_
   ·obtain ⟨z,_,rfl⟩:=Xj.1 hr
    rw [hc,h1];rfl
   ·obtain ⟨z,_,rfl⟩:=Xj.1 hr
    rw [XC.1 hy];rfl
   ·rw [ZgS,Xk] at hy
    cases hzj:ss[j]? with
    | none => rw [hzj] at hy; cases hy
    | some z =>
     rw [hzj] at hy
     simp only [Xo,Xf] at hy
     subst hy
     have hj:j < zs.length:=by rw [← hsl];exact (Xi.1 hzj).1
     have h3:=congrArg (·[j]?) n3
     simp only [Xw,if_pos hj,Xk,hzj,Xo] at h3
     have:u = .int .i64 z:=by
      have hu':arr'.toList[j]? = Xa u:=by simpa using hu
      rw [hu'] at h3
      exact Xr h3
     rw [this]
     exact .val rfl
  have hdf:d < ngN:=XI hdn hsim.ntN
  have hset:=hsim.deepStep (w':=w') (lim':=lim) (k:=0) (E':=e) (xs':=ss.map YK) (Y':=X (ngN+b)) (by rw [hd'];rfl) (by rw [hd'];rfl) hXd (n4.sub fun _ h=>.inl h) hnew (by simp [hsl])
   ⟨fun arr0 t0 h0=>by
    rw [hg] at h0
    cases h0
    exact ⟨arr',n1,n2⟩,fun es cl hm0=>by rw [hg] at hm0;cases hm0⟩ (.inl rfl) (.mv (.inl hnm')) (fun j b' hb'=>.inl ⟨j,hb'⟩) (fun j j' b' q1 q2=>(hsim.dist _ j _ j' b' q1 q2).2)
   (fun hdp=>by rw [ZL hnm'] at hdp;cases hdp)
  have he:Zm (σ' d) 0 Xb e (ss.map YK) = .own Xb e (ZhU (zs.map YK)):=by rw [hd',ZkV,hss];rfl
  rw [he] at hset
  exact hn _ _ (Zq hset rfl (k:=0) trivial)
def ZlK (P:Program) (c:AV):AV:=match c with | .own Xb e ys=>.nest (P.cellsOf e) Xb e ys | c=>c
def ZoO (P:Program) (c:AV):Prop:=(c.isCell=Xb∧Znk c=Xc)∨∃ e ys,c = .own Xb e ys∧Zj P e=Xc
theorem Zma {P:Program} {c:AV} (h:ZoO P c):(ZlK P c).isCell=Xb:=by
 rcases h with ⟨h,_⟩ | ⟨e,ys,rfl,_⟩
 ·cases c<;>first | exact h | (simp [AV.isCell] at h;done)
 ·rfl
theorem Zm9 {P:Program} {c:AV} (h:c.isCell=Xb):ZlK P c=c:=by
 cases c<;>first | rfl | (simp [AV.isCell] at h;done)
theorem Zmn {P:Program} {w:World} {lim:Lm} {x:Bool} {e:TypeId} {xs:List (List AV)} {v:Value} {ob:Option Nat} (h:VQ P w lim x e xs v ob):∃ a n cap,v = .slice a n cap:=by
 rcases h with ⟨us,hr,_⟩ | ⟨_,_,a,rfl⟩
 ·rcases hr.2 with ⟨hv,_⟩ | ⟨g,cap,cur,hv,_⟩
  ·exact ⟨_,_,_,hv⟩
  ·exact ⟨_,_,_,hv⟩
 ·exact ⟨_,_,_,rfl⟩
theorem WX {P:Program} {w:World} {lim:Lm} {x:Bool} {e:TypeId} {xs:List (List AV)} {v:Value} {ob:Option Nat} (h:ZV P w lim x e xs v ob) (hm:Zj P e=Xc):VQ P w lim x e xs v ob:=by
 rcases h.noMap hm with h | h
 ·exact .inl h
 ·exact .inr h
theorem Zhe {P:Program} {e:TypeId} (h:Ze P (e+2097152)=Xb):bT (e+2097152)=e:=Zmy h
theorem Sim.aggoOut {c:Ctx} {σ:Nat→AV} {tm:Array Value} {w:World} {lim:Lm} {X:Nat→Nat→Option Nat} (h:Sim c σ tm w lim X) {t:Nat} {cs:List AV} (ht:σ t = .aggo cs):Sim c (upd σ t .dead) tm w lim (Ke X t Jz):=
 h.weaken (k:=0) (x:=.dead) (JL h (by rw [ht];exact fun h=>by cases h) (by rw [ht];rfl)) (fun cs' he=>by rw [ht] at he;cases he) (h.noRefs fun k=>by rw [ht];cases k<;>rfl) rfl (fun i q hr=>by rcases hr with hr | ⟨_,hr⟩ <;> cases hr) trivial
set_option maxHeartbeats 1000000 in
theorem Zc7 {P:Program} {o:Oper} {σ:Nat→AV} {T e:TypeId} {parts:Array (Nat×Operand)} {i:TypeInfo} {z:Value} {t:Nat} {cs:List AV} (ho:o.op = .buildSlice T 1 parts) (hp:parts.toList = [(0,.tmp t)]) (hT:P.underlying T=Xa (.slice e)) (hi:P.info? e=Xa i) (hz:i.zero=Xa z) (hzs:z.cells.size=i.size)
  (hs0:0 < i.size) (hbig:i.size≤1048576) (hnm:Zj P e=Xc) (hdp:Ze P (e+2097152)=Xb) (ht:σ t = .aggo cs) (hn:cs.length=i.size) (hok:∀ c∈cs,ZoO P c) :
  Jg P o σ (.own Xb (e+2097152) [cs.map (ZlK P)]) [(t,.dead)] []:=by
 have hp':parts = #[(0,.tmp t)]:=by apply XG.1;rw [hp]
 subst hp'
 intro c hc σ' tm w lim X hid hag hsim next Q hnx
 have ht':σ' t = .aggo cs:=by rw [hag t (by simp),ht]
 have hrel:=hsim.rel t
 rw [ht'] at hrel
 obtain ⟨us,hv,hul,⟨hkinds,hone⟩,hcell⟩:=(show ∃ us:List Value,tm.getD t undef = .agg us.toArray∧us.length=cs.length∧((∀ c∈cs,c.isCell=Xb∨(∃ x e xs,c = .own x e xs)∨c = .gone)∧∀ u∈us,u.oneCell'=Xb)∧
   ∀ (i:Nat) (c':AV) (u:Value),cs[i]? = Xa c'→us[i]? = Xa u→J8 c.P w lim (X t (i+1)) c' u from hrel)
 have hsz:P.cellsOf e=i.size:=ZH hi
 have hbe:bT (e+2097152)=e:=Zhe hdp
 have hdp':Ze c.P (e+2097152)=Xb:=by rw [hc];exact hdp
 obtain ⟨N,hN⟩:∃ N,N=w.heap.size:=⟨_,rfl⟩
 have hev:Act.eval ⟨tm,[]⟩ (.tmp t) = .agg us.toArray:=hv
 -- the run
 have hzl:z.cells.toList.length=i.size:=by rw [← hzs];simp
 have hfill:Instr.fill (fun j=>Xa (j*i.size,i.size)) ((UN (1*i.size)).map fun x=>z.cells[x % z.cells.size]!) [(0,.agg us.toArray)]=Xa us.toArray:=by
  have hf:=Zgg (0*i.size) us ((UN (1*i.size)).map fun x=>z.cells[x % z.cells.size]!) (by simp;omega)
  simp only [Instr.fill]
  have hcz:(Value.agg us.toArray).cells=us.toArray:=rfl
  rw [hcz]
  rw [if_neg (by simp;omega)]
  rw [hf]
  refine congrArg Xa ?_
  have h1:(((UN (1*i.size)).map fun x=>z.cells[x % z.cells.size]!).toList.drop (0*i.size+us.length)) = []:=List.drop_of_length_le (by simp;omega)
  rw [h1]
  simp
 have hrun:(execOp (Act.eval ⟨tm,[]⟩) o).run P w = .ok (.value (.slice (Xa ⟨N,0,Xe⟩) 1 1)) (w.alloc (.cells us.toArray e)):=by
  have hnb:¬ (2^24 < 1*i.size):=by omega
  have hnz:¬ (1*i.size=0):=by omega
  have hb:(Instr.buildSlice T 1 #[(0,.agg us.toArray)]).run P w = .ok (.slice (Xa ⟨N,0,Xe⟩) 1 1) (w.alloc (.cells us.toArray e)):=by
   simp only [Instr.buildSlice,Sem.run_bind,run_underlying hT,Result.andThen_ok,sizeOf,typeInfo,run_program,hi,Sem.run_pure,gt_iff_lt,if_neg hnb,if_neg hnz,zeroValue,hz]
   rw [hfill,hN]
   simp [newRow]
  simp only [execOp,ho,Sem.run_bind,Wn,Xg,Xz,hev,hb,Result.andThen_ok,Sem.run_pure]
 -- the slots
 have h1:=hsim.aggoOut ht'
 have hstep:=KJ w lim us.toArray e 0 (fun _=>False)
 obtain ⟨lim',hlim⟩:∃ lim':Lm,lim'=⟨fun b=>if b=w.heap.size then 0 else lim b,lim.t⟩:=⟨_,rfl⟩
 obtain ⟨w',hw'⟩:∃ w',w'=w.alloc (.cells us.toArray e):=⟨_,rfl⟩
 rw [← hlim,← hw'] at hstep
 have h2:=h1.world hstep fun _ hs=>hs.elim
 have hnew:w'.heap[N]? = Xa (.cells us.toArray e (0,0)):=by rw [hw',hN];exact J9 w _ e
 have htn:t < c.nt:=JL hsim (by rw [ht'];exact fun h=>by cases h) (by rw [ht'];rfl)
 have hX1:∀ d k b,Ke X t Jz d k=Xa b→d≠t∧X d k=Xa b:=fun d k b hb=>by
  by_cases hd:d=t
  ·subst hd;rw [Zl] at hb;cases hb
  ·rw [Zc X Jz hd] at hb;exact ⟨hd,hb⟩
 obtain ⟨Y,hY⟩:∃ Y:Nat→Option Nat,Y=fun j=>if (match cs[j]? with | some (.own Xb _ _)=>Xb | _=>Xc)=Xb then X t (j+1) else Xe:=⟨_,rfl⟩
 have hYs:∀ j b,Y j=Xa b→X t (j+1)=Xa b:=fun j b hb=>by
  rw [hY] at hb
  dsimp only at hb
  split at hb
  ·exact hb
  ·cases hb
 have hfresh:∀ d k,Ke X t Jz d k≠Xa N:=fun d k he=>by
  have:=(hsim.ours d k N (hX1 d k N he).2).1
  omega
 have h3:=h2.graft (X2:=Ke (Ke X t Jz) (ngN+N) Y) (fun b=>b=N) (fun d hd=>Zc _ _ (by omega)) (fun b hb=>Zc _ _ (by omega))
  (fun b hb=>by subst hb;exact ⟨(Wa.1 hnew).1,hfresh⟩) (fun b k b' hb hk=>by
   subst hb
   rw [Zl] at hk
   have hk':=hYs k b' hk
   obtain ⟨m1,m2⟩:=hsim.ours t (k+1) b' hk'
   refine ⟨XI m1 hstep.size,m2,fun d j hd=>?_,fun b2 k2 hb2 hk2=>?_⟩
   ·obtain ⟨q1,q2⟩:=hX1 d j b' hd
    exact (q1 (hsim.dist d j t (k+1) b' q2 hk').1).elim
   ·subst hb2
    rw [Zl] at hk2
    have:=(hsim.dist t (k2+1) t (k+1) b' (hYs k2 b' hk2) hk').2
    exact ⟨rfl,by omega⟩)
 have hflat:∀ j:Nat,([cs.map (ZlK P)] : List (List AV)).flatten[j]? = (cs[j]?).map (ZlK P):=fun j=>by
  simp only [List.flatten_cons,List.flatten_nil,Wc,Xk]
 have hown1:VQ c.P w' lim' Xb e [cs.map (ZlK P)] (.slice (Xa ⟨N,0,Xe⟩) 1 1) (Xa N):=by
  refine .inl ⟨us,⟨by rw [hul,hn,hc,hsz];simp,.inr ⟨N,1,us.toArray,rfl,Wh _,hnew,XD _,by unfold maxLen;omega,by simp [hc,hsz,hul,hn],by rw [hc,hsz,← hn,← hul];simp⟩⟩,rfl,fun b hb=>?_,fun x hx=>?_,fun x hx y hy=>?_,fun j y u hy hu=>?_⟩
  ·simp only [Xf] at hb
   subst hb
   rw [hlim,hN]
   simp
  ·rw [XC.1 hx,Xq,hn,hc,hsz]
  ·rw [XC.1 hx] at hy
   obtain ⟨y0,hy0,rfl⟩:=Xj.1 hy
   exact Zma (hok y0 hy0)
  ·rw [hflat] at hy
   cases hcj:cs[j]? with
   | none => rw [hcj] at hy; cases hy
   | some c0 =>
    rw [hcj] at hy
    simp only [Xo,Xf] at hy
    subst hy
    have hr:=hcell j c0 u hcj hu
    rcases hok c0 (Xh hcj) with ⟨g1,_⟩ | ⟨e1,ys,rfl,g2⟩
    ·rw [Zm9 g1]
     have:Rep w lim c0 u:=by cases c0<;>first | exact hr | (simp [AV.isCell] at g1;done)
     exact this.mono hstep.ext
    ·have h0:ZV c.P w lim Xb e1 ys u (X t (j+1)):=hr
     obtain ⟨a,n,cap,rfl⟩:=Zmn (WX h0 (by rw [hc];exact g2))
     exact .nest
 refine Zi hrun (hnx _ _ ?_)
 rw [← hw']
 show Zi4 c o.dst (upd σ' t .dead) _ tm _ w'
 refine ZT h3 (.inr (.inr ⟨rfl,.inr (.inl ⟨hdp',by rw [hbe,hc];exact hnm,by rw [hbe];exact hown1⟩)⟩)) (fun b hb=>?_) (fun _=>.mv (.inr (.inl hdp'))) fun _ _ b hb=>?_
 ·simp only [Xf] at hb
  subst hb
  refine ⟨.inr (by rw [hN];exact hsim.frm.size),fun d k he=>?_⟩
  by_cases hd:d=ngN+N
  ·subst hd
   rw [Zl] at he
   have:=(hsim.ours t (k+1) N (hYs k N he)).1
   omega
  ·rw [Zc _ _ hd] at he
   exact hfresh d k he
 ·simp only [Xf] at hb
  subst hb
  rw [Zl]
  refine ⟨⟨us.toArray,by rw [hbe];exact hnew⟩,fun j s e1 ys u hj hu=>?_⟩
  rw [hflat] at hj
  cases hcj:cs[j]? with
  | none => rw [hcj] at hj; cases hj
  | some c0 =>
   rw [hcj] at hj
   simp only [Xo,Xf] at hj
   have huj:us[j]? = Xa u:=by rw [Zh hnew] at hu;simpa using hu
   rcases hok c0 (Xh hcj) with ⟨g1,g3⟩ | ⟨e2,ys2,rfl,g2⟩
   ·rw [Zm9 g1] at hj
    rw [hj] at g3
    cases g3
   ·simp only [ZlK,AV.nest.injEq,true_and] at hj
    obtain ⟨rfl,rfl,rfl⟩:=hj
    have h0:ZV c.P w lim Xb e2 ys2 u (X t (j+1)):=hcell j _ u hcj huj
    have hYj:Y j=X t (j+1):=by rw [hY];dsimp only;rw [hcj];rfl
    rw [hYj]
    refine ⟨by rw [hc],by rw [hc];exact g2,(WX h0 (by rw [hc];exact g2)).mono hstep.ext fun b' hb'=>hstep.blk b' (hsim.ours t (j+1) b' hb').1 fun hs=>hs.elim⟩
set_option maxHeartbeats 2000000 in
theorem Zcg {P:Program} {o:Oper} {σ:Nat→AV} {cl:Call} {T e:TypeId} {i:TypeInfo} {z:Value} {tx ty:Nat} {xs ys:List (List AV)} (ho:o.op = .call cl) (hcl:cl.callee = .builtin .append)
  (hargs:cl.args.toList = [.tmp tx,.tmp ty]) (hts:cl.argTypes.toList = [T,T]) (hT:P.underlying T=Xa (.slice e)) (hi:P.info? e=Xa i) (hz:i.zero=Xa z) (hzs:z.cells.size=i.size)
  (hx:σ tx = .own Xb (e+2097152) xs) (hy:σ ty = .own Xb (e+2097152) ys) (hne:ty≠tx) (hroom:(xs.length+ys.length)*(i.bytes+1)≤ZZ) (hnm:Zj P e=Xc) (hdp:Ze P (e+2097152)=Xb)
  (hrx:∀ j k,¬ Jh (σ j) tx k) (hry:∀ j k,¬ Jh (σ j) ty k) :
  Yz .text P o σ (.own Xb (e+2097152) (xs++ys)) [(tx,.dead),(ty,.dead)] []:=by
 have hargs':cl.args = #[.tmp tx,.tmp ty]:=by apply XG.1;rw [hargs]
 have hts':cl.argTypes = #[T,T]:=by apply XG.1;rw [hts]
 intro c hc σ' tm w lim X hid hag hTx hsim next Q hnx
 have hσ:σ'=σ:=hTx
 subst hσ
 obtain ⟨D,hD⟩:∃ D,D=e+2097152:=⟨_,rfl⟩
 rw [← hD] at hx hy hdp hnx
 have hbe:bT D=e:=by rw [hD] at hdp ⊢; exact Zhe hdp
 have hdp':Ze c.P D=Xb:=by rw [hc];exact hdp
 have hnm':Zj c.P e=Xc:=by rw [hc];exact hnm
 -- both slots are given up
 obtain ⟨h1,hox,hfx⟩:=hsim.free hx (fun i k _ hr=>hrx i k hr)
 have hy1:upd σ' tx (KX c.P Xb D xs) ty = .own Xb D ys:=by rw [Zb _ _ hne];exact hy
 obtain ⟨h2,hoy,hfy⟩:=h1.free hy1 (fun i k _ hr=>by
  by_cases hi:i=tx
  ·subst hi;rw [Zs] at hr;rcases hr with hr | ⟨_,hr⟩ <;> cases hr
  ·rw [Zb _ _ hi] at hr;exact hry i k hr)
 obtain ⟨X1,hX1⟩:∃ X1,X1=Ke X tx Jz:=⟨_,rfl⟩
 rw [← hX1] at h1 h2 hoy hfx hfy
 obtain ⟨X2,hX2⟩:∃ X2,X2=Ke X1 ty Jz:=⟨_,rfl⟩
 rw [← hX2] at h2 hfy
 have hX1y:X1 ty=X ty:=by rw [hX1];exact Zc X Jz hne
 rw [hX1y] at hoy hfy
 have hle1:∀ d k b,X1 d k=Xa b→d≠tx∧X d k=Xa b:=fun d k b hb=>by
  rw [hX1] at hb
  by_cases hd:d=tx
  ·subst hd;rw [Zl] at hb;cases hb
  ·rw [Zc X Jz hd] at hb;exact ⟨hd,hb⟩
 have hle2:∀ d k b,X2 d k=Xa b→d≠tx∧d≠ty∧X d k=Xa b:=fun d k b hb=>by
  rw [hX2] at hb
  by_cases hd:d=ty
  ·subst hd;rw [Zl] at hb;cases hb
  ·rw [Zc X1 Jz hd] at hb
   obtain ⟨q1,q2⟩:=hle1 d k b hb
   exact ⟨q1,hd,q2⟩
 have hxn:tx < c.nt:=JL hsim (by rw [hx];exact fun h=>by cases h) (by rw [hx];rfl)
 have hyn:ty < c.nt:=JL hsim (by rw [hy];exact fun h=>by cases h) (by rw [hy];rfl)
 have hng:c.nt≤ngN:=hsim.ntN
 have hdbx:Zes c.P w D (X tx 0):=hsim.deepB (k:=0) (xs:=xs) (by rw [hx];rfl)
 have hdby:Zes c.P w D (X ty 0):=hsim.deepB (k:=0) (xs:=ys) (by rw [hy];rfl)
 have hx1:VQ c.P w lim Xb e xs (tm.getD tx undef) (X tx 0):=by have:=hox.one (.inr hdp') hdbx;rwa [hbe] at this
 have hyo:VQ c.P w lim Xb e ys (tm.getD ty undef) (X ty 0):=by have:=hoy.one (.inr hdp') hdby;rwa [hbe] at this
 have hnx1:∀ b,X tx 0=Xa b→VZ c.P w lim D xs b (X (ngN+b)):=fun b hb=>hsim.nst tx 0 D xs b (by rw [hx];rfl) hdp' hb
 have hny1:∀ b,X ty 0=Xa b→VZ c.P w lim D ys b (X (ngN+b)):=fun b hb=>hsim.nst ty 0 D ys b (by rw [hy];rfl) hdp' hb
 have hevx:Act.eval ⟨tm,[]⟩ (.tmp tx)=tm.getD tx undef:=rfl
 have hevy:Act.eval ⟨tm,[]⟩ (.tmp ty)=tm.getD ty undef:=rfl
 have hupd:Jm σ' [(tx,.dead),(ty,.dead)]=upd (upd σ' tx (KX c.P Xb D xs)) ty (KX c.P Xb D ys):=rfl
 have hexec:∀ v' w',(Builtin.append_ #[T,T] o.type #[tm.getD tx undef,tm.getD ty undef]).run P w = .ok v' w'→(execOp (Act.eval ⟨tm,[]⟩) o).run P w = .ok (.value v') w':=fun v' w' hr=>by
  simp only [execOp,ho,resolve,hcl,hargs',hts',Wn,Xg,Xz,Sem.run_bind,Sem.run_pure,Result.andThen_ok,invoke,builtin,hevx,hevy,hr]
 by_cases hys:ys = []
 ·subst hys
  have hvy:∃ a cap,tm.getD ty undef = .slice a 0 cap:=by
   rcases hyo with ⟨us,hr,_⟩ | ⟨_,_,a,hv⟩
   ·rcases hr.2 with ⟨hv,_⟩ | ⟨g,cap,cur,hv,_⟩
    ·exact ⟨_,_,hv⟩
    ·exact ⟨_,_,hv⟩
   ·exact ⟨_,_,hv⟩
  have hvx:∃ base cap,tm.getD tx undef = .slice base xs.length cap∧xs.length≤cap:=by
   rcases hx1 with ⟨us,hr,_⟩ | ⟨rfl,_,a,hv⟩
   ·rcases hr.2 with ⟨hv,hn⟩ | ⟨g,cap,cur,hv,_,_,hnc,_⟩
    ·exact ⟨Xe,0,by rw [hv,hn],by omega⟩
    ·exact ⟨_,cap,hv,hnc⟩
   ·exact ⟨_,0,hv,XD _⟩
  obtain ⟨a,cap,hvy⟩:=hvy
  obtain ⟨base,cap',hvx,hle⟩:=hvx
  refine Zi (hexec (tm.getD tx undef) w ?_) (hnx _ w ?_)
  ·rw [hvx,hvy];exact Wv hT hi w base xs.length cap' hle a cap
  ·rw [hupd,Wc]
   refine ZT h2 hox (fun b hb=>⟨(hfx b hb).1,fun d k he=>?_⟩) (fun _=>.mv (.inr (.inl hdp'))) fun _ _ b hb=>?_
   ·obtain ⟨q1,q2,q3⟩:=hle2 d k b he
    exact q1 (hsim.dist d k tx 0 b q3 hb).1
   ·have:X2 (ngN+b)=X (ngN+b):=by rw [hX2,Zc X1 Jz (by omega),hX1,Zc X Jz (by omega)]
    rw [this]
    exact hnx1 b hb
 ·rcases hyo with ⟨vs,hr,hob,hlimy,hyl,hyc,hyr⟩ | ⟨hye,_⟩
  case inr=>exact (hys hye).elim
  rcases hr.2 with ⟨_,hn⟩ | ⟨b2,cap2,cur2,hv2,hb2,hg2,hnc2,hcm2,hcs2,htk2⟩
  ·exact (hys (XY hn)).elim
  have hXy:X ty 0=Xa b2:=by rw [← hob,hv2];rfl
  have hvcell:∀ (j:Nat) (u:Value),vs[j]? = Xa u→w.cell? ⟨b2,0+j,Xe⟩=Xa u:=fun j u hj=>by
   have:=hr.cells (g:=b2) (by rw [hv2];rfl) j u hj
   rw [Jc] at this
   exact this
  obtain ⟨v',w',lim',ob',r1,r2,r3,r4,us,b',arr,r5,r6,r7,r8,r9⟩:=Zd9 (ty:=o.type) (x:=Xb) (by rw [hc];exact hT) (by rw [hc];exact hi) hz hzs hx1.own hys hv2 hyl hyc hr.1 hvcell hyr hroom hnm'
  rw [hc] at r1
  subst r5
  obtain ⟨L,hL⟩:∃ L,L=xs.length*c.P.cellsOf e:=⟨_,rfl⟩
  have hxl:∀ x∈xs,x.length=c.P.cellsOf e:=by
   rcases hx1 with ⟨_,_,_,_,h4,_⟩ | ⟨rfl,_⟩
   ·exact h4
   ·simp
  have hfl:xs.flatten.length=L:=by rw [Zg xs _ hxl,hL]
  have hul:us.length=L:=by rw [r6,hL]
  have hbx:∀ b,X tx 0=Xa b→∀ d k,X2 d k≠Xa b:=fun b hb d k he=>by
   obtain ⟨q1,q2,q3⟩:=hle2 d k b he
   exact q1 (hsim.dist d k tx 0 b q3 hb).1
  have hby:∀ d k,X2 d k≠Xa b2:=fun d k he=>by
   obtain ⟨q1,q2,q3⟩:=hle2 d k b2 he
   exact q2 (hsim.dist d k ty 0 b2 q3 hXy).1
  have h3:=h2.world r3 (fun b hb=>⟨(hfx b hb).1,hbx b hb⟩)
  have hnew:∀ d k,X d k≠Xa w.heap.size:=fun d k he=>by
   have:=(hsim.ours d k _ he).1
   omega
  have hb'X:∀ d k,X2 d k≠Xa b':=fun d k=>by
   rcases r4 with r4 | r4
   ·exact hbx b' r4.symm d k
   ·intro he
    simp only [Xf] at r4
    exact hnew d k (r4 ▸ (hle2 d k b' he).2.2)
  have hb'l:b' < w'.heap.size:=(Wa.1 r7).1
  -- what the cells own
  obtain ⟨Y,hY⟩:∃ Y:Nat→Option Nat,Y=fun j=>if j < L then (match X tx 0 with | some b=>X (ngN+b) j | none=>Xe) else X (ngN+b2) (j-L):=⟨_,rfl⟩
  have hYs:∀ j b,Y j=Xa b→(∃ b1,X tx 0=Xa b1∧j < L∧X (ngN+b1) j=Xa b)∨(L≤j∧X (ngN+b2) (j-L)=Xa b):=fun j b hb=>by
   rw [hY] at hb
   dsimp only at hb
   split at hb
   ·rename_i hj
    cases hx0:X tx 0 with
    | none => rw [hx0] at hb; cases hb
    | some b1 => rw [hx0] at hb; exact .inl ⟨b1, rfl, hj, hb⟩
   ·exact .inr ⟨by omega,hb⟩
  obtain ⟨X3,hX3⟩:∃ X3:Nat→Nat→Option Nat,X3=fun d=>if d=ngN+b' then Y else if d=ngN+b2∨(∃ b1,X tx 0=Xa b1∧d=ngN+b1) then Jz else X2 d:=⟨_,rfl⟩
  have hb12:∀ b1,X tx 0=Xa b1→b1≠b2:=fun b1 hb1 he=>by
   subst he
   exact hne (hsim.dist ty 0 tx 0 b1 hXy hb1).1
  have h4:=h3.graft (X2:=X3) (fun b=>b=b'∨b=b2∨X tx 0=Xa b) (fun d hd=>by
    rw [hX3]
    dsimp only
    rw [if_neg (by omega),if_neg (by rintro (h | ⟨_,_,h⟩)<;>omega)]) (fun b hb=>by
    rw [hX3]
    dsimp only
    rw [if_neg (fun h=>hb (.inl (by omega))),if_neg (by
     rintro (h | ⟨b1,q1,h⟩)
     ·exact hb (.inr (.inl (by omega)))
     ·exact hb (.inr (.inr (by rw [q1];exact congrArg Xa (by omega)))))])
   (fun b hb=>by
    rcases hb with rfl | rfl | hb
    ·exact ⟨hb'l,hb'X⟩
    ·exact ⟨XI (hsim.ours ty 0 _ hXy).1 r3.size,hby⟩
    ·exact ⟨XI (hsim.ours tx 0 _ hb).1 r3.size,hbx b hb⟩)
   (fun b k bb hb hk=>by
    have hkY:b=b'∧Y k=Xa bb:=by
     rw [hX3] at hk
     dsimp only at hk
     by_cases he:b=b'
     ·subst he;rw [if_pos rfl] at hk;exact ⟨rfl,hk⟩
     ·rw [if_neg (by omega)] at hk
      rcases hb with h | rfl | hb
      ·exact (he h).elim
      ·rw [if_pos (.inl rfl)] at hk;cases hk
      ·rw [if_pos (.inr ⟨b,hb,rfl⟩)] at hk;cases hk
    obtain ⟨rfl,hkY⟩:=hkY
    -- the block is owned by one of the two slices' cells
    have hsrc:∃ d0 k0,X d0 k0=Xa bb∧((∃ b1,X tx 0=Xa b1∧d0=ngN+b1)∨d0=ngN+b2):=by
     rcases hYs k bb hkY with ⟨b1,q1,_,q2⟩ | ⟨_,q2⟩
     ·exact ⟨_,_,q2,.inl ⟨b1,q1,rfl⟩⟩
     ·exact ⟨_,_,q2,.inr rfl⟩
    obtain ⟨d0,k0,q0,qd⟩:=hsrc
    refine ⟨XI (hsim.ours d0 k0 bb q0).1 r3.size,(hsim.ours d0 k0 bb q0).2,fun d j hd=>?_,fun b3 k3 hb3 hk3=>?_⟩
    ·obtain ⟨_,_,q3⟩:=hle2 d j bb hd
     have hdd:=(hsim.dist d j d0 k0 bb q3 q0).1
     rcases qd with ⟨b1,q1,q2⟩ | q2
     ·exact ⟨by omega,.inr (.inr (by rw [q1];exact congrArg Xa (by omega)))⟩
     ·exact ⟨by omega,.inr (.inl (by omega))⟩
    ·have hkY3:b3=b∧Y k3=Xa bb:=by
      rw [hX3] at hk3
      dsimp only at hk3
      by_cases he:b3=b
      ·subst he;rw [if_pos rfl] at hk3;exact ⟨rfl,hk3⟩
      ·rw [if_neg (by omega)] at hk3
       rcases hb3 with h | rfl | hb3
       ·exact (he h).elim
       ·rw [if_pos (.inl rfl)] at hk3;cases hk3
       ·rw [if_pos (.inr ⟨b3,hb3,rfl⟩)] at hk3;cases hk3
     obtain ⟨rfl,hkY3⟩:=hkY3
     refine ⟨rfl,?_⟩
     rcases hYs k bb hkY with ⟨b1,q1,q2,q3⟩ | ⟨q2,q3⟩ <;> rcases hYs k3 bb hkY3 with ⟨b1',p1,p2,p3⟩ | ⟨p2,p3⟩
     ·exact (hsim.dist _ k3 _ k bb p3 q3).2
     ·have:=(hsim.dist _ _ _ _ bb p3 q3).1
      exact (hb12 b1 q1 (by omega)).elim
     ·have:=(hsim.dist _ _ _ _ bb p3 q3).1
      exact (hb12 b1' p1 (by omega)).elim
     ·have:=(hsim.dist _ _ _ _ bb p3 q3).2
      omega)
  have hX3b:X3 (ngN+b')=Y:=by rw [hX3];exact if_pos rfl
  refine Zi (hexec v' w' r1) (hnx _ w' ?_)
  rw [hupd]
  have hkeep:∀ d k b,ngN≤d→X d k=Xa b→Zeh w lim w' lim' b:=fun d k b hd hb=>r3.blk b (hsim.ours d k b hb).1 fun hs=>by
   have:=(hsim.dist d k tx 0 b hb hs).1
   omega
  refine ZT h4 (.inr (.inr ⟨rfl,.inr (.inl ⟨hdp',by rw [hbe];exact hnm',by rw [hbe];exact WX r2 hnm'⟩)⟩)) (fun b hb=>?_) (fun _=>.mv (.inr (.inl hdp'))) fun _ _ b hb=>?_
  ·simp only [Xf] at hb
   subst hb
   refine ⟨?_,fun d k he=>?_⟩
   ·rcases r4 with r4 | r4
    ·exact (hfx _ r4.symm).1
    ·simp only [Xf] at r4
     rw [r4]
     exact .inr hsim.frm.size
   ·rw [hX3] at he
    dsimp only at he
    split at he
    ·have hb'n:∀ d0 k0,ngN≤d0→X d0 k0≠Xa b':=fun d0 k0 hd0 hk0=>by
      rcases r4 with r4 | r4
      ·have:=(hsim.dist d0 k0 tx 0 b' hk0 r4.symm).1
       omega
      ·simp only [Xf] at r4
       exact hnew d0 k0 (r4 ▸ hk0)
     rcases hYs k b' he with ⟨b1,_,_,q3⟩ | ⟨_,q3⟩
     ·exact hb'n _ _ (by omega) q3
     ·exact hb'n _ _ (by omega) q3
    ·split at he
     ·cases he
     ·exact hb'X d k he
  ·simp only [Xf] at hb
   subst hb
   rw [hX3b]
   refine ⟨⟨arr,by rw [hbe];exact r7⟩,fun j s e1 zs u hz hu=>?_⟩
   rw [Zh r7] at hu
   have hyfl:ys.flatten.length=vs.length:=by rw [Zg ys _ hyl,hr.1]
   have hjl:j < L+vs.length:=by
    have:=(Xi.1 hz).1
    rw [Us,XA,hfl,hyfl] at this
    exact this
   have huv:(us++vs)[j]? = Xa u:=by
    rw [← r8,Xw,if_pos (by rw [XA,hul];exact hjl)]
    simpa using hu
   rw [Us] at hz
   by_cases hj:j < L
   ·rw [Xv (by omega)] at hz huv
    cases hx0:X tx 0 with
    | none =>
     exfalso
     rcases hx1 with ⟨us1,hr1,hob1,_⟩ | ⟨hxe,_⟩
     ·rcases hr1.2 with ⟨_,hn⟩ | ⟨g,cap,cur,hv,_⟩
      ·rw [hL,hn] at hj;simp at hj
      ·rw [hv,hx0] at hob1;cases hob1
     ·rw [hL,hxe] at hj;simp at hj
    | some b1 =>
     have hYj:Y j=X (ngN+b1) j:=by rw [hY];dsimp only;rw [if_pos hj,hx0]
     rw [hYj]
     obtain ⟨q1,q2,q3⟩:=(hnx1 b1 hx0).2 j s e1 zs u hz (r9 b1 hx0 j u huv)
     exact ⟨q1,q2,q3.mono r3.ext fun b hb=>hkeep _ _ b (by omega) hb⟩
   ·rw [Xy (by omega),hfl] at hz
    rw [Xy (by omega),hul] at huv
    have hYj:Y j=X (ngN+b2) (j-L):=by rw [hY];dsimp only;rw [if_neg hj]
    rw [hYj]
    have hc2:=hvcell (j-L) u huv
    rw [XF] at hc2
    obtain ⟨q1,q2,q3⟩:=(hny1 b2 hXy).2 (j-L) s e1 zs u hz hc2
    exact ⟨q1,q2,q3.mono r3.ext fun b hb=>hkeep _ _ b (by omega) hb⟩
open Go.MapKept
theorem ZeX {P:Program} {T:TypeId} {z:Value} (h:K5 P T=Xa z):∃ kt vt i,P.underlying T=Xa (.map kt vt)∧P.underlying kt=Xa (.int .i64)∧P.info? vt=Xa i∧i.zero=Xa z∧Ys z z=Xb:=by
 unfold K5 at h
 split at h
 ·rename_i kt vt hT
  split at h
  ·rename_i i h1 h2
   split at h
   ·rename_i b hz
    cases h
    exact ⟨kt,vt,i,hT,h1,h2,hz,rfl⟩
   ·rename_i k z0 hz
    cases h
    exact ⟨kt,vt,i,hT,h1,h2,hz,by simp [Ys]⟩
   ·cases h
  ·cases h
 ·cases h
theorem KV {u z:Value} (h:Ys u z=Xb):ZdB u=Xb:=by
 cases u<;>cases z<;>simp [Ys] at h<;>rfl
theorem Zjm {c:Ctx} {σ:Nat→AV} {tm:Array Value} {w:World} {lim:Lm} {X:Nat→Nat→Option Nat} (h:Sim c σ tm w lim X) {d:Nat} {e:TypeId} {kvs:List (List AV)} {z:Value} (hd:σ d = .own Xb e [[.slice Xc 2 kvs]]) (h0:c.P.cellsOf e=0) (hz:K5 c.P (e-1048576)=Xa z) (hk:JE c.P (e-1048576)=Xe) (hlt:e < 2097152) :
  ∃ b es clock,X d 0=Xa b∧tm.getD d undef = .map (Xa b)∧w.heap[b]? = Xa (.map es clock)∧lim b=0∧es.size=kvs.length∧Stamped es clock∧
   ∀ (i:Nat) (en:MapEntry) (row:List AV),es[i]? = Xa en→kvs[i]? = Xa row→∃ (k:Int) (u:Value),row = [.val (.int .i64 k),.val u]∧en.key = .int .i64 k∧en.val=u∧Ys u z=Xb:=by
 have hr:=h.rel d
 rw [hd] at hr
 rcases (show ZV c.P w lim Xb e _ _ (X d 0) from hr) with ⟨us,_,_,_,h4,_⟩ | ⟨h1,_⟩ | ⟨_,⟨_,_,_,_,_,_,het,_⟩ | ⟨hd',_⟩ | ⟨_,b,es,clock,kvs',z',⟨hz',_,_⟩,h1,h2,h3,h4,h5,h6,h7,h8⟩⟩
 ·have:=h4 _ (XC.2 rfl)
  rw [h0] at this
  cases this
 ·cases h1
 ·rw [hk] at het;cases het
 ·rw [YS hlt] at hd';cases hd'
 ·simp only [List.cons.injEq,AV.slice.injEq,true_and,and_true] at h5
  subst h5
  rw [hz] at hz'
  cases hz'
  exact ⟨b,es,clock,h1,h2,h3,h4,h6,h7,h8⟩
theorem Zrh {c:Ctx} {σ:Nat→AV} {tm:Array Value} {w:World} {lim:Lm} {X:Nat→Nat→Option Nat} (h:Sim c σ tm w lim X) {d k:Nat} {e:TypeId} {kvs:List (List AV)} {z:Value} (hd:σ d = .own Xb e [[.slice Xc 2 kvs]]) (h0:c.P.cellsOf e=0) (hz:K5 c.P (e-1048576)=Xa z) (hk:JE c.P (e-1048576)=Xe) (hlt:e < 2097152) {v:Value}
  (hv:ZQ c.P w lim X σ k (.mref d 0) v):v=tm.getD d undef:=by
 obtain ⟨b,es,clock,h1,h2,h3,_⟩:=Zjm h hd h0 hz hk hlt
 obtain ⟨e',xs',m1,m2⟩:=hv
 rw [hd] at m1
 simp only [Zp,Xf,Xn] at m1
 obtain ⟨rfl,rfl⟩:=m1
 rcases m2 with ⟨m2,_⟩ | ⟨b',arr,cap,m2,m3,_⟩ | ⟨_,_,b',arr,cap,m2,m3,_⟩ | ⟨_,_,b',es',clock',m2,m3,m4⟩
 ·rw [h1] at m2;cases m2
 ·rw [h1] at m2;cases m2;rw [h3] at m3;cases m3
 ·rw [h1] at m2;cases m2;rw [h3] at m3;cases m3
 ·rw [h1] at m2;cases m2;rw [m4,h2]
theorem ZfW {P:Program} {o:Oper} {σ:Nat→AV} {T:TypeId} {z:Value} (ho:o.op = .makeMap T Xe) (hz:K5 P T=Xa z) (hk:JE P T=Xe) (hlt:T+1048576 < 2097152):Jg P o σ (.own Xb (T+1048576) [[.slice Xc 2 []]]) [] []:=by
 intro c hc σ' tm w lim X hid hag hsim next Q hn
 have hstep:=Zdy (w:=w) (lim:=lim) (.map #[] 0) (fun _=>False)
 have hw2:=hsim.world hstep fun _ hs=>hs.elim
 have hnew:(w.alloc (.map #[] 0)).heap[w.heap.size]? = Xa (.map #[] 0):=heap_alloc_new w _
 refine Zi (v:=.map (Xa w.heap.size)) (w':=w.alloc (.map #[] 0)) ?_ (hn _ _ (ZT (ob:=Xa w.heap.size) hw2 (.inr (.inr ⟨rfl,.inr (.inr ⟨by simp [Zj],w.heap.size,#[],0,[],z,⟨by rw [X4,hc];exact hz,by rw [X4,hc];exact hk,hlt⟩,rfl,rfl,hnew,if_pos rfl,rfl,rfl,stamped_empty 0,fun i en row h=>by simp at h⟩)⟩)) (fun b hb=>?_) (fun _=>.mv (.inr (.inr (.inl rfl)))) fun _ hd=>by rw [YS hlt] at hd;cases hd))
 ·have hr:(Instr.makeMap T Xe).run P w = .ok (.map (Xa w.heap.size)) (w.alloc (.map #[] 0)):=rfl
  simp only [execOp,ho,Option.map_none,hr,Sem.run_bind,Result.andThen_ok,Sem.run_pure]
 ·cases hb
  exact ⟨.inr hsim.frm.size,fun i j=>Yi hsim i j⟩
theorem ZhP {c:Ctx} {σ:Nat→AV} {tm:Array Value} {w:World} {lim:Lm} {X:Nat→Nat→Option Nat} (h:Sim c σ tm w lim X) {d:Nat} {e T:TypeId} {kvs:List (List AV)} {z:Value} (hd:σ d = .own Xb e [[.slice Xc 2 kvs]]) (h0:c.P.cellsOf e=0) (he:e=T+1048576) (hz:K5 c.P T=Xa z) (hk:JE c.P T=Xe) (hlt:e < 2097152) (k:Int) (ok:Bool) :
  ∃ u f,ZlF [[.slice Xc 2 kvs]] k [.val z] = [[.val u,.val (.bool f)]]∧Ys u z=Xb∧(Instr.lookup T (tm.getD d undef) (.int .i64 k) ok).run c.P w = .ok (if ok=Xb then .tuple #[u,.bool f] else u) w:=by
 have hz':K5 c.P (e-1048576)=Xa z:=by rw [he,X4];exact hz
 have hk':JE c.P (e-1048576)=Xe:=by rw [he,X4];exact hk
 obtain ⟨b,es,clock,hX,hv,hb,hlb,hl,hs,hr⟩:=Zjm h hd h0 hz' hk' hlt
 obtain ⟨kt,vt,i,hT,hkt,hi,hzz,hsc⟩:=ZeX hz
 obtain ⟨_,hfind⟩:=Vg hl hs (fun i en row h1 h2=>by obtain ⟨k,u,g1,g2,_⟩:=hr i en row h1 h2;exact ⟨k,_,g1,g2⟩) k
 have hzr:(zeroValue vt).run c.P w = .ok z w:=by simp [zeroValue,typeInfo,run_program,hi,hzz]
 rcases hfind with ⟨h1,_,h2⟩ | ⟨j,en,row,h1,h2,h3,h4,h5,h6,h7⟩
 ·have hgn:kvs.find? (fun r=>ZM r == Xa k)=Xe:=List.find?_eq_none.2 fun r hr=>by simpa using h2 r hr
  refine ⟨z,Xc,by simp [ZlF,Y0,hgn],hsc,?_⟩
  ·rw [hv]
   cases ok<;>simp [Instr.lookup,run_underlying hT,MapKept.run_getObj_map hb,MapKept.run_checkKey hkt (Jo k),MapKept.run_findKey hkt h1,hzr,Result.andThen]
 ·obtain ⟨k2,u,p1,p2,p3,p4⟩:=hr j en row h2 h3
  refine ⟨u,Xb,by simp [ZlF,Y0,h6,p1],p4,?_⟩
  rw [hv,← p3]
  cases ok<;>simp [Instr.lookup,run_underlying hT,MapKept.run_getObj_map hb,MapKept.run_checkKey hkt (Jo k),MapKept.run_findKey hkt h1,Result.andThen]
theorem ZhZ {P:Program} {o:Oper} {σ:Nat→AV} {T e:TypeId} {m kx:Operand} {d:Nat} {kvs:List (List AV)} {k:Int} {z u:Value} {f:Bool} (ho:o.op = .lookup T m kx Xc) (hz:K5 P T=Xa z) (hk:JE P T=Xe) (hlt:e < 2097152) (hm:Zn P σ m = .mref d 0) (hd:σ d = .own Xb e [[.slice Xc 2 kvs]]) (h0:P.cellsOf e=0) (he:e=T+1048576)
  (hkx:Zn P σ kx = .val (.int .i64 k)) (hrow:ZlF [[.slice Xc 2 kvs]] k [.val z] = [[.val u,.val (.bool f)]]):Jg P o σ (.val u) [] [d]:=by
 refine Zt [d] rfl fun c hc σ' tm w lim X hg hfp hsim=>?_
 subst hc
 rw [ho] at hg
 have hv:=JF rfl hsim hm (hg m (by simp [Op.operands]))
 have hkv:=ZP rfl hsim hkx (hg kx (by simp [Op.operands]))
 have hd':σ' d = .own Xb e [[.slice Xc 2 kvs]]:=by rw [hfp d (by simp),hd]
 have hmv:=Zrh hsim hd' h0 (by rw [he,X4];exact hz) (by rw [he,X4];exact hk) hlt hv
 obtain ⟨u',f',g1,g2,g3⟩:=ZhP hsim hd' h0 he hz hk hlt k Xc
 rw [hrow] at g1
 simp only [List.cons.injEq,AV.val.injEq,Value.bool.injEq,and_true] at g1
 obtain ⟨rfl,rfl⟩:=g1
 rw [if_neg (by simp)] at g3
 refine ⟨u,?_,.val (KV g2)⟩
 simp only [execOp,ho,hmv,hkv,g3,Sem.run_bind,Result.andThen_ok,Sem.run_pure]
theorem ZcS {P:Program} {o:Oper} {σ:Nat→AV} {T e:TypeId} {m kx:Operand} {d:Nat} {kvs:List (List AV)} {k:Int} {z u:Value} {f:Bool} (ho:o.op = .lookup T m kx Xb) (hz:K5 P T=Xa z) (hk:JE P T=Xe) (hlt:e < 2097152) (hm:Zn P σ m = .mref d 0) (hd:σ d = .own Xb e [[.slice Xc 2 kvs]]) (h0:P.cellsOf e=0) (he:e=T+1048576)
  (hkx:Zn P σ kx = .val (.int .i64 k)) (hrow:ZlF [[.slice Xc 2 kvs]] k [.val z] = [[.val u,.val (.bool f)]]):Jg P o σ (.tuple [.val u,.val (.bool f)]) [] [d]:=by
 intro c hc σ' tm w lim X hid hag hsim next Q hn
 subst hc
 have hg:∀ y∈o.op.operands,Zn c.P σ' y=Zn c.P σ y:=fun y hy=>Zw fun t ht=>hid t (by simp [Zo hy ht])
 rw [ho] at hg
 have hv:=JF rfl hsim hm (hg m (by simp [Op.operands]))
 have hkv:=ZP rfl hsim hkx (hg kx (by simp [Op.operands]))
 have hd':σ' d = .own Xb e [[.slice Xc 2 kvs]]:=by rw [hag d (by simp),hd]
 have hmv:=Zrh hsim hd' h0 (by rw [he,X4];exact hz) (by rw [he,X4];exact hk) hlt hv
 obtain ⟨u',f',g1,g2,g3⟩:=ZhP hsim hd' h0 he hz hk hlt k Xb
 rw [hrow] at g1
 simp only [List.cons.injEq,AV.val.injEq,Value.bool.injEq,and_true] at g1
 obtain ⟨rfl,rfl⟩:=g1
 rw [if_pos rfl] at g3
 refine Zi (v:=.tuple #[u,.bool f]) (w':=w) ?_ (hn _ w ?_)
 ·simp only [execOp,ho,hmv,hkv,g3,Sem.run_bind,Result.andThen_ok,Sem.run_pure]
 ·have hrel:ZQ c.P w lim (Ke X 0 Jz) (upd σ' 0 .dead) 0 (.tuple [.val u,.val (.bool f)]) (.tuple #[u,.bool f]):=by
   refine ⟨[u,.bool f],rfl,rfl,fun i c u' hc hu=>?_⟩
   match i with
   | 0 => simp at hc hu; subst hc; subst hu; exact .val (KV g2)
   | 1 => simp at hc hu; subst hc; subst hu; exact .val rfl
   | i + 2 => simp at hc
  cases hdst:o.dst with
  | none => exact ⟨lim, X, hsim⟩
  | some d2 =>
   intro hd2 hmp
   refine ⟨lim,_,hsim.putRow Jz (ZU.refl w lim (fun _=>False)) (fun _ hs=>hs.elim) hd2 (tm':=tm.setIfInBounds d2 (.tuple #[u,.bool f])) (by simp) (fun i hi=>ZD tm d2 i _ hi) (.inl (ZA hmp).1) (fun i q hi hr=>(hsim.noRefs (ZA hmp).none i q hi hr).elim) ?_
    (fun k b hk=>by simp [Jz] at hk) (fun k k' b hk=>by simp [Jz] at hk) rfl (fun e xs he=>by cases he) (fun k e xs b he _ hb=>by simp [Jz] at hb)⟩
   rw [Jp tm d2 _ (by rw [hsim.size];exact hd2)]
   refine ⟨[u,.bool f],rfl,rfl,fun i c u' hc hu=>?_⟩
   match i with
   | 0 => simp at hc hu; subst hc; subst hu; exact .val (KV g2)
   | 1 => simp at hc hu; subst hc; subst hu; exact .val rfl
   | i + 2 => simp at hc
theorem Sim.mapFillV {c:Ctx} {σ:Nat→AV} {tm:Array Value} {w:World} {lim:Lm} {X:Nat→Nat→Option Nat} (h:Sim c σ tm w lim X) {d:Nat} {e T:TypeId} {kvs:List (List AV)} {z:Value} (k:Int) (hd:σ d = .own Xb e [[.slice Xc 2 kvs]]) (h0:c.P.cellsOf e=0) (he:e=T+1048576) (hz:K5 c.P T=Xa z) (hk:JE c.P T=Xe) (hlt:e < 2097152) {u:Value} (hu:Ys u z=Xb) :
  ∃ w' X',(Instr.mapUpdate T (tm.getD d undef) (.int .i64 k) u).run c.P w = .ok () w'∧Sim c (upd σ d (.own Xb e (ZsZ [[.slice Xc 2 kvs]] k [.val u]))) tm w' lim X':=by
 have hz':K5 c.P (e-1048576)=Xa z:=by rw [he,X4];exact hz
 have hk':JE c.P (e-1048576)=Xe:=by rw [he,X4];exact hk
 obtain ⟨b,es,clock,hX,hvd,hb,hlb,hl,hs,hr⟩:=Zjm h hd h0 hz' hk' hlt
 obtain ⟨kt,vt,i,hT,hkt,hi,hzz,hsc⟩:=ZeX hz
 have hdn:d < c.nt:=JL h (by rw [hd];exact fun h=>by cases h) (by rw [hd];rfl)
 obtain ⟨hkeys,hfind⟩:=Vg hl hs (fun i en row h1 h2=>by obtain ⟨k,u,g1,g2,_⟩:=hr i en row h1 h2;exact ⟨k,_,g1,g2⟩) k
 have hm:Zj c.P e=Xb:=decide_eq_true (by rw [he];exact Nat.le_add_left _ _)
 have fill:∀ (es':Array MapEntry) (clock':Nat) (kvs':List (List AV)),es'.size=kvs'.length→Stamped es' clock'→
   (∀ (i:Nat) (en:MapEntry) (row:List AV),es'[i]? = Xa en→kvs'[i]? = Xa row→∃ (k:Int) (u:Value),row = [.val (.int .i64 k),.val u]∧en.key = .int .i64 k∧en.val=u∧Ys u z=Xb)→
   Sim c (upd σ d (.own Xb e [[.slice Xc 2 kvs']])) tm (JN w b (.map es' clock')) lim (Ke X d (X d)):=by
  intro es' clock' kvs' g1 g2 g3
  have hstep:=WC (es':=es') (clock':=clock') hb hlb
  refine h.putRow (S:=fun b'=>b'=b) (X d) hstep (fun b' hb'=>⟨0,by rw [hb'];exact hX⟩) hdn rfl (fun _ _=>rfl) (.inl fun cs hcs=>by rw [hd] at hcs;cases hcs) (fun i q hi hq=>⟨?_,rfl,fun b' hb'=>?_⟩) ?_
   (fun q b' hq=>⟨XI (h.ours d q b' hq).1 hstep.size,(h.ours d q b' hq).2,fun i j hij hx=>hij (h.dist i j d q b' hx hq).1⟩) (fun q q' b' hq hq'=>(h.dist d q d q' b' hq hq').2) rfl (fun e1 xs1 he1=>?_) (fun k1 e1 xs1 b1 m1 m2 _=>?_)
  ·intro e1 xs1 hoa
   rw [hd] at hoa
   cases q with
   | zero => simp only [Zp, Xf, Xn] at hoa; obtain ⟨rfl, rfl⟩ := hoa; exact ⟨_, rfl, rfl⟩
   | succ q => cases hoa
  ·by_cases hbb:b'=b
   ·subst hbb
    refine ⟨fun arr t m=>?_,fun es1 clock1 _=>⟨es',clock',YB hb⟩⟩
    rw [hb] at m;cases m
   ·exact .of (Yf hbb)
  ·show ZV c.P _ lim Xb e _ _ (Ke X d (X d) d 0)
   rw [Zl]
   exact .inr (.inr ⟨rfl,.inr (.inr ⟨hm,b,es',clock',kvs',z,⟨hz',hk',hlt⟩,hX,hvd,YB hb,hlb,rfl,g1,g2,g3⟩)⟩)
  ·injection he1 with _ h1 h2
   subst h1
   exact .mv (.inr (.inr (.inr hk')))
  ·cases k1 with
   | zero =>
    simp only [ZY,Xf,Xn] at m1
    rw [← m1.1,YS hlt] at m2
    cases m2
   | succ k1 => simp [ZY] at m1
 rcases hfind with ⟨h1,h2,h3⟩ | ⟨j,en,row,h1,h2,h3,h4,h5,h6,h7⟩
 ·refine ⟨JN w b (.map (es.push ⟨.int .i64 k,u,clock⟩) (clock+1)),Ke X d (X d),?_,?_⟩
  rotate_left
  ·have:=fill (es.push ⟨.int .i64 k,u,clock⟩) (clock+1) (kvs++[[.val (.int .i64 k),.val u]]) (by simp [hl]) (stamped_push hs h2) (fun i en row m1 m2=>by
    by_cases hij:i=es.size
    ·subst hij
     rw [Te,if_pos rfl] at m1
     rw [Xy (by omega)] at m2
     simp [hl] at m2
     cases m1
     exact ⟨k,u,m2.symm,rfl,rfl,hu⟩
    ·have hlt:i < es.size:=by
      have:=(Wa.1 m1).1
      simp at this
      omega
     rw [Te,if_neg (by omega)] at m1
     rw [Xv (by omega)] at m2
     exact hr i en row m1 m2)
   simp only [ZsZ,Y0,List.headD_cons,put_new h3]
   exact this
  ·rw [hvd]
   simp [Instr.mapUpdate,run_underlying hT,MapKept.run_getObj_map hb,MapKept.run_checkKey hkt (Jo k),MapKept.run_findKey hkt h1,MapKept.run_setObj_map _ hb,Result.andThen,JN]
 ·have hj:es[j]? = Xa en:=h2
  have hjl:j < es.size:=(Wa.1 h2).1
  have hkeyf:∀ e',es[j]? = Xa e'→({ e' with key:=.int .i64 k,val:=u } : MapEntry).key=e'.key:=fun e' he'=>by rw [hj] at he';cases he';exact h4.symm
  refine ⟨JN w b (.map (es.modify j fun e'=>{ e' with key:=.int .i64 k,val:=u }) clock),Ke X d (X d),?_,?_⟩
  rotate_left
  ·have hlen:=ZfJ (cl:=.val u) h3 h5
   have:=fill (es.modify j fun e'=>{ e' with key:=.int .i64 k,val:=u }) clock (YF kvs k (.val u)) (by rw [Array.size_modify,hl,hlen]) (stamped_modify hs _ _ (fun _ _=>rfl) (fun e' _ he'=>hkeyf e' he')) (fun i en' row' m1 m2=>by
    have m3:=Zco (cl:=.val u) h3 h5 h7 i row' m2
    by_cases hij:i=j
    ·subst hij
     rw [if_pos rfl] at m3
     rw [U0,if_pos rfl,hj] at m1
     simp only [Xo,Xf] at m1
     subst m1
     exact ⟨k,u,m3,rfl,rfl,hu⟩
    ·rw [if_neg hij] at m3
     rw [U0,if_neg (by omega)] at m1
     exact hr i en' row' m1 m3.1)
   simp only [ZsZ,Y0,List.headD_cons]
   exact this
  ·rw [hvd]
   simp [Instr.mapUpdate,run_underlying hT,MapKept.run_getObj_map hb,MapKept.run_checkKey hkt (Jo k),MapKept.run_findKey hkt h1,hj,h4,MapKept.run_keyThatStays (Jo k),MapKept.run_setObj_map _ hb,Result.andThen,JN]
theorem ZhH {P:Program} {o:Oper} {σ:Nat→AV} {T e:TypeId} {m kx vx:Operand} {d:Nat} {kvs:List (List AV)} {k:Int} {z u:Value} (ho:o.op = .insert T m kx vx∨o.op = .mapUpdate T m kx vx) (hz:K5 P T=Xa z) (hk:JE P T=Xe) (hlt:e < 2097152) (hm:Zn P σ m = .mref d 0) (hd:σ d = .own Xb e [[.slice Xc 2 kvs]]) (h0:P.cellsOf e=0) (he:e=T+1048576)
  (hkx:Zn P σ kx = .val (.int .i64 k)) (hvx:Zn P σ vx = .val u) (hu:Ys u z=Xb):Jg P o σ .dead [(d,.own Xb e (ZsZ [[.slice Xc 2 kvs]] k [.val u]))] []:=by
 intro c hc σ' tm w lim X hid hag hsim next Q hn
 subst hc
 have hg:∀ y∈o.op.operands,Zn c.P σ' y=Zn c.P σ y:=fun y hy=>Zw fun t ht=>hid t (by simp [Zo hy ht])
 have hgm:=hg m (by rcases ho with ho | ho<;>rw [ho]<;>simp [Op.operands])
 have hgk:=hg kx (by rcases ho with ho | ho<;>rw [ho]<;>simp [Op.operands])
 have hgv:=hg vx (by rcases ho with ho | ho<;>rw [ho]<;>simp [Op.operands])
 have hv:=JF rfl hsim hm hgm
 have hkv:=ZP rfl hsim hkx hgk
 have hvv:=ZP rfl hsim hvx hgv
 have hd':σ' d = .own Xb e [[.slice Xc 2 kvs]]:=by rw [hag d (by simp),hd]
 have hmv:=Zrh hsim hd' h0 (by rw [he,X4];exact hz) (by rw [he,X4];exact hk) hlt hv
 obtain ⟨w',X',r1,r2⟩:=hsim.mapFillV k hd' h0 he hz hk hlt hu
 refine JA (w':=w') ?_ (hn undef w' (Zq r2 rfl (k:=0) trivial))
 rcases ho with ho | ho<;>simp only [execOp,ho,hmv,hkv,hvv,r1,Sem.run_bind,Result.andThen_ok,Sem.run_pure]
def Zs9 (A:Nat→List V→Prop) (n:Nat) (B:List V→Prop):Nat→List V→Prop:=fun i vs=>if i=n then B vs else A i vs
def STree.wp (P:Program) (R:AV→List AV→Prop):STree→(Nat→List V→Prop)→(Nat→V)→Prop
 | .stuck _, _, _ => False
 | .branch b t e, A, ρ => (b.den ρ = Xb → t.wp P R A ρ) ∧ (b.den ρ = Xc → e.wp P R A ρ)
 | .req p t, A, ρ => p.den ρ ∧ t.wp P R A ρ
 | .elem l i sh n t, A, ρ => ∃ vs, 0 ≤ i.den ρ ∧ (l.den ρ)[(i.den ρ).toNat]? = Xa ((Zv sh n).map (SC.den (bind ρ n vs))) ∧ t.wp P R A (bind ρ n vs)
 | .nilq l n t, A, ρ => ∀ b : Bool, (b = Xb → l.den ρ = []) → t.wp P R A (bind ρ n [.b b])
 | .call f args res outs n _ t, A, ρ => ∃ vs, Yo P f (args.map (SV.den ρ)) (res.den (bind ρ n vs)) (outs.map (SV.den (bind ρ n vs))) ∧ t.wp P R A (bind ρ n vs)
 | .loop lv init n t, A, ρ => ∃ (I : List V → Prop) (m : List V → Nat), I (init.map (VE.den ρ)) ∧
   ∀ vs,vs.length=init.length→I vs→t.wp P R (Zs9 A lv fun vs'=>I vs'∧m vs' < m vs) (bind ZgY n vs)
 | .again lv vals, A, ρ => A lv (vals.map (VE.den ρ))
 | .ret res outs, _, ρ => R (res.den ρ) (outs.map (SV.den ρ))
def Kq:List Sh→List Value→Prop
 | [], [] => True
 | .int k :: L, .int k' _ :: us => k = k' ∧ Kq L us
 | .bool :: L, .bool _ :: us => Kq L us
 | _, _ => False
def eqV:List Value→List Value→Bool
 | .int _ a :: us, .int _ b :: vs => (a == b) && eqV us vs
 | .bool a :: us, .bool b :: vs => (a == b) && eqV us vs
 | _, _ => Xb
def WW (P:Program) (plain:List TypeId):Prop:=
 ∀ T∈plain,P.eqGuardType P.depth T=Xc∧∀ L,YZ P 8 T=Xa L→∀ (us vs:List Value),Kq L us→Kq L vs→∀ w,
  (Op.equalIn 10000 T (.agg us.toArray) (.agg vs.toArray)).run P w = .ok (eqV us vs) w
def EnvSound (P:Program) (E:Env):Prop:=WW P E.plain∧Vp P E.ks∧ZdT P E.srt
theorem ZiH {P:Program} {R:AV→List AV→Prop} {A:Nat→List V→Prop} {ρ:Nat→V} {b:BE} {t e:STree} (h:(ZfK b t e).wp P R A ρ) :
  (b.den ρ=Xb→t.wp P R A ρ)∧(b.den ρ=Xc→e.wp P R A ρ):=by
 unfold ZfK at h
 split at h
 ·exact ⟨fun _=>h,fun hb=>by simp [BE.den] at hb⟩
 ·exact ⟨fun hb=>by simp [BE.den] at hb,fun _=>h⟩
 ·exact h
theorem Zml (b:BE) (ρ:Nat→V):(ZmN b).den ρ = !b.den ρ:=by unfold ZmN;split<;>rfl
theorem Zpw {b:BE} {n:Nat} (h:b.bd n):(ZmN b).bd n:=by
 unfold ZmN
 split
 ·trivial
 ·exact h
theorem ZbK {v:Value} (ρ:Nat→V):(ofC v).map (SC.den ρ)=Zp2 v:=by
 cases v with
 | slice a l c => cases a <;> cases l <;> cases c <;> rfl
 | pointer a => cases a <;> first | rfl | simp [ofC, Zp2, SC.den, LE.den, lop, Zf, Zk, JC]
 | map a => cases a <;> first | rfl | simp [ofC, Zp2, SC.den, LE.den, lop, Zf, Zk, JC]
 | nilFunc => simp [ofC, Zp2, SC.den, LE.den, lop, Zf, Zk, JC]
 | _ => rfl
theorem YV (ρ:Nat→V):∀ (vs:List Value),(Zfd vs).map (List.map (SC.den ρ))=Zae vs
 | [] => rfl
 | v :: vs => by
  have h1:=ZbK (v:=v) ρ
  have h2:=YV ρ vs
  simp only [Zfd,Zae]
  cases hc:ofC v<;>cases hcs:Zfd vs<;>rw [hc] at h1<;>rw [hcs] at h2<;>simp at h1 h2<;>rw [← h1]<;>try rw [← h2]
  ·simp
  ·simp
  ·simp
  ·simp
theorem Zqc {v:Value} {c:SC} {n:Nat} (h:ofC v=Xa c):c.bd n:=by
 unfold ofC at h
 split at h<;>simp at h<;>subst h<;>trivial
theorem KR {n:Nat} : ∀ {vs:List Value} {cs:List SC},Zfd vs=Xa cs→∀ c∈cs,c.bd n
 | [], cs, h => by simp [Zfd] at h; subst h; simp
 | v :: vs, cs, h => by
  simp only [Zfd] at h
  split at h
  ·rename_i c cs' hc hcs
   simp at h
   subst h
   intro x hx
   rcases Xl.1 hx with rfl | hx
   ·exact Zqc hc
   ·exact KR hcs x hx
  ·simp at h
theorem Zrt (v:Value) (ρ:Nat→V):(ofV v).den ρ=ZoC v:=by
 cases v with
 | agg cs =>
  have:=YV ρ cs.toList
  simp only [ofV,ZoC]
  rw [← this]
  cases Zfd cs.toList<;>rfl
 | slice a l c =>
  have:=ZbK (v:=.slice a l c) ρ
  simp only [ofV,ZoC]
  rw [← this]
  cases ofC (.slice a l c)<;>rfl
 | pointer a =>
  have:=ZbK (v:=.pointer a) ρ
  simp only [ofV,ZoC]
  rw [← this]
  cases ofC (.pointer a)<;>rfl
 | map a =>
  have:=ZbK (v:=.map a) ρ
  simp only [ofV,ZoC]
  rw [← this]
  cases ofC (.map a)<;>rfl
 | nilFunc =>
  have:=ZbK (v:=.nilFunc) ρ
  simp only [ofV,ZoC]
  rw [← this]
  cases ofC .nilFunc<;>rfl
 | _ => rfl
theorem ZsY (v:Value) (n:Nat):(ofV v).bd n:=by
 unfold ofV
 split
 ·split
  ·rename_i l hl;exact KR hl
  ·trivial
 ·split
  ·rename_i c hc;exact Zqc (v:=v) hc
  ·trivial
theorem JV (P:Program) (g:Nat→SV) (ρ:Nat→V) (x:Operand):(Z8 P g x).den ρ=Zn P (fun d=>(g d).den ρ) x:=by
 cases x with
 | tmp t =>
  simp only [Z8,Zn]
  cases g t with
  | c x =>
   cases x with
   | cel p =>
    show Zk (p.den ρ)=match Zk (p.den ρ) with | .box _=>AV.ptr t 0 | .own x e xs=>(match x with | true=>.mref t 0 | false=>.slice Xc (P.cellsOf e) xs) | .tuple _=>.dead | .aggo _=>.dead | .gbox _=>.dead | .store _=>.dead | x=>x
    rcases YD (p.den ρ) with ⟨_,_,h⟩ | ⟨_,_,_,h⟩ | ⟨_,h⟩ | ⟨_,_,h⟩ <;> rw [h]
   | _ => rfl
  | own x e xs => cases x <;> rfl
  | _ => rfl
 | const v => exact Zrt v ρ
 | global g => rfl
 | func f => rfl
theorem Zz {P:Program} {g:Nat→SV} {n:Nat} (hg:∀ d,(g d).bd n) (x:Operand):(Z8 P g x).bd n:=by
 cases x with
 | tmp t =>
  have:=hg t
  simp only [Z8]
  cases hs:g t with
  | own x e xs => rw [hs] at this; cases x <;> first | exact this | trivial
  | _ => rw [hs] at this; first | exact this | trivial
 | const v => exact ZsY v n
 | global g => trivial
 | func f => trivial
theorem Zd {P:Program} {g:Nat→SV} {x:Operand} {y:SV} (ρ:Nat→V) (h:Z8 P g x=y):Zn P (fun d=>(g d).den ρ) x=y.den ρ:=by rw [← JV,h]
def YN (tx:Odr) (P:Program) (R:AV→List AV→Prop) (A:Nat→List V→Prop) (ρ:Nat→V) (g:Nat→SV) (o:Oper) (n:Nat) (k:K):Prop:=
 ∃ ρ' n' x us fp,n≤n'∧(∀ m,m < n→ρ' m=ρ m)∧x.bd n'∧(∀ u∈us,u.2.bd n')∧(k x us fp n').wp P R A ρ'∧
  ZiY tx P o (fun d=>(g d).den ρ) (x.den ρ') (us.map fun u=>(u.1,u.2.den ρ')) fp
section
variable {tx:Odr} {P:Program} {R:AV→List AV→Prop} {A:Nat→List V→Prop} {ρ:Nat→V} {g:Nat→SV} {o:Oper} {n:Nat} {k:K}
theorem W0 {x:SV} {us:Ups} {fp:List Nat} (hk:(k x us fp n).wp P R A ρ) (hx:x.bd n) (hus:∀ u∈us,u.2.bd n)
  (hex:Jg P o (fun d=>(g d).den ρ) (x.den ρ) (us.map fun u=>(u.1,u.2.den ρ)) fp):YN tx P R A ρ g o n k:=
 ⟨ρ,n,x,us,fp,XD _,fun _ _=>rfl,hx,hus,hk,hex.t.s⟩
theorem W2 {x:SV} {us:Ups} {fp:List Nat} (hk:(k x us fp n).wp P R A ρ) (hx:x.bd n) (hus:∀ u∈us,u.2.bd n)
  (hex:Yz tx P o (fun d=>(g d).den ρ) (x.den ρ) (us.map fun u=>(u.1,u.2.den ρ)) fp):YN tx P R A ρ g o n k:=
 ⟨ρ,n,x,us,fp,XD _,fun _ _=>rfl,hx,hus,hk,hex.s⟩
theorem Z2 {x:SV} {fp:List Nat} (hk:(k x [] fp n).wp P R A ρ) (hx:x.bd n) (hex:Jg P o (fun d=>(g d).den ρ) (x.den ρ) [] fp):YN tx P R A ρ g o n k:=
 W0 hk hx (by simp) hex
def Zgx (ρ:Nat→V):SC→Value
 | .int k e => .int k (e.den ρ)
 | .bool b => .bool (b.den ρ)
 | .str s => .string (s.den ρ)
 | .slice _ _ _ => .slice Xe 0 0
 | .cel _ => .slice Xe 0 0
theorem Zeb (ρ:Nat→V):∀ (L:List Sh) (cs:List SC),Zap L cs=Xb→Kq L (cs.map (Zgx ρ))∧cs.map (SC.den ρ)=(cs.map (Zgx ρ)).map AV.val∧∀ u∈cs.map (Zgx ρ),ZdB u=Xb
 | [], [], _ => ⟨trivial, rfl, by simp⟩
 | [], _ :: _, h => by simp [Zap] at h
 | _ :: _, [], h => by simp [Zap] at h
 | s :: L, c :: cs, h => by
  simp only [Zap,Xs] at h
  obtain ⟨h1,h2,h3⟩:=Zeb ρ L cs h.2
  have h0:=h.1
  cases s<;>cases c<;>simp [Zkv] at h0
  ·refine ⟨⟨h0,h1⟩,by simp only [Xg,h2];rfl,?_⟩
   intro u hu
   rw [Xg] at hu
   rcases Xl.1 hu with rfl | hu
   ·rfl
   ·exact h3 u hu
  ·refine ⟨h1,by simp only [Xg,h2];rfl,?_⟩
   intro u hu
   rw [Xg] at hu
   rcases Xl.1 hu with rfl | hu
   ·rfl
   ·exact h3 u hu
theorem ZcX (ρ:Nat→V):∀ (xs ys:List SC) (e:BE),Zci xs ys=Xa e→e.den ρ=eqV (xs.map (Zgx ρ)) (ys.map (Zgx ρ))
 | [], [], e, h => by simp [Zci] at h; subst h; rfl
 | [], _ :: _, e, h => by simp [Zci] at h
 | _ :: _, [], e, h => by simp [Zci] at h
 | a :: aZ, b :: bs, e, h => by
  simp only [Zci] at h
  split at h
  ·rename_i x y hx hy
   simp at h
   subst h
   have ih:=ZcX ρ aZ bs y hy
   cases a<;>cases b<;>simp [ZmH] at hx
   ·obtain ⟨_,rfl⟩:=hx
    simp only [BE.den,Xg,Zgx,eqV,ih,cop]
   ·subst hx
    simp only [BE.den,Xg,Zgx,eqV,ih]
  ·simp at h
theorem ZkC {n:Nat} : ∀ (xs ys:List SC) (e:BE),(∀ c∈xs,c.bd n)→(∀ c∈ys,c.bd n)→Zci xs ys=Xa e→e.bd n
 | [], [], e, _, _, h => by simp [Zci] at h; subst h; trivial
 | [], _ :: _, e, _, _, h => by simp [Zci] at h
 | _ :: _, [], e, _, _, h => by simp [Zci] at h
 | a :: aZ, b :: bs, e, hx, hy, h => by
  simp only [Zci] at h
  split at h
  ·rename_i x y hx' hy'
   simp at h
   subst h
   have ih:=ZkC aZ bs y (fun c hc=>hx c (by simp [hc])) (fun c hc=>hy c (by simp [hc])) hy'
   have ha:=hx a (by simp)
   have hb:=hy b (by simp)
   cases a<;>cases b<;>simp [ZmH] at hx'
   ·obtain ⟨_,rfl⟩:=hx'
    exact ⟨⟨ha,hb⟩,ih⟩
   ·subst hx'
    exact ⟨⟨ha,hb⟩,ih⟩
  ·simp at h
theorem Zj7 {w:World} {lim:Lm} {us:List Value} {v:Value} (h:Rep w lim (.agg (us.map AV.val)) v):v = .agg us.toArray:=by
 have key:∀ y,Rep w lim y v→y = .agg (us.map AV.val)→v = .agg us.toArray:=by
  intro y hy he
  cases hy with
  | @agg cs vs hl hc hr =>
   injection he with he
   subst he
   have hlen:us.length=vs.length:=by simpa using hl
   have:vs=us:=by
    apply List.ext_getElem hlen.symm
    intro i h1 h2
    exact YR (hr i (.val us[i]) vs[i] (by simp [h2]) (by simp [h1]))
   rw [this]
  | val _ => cases he
  | sliceN => cases he
  | sliceE _ => cases he
  | sliceC _ _ _ _ _ _ _ _ => cases he
  | nest => cases he
  | oref0 => cases he
  | oref => cases he
  | osl0 => cases he
  | osl => cases he
  | omap => cases he
  | fnc => cases he
  | omap0 => cases he
  | fncN => cases he
 exact key _ h rfl
theorem Zc1 {T T':TypeId} {x y:Operand} {op:BinOp} {us vs:List Value} {σ:Nat→AV} {L:List Sh} {plain:List TypeId} (hps:WW P plain) (hT:T∈plain) (hL:YZ P 8 T=Xa L) (ho:o.op = .binOp op T x y T')
  (hop:op = .eql∨op = .neq) (hx:Zn P σ x = .agg (us.map AV.val)) (hy:Zn P σ y = .agg (vs.map AV.val)) (hu:Kq L us) (hv:Kq L vs) :
  Jg P o σ (.val (.bool (if op = .eql then eqV us vs else !eqV us vs))) [] []:=by
 refine Zt [] rfl fun c hc σ' tm w lim X hg hfp hsim=>⟨.bool (if op = .eql then eqV us vs else !eqV us vs),?_,.val rfl⟩
 rw [ho] at hg
 have h1:=Zj7 (JF hc hsim hx (hg x (by simp [Op.operands])))
 have h2:=Zj7 (JF hc hsim hy (hg y (by simp [Op.operands])))
 obtain ⟨p1,p2⟩:=hps T hT
 have p3:=p2 L hL us vs hu hv w
 rcases hop with rfl | rfl
 ·simp only [execOp,ho,h1,h2,Sem.run_bind,run_eqGuard_agg w .eql T x y us.toArray vs.toArray p1,Result.andThen_ok,run_eql_struct,p3]
  simp
 ·simp only [execOp,ho,h1,h2,Sem.run_bind,run_eqGuard_agg w .neq T x y us.toArray vs.toArray p1,Result.andThen_ok,run_neq_struct,p3]
  simp
theorem ZlZ {plain:List TypeId} {op:BinOp} {T T':TypeId} {xo yo:Operand} (hps:WW P plain) (hg:∀ d,(g d).bd n) (ho:o.op = .binOp op T xo yo T')
  (h:(bin P plain op T (Z8 P g xo) (Z8 P g yo) fun v=>k v [] [] n).wp P R A ρ):YN tx P R A ρ g o n k:=by
 have bx:=Zz (P:=P) hg xo
 have bY:=Zz (P:=P) hg yo
 generalize hx:Z8 P g xo=x at h bx
 generalize hy:Z8 P g yo=y at h bY
 have sx:=Zd ρ hx
 have sy:=Zd ρ hy
 unfold bin at h
 split at h
 ·rename_i kx a ky b
  have arith:∀ (i:IOp),kx=ky→ZqT op=Xa i→(i = .quo∨i = .rem→b.den ρ≠0)→(k (.c (.int kx (.bin i kx a b))) [] [] n).wp P R A ρ→YN tx P R A ρ g o n k:=by
   intro i hk hi hz hk'
   subst hk
   exact Z2 hk' ⟨bx,bY⟩ (ZpZ ho hi sx sy hz)
  have comp:∀ (i:COp),kx=ky→ZrN op=Xa i→(k (.c (.bool (.cmp i a b))) [] [] n).wp P R A ρ→YN tx P R A ρ g o n k:=by
   intro i hk hi hk'
   subst hk
   exact Z2 hk' ⟨bx,bY⟩ (ZoJ ho hi sx sy)
  split at h
  ·exact Z2 h.2 ⟨bx,bY⟩ (Zfk ho (.inl ⟨rfl,rfl⟩) sx sy h.1)
  ·exact Z2 h.2 ⟨bx,bY⟩ (Zfk ho (.inr ⟨rfl,rfl⟩) sx sy h.1)
  ·split at h
   ·rename_i hk
    split at h<;>first
     | exact h.elim
     | exact arith _ hk rfl (by simp) h
     | exact arith _ hk rfl (fun _ => h.1) h.2
     | exact comp _ hk rfl h
   ·exact h.elim
 ·rename_i a b
  split at h
  ·exact Z2 h ⟨bx,bY⟩ (Zkz (op:=.eql) ho (.inl rfl) sx sy)
  ·exact Z2 h ⟨bx,bY⟩ (Zkz (op:=.neq) ho (.inr rfl) sx sy)
  ·exact h.elim
 ·rename_i a b
  split at h
  ·rename_i hT
   split at h
   ·exact Z2 h ⟨bx,bY⟩ (ZhR (op:=.eql) ho hT (.inl rfl) sx sy)
   ·exact Z2 h ⟨bx,bY⟩ (ZhR (op:=.neq) ho hT (.inr rfl) sx sy)
   ·exact h.elim
  ·exact h.elim
 ·rename_i xs ys
  split at h
  ·rename_i e hpl he
   simp only [ZlP,Xs,List.contains_iff_mem] at hpl
   obtain ⟨hT,hk⟩:=hpl
   cases hL:YZ P 8 T with
   | none => simp [hL] at hk
   | some L =>
    rw [hL] at hk
    simp only [Xs] at hk
    obtain ⟨u1,u2,u3⟩:=Zeb ρ L xs hk.1
    obtain ⟨v1,v2,v3⟩:=Zeb ρ L ys hk.2
    have hbd:=ZkC xs ys e bx bY he
    have sx':Zn P (fun d=>(g d).den ρ) xo = .agg ((xs.map (Zgx ρ)).map AV.val):=by rw [sx,← u2];rfl
    have sy':Zn P (fun d=>(g d).den ρ) yo = .agg ((ys.map (Zgx ρ)).map AV.val):=by rw [sy,← v2];rfl
    split at h
    ·refine Z2 h hbd ?_
     have:=Zc1 (o:=o) (op:=.eql) hps hT hL ho (.inl rfl) sx' sy' u1 v1
     rw [if_pos rfl,← ZcX ρ xs ys e he] at this
     exact this
    ·refine Z2 h hbd ?_
     have:=Zc1 (o:=o) (op:=.neq) hps hT hL ho (.inr rfl) sx' sy' u1 v1
     rw [if_neg (by simp),← ZcX ρ xs ys e he] at this
     exact this
    ·exact h.elim
  ·exact h.elim
 ·exact h.elim
end
theorem J5 (ρ:Nat→V) (c:SC):(c.den ρ).isCell=Xb:=by
 cases c with
 | cel p => exact KN (YT _)
 | _ => rfl
theorem Zou {x:AV} (h:x.isCell=Xb):x.isG=Xc:=by cases x<;>first | rfl | cases h
theorem Zln {x:AV} (h:x.isCell=Xb):x.plain=Xb:=by cases x<;>first | rfl | cases h
theorem Zav (ρ:Nat→V) (c:SC):(c.den ρ).plain=Xb:=Zln (J5 ρ c)
theorem KC (ρ:Nat→V) (c:SC):(c.den ρ).isG=Xc:=Zou (J5 ρ c)
theorem Ki {x:SV} {cs:List SC} (ρ:Nat→V) (h:x.cells=Xa cs):(x.den ρ).cells? = Xa (cs.map (SC.den ρ)):=by
 cases x with
 | c y =>
  simp only [SV.cells,Xf] at h
  subst h
  cases y with
  | cel p =>
   show (Zk (p.den ρ)).cells? = Xa [Zk (p.den ρ)]
   rcases YD (p.den ρ) with ⟨_,_,h⟩ | ⟨_,_,_,h⟩ | ⟨_,h⟩ | ⟨_,_,h⟩ <;> rw [h]<;>rfl
  | _ => rfl
 | agg ds =>
  simp only [SV.cells,Xf] at h
  subst h
  rfl
 | _ => simp [SV.cells] at h
theorem Vw {x:SV} {cs:List SC} {n:Nat} (h:x.cells=Xa cs) (hx:x.bd n):∀ c∈cs,c.bd n:=by
 cases x with
 | c y =>
  simp only [SV.cells,Xf] at h
  subst h
  intro c hc
  simp at hc
  subst hc
  exact hx
 | agg ds =>
  simp only [SV.cells,Xf] at h
  subst h
  exact hx
 | _ => simp [SV.cells] at h
theorem Zbd (ρ:Nat→V) (place:Nat→Option (Nat×Nat)):∀ (parts:List (Nat×SV)) (cells out:List SC),Zev place cells parts=Xa out→
  Zam place (cells.map (SC.den ρ)) (parts.map fun p=>(p.1,p.2.den ρ))=Xa (out.map (SC.den ρ))
 | [], cells, out, h => by simp only [Zev, Xf] at h; subst h; rfl
 | (i, v) :: parts, cells, out, h => by
  simp only [Zev] at h
  split at h
  ·rename_i off size vc hp hv
   split at h
   ·rename_i hc
    have ih:=Zbd ρ place parts _ out h
    simp only [XL,Uf,Ul] at ih
    simp only [Xg,Zam,hp,Ki ρ hv]
    rw [if_pos (by simpa using hc)]
    exact ih
   ·cases h
  ·cases h
theorem Zcp {n:Nat} (place:Nat→Option (Nat×Nat)):∀ (parts:List (Nat×SV)) (cells out:List SC),(∀ c∈cells,c.bd n)→(∀ p∈parts,p.2.bd n)→Zev place cells parts=Xa out→∀ c∈out,c.bd n
 | [], cells, out, hc, _, h => by simp only [Zev, Xf] at h; subst h; exact hc
 | (i, v) :: parts, cells, out, hc, hp, h => by
  simp only [Zev] at h
  split at h
  ·rename_i off size vc hpl hv
   split at h
   ·refine Zcp place parts _ out (fun c hcc=>?_) (fun p hp'=>hp p (by simp [hp'])) h
    rcases Xt.1 hcc with h1 | h1
    ·rcases Xt.1 h1 with h1 | h1
     ·exact hc c (XO h1)
     ·exact Vw hv (hp (i,v) (by simp)) c h1
    ·exact hc c (XW h1)
   ·cases h
  ·cases h
theorem Yh (ρ:Nat→V):∀ (cs:List SC),(Zaj cs).den ρ=cs.map (SC.den ρ)
 | [] => rfl
 | c :: cs => by simp only [Zaj, CE.den, Yh ρ cs, Xg]
theorem Ka {n:Nat} : ∀ (cs:List SC),(∀ c∈cs,c.bd n)→(Zaj cs).bd n
 | [], _ => trivial
 | c :: cs, h => ⟨h c (by simp), Ka cs fun x hx => h x (by simp [hx])⟩
theorem Zoi (ρ:Nat→V) (size:Nat) (cs:List SC):∀ (n:Nat),(lOf size cs n).den ρ=YP size (cs.map (SC.den ρ)) n
 | 0 => rfl
 | n + 1 => by
  simp only [lOf,LE.den,Zoi ρ size cs n,Yh,YP,List.range_succ,XL,Xg,Xz,Uf,Ul]
theorem Zqy {m:Nat} (size:Nat) (cs:List SC) (h:∀ c∈cs,c.bd m):∀ (n:Nat),(lOf size cs n).bd m
 | 0 => trivial
 | n + 1 => ⟨Zqy size cs h n, Ka _ fun c hc => h c (XW (XO hc))⟩
theorem Zfb (P:Program) (ρ:Nat→V) (b:BC):(ZeT P b).den ρ=YI P (b.den ρ):=by
 cases b with
 | c x =>
  cases x with
  | cel p =>
   show Zk (p.den ρ)=YI P (Zk (p.den ρ))
   rcases YD (p.den ρ) with ⟨_,_,h⟩ | ⟨_,_,_,h⟩ | ⟨_,h⟩ | ⟨_,_,h⟩ <;> rw [h]<;>rfl
  | _ => rfl
 | own x e l => rfl
 | gone => rfl
theorem Zdm {cs:List BC} (h:V0 cs=Xb) (ρ:Nat→V):Zca (cs.map (BC.den ρ)):=by
 intro c hc e xs he
 obtain ⟨b,hb,rfl⟩:=Xj.1 hc
 unfold V0 at h
 rw [XE] at h
 have:=h b hb
 cases b with
 | c x => cases x <;> first | cases he | exact (Z6 he rfl).elim
 | own x e l =>
  cases x with
  | false => cases he
  | true => cases this
 | gone => cases he
theorem WB {cs:List BC} (h:VT cs=Xb) (ρ:Nat→V):Whole (cs.map (BC.den ρ)):=by
 intro c hc he
 obtain ⟨b,hb,rfl⟩:=Xj.1 hc
 unfold VT at h
 rw [XE] at h
 have:=h b hb
 cases b with
 | c x => cases x <;> first | cases he | exact (Z6 he rfl).elim
 | own x e l => cases he
 | gone => cases this
theorem ZnW {P:Program} {n:Nat} {b:BC} (h:b.bd n):(ZeT P b).bd n:=by
 cases b<;>exact h
theorem Zp0 {P:Program} {T:TypeId} {cs:List BC} (ρ:Nat→V) (n:Nat) (h:ZrR P T=Xa cs) :
  ∃ i z,P.info? T=Xa i∧i.zero=Xa z∧Zp8 (cs.map (BC.den ρ)) z.cells.toList∧∀ c∈cs,c.bd n:=by
 unfold ZrR at h
 split at h
 ·rename_i i hi
  split at h
  ·rename_i z hz
   split at h
   ·rename_i sc hsc
    split at h
    ·rename_i hlen
     simp only [Xf] at h
     subst h
     have hl:sc.length=z.cells.toList.length:=by
      have h1:=YV ρ z.cells.toList
      rw [hsc] at h1
      have h2:=(ZaY (w:=default) (lim:=⟨fun _=>0,fun _=>Xe⟩) h1.symm).1
      simpa using h2
     refine ⟨i,z,hi,hz,⟨by simp [hlen,hl],fun j x u hx hu=>?_⟩,fun c hc=>?_⟩
     ·rw [Xk,List.getElem?_zipWith] at hx
      cases h1:(Ym P 8 T)[j]? with
      | none => simp [h1] at hx
      | some e =>
       cases h2:sc[j]? with
       | none => simp [h1, h2] at hx
       | some c =>
        simp only [h1,h2,Xo,Xf] at hx
        have hcu:ofC u=Xa c:=by
         have key:∀ (vs:List Value) (cs:List SC) (j:Nat),Zfd vs=Xa cs→cs[j]? = Xa c→vs[j]? = Xa u→ofC u=Xa c:=by
          intro vs
          induction vs with
          | nil => intro cs j _ _ h; simp at h
          | cons v vs ih =>
           intro cs j h hc hv
           simp only [Zfd] at h
           split at h
           ·rename_i c' cs' hc' hcs'
            simp only [Xf] at h
            subst h
            cases j with
            | zero => simp at hc hv; subst hc; subst hv; exact hc'
            | succ j => exact ih cs' j hcs' (by simpa using hc) (by simpa using hv)
           ·cases h
         exact key _ _ j hsc h2 hu
        have hnorm:(∃ e',ZcF e c = .own Xc e' .nil∧u = .slice Xe 0 0)∨ZcF e c = .c c:=by
         cases e with
         | none => right; cases c <;> rfl
         | some e =>
          cases c with
          | slice f s l =>
           cases f with
           | false => right; cases l <;> rfl
           | true =>
            cases l with
            | nil =>
             left
             refine ⟨e,rfl,?_⟩
             unfold ofC at hcu
             split at hcu<;>simp at hcu
             rfl
            | _ => right; rfl
          | _ => right; rfl
        rcases hnorm with ⟨e',h3,h4⟩ | h3
        ·rw [h3] at hx
         exact .inr ⟨_,e',hx.symm,h4⟩
        ·rw [h3] at hx
         left
         rw [← ZbK ρ,hcu,← hx]
         rfl
     ·obtain ⟨j,hj⟩:=XK.1 hc
      rw [List.getElem?_zipWith] at hj
      cases h1:(Ym P 8 T)[j]? with
      | none => simp [h1] at hj
      | some e =>
       cases h2:sc[j]? with
       | none => simp [h1, h2] at hj
       | some c' =>
        simp only [h1,h2,Xf] at hj
        subst hj
        have hb:c'.bd n:=KR hsc c' (Xh h2)
        unfold ZcF
        split
        ·trivial
        ·exact hb
    ·cases h
   ·cases h
  ·cases h
 ·cases h
theorem ZkS (s:Sh) (n:Nat):(Ji s n).bd (n+1):=by cases s<;>exact Wp n
theorem Jr:∀ (l:List Sh) (n:Nat),∀ c∈Zv l n,c.bd (n+l.length)
 | [], n, c, h => by simp [Zv] at h
 | s :: ss, n, c, h => by
  rcases Xl.1 h with rfl | h
  ·exact SC.bd_mono (by simp) _ (ZkS s n)
  ·have:=Jr ss (n+1) c h
   exact SC.bd_mono (by simp only [XJ];omega) _ this
theorem Zp1 (s:Sh) (n:Nat):(Zpb s n).bd (n+1):=by cases s<;>exact Wp n
theorem Yk:∀ (l:List Sh) (n:Nat),∀ c∈KT l n,c.bd (n+l.length)
 | [], n, c, h => by simp [KT] at h
 | s :: ss, n, c, h => by
  rcases Xl.1 h with rfl | h
  ·exact BC.bd_mono (by simp) _ (Zp1 s n)
  ·have:=Yk ss (n+1) c h
   exact BC.bd_mono (by simp only [XJ];omega) _ this
theorem YW:∀ (aZ:List SV) (n:Nat),n≤(Jj aZ n).2.2
 | [], n => XD n
 | a :: aZ, n => by
  cases a with
  | box cs =>
   simp only [Jj]
   exact XV (XR _ _) (YW aZ _)
  | gbox cs =>
   simp only [Jj]
   exact XV (XR _ _) (YW aZ _)
  | store l =>
   simp only [Jj]
   exact XV (XR _ _) (YW aZ _)
  | _ => exact YW aZ n
theorem Ze2:∀ (aZ:List SV) (n:Nat),(Jj aZ n).1.length=aZ.length
 | [], n => rfl
 | a :: aZ, n => by
  cases a<;>simp only [Jj,XJ,Ze2 aZ]
theorem V7:∀ (aZ:List SV) (n:Nat),∀ x∈(Jj aZ n).1,x.bd (Jj aZ n).2.2
 | [], n, x, h => by simp [Jj] at h
 | a :: aZ, n, x, h => by
  cases a with
  | box cs =>
   simp only [Jj] at h ⊢
   rcases Xl.1 h with rfl | h
   ·intro c hc
    have h1:=Yk (cs.map Zo7) n c hc
    exact BC.bd_mono (YW aZ _) _ h1
   ·exact V7 aZ _ x h
  | gbox cs =>
   simp only [Jj] at h ⊢
   rcases Xl.1 h with rfl | h
   ·intro c hc
    have h1:=Yk (cs.map Zo7) n c hc
    exact BC.bd_mono (YW aZ _) _ h1
   ·exact V7 aZ _ x h
  | store l =>
   simp only [Jj] at h ⊢
   rcases Xl.1 h with rfl | h
   ·exact YW aZ _
   ·exact V7 aZ _ x h
  | _ =>
   simp only [Jj] at h ⊢
   rcases Xl.1 h with rfl | h
   ·trivial
   ·exact V7 aZ _ x h
theorem Vl:∀ (aZ:List SV) (n i:Nat) (to:Bool) (cs:List BC) (y:SV),aZ[i]? = Xa (ZoF to cs)→(Jj aZ n).1[i]? = Xa y→∃ cs',y=ZoF to cs'
 | [], n, i, to, cs, y, h, _ => by simp at h
 | a :: aZ, n, i, to, cs, y, h, h' => by
  cases i with
  | zero =>
   simp only [XB,Xf] at h
   subst h
   cases to with
   | false =>
    simp only [ZoF,Jj,XB,Xf] at h'
    exact ⟨_,h'.symm⟩
   | true =>
    simp only [ZoF,Jj,XB,Xf] at h'
    exact ⟨_,h'.symm⟩
  | succ i =>
   have h1:aZ[i]? = Xa (ZoF to cs):=by simpa using h
   cases a with
   | box ds => simp only [Jj, X5] at h'; exact Vl aZ _ i to cs y h1 h'
   | gbox ds => simp only [Jj, X5] at h'; exact Vl aZ _ i to cs y h1 h'
   | store l => simp only [Jj, X5] at h'; exact Vl aZ _ i to cs y h1 h'
   | _ => simp only [Jj, X5] at h'; exact Vl aZ _ i to cs y h1 h'
theorem ZoW (r:RSh) (n:Nat):(ZqD r n).1.bd (n+(ZqD r n).2.length):=by
 cases r with
 | c s => cases s <;> exact Wp n
 | agg l => exact Jr l n
 | box l => exact Jr l n
 | aggo l => exact Jr l n
theorem Zah {P:Program} {fresh:Nat} : ∀ (Ts:List TypeId) (n:Nat) (vs:List TC) (sh:List Sh) (n':Nat),ZaP P fresh Ts n=Xa (vs,sh,n')→n≤n'∧∀ v∈vs,v.bd n'∧v≠.gone
 | [], n, vs, sh, n', h => by
  simp only [ZaP,Xf,Xn] at h
  obtain ⟨rfl,rfl,rfl⟩:=h
  exact ⟨XD _,by simp⟩
 | T :: Ts, n, vs, sh, n', h => by
  simp only [ZaP] at h
  split at h
  ·rename_i r hr
   split at h
   ·rename_i vs' sh' m hm
    simp only [Xf,Xn] at h
    obtain ⟨rfl,rfl,rfl⟩:=h
    obtain ⟨h1,h2⟩:=Zah Ts _ vs' sh' m hm
    refine ⟨by omega,fun v hv=>?_⟩
    rcases Xl.1 hv with rfl | hv
    ·exact ⟨TC.bd_mono h1 _ (ZoW r n),by cases r with | c s=>cases s<;>exact fun h=>(by cases h) | agg l=>exact fun h=>(by cases h) | box l=>exact fun h=>(by cases h) | aggo l=>exact fun h=>(by cases h)⟩
    ·exact h2 v hv
   ·cases h
  ·cases h
theorem Zcr (ρ:Nat→V) (x:TC):(Zsi x).den ρ=x.den ρ:=by cases x<;>rfl
theorem ZrI {n:Nat} {x:TC} (h:x.bd n):(Zsi x).bd n:=by cases x<;>exact h
theorem Zmg (ρ:Nat→V) (x:TC) (hx:x≠.gone):Zh6 (x.den ρ):=by
 cases x with
 | c y => cases y <;> first | exact .inl (.inl ⟨_, rfl⟩) | exact .inl (.inr (.inr (.inl ⟨_, _, _, rfl⟩))) | exact .inl (.inr (.inr (.inr (YT _))))
 | agg cs => exact .inl (.inr (.inl ⟨_, rfl⟩))
 | own x e l => exact .inr (.inl ⟨_, _, _, rfl⟩)
 | gone => exact (hx rfl).elim
theorem Ziy {P:Program} {fresh:Nat} {Ts:List TypeId} {n n':Nat} {res:SV} {sh:List Sh} (h:Zfy P fresh Ts n=Xa (res,sh,n')) :
  n≤n'∧res.bd n'∧∀ ρ,Zh6 (res.den ρ):=by
 unfold Zfy at h
 split at h
 ·rename_i x sh' m hm
  simp only [Xf,Xn] at h
  obtain ⟨rfl,rfl,rfl⟩:=h
  obtain ⟨h1,h2⟩:=Zah Ts n [x] sh' m hm
  exact ⟨h1,ZrI (h2 x (by simp)).1,fun ρ=>by rw [Zcr];exact Zmg ρ x (h2 x (by simp)).2⟩
 ·rename_i vs sh' m _ hm
  simp only [Xf,Xn] at h
  obtain ⟨rfl,rfl,rfl⟩:=h
  obtain ⟨h1,h2⟩:=Zah Ts n vs sh' m hm
  exact ⟨h1,fun v hv=>(h2 v hv).1,fun ρ=>.inr (.inr (.inl ⟨_,rfl⟩))⟩
 ·cases h
theorem Zlo {P:Program} {E:Env} {f:FuncId} {Ts:List TypeId} {n n':Nat} {res:SV} {sh:List Sh} (h:Zis P E f Ts n=Xa (res,sh,n')) :
  n≤n'∧res.bd n'∧∀ ρ,Zh6 (res.den ρ):=by
 unfold Zis at h
 split at h
 ·rename_i l _
  simp only [Xf,Xn] at h
  obtain ⟨rfl,rfl,rfl⟩:=h
  exact ⟨XR _ _,Yk l n,fun ρ=>.inr (.inr (.inr (.inr ⟨_,rfl⟩)))⟩
 ·split at h
  ·rename_i l _
   simp only [Xf,Xn] at h
   obtain ⟨rfl,rfl,rfl⟩:=h
   exact ⟨XR _ _,Yk l n,fun ρ=>.inr (.inr (.inr (.inl ⟨_,rfl⟩)))⟩
  ·exact Ziy h
def SAK.den (ρ:Nat→V):SAK→AK
 | .imm x => .imm (x.den ρ)
 | .own t x e l => .own t x e (l.den ρ)
 | .box d fr to cs => .box d fr to (cs.map (BC.den ρ))
 | .clo g ds gs => .clo g ds gs
 | .ref t d q j => .ref t d q j
 | .pad => .pad
 | .sto d l => .sto d (l.den ρ)
theorem Zfa:∀ (aZ:List SV) (n i:Nat) (l:LE) (y:SV),aZ[i]? = Xa (.store l)→(Jj aZ n).1[i]? = Xa y→∃ l',y = .store l'
 | [], n, i, l, y, h, _ => by simp at h
 | a :: aZ, n, i, l, y, h, h' => by
  cases i with
  | zero =>
   simp only [XB,Xf] at h
   subst h
   simp only [Jj,XB,Xf] at h'
   exact ⟨_,h'.symm⟩
  | succ i =>
   have h1:aZ[i]? = Xa (.store l):=by simpa using h
   cases a<;>(simp only [Jj,X5] at h';exact Zfa aZ _ i l y h1 h')
theorem ZqK {ρ:Nat→V} {saks:List SAK} {i d:Nat} {rows:List (List AV)} (h:(saks.map (SAK.den ρ))[i]? = Xa (AK.sto d rows)):∃ l,saks[i]? = Xa (.sto d l):=by
 rw [Xk] at h
 cases hs:saks[i]? with
 | none => rw [hs] at h; cases h
 | some a =>
  rw [hs] at h
  cases a with
  | sto d' l =>
   simp only [Xo,SAK.den,Xf,AK.sto.injEq] at h
   exact ⟨l,by rw [h.1]⟩
  | _ => cases h
theorem Zcv (ρ:Nat→V) (gh:Bool) (cs:List BC):(ZoF gh cs).den ρ=mkB gh (cs.map (BC.den ρ)):=by cases gh<;>rfl
theorem Zqh (ρ:Nat→V) (a:SAK):(a.den ρ).av=a.sv.den ρ:=by
 cases a with
 | box d fr to cs => exact (Zcv ρ to cs).symm
 | _ => rfl
theorem ZcJ (ρ:Nat→V) (a:SAK):(a.den ρ).slot=a.slot:=by cases a<;>rfl
theorem ZlB {x:SV} {ρ:Nat→V} {b:Bool} {e:TypeId} {ys:List (List AV)} (h:x.den ρ = .own b e ys):∃ l,x = .own b e l:=by
 cases x with
 | own b' e' l => simp only [SV.den, AV.own.injEq] at h; obtain ⟨rfl, rfl, _⟩ := h; exact ⟨l, rfl⟩
 | c y => cases y <;> first | cases h | exact (Z6 h rfl).elim
 | _ => cases h
theorem Zjt {x:SV} {ρ:Nat→V} {d q:Nat} (h:x.den ρ = .mref d q):x = .mref d q:=by
 cases x with
 | mref d' q' => simp only [SV.den, AV.mref.injEq] at h; obtain ⟨rfl, rfl⟩ := h; rfl
 | c y => cases y <;> first | cases h | exact (Z6 h rfl).elim
 | _ => cases h
theorem ZgX {x:SV} {k:Nat} {e:TypeId} {l:LE} (ρ:Nat→V) (h:Ja x k=Xa (e,l)):Zp (x.den ρ) k=Xa (e,l.den ρ):=by
 unfold Ja at h
 split at h
 ·simp only [Xf,Xn] at h
  obtain ⟨rfl,rfl⟩:=h
  rfl
 ·rename_i cs q
  split at h
  ·rename_i e' l' hc
   simp only [Xf,Xn] at h
   obtain ⟨rfl,rfl⟩:=h
   simp only [SV.den,Zp,Xk,hc]
   rfl
  ·cases h
 ·rename_i cs q
  split at h
  ·rename_i e' l' hc
   simp only [Xf,Xn] at h
   obtain ⟨rfl,rfl⟩:=h
   simp only [SV.den,Zp,Xk,hc]
   rfl
  ·cases h
 ·cases h
theorem Zpc {P:Program} {g:Nat→SV} {x:Operand} {a:SAK} (ρ:Nat→V) (h:ZqN P g x=Xa a):(a.den ρ).ok P (fun d=>(g d).den ρ) (.op x)∧a.sv.isG=Xc∧∀ h ds gs,a = .clo h ds gs→gs = []:=by
 unfold ZqN at h
 split at h
 ·rename_i t b e l h1 h2
  simp only [Xf] at h
  subst h
  have hx:x = .tmp t:=by cases x<;>simp [ZK] at h1;rw [h1]
  subst hx
  simp only [ZK,Xo,Xf] at h2
  exact ⟨⟨rfl,by show (g t).den ρ=_;rw [h2];rfl⟩,rfl,fun _ _ _ h=>by cases h⟩
 ·rename_i hno
  split at h
  ·rename_i v hv
   simp only [Xf] at h
   subst h
   refine ⟨.inl ⟨Zd ρ hv,?_⟩,rfl,fun _ _ _ h=>by cases h⟩
   cases v<;>first | exact .inl ⟨_,rfl⟩ | exact .inr (.inr (.inl ⟨_,_,_,rfl⟩)) | exact .inr (.inr (.inr (YT _)))
  ·rename_i cs hv
   simp only [Xf] at h
   subst h
   exact ⟨.inl ⟨Zd ρ hv,.inr (.inl ⟨_,rfl⟩)⟩,rfl,fun _ _ _ h=>by cases h⟩
  ·rename_i d hv
   split at h
   ·rename_i cs hcs
    split at h
    ·simp only [Xf] at h
     subst h
     exact ⟨⟨Zd ρ hv,by show (g d).den ρ=_;rw [hcs];rfl,rfl,rfl⟩,rfl,fun _ _ _ h=>by cases h⟩
    ·cases h
   ·cases h
  ·rename_i f ds hv
   simp only [Xf] at h
   subst h
   exact ⟨Zd ρ hv,rfl,fun _ _ _ h=>by cases h;rfl⟩
  ·rename_i d q hv
   split at h
   ·rename_i e l hp
    split at h
    ·rename_i h0
     simp only [Xf] at h
     subst h
     refine ⟨.inr ⟨d,q,e,l.den ρ,⟨Zd ρ hv,fun t e' ys hx ht=>?_⟩,ZgX ρ hp,⟨by omega,h0.2⟩,rfl⟩,rfl,fun _ _ _ h=>by cases h⟩
     obtain ⟨l',hl'⟩:=ZlB (show (g t).den ρ=_ from ht)
     subst hx
     exact hno t Xb e' l' rfl (by simp only [ZK,Xo,hl'])
    ·cases h
   ·cases h
  ·cases h
def Kn (P:Program) (g:Nat→SV) (ρ:Nat→V) (xs:List KW) (aZ:List SAK):Prop:=
 xs.length=aZ.length∧∀ (i:Nat) (x:KW) (a:SAK),xs[i]? = Xa x→aZ[i]? = Xa a→(a.den ρ).ok P (fun d=>(g d).den ρ) x
theorem Kn.append {P:Program} {g:Nat→SV} {ρ:Nat→V} {xs ys:List KW} {aZ bs:List SAK} (h:Kn P g ρ xs aZ) (k:Kn P g ρ ys bs):Kn P g ρ (xs++ys) (aZ++bs):=by
 refine ⟨by rw [XA,XA,h.1,k.1],fun i x a hx ha=>?_⟩
 rcases Xx i xs.length with hi | hi
 ·rw [Xv hi] at hx
  rw [Xv (by rw [← h.1];exact hi)] at ha
  exact h.2 i x a hx ha
 ·rw [Xy hi] at hx
  rw [Xy (by rw [← h.1];exact hi),← h.1] at ha
  exact k.2 _ x a hx ha
def Raw (aZ:List SAK):Prop:=∀ a∈aZ,a.sv.isG=Xc∧∀ h ds gs,a = .clo h ds gs→gs = []
theorem Zpk {P:Program} {g:Nat→SV} {x:Operand} {a:SAK} (ρ:Nat→V) (h:Zcb g x=Xa a):(a.den ρ).ok P (fun d=>(g d).den ρ) (.op x)∧a.sv.isG=Xc∧(∀ h ds gs,a = .clo h ds gs→gs = [])∧∃ t d q j,a = .ref t d q j:=by
 unfold Zcb at h
 split at h
 ·rename_i t d q h1 h2
  simp only [Xf] at h
  subst h
  have hx:x = .tmp t:=by cases x<;>simp [ZK] at h1;rw [h1]
  subst hx
  simp only [ZK,Xo,Xf] at h2
  exact ⟨⟨rfl,by show (g t).den ρ=_;rw [h2];rfl⟩,rfl,(fun _ _ _ h=>by cases h),t,d,q,0,rfl⟩
 ·cases h
def Zs8 (rf:List Nat) (g:Nat→SV) (xs:List Operand) (aZ:List SAK) (i0:Nat):Prop:=∀ (i:Nat) (a:SAK) (x:Operand),xs[i]? = Xa x→aZ[i]? = Xa a→(rf.contains (i0+i)&&(Zcb g x).isSome)=Xb→∃ t d q j,a = .ref t d q j
theorem Vs {P:Program} {g:Nat→SV} {rf:List Nat} (ρ:Nat→V):∀ (xs:List Operand) (i0:Nat) (aZ:List SAK),Za1 P g rf xs i0=Xa aZ→Kn P g ρ (xs.map .op) aZ∧Raw aZ∧Zs8 rf g xs aZ i0
 | [], i0, aZ, h => by simp only [Za1, Xf] at h; subst h; exact ⟨⟨rfl, by simp⟩, by simp [Raw], by simp [Zs8]⟩
 | x :: xs, i0, aZ, h => by
  simp only [Za1] at h
  split at h
  ·rename_i a as' ha has
   simp only [Xf] at h
   subst h
   obtain ⟨⟨h1,h2⟩,h3,h4⟩:=Vs ρ xs (i0+1) as' has
   obtain ⟨k1,k2,k3,k4⟩:(a.den ρ).ok P (fun d=>(g d).den ρ) (.op x)∧a.sv.isG=Xc∧(∀ h ds gs,a = .clo h ds gs→gs = [])∧((rf.contains i0&&(Zcb g x).isSome)=Xb→∃ t d q j,a = .ref t d q j):=by
    split at ha
    ·obtain ⟨k1,k2,k3,k4⟩:=Zpk (P:=P) ρ ha
     exact ⟨k1,k2,k3,fun _=>k4⟩
    ·rename_i hn
     obtain ⟨k1,k2,k3⟩:=Zpc ρ ha
     exact ⟨k1,k2,k3,fun h=>(hn h).elim⟩
   refine ⟨⟨by simpa using h1,fun i y b hy hb=>?_⟩,fun b hb=>?_,fun i b y hy hb hc=>?_⟩
   ·cases i with
    | zero =>
     simp only [Xg,XB,Xf] at hy hb
     subst hy
     subst hb
     exact k1
    | succ i => exact h2 i y b (by simpa using hy) (by simpa using hb)
   ·rcases Xl.1 hb with rfl | hb
    ·exact ⟨k2,k3⟩
    ·exact h3 b hb
   ·cases i with
    | zero =>
     simp only [XB,Xf] at hb hy
     subst hb
     subst hy
     exact k4 hc
    | succ i => exact h4 i b y (by simpa using hy) (by simpa using hb) (by rw [Ub, Nat.add_comm 1 i]; exact hc)
  ·cases h
theorem ZpB {g:Nat→SV} {to:Bool} {d:Nat} {a:SAK} (ρ:Nat→V) (h:ZqY g to d=Xa a):∃ fr cs,a = .box d fr to cs∧(g d).den ρ=mkB fr (cs.map (BC.den ρ)):=by
 unfold ZqY at h
 split at h
 ·rename_i cs hcs
  split at h
  ·simp only [Xf] at h
   exact ⟨Xc,cs,h.symm,by rw [hcs];rfl⟩
  ·cases h
 ·rename_i cs hcs
  split at h
  ·simp only [Xf] at h
   exact ⟨Xb,cs,h.symm,by rw [hcs];rfl⟩
  ·cases h
 ·cases h
theorem ZaD {g:Nat→SV} {to:Bool} (ρ:Nat→V):∀ (ds:List Nat) (aZ:List SAK),ZaR g to ds=Xa aZ→aZ.length=ds.length∧∀ (i d:Nat),ds[i]? = Xa d→∃ fr cs,aZ[i]? = Xa (.box d fr to cs)∧
  (g d).den ρ=mkB fr (cs.map (BC.den ρ))
 | [], aZ, h => by simp only [ZaR, Xf] at h; subst h; exact ⟨rfl, by simp⟩
 | d :: ds, aZ, h => by
  simp only [ZaR] at h
  split at h
  ·rename_i a as' ha has
   simp only [Xf] at h
   subst h
   obtain ⟨h1,h2⟩:=ZaD ρ ds as' has
   refine ⟨by simp [h1],fun i e he=>?_⟩
   cases i with
   | zero =>
    simp only [XB,Xf] at he
    subst he
    obtain ⟨fr,cs,rfl,k2⟩:=ZpB ρ ha
    exact ⟨fr,cs,rfl,k2⟩
   | succ i => exact h2 i e (by simpa using he)
  ·cases h
theorem ZqJ {P:Program} {g:Nat→SV} (ρ:Nat→V) {ds:List Nat} {aZ:List SAK} (h:ZaR g Xc ds=Xa aZ):Kn P g ρ (ds.map .cap) aZ∧Raw aZ:=by
 obtain ⟨h1,h2⟩:=ZaD ρ ds aZ h
 refine ⟨⟨by simp [h1],fun i x a hx ha=>?_⟩,fun a ha=>?_⟩
 ·rw [Xk] at hx
  cases hd:ds[i]? with
  | none => rw [hd] at hx; cases hx
  | some d =>
   rw [hd] at hx
   simp only [Xo,Xf] at hx
   subst hx
   obtain ⟨fr,cs,k1,k2⟩:=h2 i d hd
   rw [k1] at ha
   simp only [Xf] at ha
   subst ha
   exact ⟨rfl,k2,rfl⟩
 ·obtain ⟨i,hi⟩:=XK.1 ha
  have hlt:i < ds.length:=by rw [← h1];exact (Xi.1 hi).1
  obtain ⟨fr,cs,k1,_⟩:=h2 i _ (Xp hlt)
  rw [k1] at hi
  simp only [Xf] at hi
  subst hi
  exact ⟨rfl,fun _ _ _ h=>by cases h⟩
theorem ZnG {P:Program} {g:Nat→SV} (ρ:Nat→V) {ds:List Nat} {aZ:List SAK} (h:ZaR g Xb ds=Xa aZ):Kn P g ρ (ds.map fun _=>.ghost) aZ:=by
 obtain ⟨h1,h2⟩:=ZaD ρ ds aZ h
 refine ⟨by simp [h1],fun i x a hx ha=>?_⟩
 rw [Xk] at hx
 cases hd:ds[i]? with
 | none => rw [hd] at hx; cases hx
 | some d =>
  rw [hd] at hx
  simp only [Xo,Xf] at hx
  subst hx
  obtain ⟨fr,cs,k1,k2⟩:=h2 i d hd
  rw [k1] at ha
  simp only [Xf] at ha
  subst ha
  exact ⟨k2,rfl⟩
theorem Vc:∀ (aZ:List SAK) (h:FuncId) (ds gs:List Nat),SAK.clo h ds gs∈aZ→∀ d∈ds,d∈Zy aZ
 | [], _, _, _, hm, _, _ => by simp at hm
 | a :: aZ, h, ds, gs, hm, d, hd => by
  have htail:d∈Zy aZ→d∈Zy (a::aZ):=by
   intro hx
   cases a with
   | clo _ _ _ => exact Xt.2 (.inr hx)
   | ref _ _ _ _ =>
    simp only [Zy]
    split
    ·exact hx
    ·exact We _ hx
   | _ => exact hx
  rcases Xl.1 hm with rfl | hm
  ·by_cases hx:d∈Zy aZ
   ·exact htail hx
   ·refine Xt.2 (.inl ?_)
    rw [List.mem_eraseDups,List.mem_filter]
    exact ⟨hd,by simpa using hx⟩
  ·exact htail (Vc aZ h ds gs hm d hd)
theorem KQ:∀ (aZ:List SAK) (t d q j:Nat),SAK.ref t d q j∈aZ→d∈Zy aZ
 | [], _, _, _, _, hm => by simp at hm
 | a :: aZ, t, d, q, j, hm => by
  rcases Xl.1 hm with rfl | hm
  ·simp only [Zy]
   split
   ·rename_i hx;simpa using hx
   ·exact U1
  ·have hx:=KQ aZ t d q j hm
   cases a with
   | clo _ _ _ => exact Xt.2 (.inr hx)
   | ref _ _ _ _ =>
    simp only [Zy]
    split
    ·exact hx
    ·exact We _ hx
   | _ => exact hx
theorem Zjn:∀ (l:List Nat) (d:Nat),d∈l→l[ZoH d l]? = Xa d
 | [], _, h => by simp at h
 | x :: xs, d, h => by
  unfold ZoH
  split
  ·rename_i hx;rw [hx];rfl
  ·rename_i hx
   rcases Xl.1 h with rfl | h
   ·exact (hx rfl).elim
   ·simpa using Zjn xs d h
theorem Zod {P:Program} {σ:Nat→AV} {ρ:Nat→V} {base:Nat} {gh:List Nat} {x:KW} {a:SAK} (h:(a.den ρ).ok P σ x):((Zcm base gh a).den ρ).ok P σ x:=by
 cases a with
 | clo f ds gs => cases x <;> exact h
 | ref t d q j => cases x <;> exact h
 | _ => exact h
theorem ZbS (ρ:Nat→V) {x:SC} (h:Zb4 x=Xb):Zal (x.den ρ)=Xb:=by cases x<;>first | rfl | cases h
theorem ZeV (ρ:Nat→V) {x:SV} (h:ZjW x=Xb):Zet (x.den ρ)=Xb:=by
 have hcs:∀ cs:List SC,cs.all Zb4=Xb→(cs.map (SC.den ρ)).all Zal=Xb:=by
  intro cs h
  rw [XE] at h ⊢
  intro y hy
  obtain ⟨z,hz,rfl⟩:=Xj.1 hy
  exact ZbS ρ (h z hz)
 have hbs:∀ cs:List BC,cs.all ZlS=Xb→(cs.map (BC.den ρ)).all Zal=Xb:=by
  intro cs h
  rw [XE] at h ⊢
  intro y hy
  obtain ⟨z,hz,rfl⟩:=Xj.1 hy
  have:=h z hz
  cases z with
  | c w => exact ZbS ρ this
  | own _ _ _ => cases this
  | gone => cases this
 cases x with
 | c y => cases y <;> first | rfl | cases h
 | dead => rfl
 | agg cs => exact hcs cs h
 | box cs => exact hbs cs h
 | gbox cs => exact hbs cs h
 | tuple vs =>
  simp only [ZjW,XE] at h
  simp only [SV.den,Zet,XE]
  intro y hy
  obtain ⟨z,hz,rfl⟩:=Xj.1 hy
  have:=h z hz
  cases z with
  | c w =>
   have h2:=ZbS ρ (show Zb4 w=Xb from this)
   cases w<;>first | rfl | cases this
  | agg cs => exact hcs cs this
  | own _ _ _ => cases this
  | gone => cases this
 | _ => cases h
theorem Zig {P:Program} {g:Nat→SV} {rf:List Nat} (ρ:Nat→V):∀ {args:List Operand} {i0 i:Nat} {x:Operand} {d q:Nat},args[i]? = Xa x→(rf.contains (i0+i)&&(Zcb g x).isSome)=Xc→Zn P (fun d=>(g d).den ρ) x = .mref d q→(∀ t e' ys,x = .tmp t→(g t).den ρ≠.own Xb e' ys)→(d,q)∈WD P g rf args i0
 | [], _, i, _, _, _, hx, _, _, _ => by simp at hx
 | y :: rest, i0, i, x, d, q, hx, hi, h, hno => by
  have hg:Z8 P g x = .mref d q:=Zjt (ρ:=ρ) (by rw [JV];exact h)
  unfold WD
  cases i with
  | zero =>
   simp only [XB,Xf] at hx
   subst hx
   rw [if_neg (by rw [Wq] at hi;rw [hi];simp)]
   split
   ·rename_i b e l hb
    cases y with
    | tmp t =>
     simp only [ZK,Xo,Xf] at hb
     cases b with
     | true => exact (hno t e (l.den ρ) rfl (by rw [hb]; rfl)).elim
     | false => simp only [Z8, hb] at hg; cases hg
    | _ => simp [ZK] at hb
   ·rw [hg]
    exact U1
  | succ i =>
   have ih:=Zig (P:=P) (g:=g) (rf:=rf) ρ (args:=rest) (i0:=i0+1) (i:=i) (by simpa using hx) (by rw [Ub,Nat.add_comm 1 i];exact hi) h hno
   split
   ·exact ih
   ·split
    ·exact ih
    ·split
     ·exact We _ ih
     ·exact ih
theorem KG (ρ:Nat→V):∀ (aZ:List SAK),(∀ a∈aZ,a.sv.isG=Xc)→((aZ.map (SAK.den ρ)).map AK.av).countP AV.isG=0
 | [], _ => rfl
 | a :: aZ, h => by
  have h0:=h a (by simp)
  have:(a.den ρ).av.isG=Xc:=by
   rw [Zqh]
   cases a with
   | imm x => cases x <;> first | rfl | exact KC ρ _ | (simp [SAK.sv, SV.isG] at h0)
   | own t x e l => rfl
   | box d fr to cs => cases to <;> first | rfl | (simp [SAK.sv, ZoF, SV.isG] at h0)
   | clo g ds gs => rfl
   | ref t d q j => rfl
   | pad => rfl
   | sto d l => simp [SAK.sv, SV.isG] at h0
  rw [Xg,Xg,List.countP_cons,KG ρ aZ fun b hb=>h b (by simp [hb]),this]
  rfl
theorem Ze6 {P:Program} {g:Nat→SV} (ρ:Nat→V) {xs:List KW} {aZ saks:List SAK} {nt:Nat} (hx:Kn P g ρ xs aZ) (hr:Raw aZ) (h:VG g nt aZ=Xa saks) :
  ∃ tail,Kn P g ρ (xs++tail) saks∧(∀ x∈tail,x = .pad∨x = .ghost)∧xs.length+((saks.map (SAK.den ρ)).map AK.av).countP AV.isG≤saks.length∧ZnY (saks.map (SAK.den ρ))∧Znn (saks.map (SAK.den ρ))∧∀ (i t d q j:Nat),aZ[i]? = Xa (SAK.ref t d q j)→∃ j',saks[i]? = Xa (SAK.ref t d q j'):=by
 unfold VG at h
 split at h
 ·rename_i hg
  simp only [Xf] at h
  subst h
  refine ⟨[],by rw [Wc];exact hx,by simp,by rw [KG ρ aZ fun a ha=>(hr a ha).1,hx.1];exact XD _,fun i f ds gs hi=>?_,fun i t d q j hi=>?_,fun i t d q j hi=>⟨j,hi⟩⟩
  case refine_2=>
   rw [Xk] at hi
   cases ha:aZ[i]? with
   | none => rw [ha] at hi; cases hi
   | some a =>
    rw [ha] at hi
    simp only [Xo,Xf] at hi
    cases a<;>simp only [SAK.den,reduceCtorEq] at hi
    have:=KQ aZ _ _ _ _ (Xh ha)
    rw [hg] at this
    cases this
  rw [Xk] at hi
  cases ha:aZ[i]? with
  | none => rw [ha] at hi; cases hi
  | some a =>
   rw [ha] at hi
   simp only [Xo,Xf] at hi
   have hm:=Xh ha
   cases a<;>simp only [SAK.den,reduceCtorEq] at hi
   rename_i f' ds' gs'
   simp only [AK.clo.injEq] at hi
   obtain ⟨rfl,rfl,rfl⟩:=hi
   have hgs:=(hr _ hm).2 _ _ _ rfl
   have hds:ds' = []:=by
    refine List.eq_nil_iff_forall_not_mem.2 fun d hd=>?_
    have:=Vc aZ f' ds' gs' hm d hd
    rw [hg] at this
    cases this
   subst hgs
   subst hds
   exact ⟨rfl,fun k d j hk=>by simp at hk⟩
 ·split at h
  ·rename_i hle
   cases hc:ZaR g Xb (Zy aZ) with
   | none => rw [hc] at h; cases h
   | some gs =>
    rw [hc] at h
    simp only [Xo,Xf] at h
    subst h
    obtain ⟨c1,c2⟩:=ZaD ρ (Zy aZ) gs hc
    have hpad:Kn P g ρ (Xm (nt-aZ.length) KW.pad) (Xm (nt-aZ.length) SAK.pad):=by
     refine ⟨by simp,fun i x a hx ha=>?_⟩
     have h1:=Xh hx
     have h2:=Xh ha
     rw [(Wd.1 h1).2,(Wd.1 h2).2]
     trivial
    have hset:Kn P g ρ xs (aZ.map (Zcm nt (Zy aZ))):=by
     refine ⟨by simp [hx.1],fun i x a hxi ha=>?_⟩
     rw [Xk] at ha
     cases hai:aZ[i]? with
     | none => rw [hai] at ha; cases ha
     | some b =>
      rw [hai] at ha
      simp only [Xo,Xf] at ha
      subst ha
      exact Zod (hx.2 i x b hxi hai)
    refine ⟨Xm (nt-aZ.length) KW.pad++(Zy aZ).map fun _=>KW.ghost,?_,fun x hx=>?_,?_,fun i f ds js hi=>?_,fun i t d q j hi=>?_,fun i t d q j hi=>?_⟩
    ·rw [← Xu]
     exact (hset.append hpad).append (ZnG ρ hc)
    ·rcases Xt.1 hx with hx | hx
     ·exact .inl (Wd.1 hx).2
     ·obtain ⟨_,_,rfl⟩:=Xj.1 hx
      exact .inr rfl
    ·have hz1:(((aZ.map (Zcm nt (Zy aZ))).map (SAK.den ρ)).map AK.av).countP AV.isG=0:=KG ρ _ fun a ha=>by
      obtain ⟨b,hb,rfl⟩:=Xj.1 ha
      have:=(hr b hb).1
      cases b<;>exact this
     have hz2:(((Xm (nt-aZ.length) SAK.pad).map (SAK.den ρ)).map AK.av).countP AV.isG=0:=KG ρ _ fun a ha=>by
      rw [(Wd.1 ha).2];rfl
     have hz3:((gs.map (SAK.den ρ)).map AK.av).countP AV.isG≤gs.length:=by
      have:=List.countP_le_length (p:=AV.isG) (l:=(gs.map (SAK.den ρ)).map AK.av)
      simpa using this
     simp only [XL,List.countP_append,XA,Xq,List.length_replicate] at hz1 hz2 hz3 ⊢
     rw [hz1,hz2,hx.1]
     omega
    ·rw [Xk] at hi
     have hin:∃ a,(aZ.map (Zcm nt (Zy aZ)))[i]? = Xa a∧a.den ρ = .clo f ds js:=by
      cases hs:(aZ.map (Zcm nt (Zy aZ))++Xm (nt-aZ.length) .pad++gs)[i]? with
      | none => rw [hs] at hi; cases hi
      | some a =>
       rw [hs] at hi
       simp only [Xo,Xf] at hi
       rcases Xx i aZ.length with h1 | h1
       ·rw [Xu,Xv (by simpa using h1)] at hs
        exact ⟨a,hs,hi⟩
       ·rw [Xu,Xy (by simpa using h1)] at hs
        rcases Xt.1 (Xh hs) with hm | hm
        ·rw [(Wd.1 hm).2] at hi;cases hi
        ·obtain ⟨k,hk⟩:=XK.1 hm
         have hlt:k < (Zy aZ).length:=by rw [← c1];exact (Xi.1 hk).1
         obtain ⟨fr,cs,e1,_⟩:=c2 k _ (Xp hlt)
         rw [e1] at hk
         simp only [Xf] at hk
         subst hk
         cases hi
     obtain ⟨a,ha,hden⟩:=hin
     rw [Xk] at ha
     cases hai:aZ[i]? with
     | none => rw [hai] at ha; cases ha
     | some b =>
      rw [hai] at ha
      simp only [Xo,Xf] at ha
      subst ha
      have hm:=Xh hai
      cases b<;>simp only [Zcm,SAK.den,reduceCtorEq] at hden
      rename_i f' ds' gs'
      simp only [AK.clo.injEq] at hden
      obtain ⟨rfl,rfl,rfl⟩:=hden
      refine ⟨by simp,fun k d j hk hj=>?_⟩
      rw [Xk,hk] at hj
      simp only [Xo,Xf] at hj
      subst hj
      have hd:=Vc aZ f' ds' gs' hm d (Xh hk)
      obtain ⟨fr,cs,e1,_⟩:=c2 _ d (Zjn _ d hd)
      refine ⟨fr,cs.map (BC.den ρ),?_⟩
      rw [Xk,Xy (by simp;omega)]
      have:nt+ZoH d (Zy aZ)-(aZ.map (Zcm nt (Zy aZ))++Xm (nt-aZ.length) SAK.pad).length=ZoH d (Zy aZ):=by
       simp;omega
      rw [this,e1]
      rfl
    ·rw [Xk] at hi
     have hin:∃ a,(aZ.map (Zcm nt (Zy aZ)))[i]? = Xa a∧a.den ρ = .ref t d q j:=by
      cases hs:(aZ.map (Zcm nt (Zy aZ))++Xm (nt-aZ.length) .pad++gs)[i]? with
      | none => rw [hs] at hi; cases hi
      | some a =>
       rw [hs] at hi
       simp only [Xo,Xf] at hi
       rcases Xx i aZ.length with h1 | h1
       ·rw [Xu,Xv (by simpa using h1)] at hs
        exact ⟨a,hs,hi⟩
       ·rw [Xu,Xy (by simpa using h1)] at hs
        rcases Xt.1 (Xh hs) with hm | hm
        ·rw [(Wd.1 hm).2] at hi;cases hi
        ·obtain ⟨k,hk⟩:=XK.1 hm
         have hlt:k < (Zy aZ).length:=by rw [← c1];exact (Xi.1 hk).1
         obtain ⟨fr,cs,e1,_⟩:=c2 k _ (Xp hlt)
         rw [e1] at hk
         simp only [Xf] at hk
         subst hk
         cases hi
     obtain ⟨a,ha,hden⟩:=hin
     rw [Xk] at ha
     cases hai:aZ[i]? with
     | none => rw [hai] at ha; cases ha
     | some b =>
      rw [hai] at ha
      simp only [Xo,Xf] at ha
      subst ha
      have hm:=Xh hai
      cases b<;>simp only [Zcm,SAK.den,reduceCtorEq] at hden
      rename_i t' d' q' j'
      simp only [AK.ref.injEq] at hden
      obtain ⟨rfl,rfl,rfl,rfl⟩:=hden
      have hd:=KQ aZ _ _ _ _ hm
      obtain ⟨fr,cs,e1,_⟩:=c2 _ _ (Zjn _ _ hd)
      refine ⟨fr,cs.map (BC.den ρ),?_⟩
      rw [Xk,Xy (by simp;omega)]
      have:nt+ZoH d' (Zy aZ)-(aZ.map (Zcm nt (Zy aZ))++Xm (nt-aZ.length) SAK.pad).length=ZoH d' (Zy aZ):=by
       simp;omega
      rw [this,e1]
      rfl
    ·have hlt:=(Xi.1 hi).1
     refine ⟨nt+ZoH d (Zy aZ),?_⟩
     rw [Xu,Xv (by simpa using hlt),Xk,hi]
     rfl
  ·cases h
theorem Kj:∀ (l:List Nat),W8 l=Xb→l.Nodup
 | [], _ => List.nodup_nil
 | x :: xs, h => by
  simp only [W8,Xs,Bool.not_eq_true',List.contains_eq_mem,decide_eq_false_iff_not] at h
  exact List.nodup_cons.2 ⟨h.1,Kj xs h.2⟩
theorem ZpA (ρ:Nat→V) (fr to:Bool) (o:SV):(Zti fr to o).den ρ=reB fr to (o.den ρ):=by
 cases to with
 | true =>
  cases o with
  | c x =>
   cases x with
   | cel p =>
    show AV.dead=reB fr Xb (Zk (p.den ρ))
    rcases YD (p.den ρ) with ⟨_,_,h⟩ | ⟨_,_,_,h⟩ | ⟨_,h⟩ | ⟨_,_,h⟩ <;> rw [h]<;>rfl
   | _ => rfl
  | gbox cs => exact Zcv ρ fr _
  | _ => rfl
 | false =>
  cases o with
  | c x =>
   cases x with
   | cel p =>
    show AV.dead=reB fr Xc (Zk (p.den ρ))
    rcases YD (p.den ρ) with ⟨_,_,h⟩ | ⟨_,_,_,h⟩ | ⟨_,h⟩ | ⟨_,_,h⟩ <;> rw [h]<;>rfl
   | _ => rfl
  | box cs => exact Zcv ρ fr _
  | _ => rfl
theorem Zre {fr to:Bool} {o:SV} {n:Nat} (h:o.bd n):(Zti fr to o).bd n:=by
 unfold Zti
 split
 ·cases fr<;>exact h
 ·cases fr<;>exact h
 ·trivial
theorem Zhw (ρ ρ':Nat→V):∀ (aZ:List SAK) (os:List SV),Zbo (aZ.map (SAK.den ρ)) (os.map (SV.den ρ'))=(ZaN aZ os).map fun u=>(u.1,u.2.den ρ')
 | [], os => by cases os <;> rfl
 | a :: aZ, [] => by cases a <;> rfl
 | a :: aZ, o :: os => by
  cases a<;>simp only [Xg,SAK.den,Zbo,ZaN,Zhw ρ ρ' aZ os,ZpA]<;>rfl
theorem KZ {n:Nat} : ∀ (aZ:List SAK) (os:List SV),(∀ o∈os,o.bd n)→∀ u∈ZaN aZ os,u.2.bd n
 | [], os, _, u, h => by cases os <;> simp [ZaN] at h
 | a :: aZ, [], _, u, h => by cases a <;> simp [ZaN] at h
 | a :: aZ, o :: os, ho, u, h => by
  cases a with
  | imm x => exact KZ aZ os (fun o' h' => ho o' (by simp [h'])) u h
  | clo _ _ _ => exact KZ aZ os (fun o' h' => ho o' (by simp [h'])) u h
  | pad => exact KZ aZ os (fun o' h' => ho o' (by simp [h'])) u h
  | own t x e l =>
   rcases Xl.1 h with rfl | h
   ·trivial
   ·exact KZ aZ os (fun o' h'=>ho o' (by simp [h'])) u h
  | ref t x e l =>
   rcases Xl.1 h with rfl | h
   ·trivial
   ·exact KZ aZ os (fun o' h'=>ho o' (by simp [h'])) u h
  | sto d l =>
   rcases Xl.1 h with rfl | h
   ·exact ho o (by simp)
   ·exact KZ aZ os (fun o' h'=>ho o' (by simp [h'])) u h
  | box d fr to cs =>
   rcases Xl.1 h with rfl | h
   ·exact Zre (ho o (by simp))
   ·exact KZ aZ os (fun o' h'=>ho o' (by simp [h'])) u h
end Go.AM
