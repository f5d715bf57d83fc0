import Derived.Test.YtjldbnbdcmfbmaaGreatM1
import Derived.Laws.MakeOwn
import Derived.Laws.CopyRow
import Derived.Orders
import Derived.LoopN
import Derived.Scope
import Derived.Laws.Cover3
import Derived.Laws.StructEq
open Option renaming some→Xa,bind_some→Xd,none→Xe,map_some→XC
open Bool renaming true→Xb,false→Xc,and_eq_true→Xj,not_eq_true'→Xu,false_eq_true→Xw,or_eq_true→XF
open List renaming length_append→Xf,length_map→Xk,append_assoc→Xl,length_nil→Xm,map_cons→Xn,all_eq_true→Xo,getElem?_eq_getElem→Xp,getElem_mem→Xq,mem_cons→Xs,mem_of_getElem?→Xt,length_cons→Xv,replicate→Xx,getElem?_map→Xy,mem_append→Xz,getElem?_eq_some_iff→XA,mem_map→XB,flatten_cons→XD,getElem?_append_right→XH,map_nil→XI,getElem?_append_left→XL,nil_append→XM,getElem?_cons_zero→XQ,mem_of_mem_take→XS,all_cons→XU,cons_append→XV,append_nil→XY,getElem?_take→XZ,mem_of_mem_drop→X4,length_take→X5,drop_zero→X7,range→Ue,getElem?_drop→Ug,mem_singleton→Uh,mem_iff_getElem?→Uj,eq_nil_of_length_eq_zero→Um,length_drop→Un,drop_of_length_le→Up,map_take→Uq,map_drop→Uy,getElem?_cons_succ→Uz,map_map→UB,getElem?_eq_none→UH,mem_replicate→UI,map_append→UL,take_of_length_le→UM,getElem?_set_ne→UN,getElem?_set_self→UR,mem_or_eq_of_mem_set→US,drop_drop→UU,nodup_cons→UY,contains_iff_mem→UZ,flatten_append→U2,mem_flatten→U4,map_toArray→U5,length_set→U6,countP_cons→U7,mem_filterMap→Tb,size_toArray→Td,take_append_drop→Te,length_replicate→Tg,length_eq_one_iff→Tp,take_succ_cons→Tq,foldl_cons→Tt,map_congr_left→Tu,take_length→Ty
open Option.some renaming injEq→Xg,inj→Ua
open Go.IntKind renaming wrap→Xi
open Nat renaming le_refl→Xr,zero_le→XT,le_trans→XX,zero_add→X9,lt_or_ge→Ub,add_assoc→Ui,mul_le_mul_right→Uu,lt_succ_self→UD,pow_succ→UJ,succ_mul→UP,mul_one→UV,add_zero→U1,mul_le_mul_left→U3,lt_irrefl→U8,pow_le_pow_right→Tk,le_add_right→Tx,eq_of_mul_eq_mul_right→TI,mod_two_eq_zero_or_one→TO
open Prod.mk renaming injEq→XG
open Array renaming toList_inj→Ud,getD→Ux,getElem?_eq_getElem→UO,toArray_toList→UW,getElem?_toList→Tj,length_toList→TG,getElem?_eq_some_iff→TK,size_setIfInBounds→TZ
open Int renaming toNat_of_nonneg→Th
open Classical renaming axiomOfChoice→Tv
set_option linter.unusedVariables false
set_option linter.unusedSimpArgs false
set_option linter.defProp false
namespace Go.AM
def JA (y:AV) (k:Nat) (b:Bool) (e:TypeId) (xs:List (List AV)):AV:=
 match y,k with
 | .own _ _ _, 0 => .own b e xs
 | .box cs, k + 1 => .box (cs.set k (.own b e xs))
 | y, _ => y
def Zaz {w:World} {b:Nat} {a cs:Array Value} {t:TypeId} (d:w.heap[b]? = Xa (.cells a t (0,0))) (f:cs.size=a.size) (b':Nat):Zcp w (w.setRow b cs) b':=by
 by_cases h:b'=b
 ·subst h;intro arr e c;rw [d] at c;simp only [Xg,Obj.cells.injEq,and_true] at c;obtain ⟨rfl,rfl⟩:=c;exact ⟨cs,setRow_heap w b' a cs t _ d,f⟩
 ·exact .of (setRow_other w b b' cs h)
def Sim.setPlace {c:Ctx} {σ:Nat→AV} {tm:Array Value} {w:World} {lim:Nat→Nat} {X:Nat→Nat→Option Nat} (h:Sim c σ tm w lim X) {d k b:Nat} {e:TypeId} {xs xs':List (List AV)} {arr arr':Array Value}
  (hp:Je (σ d) k=Xa (e,xs)) (r:X d k=Xa b) (a:w.heap[b]? = Xa (.cells arr e (0,0))) (A:arr'.size=arr.size) (O:xs'.length=xs.length) (h1:∀ x∈xs',x.length=c.P.cellsOf e) (h2:∀ x∈xs',∀ z∈x,z.isCell=Xb)
  (Q:∀ (j:Nat) (z:AV) (u:Value),xs'.flatten[j]? = Xa z→arr'[j]? = Xa u→Rep w lim z u) :
  ∃ X',Sim c (upd σ d (JA (σ d) k Xb e xs')) tm (w.setRow b arr') lim X':=by
 have s:∀ v,YF c.P w lim Xb e xs v (Xa b)→YF c.P (w.setRow b arr') lim Xb e xs' v (Xa b):=by
  intro v g;obtain ⟨t,cap,M,H,G,g4,R,T,U,g8,g9⟩:=WJ g;rw [a] at H;simp only [Xg,Obj.cells.injEq,and_true] at H;subst H;have f:=WY (cs:=arr') a G;rw [M,← O];exact Zky (setRow_heap w b arr arr' e _ a) G (by omega) R (by rw [A];exact T) h1 h2 fun j z u hz N=>(Q j z u hz N).mono f.ext
 have J:lim b=0:=by
  obtain ⟨v,g⟩:=WP h hp;rw [r] at g;obtain ⟨_,_,_,_,G,_⟩:=WJ g;exact G
 have f:=WY (cs:=arr') a J;have l:=h.rel d;rcases Jh hp with ⟨g,rfl⟩ | ⟨cs,q,g,rfl,hq⟩
 ·have C:d < c.nt:=Zhv h (by rw [g];exact fun h=>by cases h) (by rw [g];rfl);rw [g] at l;refine ⟨_,h.putRow (S:=fun b'=>b'=b) (X d) f (fun b' m=>⟨0,by rw [m];exact r⟩) C rfl (fun i _=>rfl) (.inl fun cs L=>by rw [g] at L;cases L) (fun i q y Q=>?_) ?_ (fun k b' o=>?_) (fun k W b' o D=>(h.dist d k d W b' o D).2) (by rw [g];rfl)⟩
  ·refine ⟨fun e' ys n=>?_,rfl,fun b' _=>Zaz a A b'⟩;rw [g] at n ⊢
   cases q with
   | succ q => simp [Je] at n
   | zero =>
    simp only [Je,Xg,XG] at n;obtain ⟨rfl,rfl⟩:=n;exact ⟨xs',rfl,O⟩
  ·rw [g];show YF c.P _ lim Xb e xs' _ (Zhm X d (X d) d 0);rw [Jd,r];refine s _ ?_;rw [← r];exact l
  ·exact ⟨by have:=(h.ours d k b' o).1;simpa using this,(h.ours d k b' o).2,fun i j y E=>y (h.dist i j d k b' E o).1⟩
 ·have C:d < c.nt:=Zhv h (by rw [g];exact fun h=>by cases h) (by rw [g];rfl);rw [g] at l;obtain ⟨Y,t,t0,M,H,G,g4,R,T,U⟩:=(show Jt c.P w lim (X d) cs _ from l)
  have Z:Y≠b:=fun e'=>by
   have:=(h.dist d (q+1) d 0 b r (by rw [← e'];exact M)).2;omega
  refine ⟨_,h.putRow (S:=fun b'=>b'=b) (X d) f (fun b' m=>⟨q+1,by rw [m];exact r⟩) C rfl (fun i _=>rfl) (.inr ⟨⟨_,by rw [g];rfl⟩,rfl,rfl⟩) (fun i q' y Q=>?_) ?_ (fun k b' o=>?_) (fun k W b' o D=>(h.dist d k d W b' o D).2) (by rw [g];rfl)⟩
  ·refine ⟨fun e' ys n=>?_,rfl,fun b' _=>Zaz a A b'⟩;rw [g] at n ⊢
   cases q' with
   | zero => simp [Je] at n
   | succ q' =>
    simp only [JA,Je] at n ⊢;by_cases hqq:q'=q
    ·subst hqq;rw [hq] at n;simp only [Xg,XG] at n;obtain ⟨rfl,rfl⟩:=n;rw [UR (XA.1 hq).1];exact ⟨xs',rfl,O⟩
    ·rw [UN (fun h=>hqq h.symm)];exact ⟨ys,n,rfl⟩
  ·rw [g];refine ⟨Y,t,t0,by rw [Jd];exact M,H,(setRow_other w b Y arr' Z).trans G,by rw [U6];exact g4,R,fun x p=>?_,fun i x u p N=>?_⟩
   ·rcases US p with p | p
    ·exact T x p
    ·exact .inr ⟨_,_,_,p⟩
   ·rw [Jd];by_cases y:i=q
    ·subst y;rw [UR (XA.1 hq).1] at p;simp only [Xg] at p;subst p;show YF c.P _ lim Xb e xs' u (X d (i+1));rw [r];refine s u ?_;rw [← r];exact U i _ u hq N
    ·rw [UN (fun h=>y h.symm)] at p;refine (U i x u p N).mono f.ext fun b' m=>f.blk b' (h.ours d (i+1) b' m).1 fun e'=>?_;have:=(h.dist d (i+1) d (q+1) b' m (by rw [e'];exact r)).2;omega
  ·exact ⟨by have:=(h.ours d k b' o).1;simpa using this,(h.ours d k b' o).2,fun i j y E=>y (h.dist i j d k b' E o).1⟩
def ZoU {P:Program} {o:Oper} {σ:Nat→AV} {T e:TypeId} {t p:Operand} {i:TypeInfo} {z:Value} {zc zc':List AV} {k:IntKind} {m:Int} (x:Bool) (L:o.op = .makeSlice T t p) (hT:P.underlying T=Xa (.slice e)) (hi:P.info? e=Xa i)
  (hz:i.zero=Xa z) (M:z.cells.size=i.size) (N:Zcf z.cells.toList=Xa zc) (ht:Z0 P σ t = .val (.int k m)) (O:Z0 P σ p = .val (.int k m)) (h0:0≤m) (hm:m.toNat*(i.bytes+1)≤Yh)
  (hw:zc'.length=zc.length∧∀ (w:World) (lim:Nat→Nat) (us:List Value),KO w lim zc us→KO w lim zc' us) :
  Kn P o σ (.own x e (Xx m.toNat zc')) [] []:=by
 intro c R r tm w lim X s ab a next Q hn;have hg:Z0 P r t=Z0 P σ t:=JT fun u g=>s u (by simp [Jl (o:=o) (x:=t) (by rw [L];simp [Op.operands]) g]);have S:Z0 P r p=Z0 P σ p:=JT fun u g=>s u (by simp [Jl (o:=o) (x:=p) (by rw [L];simp [Op.operands]) g]);have hv:Act.eval ⟨tm,[]⟩ t = .int k m:=YI R a ht hg;have U:Act.eval ⟨tm,[]⟩ p = .int k m:=YI R a O S;have d:P.cellsOf e=i.size:=JL hi;have h:=hw.2 w lim _ (K8 (w:=w) (lim:=lim) N);have A:z.cells.toList.length=i.size:=by rw [← M];simp
 have ac:m.toNat≤1099511627776:=by
  have:m.toNat*1≤m.toNat*(i.bytes+1):=U3 _ (by omega);unfold Yh at hm;omega
 have W:(i.bytes:Int)*m≤281474976710656:=by
  have h1:m.toNat*i.bytes≤m.toNat*(i.bytes+1):=U3 _ (by omega);unfold Yh at hm
  have h2:((m.toNat*i.bytes:Nat):Int)=(i.bytes:Int)*m:=by
   rw [Int.natCast_mul,Int.mul_comm];congr 1;omega
  omega
 have ad:(1099511627776:Nat)≤maxLen:=by decide
 have C:=run_make (P:=P) w T e i z hT hi hz k k m m h0 (Int.le_refl _) W (by omega)
 have l:madeCells z.cells (m.toNat*i.size)=((Xx m.toNat z.cells.toList).flatten).toArray:=by
  have:=replicate_zero z.cells.toList m.toNat;rw [A,UW] at this;exact this
 have Y:=KB h m.toNat
 have D:∀ x∈Xx m.toNat zc',x.length=P.cellsOf e:=by
  intro x Z;rw [(UI.1 Z).2,h.1,A,d]
 have f:=Wg w lim (madeCells z.cells (m.toNat*i.size)) e (if x=Xb then 0 else m.toNat*i.size) (fun _=>False)
 have E:∀ x∈Xx m.toNat zc',∀ y∈x,y.isCell=Xb:=fun x Z y q=>by
  rw [(UI.1 Z).2] at q;exact h.2.1 y q
 have G:∀ (j:Nat) (y:AV) (u:Value),(Xx m.toNat zc').flatten[j]? = Xa y→(madeCells z.cells (m.toNat*i.size))[j]? = Xa u→Rep (w.alloc (.cells (madeCells z.cells (m.toNat*i.size)) e)) (fun b=>if b=w.heap.size then (if x=Xb then 0 else m.toNat*i.size) else lim b) y u:=fun j y u q g=>(Y.2.2 j y u q (by rw [l] at g;simpa using g)).mono f.ext;have n:(madeCells z.cells (m.toNat*i.size)).toList.length=m.toNat*i.size:=by rw [TG,size_madeCells]
 have H:YF P (w.alloc (.cells (madeCells z.cells (m.toNat*i.size)) e)) (fun b=>if b=w.heap.size then (if x=Xb then 0 else m.toNat*i.size) else lim b) x e (Xx m.toNat zc') (.slice (Xa ⟨w.heap.size,0,Xe⟩) (Xx m.toNat zc').length m.toNat) (Xa w.heap.size):=by
  cases x
  ·refine .inl ⟨(madeCells z.cells (m.toNat*i.size)).toList,⟨by rw [n,Tg,d],.inr ⟨w.heap.size,m.toNat,_,rfl,XT _,Za9 w _ e,by simp,by omega,by rw [size_madeCells,d],UM (by rw [n,Tg,d];exact Xr _)⟩⟩,rfl,fun b J=>?_,D,E,fun j y u q g=>G j y u q (by simpa using g)⟩
   cases J
   show (if w.heap.size=w.heap.size then (if Xc=Xb then 0 else m.toNat*i.size) else lim w.heap.size)=_;rw [P4 rfl,n]
  ·exact Zky (Za9 w _ e) (P4 rfl) (by simp) (by omega) (by rw [size_madeCells,d]) D E G
 rw [Tg] at H;have aa:=a.world f fun _ hs=>hs.elim;refine ZR (v:=.slice (Xa ⟨w.heap.size,0,Xe⟩) m.toNat m.toNat) (w':=w.alloc (.cells (madeCells z.cells (m.toNat*i.size)) e)) ?_ (hn _ _ (YC aa (by rw [R];exact H) fun b J=>?_))
 ·simp only [execOp,L,hv,U,Sem.run_bind,C,Result.andThen_ok,Sem.run_pure]
 ·simp only [Xg] at J;subst J;exact ⟨.inr a.frm.size,fun i j=>ZbE a i j⟩
def Zdl {c:Ctx} {σ:Nat→AV} {o:Array Value} {w:World} {lim:Nat→Nat} {X:Nat→Nat→Option Nat} (h:Sim c σ o w lim X) {d q k:Nat} {e:TypeId} {xs:List (List AV)} {v:Value}
  (m:Je (σ d) q=Xa (e,xs)) (p:Jx c.P w lim X σ k (.mref d q) v):(xs = []∧(v = .slice Xe 0 0∨∃ a,v = .slice (Xa a) 0 0))∨
   ∃ b arr cap f,X d q=Xa b∧v = .slice (Xa ⟨b,0,Xe⟩) xs.length f∧w.heap[b]? = Xa (.cells arr e (0,0))∧lim b=0∧xs.length≤cap∧cap≤maxLen∧
   arr.size=cap*c.P.cellsOf e∧(∀ x∈xs,x.length=c.P.cellsOf e)∧(∀ x∈xs,∀ c∈x,c.isCell=Xb)∧∀ (j:Nat) (c:AV) (u:Value),xs.flatten[j]? = Xa c→arr[j]? = Xa u→Rep w lim c u:=by
 obtain ⟨e',xs',l,g⟩:=p;rw [m] at l;simp only [Xg,XG] at l;obtain ⟨rfl,rfl⟩:=l;rcases g with ⟨_,g,h3⟩ | ⟨b,arr,f,g,h3,h4,h5⟩
 ·exact .inl ⟨Um g,h3⟩
 ·obtain ⟨u,n⟩:=WP h m;rw [g] at n;obtain ⟨i,cap,t,r,s⟩:=WJ n;exact .inr ⟨b,i,cap,f,g,h5,r,s⟩
def ZeD {P:Program} {o:Oper} {σ:Nat→AV} {T e:TypeId} {x i:Operand} {d q:Nat} {xs:List (List AV)} {k:IntKind} {z:Int} (s:o.op = .indexAddr T x i)
  (u:P.underlying T=Xa (.slice e)) (h:P.cellsOf e≠0) (v:Z0 P σ x = .mref d q) (y:Je (σ d) q=Xa (e,xs)) (A:Z0 P σ i = .val (.int k z)) (C:0≤z) (D:z.toNat < xs.length) :
  Kn P o σ (.eref d q (z.toNat*P.cellsOf e+0)) [] [d]:=by
 refine Z8 [d] rfl fun c j l H w lim X m n a=>?_;rw [s] at m;have t:=WB j a v (m x (by simp [Op.operands]));have p:=YI j a A (m i (by simp [Op.operands]));have g:Je (l d) q=Xa (e,xs):=by rw [n d (by simp),y]
 rw [← j] at t;rcases Zdl a g t with ⟨rfl,_⟩ | ⟨b,arr,cap,cap',g1,g2,g3⟩
 ·simp at D
 ·obtain ⟨r,f⟩:=Ji h;have E:P.cellsOf e=r.size:=JL f;refine ⟨.pointer (Xa ⟨b,z.toNat*P.cellsOf e+0,Xe⟩),?_,b,e,xs,g,g1,rfl⟩;have G:0≤z∧z < (xs.length:Int):=⟨C,by omega⟩;simp [execOp,s,g2,p,Instr.indexAt,asIntOf,run_underlying u,G,Z7 f,YY]
def YW {s:Nat} : ∀ (xs:List (List AV)) (k:Nat),(∀ x∈xs,x.length=s)→(xs.take k).flatten=xs.flatten.take (k*s)
 | [], k, _ => by simp
 | x :: xs, 0, _ => by simp
 | x :: xs, k + 1, h => by
  have c:x.length=s:=h x (by simp);simp only [Tq,XD];rw [YW xs k fun y a=>h y (by simp [a]),List.take_append];have b:(k+1)*s-x.length=k*s:=by rw [UP];omega
  rw [b,UM (l:=x) (by rw [UP];omega)]
def ZaD {s:Nat} : ∀ (xs:List (List AV)) (k:Nat),(∀ x∈xs,x.length=s)→(xs.drop k).flatten=xs.flatten.drop (k*s)
 | [], k, _ => by simp
 | x :: xs, 0, _ => by simp
 | x :: xs, k + 1, h => by
  have c:x.length=s:=h x (by simp);simp only [List.drop_succ_cons,XD];rw [ZaD xs k fun y a=>h y (by simp [a]),List.drop_append];have b:(k+1)*s-x.length=k*s:=by rw [UP];omega
  rw [b,Up (l:=x) (by rw [UP];omega)];rfl
def Zd4 {s:Nat} {xs:List (List AV)} {i o:Nat} {e:List AV} (h:∀ x∈xs,x.length=s) (b:i < xs.length) (k:o+e.length≤s) :
  (Jk xs i o e).flatten=xs.flatten.take (i*s+o)++e++xs.flatten.drop (i*s+o+e.length):=by
 have m:xs[i].length=s:=h _ (Xq b);have d:xs=xs.take i++xs[i]::xs.drop (i+1):=by rw [List.getElem_cons_drop,Te]
 have a:(xs.take i).flatten.length=i*s:=by
  rw [YW xs i h,X5,Ja xs _ h];have:i*s≤xs.length*s:=Uu _ (by omega);omega
 have f:Jk xs i o e=xs.take i++setCells xs[i] o e::xs.drop (i+1):=by
  unfold Jk;rw [List.modify_eq_take_cons_drop b]
 have c:=congrArg List.flatten d;rw [U2,XD] at c;rw [f,c];simp only [U2,XD];rw [List.take_append,List.drop_append,a,UM (l:=(xs.take i).flatten) (by rw [a];omega),Up (l:=(xs.take i).flatten) (by rw [a];omega)];have g:i*s+o-i*s=o:=by omega
 have j:i*s+o+e.length-i*s=o+e.length:=by omega
 rw [g,j,List.take_append_of_le_length (by omega),List.drop_append_of_le_length (by omega)];unfold setCells;simp only [XM,Xl]
def ZkW {s:Nat} {xs:List (List AV)} {i o:Nat} {e:List AV} (h:∀ x∈xs,x.length=s) (f:∀ x∈xs,∀ c∈x,c.isCell=Xb) (m:o+e.length≤s) (g:∀ c∈e,c.isCell=Xb) :
  ∀ x∈Jk xs i o e,x.length=s∧∀ c∈x,c.isCell=Xb:=by
 intro x k;obtain ⟨j,b⟩:=Uj.1 k;unfold Jk at b;rw [List.getElem?_modify] at b
 cases hy:xs[j]? with
 | none => rw [hy] at b; cases b
 | some y =>
  rw [hy] at b;simp only [Option.map_eq_map,XC,Xg] at b;subst b;split
  ·have d:=Xt hy;have l:=h y d;refine ⟨by simp [setCells,l];omega,fun c a=>?_⟩;unfold setCells at a;rcases Xz.1 a with a | a
   ·rcases Xz.1 a with a | a
    ·exact f y d c (XS a)
    ·exact g c a
   ·exact f y d c (X4 a)
  ·have d:=Xt hy;exact ⟨h y d,f y d⟩
def Zl7 {R:AV→Value→Prop} {zs vs:List AV} {us c:List Value} {off:Nat} (h:∀ (j:Nat) (z:AV) (u:Value),zs[j]? = Xa z→us[j]? = Xa u→R z u) (d:∀ (j:Nat) (z:AV) (u:Value),vs[j]? = Xa z→c[j]? = Xa u→R z u)
  (e:vs.length=c.length) (i:off≤zs.length) (k:off≤us.length) :
  ∀ (j:Nat) (z:AV) (u:Value),(zs.take off++vs++zs.drop (off+vs.length))[j]? = Xa z→(us.take off++c++us.drop (off+c.length))[j]? = Xa u→R z u:=by
 intro j z u b a;have f:(zs.take off).length=off:=by rw [X5];omega
 have g:(us.take off).length=off:=by rw [X5];omega
 rw [Xl] at b a;rcases Ub j off with hlt | hge
 ·rw [XL (by omega),List.getElem?_take_of_lt hlt] at b a;exact h j z u b a
 ·rw [XH (by omega),f] at b;rw [XH (by omega),g] at a;rcases Ub (j-off) vs.length with hlt | hge'
  ·rw [XL hlt] at b;rw [XL (by omega)] at a;exact d _ z u b a
  ·rw [XH hge',Ug] at b;rw [XH (by omega),Ug] at a;rw [← e] at a;exact h _ z u b a
def Zgw {c:Ctx} {σ:Nat→AV} {i:Array Value} {w:World} {lim:Nat→Nat} {X:Nat→Nat→Option Nat} (h:Sim c σ i w lim X) {d q k p:Nat} {e:TypeId} {xs:List (List AV)} {v:Value}
  (l:Je (σ d) q=Xa (e,xs)) (m:Jx c.P w lim X σ k (.eref d q p) v) :
   ∃ b arr cap,X d q=Xa b∧v = .pointer (Xa ⟨b,p,Xe⟩)∧w.heap[b]? = Xa (.cells arr e (0,0))∧lim b=0∧xs.length≤cap∧cap≤maxLen∧
   arr.size=cap*c.P.cellsOf e∧(∀ x∈xs,x.length=c.P.cellsOf e)∧(∀ x∈xs,∀ c∈x,c.isCell=Xb)∧∀ (j:Nat) (c:AV) (u:Value),xs.flatten[j]? = Xa c→arr[j]? = Xa u→Rep w lim c u:=by
 obtain ⟨b,e',xs',s,f,n⟩:=m;obtain ⟨u,g⟩:=WP h l;rw [f] at g;obtain ⟨a,cap,t,o,r⟩:=WJ g;exact ⟨b,a,cap,f,n,o,r⟩
def ZmS {w:World} {lim:Nat→Nat} {xs:List (List AV)} {s i off n:Nat} {a:List AV} {arr:Array Value} {cap:Nat} (g:∀ x∈xs,x.length=s) (k:∀ x∈xs,∀ c∈x,c.isCell=Xb)
  (l:∀ (j:Nat) (c:AV) (u:Value),xs.flatten[j]? = Xa c→arr[j]? = Xa u→Rep w lim c u) (m:arr.size=cap*s) (p:xs.length≤cap) (b:xs[i]? = Xa a) (h:off+n≤s) :
  ((arr.toList.drop (i*s+off)).take n).length=n∧((a.drop off).take n).length=n∧(∀ c∈(a.drop off).take n,c.isCell=Xb)∧
   ∀ (j:Nat) (c:AV) (u:Value),((a.drop off).take n)[j]? = Xa c→((arr.toList.drop (i*s+off)).take n)[j]? = Xa u→Rep w lim c u:=by
 have q:=(XA.1 b).1;have e:=g a (Xt b)
 have r:i*s+s≤cap*s:=by
  rw [← UP];exact Uu _ (by omega)
 refine ⟨by simp [m];omega,by simp [e];omega,fun c d=>k a (Xt b) c (X4 (XS d)),fun j c u d f=>?_⟩;rw [XZ] at d f;split at d
 ·rename_i o;rw [P4 o,Ug] at f;rw [Ug] at d;refine l (i*s+(off+j)) c u ?_ ?_
  ·rw [WA xs s g i a b (off+j) (by omega)];exact d
  ·rw [← Ui];simpa using f
 ·cases d
def Zb4 {P:Program} {o:Oper} {σ:Nat→AV} {T e:TypeId} {a:Operand} {d q i off:Nat} {xs:List (List AV)} {g:List AV} (s:o.op = .load T a) (C:YT P T=Xa Xb)
  (D:Z0 P σ a = .eref d q (i*P.cellsOf e+off)) (E:Je (σ d) q=Xa (e,xs)) (h:xs[i]? = Xa g) (G:off+P.cellsOf T≤P.cellsOf e):Kn P o σ (.agg ((g.drop off).take (P.cellsOf T))) [] [d]:=by
 refine Z8 [d] rfl fun c l m O w lim X t p f=>?_;rw [s] at t;have v:=WB l f D (t a (by simp [Op.operands]));have r:Je (m d) q=Xa (e,xs):=by rw [p d (by simp),E]
 rw [← l] at v;obtain ⟨b,arr,cap,Q,x,H,g4,J,R,y,z,g9,g10⟩:=Zgw f r v;rw [l] at x y z;obtain ⟨A,L,M,N⟩:=ZmS (off:=off) (n:=P.cellsOf T) z g9 g10 y J h G;refine ⟨.agg ((arr.toList.drop (i*P.cellsOf e+off)).take (P.cellsOf T)).toArray,?_,?_⟩
 ·have:=ZaR (w:=w) (b:=b) (off:=i*P.cellsOf e+off) C A (fun j u k=>by
   rw [J5 H];rw [XZ] at k;split at k
   ·simpa using k
   ·cases k)
  simp [execOp,s,x,this]
 ·exact .agg (by rw [A,L]) M N
def ZaI {P:Program} {o:Oper} {σ:Nat→AV} {T e:TypeId} {a:Operand} {d q i off:Nat} {xs:List (List AV)} {g:List AV} {x:AV} (A:o.op = .load T a) (M:YT P T=Xa Xc)
  (N:Z0 P σ a = .eref d q (i*P.cellsOf e+off)) (O:Je (σ d) q=Xa (e,xs)) (l:xs[i]? = Xa g) (R:off+1≤P.cellsOf e) (S:g[off]? = Xa x):Kn P o σ x [] [d]:=by
 intro c m h tm w lim X p r f next Q s;have U:Z0 P h a=Z0 P σ a:=JT fun t W=>p t (by simp [Jl (o:=o) (x:=a) (by rw [A];simp [Op.operands]) W]);have C:=WB m f N U;have y:Je (h d) q=Xa (e,xs):=by rw [r d (by simp),O]
 rw [← m] at C;obtain ⟨b,arr,cap,g1,D,Y,g4,Z,g6,E,G,g9,g10⟩:=Zgw f y C;rw [m] at D E G;obtain ⟨k1,k2,H,z⟩:=ZmS (off:=off) (n:=1) G g9 g10 E Z l R;have e1:(g.drop off).take 1 = [x]:=by rw [List.take_one,List.head?_drop,S];rfl
 obtain ⟨u,J⟩:∃ u,(arr.toList.drop (i*P.cellsOf e+off)).take 1 = [u]:=Tp.1 k1;rw [e1] at H z;rw [J] at z
 have j:w.cell? ⟨b,i*P.cellsOf e+off,Xe⟩=Xa u:=by
  rw [J5 Y];have L:((arr.toList.drop (i*P.cellsOf e+off)).take 1)[0]? = Xa u:=by rw [J];rfl
  rw [XZ,P4 (by omega),Ug] at L;simpa using L
 obtain ⟨p1,p2⟩:=W9 (P:=P) (X:=X) (σ:=h) (k:=0) (H x (by simp)) (z 0 x u rfl rfl);refine ZR (v:=u) ?_ (s u w (Jw f p1 (k:=0) (by rw [m];exact p2)));simp [execOp,A,D,KJ M j]
def ZeL {P:Program} {o:Oper} {σ:Nat→AV} {T e:TypeId} {a x:Operand} {d q i off:Nat} {xs:List (List AV)} {vc vc':List AV} {y:AV} (S:o.op = .store T a x) (ha:Z0 P σ a = .eref d q (i*P.cellsOf e+off)) (hd:Je (σ d) q=Xa (e,xs))
  (r:Z0 P σ x=y) (hy:y.cells? = Xa vc) (U:vc.length=P.cellsOf T) (h0:P.cellsOf T≠0) (hi:i < xs.length) (h:off+P.cellsOf T≤P.cellsOf e)
  (M:vc'.length=vc.length∧∀ (w:World) (lim:Nat→Nat) (us:List Value),KO w lim vc us→KO w lim vc' us) :
  Kn P o σ .dead [(d,JA (σ d) q Xb e (Jk xs i off vc'))] [d]:=by
 intro c s g tm w lim X A W f next Q Y;have Z:Z0 P g a=Z0 P σ a:=JT fun t ht=>A t (by simp [Jl (o:=o) (x:=a) (by rw [S];simp [Op.operands]) ht]);have aa:Z0 P g x=Z0 P σ x:=JT fun t ht=>A t (by simp [Jl (o:=o) (x:=x) (by rw [S];simp [Op.operands]) ht]);have C:g d=σ d:=W d (by simp);have D:Je (g d) q=Xa (e,xs):=by rw [C,hd]
 have E:=WB s f ha Z;rw [← s] at E;obtain ⟨us,h4,p⟩:=ZbY hy (WB s f r aa);obtain ⟨b,arr,cap,g1,h3,g3,g4,g6,g7,N,g9,g10,g11⟩:=Zgw f D E;rw [s] at N g9 h3;obtain ⟨ae,G⟩:=Ji h0;have H:=M.2 w lim us p;have l:us.length=P.cellsOf T:=by rw [← p.1,U]
 have ac:i*P.cellsOf e+P.cellsOf e≤xs.length*P.cellsOf e:=by
  rw [← UP];exact Uu _ hi
 have ad:xs.length*P.cellsOf e≤cap*P.cellsOf e:=Uu _ g6;have m:=ZkW (i:=i) g9 g10 (by rw [M.1,U];exact h) H.2.1
 have ab:=Wc (P:=P) (T:=T) (w:=w) (b:=b) (off:=i*P.cellsOf e+off) (v:=Act.eval ⟨tm,[]⟩ x) G h4 l g3 (by rw [l,N];omega) (fun u J=>by
  obtain ⟨j,hj⟩:=Uj.1 J;have L:j < vc.length:=by rw [p.1];exact (XA.1 hj).1
  exact (p.2.2 j _ u (Xp L) hj).oneCell (p.2.1 _ (Xq L)))
 obtain ⟨X',n⟩:=f.setPlace (xs':=Jk xs i off vc') (arr':=(arr.toList.take (i*P.cellsOf e+off)++us++arr.toList.drop (i*P.cellsOf e+off+us.length)).toArray) D g1 g3
  (by simp [N];omega) (by simp [Jk]) (fun x r=>by rw [s];exact (m x r).1) (fun x r=>(m x r).2) (fun j z u O J=>by
   rw [Zd4 g9 (by omega) (by rw [M.1,U];exact h)] at O;refine Zl7 (R:=Rep w lim) (us:=arr.toList) (fun j z u O J=>g11 j z u O (by simpa using J)) H.2.2 (by rw [M.1,p.1]) ?_ ?_ j z u O (by simpa using J)
   ·rw [Ja xs _ g9];omega
   ·simp [N];omega)
 rw [C] at n;refine W8 (w':=w.setRow b (arr.toList.take (i*P.cellsOf e+off)++us++arr.toList.drop (i*P.cellsOf e+off+us.length)).toArray) ?_ (Y undef _ ?_)
 ·simp only [execOp,S,h3,Sem.run_bind,ab,Result.andThen_ok,Sem.run_pure]
 ·exact Jw n rfl (k:=0) trivial
def ZgU {P:Program} {o:Oper} {σ:Nat→AV} {k:Call} {x:Operand} {T A e:TypeId} {d q:Nat} {xs:List (List AV)} (u:o.op = .call k) (l:k.callee = .builtin .len)
  (i:k.args.toList = [x]) (n:k.argTypes.toList = [T]) (C:P.underlying T=Xa (.slice A)) (D:Z0 P σ x = .mref d q) (E:Je (σ d) q=Xa (e,xs)):Kn P o σ (.val (.int .i64 xs.length)) [] [d]:=by
 have f:k.args = #[x]:=by apply Ud.1;rw [i]
 have m:k.argTypes = #[T]:=by apply Ud.1;rw [n]
 refine Z8 [d] rfl fun c v p G w lim X y r g=>⟨.int .i64 xs.length,?_,.val rfl⟩;rw [u] at y;have z:=WB v g D (y x (by simp [Op.operands,Call.operands,f,l]));have s:Je (p d) q=Xa (e,xs):=by rw [r d (by simp),E]
 rw [← v] at z
 have j:∃ a cap,Act.eval ⟨G,[]⟩ x = .slice a xs.length cap:=by
  rcases Zdl g s z with ⟨rfl,h | ⟨a,h⟩⟩ | ⟨b,arr,cap,cap',g1,t,g3⟩
  ·exact ⟨_,_,h⟩
  ·exact ⟨_,_,h⟩
  ·exact ⟨_,_,t⟩
 obtain ⟨a,cap,t⟩:=j;simp [execOp,u,l,resolve,f,m,invoke,builtin,Builtin.len_,t,run_underlying C,goInt]
def Zne {P:Program} {w:World} {lim:Nat→Nat} {f:Bool} {i:List (List AV)} {v:Value} (n:Nat) (h:Rep w lim (.slice f 1 i) v) :
  (v = .slice Xe 0 0∧i = [])∨∃ (a:Addr) (d e:Nat) (cs:List Value),v = .slice (Xa a) d e∧cs.length=Nat.min d n∧d=i.length∧(∀ y∈i,y.length=1∧∀ c∈y,c.isCell=Xb)∧(∀ j u,cs[j]? = Xa u→w.cell? (a.add j)=Xa u)∧
   (∀ u∈cs,u.oneCell'=Xb)∧∀ (j:Nat) (z:AV) (u:Value),(i.take n).flatten[j]? = Xa z→cs[j]? = Xa u→Rep w lim z u:=by
 have s:∀ (y:AV),Rep w lim y v→y = .slice f 1 i→(v = .slice Xe 0 0∧i = [])∨∃ (a:Addr) (d e:Nat) (cs:List Value),v = .slice (Xa a) d e∧cs.length=Nat.min d n∧d=i.length∧(∀ y∈i,y.length=1∧∀ c∈y,c.isCell=Xb)∧(∀ j u,cs[j]? = Xa u→w.cell? (a.add j)=Xa u)∧
   (∀ u∈cs,u.oneCell'=Xb)∧∀ (j:Nat) (z:AV) (u:Value),(i.take n).flatten[j]? = Xa z→cs[j]? = Xa u→Rep w lim z u:=by
  intro y r g
  cases r with
  | sliceN => injection g with h1 h2 h3; exact .inl ⟨rfl, h3.symm⟩
  | @sliceE f' s2 a cap hf =>
   injection g with h1 h2 h3;subst h3;exact .inr ⟨a,0,cap,[],rfl,by simp,rfl,by simp,by simp,by simp,by simp⟩
  | @sliceC f' s2 xs b o cap us hs hc hf hle hlim hus hcell hr =>
   injection g with h1 h2 h3;subst h2;subst h3;have t:xs.flatten.length=us.length:=by rw [Ja xs _ hs,hus]
   refine .inr ⟨⟨b,o,Xe⟩,xs.length,cap,us.take n,rfl,?_,rfl,fun y r=>⟨hs y r,hc y r⟩,fun j u k=>?_,fun u p=>?_,fun j z u m p=>?_⟩
   ·rw [X5,hus,UV];exact Nat.min_comm _ _
   ·rw [XZ] at k;split at k
    ·rw [YY];exact hcell j u k
    ·cases k
   ·obtain ⟨j,k⟩:=Uj.1 (XS p);have q:j < xs.flatten.length:=by rw [t];exact (XA.1 k).1
    have m:xs.flatten[j]? = Xa xs.flatten[j]:=Xp q;obtain ⟨l,C,x⟩:=U4.1 (Xq q);exact (hr j _ u m k).oneCell (hc l C _ x)
   ·rw [YW xs n hs,UV,XZ] at m;rw [XZ] at p;split at m
    ·rename_i A;rw [P4 A] at p;exact hr j z u m p
    ·cases m
  | val _ => cases g
  | agg _ _ _ => cases g
 exact s _ h rfl
def ZgX {P:Program} {w:World} {T T' ty e:TypeId} {v u:Value} {d:TypeInfo} (f:P.underlying T=Xa (.slice e)) (g:P.info? e=Xa d) (h:v = .slice Xe 0 0∨∃ a,v = .slice (Xa a) 0 0)
  (i:∃ b n c,u = .slice b n c):(Builtin.copy_ #[T,T'] ty #[v,u]).run P w = .ok (goInt 0) w:=by
 obtain ⟨b,n,c,rfl⟩:=i;have k:∀ a,(loadCells a 0).run P w = .ok #[] w:=fun a=>run_loadCells_list (P:=P) w a [] (fun j v l=>by simp at l);have m:Nat.min n 0=0:=Nat.min_zero n;rcases h with rfl | ⟨a,rfl⟩ <;> cases b<;>simp [Builtin.copy_,run_underlying f,Z7 g,Builtin.lenOf,Builtin.firstCells,m,k,storeCells]
def ZeT {P:Program} {o:Oper} {σ:Nat→AV} {L:Call} {T T' e:TypeId} {x y:Operand} {d q:Nat} {xs r:List (List AV)} {f:Bool} (M:o.op = .call L) (s:L.callee = .builtin .copy)
  (G:L.args.toList = [x,y]) (aa:L.argTypes.toList = [T,T']) (hT:P.underlying T=Xa (.slice e)) (hs:P.cellsOf e=1) (n:Z0 P σ x = .mref d q) (hd:Je (σ d) q=Xa (e,xs)) (hy:Z0 P σ y = .slice f 1 r) :
  Kn P o σ .dead [(d,JA (σ d) q Xb e (ZnF xs r))] [d]:=by
 have g:L.args = #[x,y]:=by apply Ud.1;rw [G]
 have A:L.argTypes = #[T,T']:=by apply Ud.1;rw [aa]
 intro c hc p tm w lim X N ab l next Q hn;subst hc;have ac:Z0 c.P p x=Z0 c.P σ x:=JT fun t ht=>N t (by simp [Jl (o:=o) (x:=x) (by rw [M];simp [Op.operands,Call.operands,g,s]) ht]);have ad:Z0 c.P p y=Z0 c.P σ y:=JT fun t ht=>N t (by simp [Jl (o:=o) (x:=y) (by rw [M];simp [Op.operands,Call.operands,g,s]) ht]);have H:p d=σ d:=ab d (by simp);have O:Je (p d) q=Xa (e,xs):=by rw [H,hd]
 have S:Rep w lim (.slice f 1 r) (Act.eval ⟨tm,[]⟩ y):=WB rfl l hy ad;obtain ⟨ae,C⟩:=Ji (P:=c.P) (T:=e) (by omega);have af:c.P.cellsOf e=ae.size:=JL C;have U:(c.P.info? e).map (·.size)=Xa 1:=by rw [C,XC,← af,hs]
 have D:∀ xs',xs'=xs→Kb p [(d,JA (σ d) q Xb e xs')]=p:=by
  rintro xs' rfl;funext k;simp only [Kb,upd];split
  ·rename_i hk;subst hk;rw [H];rcases Jh hd with ⟨h1,rfl⟩ | ⟨cs,q,h1,rfl,h2⟩
   ·rw [h1];rfl
   ·rw [h1];simp only [JA,AV.box.injEq];apply List.ext_getElem?;intro i;by_cases hi:i=q
    ·subst hi;rw [UR (XA.1 h2).1,h2]
    ·rw [UN (fun h=>hi h.symm)]
  ·rfl
 rcases Zdl l O (WB rfl l n ac) with ⟨rfl,hv0⟩ | ⟨b,arr,cap,cap',g1,g2,g3,g4,g6,g7,g8,g9,g10,g11⟩
 ·have m:=ZgX (P:=c.P) (w:=w) (T:=T) (T':=T') (ty:=o.type) (u:=Act.eval ⟨tm,[]⟩ y) hT C hv0 (by
   rcases Zne (P:=c.P) 0 S with ⟨h,_⟩ | ⟨a,sLen,sCap,cs,h,_⟩
   ·exact ⟨_,_,_,h⟩
   ·exact ⟨_,_,_,h⟩)
  refine ZR (v:=goInt 0) (w':=w) ?_ (hn _ w ?_)
  ·simp only [execOp,M,resolve,s,g,A,U5,Xn,XI,Sem.run_bind,Sem.run_pure,Result.andThen_ok,invoke,builtin,m]
  ·rw [D _ (by simp [ZnF])];exact Jw l rfl (k:=0) trivial
 have W:∀ x∈xs,x.length=1:=fun x n=>by rw [g9 x n,hs]
 rw [hs,UV] at g8;rcases Zne (P:=c.P) xs.length S with ⟨hv,hnil⟩ | ⟨a,sLen,sCap,cs,hv,h1,h2,h3,h4,h5,h6⟩
 ·subst hnil;have m:=run_copy_nil c.P w T T' o.type e ⟨b,0,Xe⟩ xs.length cap' hT (by rw [U];rfl);refine ZR (v:=goInt 0) (w':=w) ?_ (hn _ w ?_)
  ·simp only [execOp,M,resolve,s,g,A,U5,Xn,XI,Sem.run_bind,Sem.run_pure,Result.andThen_ok,invoke,builtin,g2,hv,m]
  ·rw [D _ (by simp [ZnF])];exact Jw l rfl (k:=0) trivial
 ·have J:cs.length=min sLen xs.length:=h1;have m:=run_copy_row c.P w T T' o.type e b 0 xs.length cap' a sLen sCap arr e cs hT U g3 h1 h4 (by rw [J,g8];omega) h5;rw [X9] at m;have ag:cs.length≤xs.length:=by rw [h1];exact Nat.min_le_right _ _
  have e1:ZnF xs r=r.take xs.length++xs.drop cs.length:=by
   unfold ZnF;rw [J];congr 1;by_cases hle:r.length≤xs.length
   ·rw [h2,Nat.min_eq_left hle]
   ·rw [h2,Nat.min_eq_right (by omega),Up (by omega),Up (by omega)]
  have Y:(r.take xs.length).length=cs.length:=by rw [X5,J,h2];exact Nat.min_comm _ _
  have hm:∀ x∈ZnF xs r,x.length=1∧∀ c∈x,c.isCell=Xb:=by
   rw [e1];intro x n;rcases Xz.1 n with n | n
   ·exact h3 x (XS n)
   ·exact ⟨W x (X4 n),g10 x (X4 n)⟩
  have Z:(r.take xs.length).flatten.length=cs.length:=by rw [Ja (r.take xs.length) 1 fun y hy=>(h3 y (XS hy)).1,Y,UV]
  obtain ⟨X',E⟩:=l.setPlace (xs':=ZnF xs r) (arr':=(arr.toList.take 0++cs++arr.toList.drop cs.length).toArray) O g1 g3 (by simp;omega) (by rw [e1,Xf,Y,Un];omega)
   (fun x n=>by rw [hs];exact (hm x n).1) (fun x n=>(hm x n).2) (fun j z u hz hu=>by
    rw [e1,U2,ZaD xs cs.length W,UV] at hz;refine Zl7 (R:=Rep w lim) (off:=0) (zs:=xs.flatten) (us:=arr.toList) (fun j z u hz hu=>g11 j z u hz (by simpa using hu)) h6 Z (XT _) (XT _) j z u ?_ ?_
    ·rw [X9,Z];simpa using hz
    ·rw [X9];simpa using hu)
  rw [H] at E;refine ZR (v:=goInt cs.length) (w':=w.setRow b (arr.toList.take 0++cs++arr.toList.drop cs.length).toArray) ?_ (hn _ _ (Jw E rfl (k:=0) trivial));simp only [execOp,M,resolve,s,g,A,U5,Xn,XI,Sem.run_bind,Sem.run_pure,Result.andThen_ok,invoke,builtin,g2,hv,m]
def Zlw {T':Odr} {P:Program} {o:Oper} {σ:Nat→AV} {T e:TypeId} {x y:Operand} {d:Nat} {xs:List (List AV)} {k:IntKind} {h:Nat} {us:List (Nat×AV)} (r:o.op = .slice T x Xe (Xa y) Xe) (L:P.underlying T=Xa (.slice e)) (M:P.cellsOf e≠0)
  (s:Z0 P σ x = .mref d 0) (hd:σ d = .own Xb e xs) (hy:Z0 P σ y = .val (.int k h)) (hh:h≤xs.length) (N:WQ T' σ d us) :
  Zfb T' P o σ (.own Xb e (xs.take h)) ((d,Zep P Xb e xs)::us) [d]:=by
 intro c q l tm w lim X A O R g next Q S;have U:Z0 P l x=Z0 P σ x:=JT fun t W=>A t (by simp [Jl (o:=o) (x:=x) (by rw [r];simp [Op.operands]) W]);have Y:Z0 P l y=Z0 P σ y:=JT fun t W=>A t (by simp [Jl (o:=o) (x:=y) (by rw [r];simp [Op.operands]) W]);have C:l d = .own Xb e xs:=by rw [O d (by simp),hd]
 have G:=WB q g s U;have m:=YI q g hy Y;rw [← q] at G;obtain ⟨X1,H,k2,k3⟩:=g.freeAll (us:=us) C (.inr (N.all R));rw [q] at H;obtain ⟨Z,i⟩:=Ji M;have n:Je (l d) 0=Xa (e,xs):=by rw [C];rfl
 rcases Zdl g n G with ⟨rfl,hform⟩ | ⟨b,arr,cap,cap',g1,g2,g3,g4,g5,g6,g7,g8,g9,g10⟩
 ·have aa:h=0:=by simpa using hh
  subst aa;rcases hform with hf | ⟨a,hf⟩
  ·refine ZR (v:=.slice Xe 0 0) (w':=w) ?_ (S _ w (YC (ob:=Xe) H (.inl ⟨[],World.ownsRow_nil _ 0 e _,rfl,by simp,by simp,by simp,by simp⟩) (by simp)));simp [execOp,r,hf,m,Instr.sliceAt,Instr.slice,Instr.sliceBounds,Instr.sliceBound,asIntOf,run_underlying L,Z7 i]
  ·refine ZR (v:=.slice (Xa a) 0 0) (w':=w) ?_ (S _ w (YC (ob:=Xe) H (.inr ⟨rfl,rfl,a,rfl⟩) (by simp)));simp [execOp,r,hf,m,Instr.sliceAt,Instr.slice,Instr.sliceBounds,Instr.sliceBound,asIntOf,run_underlying L,Z7 i]
 ·have af:P.cellsOf e=Z.size:=JL i
  have ag:xs.length≤cap':=by
   obtain ⟨e2,ab,p,f⟩:=G;rw [n] at p;simp only [Xg,XG] at p;obtain ⟨rfl,rfl⟩:=p;rcases f with ⟨f,_⟩ | ⟨b',arr',cap2,f,m3,m4,m5⟩
   ·rw [g1] at f;cases f
   ·rw [g1] at f;have hb:b=b':=Ua f;subst hb;rw [g3] at m3;simp only [Xg,Obj.cells.injEq,and_true] at m3;subst m3;rw [g2] at m5;simp only [Value.slice.injEq] at m5;have D:cap2=cap:=TI (by rw [q];omega) (m4.symm.trans g7);omega
  have ac:cap'=cap:=by
   obtain ⟨e2,ab,p,f⟩:=G;rw [n] at p;simp only [Xg,XG] at p;obtain ⟨rfl,rfl⟩:=p;rcases f with ⟨f,_⟩ | ⟨b',arr',cap2,f,m3,m4,m5⟩
   ·rw [g1] at f;cases f
   ·rw [g1] at f;have hb:b=b':=Ua f;subst hb;rw [g3] at m3;simp only [Xg,Obj.cells.injEq,and_true] at m3;subst m3;rw [g2] at m5;simp only [Value.slice.injEq] at m5;have D:cap2=cap:=TI (by rw [q];omega) (m4.symm.trans g7);omega
  subst ac;have ad:(xs.take h).length=h:=by rw [X5];omega
  have E:YF c.P w lim Xb e (xs.take h) (.slice (Xa ⟨b,0,Xe⟩) (xs.take h).length cap') (Xa b):=
   Zky g3 g4 (by omega) g6 g7 (fun x s=>g8 x (XS s)) (fun x s=>g9 x (XS s)) fun j z u J hu=>g10 j z u (by
    rw [YW xs h g8,XZ] at J;split at J
    ·exact J
    ·cases J) hu
  rw [ad] at E;refine ZR (v:=.slice (Xa ⟨b,0,Xe⟩) h cap') (w':=w) ?_ (S _ w (YC H E fun b' ae=>?_))
  ·have b1:h≤cap':=by omega
   simp [execOp,r,g2,m,Instr.sliceAt,Instr.slice,Instr.sliceBounds,Instr.sliceBound,asIntOf,run_underlying L,Z7 i,b1,YY]
  ·exact k3 b' (g1.trans ae)
def Zaw {P:Program} {w:World} {T ty e:TypeId} {a:Option Addr} {c:Nat} (b:P.underlying T=Xa (.slice e)):(Builtin.clear_ #[T] ty #[.slice a 0 c]).run P w = .ok (.tuple #[]) w:=by
 cases a<;>simp [Builtin.clear_,run_underlying b]
def Zgr {P:Program} {w:World} {T ty e t:TypeId} {f:TypeInfo} {z:Value} {b o n c:Nat} {arr:Array Value} (k:P.underlying T=Xa (.slice e)) (m:P.info? e=Xa f) (p:f.zero=Xa z) (q:w.heap[b]? = Xa (.cells arr t (0,0)))
  (g:o+(n+1)*z.cells.size≤arr.size) (r:∀ v∈z.cells.toList,v.oneCell'=Xb) :
  (Builtin.clear_ #[T] ty #[.slice (Xa ⟨b,o,Xe⟩) (n+1) c]).run P w =
   .ok (.tuple #[]) (w.setRow b (arr.toList.take o++(Xx (n+1) z.cells.toList).flatten++arr.toList.drop (o+(n+1)*z.cells.size)).toArray):=by
 have a:=replicate_zero z.cells.toList (n+1);rw [UW] at a
 have j:(Builtin.zeroCells z.cells (n+1)).toList=(Xx (n+1) z.cells.toList).flatten:=by
  have:Builtin.zeroCells z.cells (n+1)=madeCells z.cells ((n+1)*z.cells.toList.length):=by simp [Builtin.zeroCells,madeCells]
  rw [this];have s:madeCells z.cells ((n+1)*z.cells.toList.length)=((Xx (n+1) z.cells.toList).flatten).toArray:=a;rw [s]
 have d:((Xx (n+1) z.cells.toList).flatten).length=(n+1)*z.cells.size:=by simp
 have h:=run_storeCells_at P b o t ((Xx (n+1) z.cells.toList).flatten) 0 arr w q (by rw [d];exact g) (fun v i=>by
  obtain ⟨l,u,i⟩:=U4.1 i;rw [(UI.1 u).2] at i;exact r v i)
 rw [U1,d] at h;simp [Builtin.clear_,run_underlying k,zeroValue,typeInfo,run_program,m,p,j,h]
def Sim.clear {c:Ctx} {σ:Nat→AV} {J:Array Value} {w:World} {lim:Nat→Nat} {X:Nat→Nat→Option Nat} (h:Sim c σ J w lim X) {x n:Nat} {T e:TypeId} {f:TypeInfo} {z:Value} {zc:List AV} {xs:List (List AV)} (W:σ x = .own Xb e xs)
  (N:c.P.underlying T=Xa (.slice e)) (L:c.P.info? e=Xa f) (hz:f.zero=Xa z) (r:z.cells.size=f.size) (h0:0 < f.size) (t:∀ (w:World) (lim:Nat→Nat),KO w lim zc z.cells.toList) (Y:∀ v∈z.cells.toList,v.oneCell'=Xb) (Z:n≤xs.length) :
  ∃ v2 w' X',(Instr.sliceAt T (J.getD x undef) (Xa (.int .i64 n)) Xe Xe).run c.P w = .ok v2 w∧(∀ ty,(Builtin.clear_ #[T] ty #[v2]).run c.P w = .ok (.tuple #[]) w')∧
   Sim c (upd σ x (.own Xb e (xs.take n++Xx (xs.length-n) zc))) J w' lim X'∧xs.length≤maxLen:=by
 have hk:c.P.cellsOf e=f.size:=JL L;have l:=h.rel x;rw [W] at l;have l:YF c.P w lim Xb e xs (J.getD x undef) (X x 0):=l
 have E:∀ ys,ys=xs→upd σ x (.own Xb e ys)=σ:=by
  rintro ys rfl;funext i;by_cases L:i=x
  ·subst L;rw [J9,W]
  ·rw [ZQ σ _ L]
 have O:∀ w,(sizeOf e).run c.P w = .ok f.size w:=fun w=>by rw [Z7 L,hk]
 cases hX:X x 0 with
 | none =>
  rw [hX] at l
  have G:∃ base,J.getD x undef = .slice base 0 0∧xs = []:=by
   rcases l with ⟨us,hr,hob,_⟩ | ⟨hxs,_,a,A⟩
   ·rcases hr.2 with ⟨A,hl⟩ | ⟨g,cap,cur,A,_⟩
    ·exact ⟨Xe,A,Um hl⟩
    ·rw [A] at hob;cases hob
   ·exact ⟨_,A,hxs⟩
  obtain ⟨base,A,rfl⟩:=G;have aa:n=0:=by simpa using Z
  subst aa;refine ⟨.slice base 0 0,w,X,?_,fun ty=>Zaw N,by rw [E _ (by simp)];exact h,by simp⟩;rw [A]
  cases base<;>simp [Instr.sliceAt,Instr.slice,Instr.sliceBounds,Instr.sliceBound,asIntOf,run_underlying N,O]
 | some b =>
  rw [hX] at l;obtain ⟨arr,cap,A,hg,hl,ab,al,C,D,ac,ad⟩:=WJ l;rw [hk] at C D;have ae:n≤cap:=by omega
  have H:z.cells.toList.length=f.size:=by rw [← r];simp
  have m:(Instr.sliceAt T (J.getD x undef) (Xa (.int .i64 n)) Xe Xe).run c.P w = .ok (.slice (if cap=n then Xa ⟨b,0,Xe⟩ else Xa ⟨b,n*f.size,Xe⟩) (xs.length-n) (cap-n)) w:=by
   rw [A];have q1:n≤xs.length:=Z;simp [Instr.sliceAt,Instr.slice,Instr.sliceBounds,Instr.sliceBound,asIntOf,run_underlying N,O,q1,ae,ab,YY]
  by_cases hend:n=xs.length
  ·refine ⟨_,w,X,m,fun ty=>?_,by rw [E _ (by rw [hend];simp)];exact h,by omega⟩;rw [hend,Nat.sub_self];exact Zaw N
  ·have af:¬ cap=n:=by omega
   obtain ⟨p,hp⟩:∃ p,xs.length-n=p+1:=⟨xs.length-n-1,by omega⟩
   have m1:n*f.size+(p+1)*f.size≤cap*f.size:=by
    rw [← Nat.add_mul];exact Uu _ (by omega)
   rw [P3 af,hp] at m;have Q:=fun ty=>Zgr (P:=c.P) (w:=w) (ty:=ty) (o:=n*f.size) (n:=p) (c:=cap-n) N L hz hg (by rw [r,C];exact m1) Y;have R:arr.toList.length=cap*f.size:=by simpa using C
   have S:((Xx (p+1) z.cells.toList).flatten).length=(p+1)*f.size:=by simp [H,← r]
   obtain ⟨arr',s⟩:∃ arr',arr'=(arr.toList.take (n*f.size)++(Xx (p+1) z.cells.toList).flatten++arr.toList.drop (n*f.size+(p+1)*z.cells.size)).toArray:=⟨_,rfl⟩;have ag:=KB (t w lim) (p+1);have ah:xs.flatten.length=xs.length*f.size:=Ja xs _ D;have am:n*f.size≤xs.length*f.size:=Uu _ Z
   obtain ⟨X',hs⟩:=h.setPlace (d:=x) (k:=0) (b:=b) (e:=e) (xs:=xs) (xs':=xs.take n++Xx (p+1) zc) (arr:=arr) (arr':=arr') (by rw [W];rfl) hX hg
    (by
     rw [s,Td,Xf,Xf,S,X5,Un,R,r,C];omega)
    (by rw [Xf,X5,Tg];omega)
    (fun y q=>by
     rw [hk];rcases Xz.1 q with q | q
     ·exact D y (XS q)
     ·rw [(UI.1 q).2,(t w lim).1,H])
    (fun y q=>by
     rcases Xz.1 q with q | q
     ·exact ac y (XS q)
     ·rw [(UI.1 q).2];exact (t w lim).2.1)
    (fun j y u q M=>by
     rw [s,List.getElem?_toArray,Xl] at M;rw [U2,YW xs n D] at q;have ai:(xs.flatten.take (n*f.size)).length=n*f.size:=by rw [X5,ah];omega
     have aj:(arr.toList.take (n*f.size)).length=n*f.size:=by rw [X5,R];omega
     by_cases hj:j < n*f.size
     ·rw [XL (by omega),XZ,P4 hj] at q;rw [XL (by omega),XZ,P4 hj] at M;exact ad j y u q (by simpa using M)
     ·rw [XH (by omega),ai] at q;rw [XH (by omega),aj] at M;have U:=(XA.1 q).1;have ak:((Xx (p+1) zc).flatten).length=(p+1)*f.size:=by simp [(t w lim).1,H,← r]
      rw [ak] at U;rw [XL (by rw [S];exact U)] at M;exact ag.2.2 _ y u q M)
   refine ⟨_,_,X',m,Q,?_,by omega⟩;rw [← s,hp];rw [W] at hs;exact hs
def ZAC (A:Nat→List V→Prop) (n:Nat) (B:List V→Prop):Nat→List V→Prop:=fun i vs=>if i=n then B vs else A i vs
def STree.wp (P:Program) (R:AV→List AV→Prop):STree→(Nat→List V→Prop)→(Nat→V)→Prop
 | .stuck _, _, _ => False
 | .branch b t e, A, ρ => (b.den ρ = Xb → t.wp P R A ρ) ∧ (b.den ρ = Xc → e.wp P R A ρ)
 | .req p t, A, ρ => p.den ρ ∧ t.wp P R A ρ
 | .elem l i sh n t, A, ρ => ∃ vs, 0 ≤ i.den ρ ∧ (l.den ρ)[(i.den ρ).toNat]? = Xa ((JF sh n).map (SC.den (bind ρ n vs))) ∧ t.wp P R A (bind ρ n vs)
 | .nilq l n t, A, ρ => ∀ b : Bool, (b = Xb → l.den ρ = []) → t.wp P R A (bind ρ n [.b b])
 | .call f args res outs n _ t, A, ρ => ∃ vs, Kg P f (args.map (SV.den ρ)) (res.den (bind ρ n vs)) (outs.map (SV.den (bind ρ n vs))) ∧ t.wp P R A (bind ρ n vs)
 | .loop lv init n t, A, ρ => ∃ (I : List V → Prop) (m : List V → Nat), I (init.map (VE.den ρ)) ∧
   ∀ vs,vs.length=init.length→I vs→t.wp P R (ZAC A lv fun a=>I a∧m a < m vs) (bind Zj2 n vs)
 | .again lv vals, A, ρ => A lv (vals.map (VE.den ρ))
 | .ret res outs, _, ρ => R (res.den ρ) (outs.map (SV.den ρ))
def KK:List Sh→List Value→Prop
 | [], [] => True
 | .int k :: L, .int k' _ :: us => k = k' ∧ KK L us
 | .bool :: L, .bool _ :: us => KK L us
 | _, _ => False
def eqV:List Value→List Value→Bool
 | .int _ a :: us, .int _ b :: vs => (a == b) && eqV us vs
 | .bool a :: us, .bool b :: vs => (a == b) && eqV us vs
 | _, _ => Xb
def PlainSound (P:Program) (a:List TypeId):Prop:=
 ∀ T∈a,P.eqGuardType P.depth T=Xc∧∀ L,VP P 8 T=Xa L→∀ (us vs:List Value),KK L us→KK L vs→∀ w,
  (Op.equalIn 10000 T (.agg us.toArray) (.agg vs.toArray)).run P w = .ok (eqV us vs) w
def ZkL {P:Program} {R:AV→List AV→Prop} {A:Nat→List V→Prop} {ρ:Nat→V} {b:BE} {t e:STree} (h:(ZgQ b t e).wp P R A ρ) :
  (b.den ρ=Xb→t.wp P R A ρ)∧(b.den ρ=Xc→e.wp P R A ρ):=by
 unfold ZgQ at h;split at h
 ·exact ⟨fun _=>h,fun a=>by simp [BE.den] at a⟩
 ·exact ⟨fun a=>by simp [BE.den] at a,fun _=>h⟩
 ·exact h
def Zpp (b:BE) (ρ:Nat→V):(Zrr b).den ρ = !b.den ρ:=by unfold Zrr;split<;>rfl
def Zr2 {b:BE} {n:Nat} (h:b.bd n):(Zrr b).bd n:=by
 unfold Zrr;split
 ·trivial
 ·exact h
def Zkf {v:Value} (ρ:Nat→V):(ofC v).map (SC.den ρ)=Zyd v:=by
 cases v with
 | slice a l c => cases a <;> cases l <;> cases c <;> rfl
 | _ => rfl
def Vz (ρ:Nat→V):∀ (vs:List Value),(Ziu vs).map (List.map (SC.den ρ))=Zcf vs
 | [] => rfl
 | v :: vs => by
  have a:=Zkf (v:=v) ρ;have b:=Vz ρ vs;simp only [Ziu,Zcf]
  cases hc:ofC v<;>cases hcs:Ziu vs<;>rw [hc] at a<;>rw [hcs] at b<;>simp at a b<;>rw [← a]<;>try rw [← b]
  ·simp
  ·simp
  ·simp
  ·simp
def ZtZ {v:Value} {c:SC} {n:Nat} (h:ofC v=Xa c):c.bd n:=by
 unfold ofC at h;split at h<;>simp at h<;>subst h<;>trivial
def WW {n:Nat} : ∀ {vs:List Value} {cs:List SC},Ziu vs=Xa cs→∀ c∈cs,c.bd n
 | [], cs, h => by simp [Ziu] at h; subst h; simp
 | v :: vs, cs, h => by
  simp only [Ziu] at h;split at h
  ·rename_i c d e a;simp at h;subst h;intro x b;rcases Xs.1 b with rfl | b
   ·exact ZtZ e
   ·exact WW a x b
  ·simp at h
def Zwm (v:Value) (ρ:Nat→V):(ofV v).den ρ=ZuZ v:=by
 cases v with
 | agg cs =>
  have:=Vz ρ cs.toList;simp only [ofV,ZuZ];rw [← this]
  cases Ziu cs.toList<;>rfl
 | slice a l c =>
  have:=Zkf (v:=.slice a l c) ρ;simp only [ofV,ZuZ];rw [← this]
  cases ofC (.slice a l c)<;>rfl
 | _ => rfl
def ZBt (v:Value) (n:Nat):(ofV v).bd n:=by
 unfold ofV;split
 ·split
  ·rename_i l a;exact WW a
  ·trivial
 ·split
  ·rename_i c b;exact ZtZ (v:=v) b
  ·trivial
def KE (P:Program) (g:Nat→SV) (ρ:Nat→V) (x:Operand):(YQ P g x).den ρ=Z0 P (fun d=>(g d).den ρ) x:=by
 cases x with
 | tmp t =>
  simp only [YQ,Z0]
  cases g t with
  | c x => cases x <;> rfl
  | own x e xs => cases x <;> rfl
  | _ => rfl
 | const v => exact Zwm v ρ
 | global g => rfl
 | func f => rfl
def Jp {P:Program} {g:Nat→SV} {n:Nat} (a:∀ d,(g d).bd n) (x:Operand):(YQ P g x).bd n:=by
 cases x with
 | tmp t =>
  have:=a t;simp only [YQ]
  cases hs:g t with
  | own x e xs => rw [hs] at this; cases x <;> first | exact this | trivial
  | _ => rw [hs] at this; first | exact this | trivial
 | const v => exact ZBt v n
 | global g => trivial
 | func f => trivial
def Zx {P:Program} {g:Nat→SV} {x:Operand} {y:SV} (ρ:Nat→V) (h:YQ P g x=y):Z0 P (fun d=>(g d).den ρ) x=y.den ρ:=by rw [← KE,h]
def WE (tx:Odr) (P:Program) (R:AV→List AV→Prop) (A:Nat→List V→Prop) (ρ:Nat→V) (g:Nat→SV) (o:Oper) (n:Nat) (k:K):Prop:=
 ∃ a b x us c,n≤b∧(∀ m,m < n→a m=ρ m)∧x.bd b∧(∀ u∈us,u.2.bd b)∧(k x us c b).wp P R A a∧
  Zfb tx P o (fun d=>(g d).den ρ) (x.den a) (us.map fun u=>(u.1,u.2.den a)) c
section
variable {tx:Odr} {P:Program} {R:AV→List AV→Prop} {A:Nat→List V→Prop} {ρ:Nat→V} {g:Nat→SV} {o:Oper} {n:Nat} {k:K}
def Zhy {x:SV} {us:Ups} {a:List Nat} (e:(k x us a n).wp P R A ρ) (f:x.bd n) (b:∀ u∈us,u.2.bd n)
  (c:Kn P o (fun d=>(g d).den ρ) (x.den ρ) (us.map fun u=>(u.1,u.2.den ρ)) a):WE tx P R A ρ g o n k:=
 ⟨ρ,n,x,us,a,Xr _,fun _ _=>rfl,f,b,e,c.t⟩
def Zn4 {x:SV} {us:Ups} {a:List Nat} (e:(k x us a n).wp P R A ρ) (f:x.bd n) (b:∀ u∈us,u.2.bd n)
  (c:Zfb tx P o (fun d=>(g d).den ρ) (x.den ρ) (us.map fun u=>(u.1,u.2.den ρ)) a):WE tx P R A ρ g o n k:=
 ⟨ρ,n,x,us,a,Xr _,fun _ _=>rfl,f,b,e,c⟩
def JH {x:SV} {b:List Nat} (c:(k x [] b n).wp P R A ρ) (e:x.bd n) (a:Kn P o (fun d=>(g d).den ρ) (x.den ρ) [] b):WE tx P R A ρ g o n k:=
 Zhy c e (by simp) a
def Zhp (ρ:Nat→V):SC→Value
 | .int k e => .int k (e.den ρ)
 | .bool b => .bool (b.den ρ)
 | .str s => .string (s.den ρ)
 | .slice _ _ _ => .slice Xe 0 0
def Zd5 (ρ:Nat→V):∀ (L:List Sh) (cs:List SC),ZaY L cs=Xb→KK L (cs.map (Zhp ρ))∧cs.map (SC.den ρ)=(cs.map (Zhp ρ)).map AV.val∧∀ u∈cs.map (Zhp ρ),Zgg u=Xb
 | [], [], _ => ⟨trivial, rfl, by simp⟩
 | [], _ :: _, h => by simp [ZaY] at h
 | _ :: _, [], h => by simp [ZaY] at h
 | s :: L, c :: cs, h => by
  simp only [ZaY,Xj] at h;obtain ⟨b,d,e⟩:=Zd5 ρ L cs h.2;have f:=h.1
  cases s<;>cases c<;>simp [kindOk] at f
  ·refine ⟨⟨f,b⟩,by simp only [Xn,d];rfl,?_⟩;intro u a;rw [Xn] at a;rcases Xs.1 a with rfl | a
   ·rfl
   ·exact e u a
  ·refine ⟨b,by simp only [Xn,d];rfl,?_⟩;intro u a;rw [Xn] at a;rcases Xs.1 a with rfl | a
   ·rfl
   ·exact e u a
def Zej (ρ:Nat→V):∀ (xs d:List SC) (e:BE),ZcZ xs d=Xa e→e.den ρ=eqV (xs.map (Zhp ρ)) (d.map (Zhp ρ))
 | [], [], e, h => by simp [ZcZ] at h; subst h; rfl
 | [], _ :: _, e, h => by simp [ZcZ] at h
 | _ :: _, [], e, h => by simp [ZcZ] at h
 | a :: aZ, b :: bs, e, h => by
  simp only [ZcZ] at h;split at h
  ·rename_i x y c f;simp at h;subst h;have ih:=Zej ρ aZ bs y f
   cases a<;>cases b<;>simp [Zo9] at c
   ·obtain ⟨_,rfl⟩:=c;simp only [BE.den,Xn,Zhp,eqV,ih,P0]
   ·subst c;simp only [BE.den,Xn,Zhp,eqV,ih]
  ·simp at h
def Znf {n:Nat} : ∀ (xs j:List SC) (e:BE),(∀ c∈xs,c.bd n)→(∀ c∈j,c.bd n)→ZcZ xs j=Xa e→e.bd n
 | [], [], e, _, _, h => by simp [ZcZ] at h; subst h; trivial
 | [], _ :: _, e, _, _, h => by simp [ZcZ] at h
 | _ :: _, [], e, _, _, h => by simp [ZcZ] at h
 | a :: aZ, b :: bs, e, hx, hy, h => by
  simp only [ZcZ] at h;split at h
  ·rename_i x y d f;simp at h;subst h;have ih:=Znf aZ bs y (fun c i=>hx c (by simp [i])) (fun c i=>hy c (by simp [i])) f;have l:=hx a (by simp);have m:=hy b (by simp)
   cases a<;>cases b<;>simp [Zo9] at d
   ·obtain ⟨_,rfl⟩:=d;exact ⟨⟨l,m⟩,ih⟩
   ·subst d;exact ⟨⟨l,m⟩,ih⟩
  ·simp at h
def ZmL {w:World} {lim:Nat→Nat} {us:List Value} {v:Value} (h:Rep w lim (.agg (us.map AV.val)) v):v = .agg us.toArray:=by
 have c:∀ y,Rep w lim y v→y = .agg (us.map AV.val)→v = .agg us.toArray:=by
  intro y d a
  cases d with
  | @agg cs vs hl hc hr =>
   injection a with a;subst a;have b:us.length=vs.length:=by simpa using hl
   have:vs=us:=by
    apply List.ext_getElem b.symm;intro i e f;exact ZaF (hr i (.val us[i]) vs[i] (by simp [f]) (by simp [e]))
   rw [this]
  | val _ => cases a
  | sliceN => cases a
  | sliceE _ => cases a
  | sliceC _ _ _ _ _ _ _ _ => cases a
 exact c _ h rfl
def ZdX {T T':TypeId} {x y:Operand} {op:BinOp} {us vs:List Value} {σ:Nat→AV} {L:List Sh} {a:List TypeId} (d:PlainSound P a) (q:T∈a) (r:VP P 8 T=Xa L) (e:o.op = .binOp op T x y T')
  (f:op = .eql∨op = .neq) (s:Z0 P σ x = .agg (us.map AV.val)) (t:Z0 P σ y = .agg (vs.map AV.val)) (u:KK L us) (v:KK L vs) :
  Kn P o σ (.val (.bool (if op = .eql then eqV us vs else !eqV us vs))) [] []:=by
 refine Z8 [] rfl fun c i z E w lim X h C b=>⟨.bool (if op = .eql then eqV us vs else !eqV us vs),?_,.val rfl⟩;rw [e] at h;have j:=ZmL (WB i b s (h x (by simp [Op.operands])));have l:=ZmL (WB i b t (h y (by simp [Op.operands])));obtain ⟨m,D⟩:=d T q;have p:=D L r us vs u v w;rcases f with rfl | rfl
 ·simp only [execOp,e,j,l,Sem.run_bind,run_eqGuard_agg w .eql T x y us.toArray vs.toArray m,Result.andThen_ok,run_eql_struct,p];simp
 ·simp only [execOp,e,j,l,Sem.run_bind,run_eqGuard_agg w .neq T x y us.toArray vs.toArray m,Result.andThen_ok,run_neq_struct,p];simp
def Zpb {j:List TypeId} {op:BinOp} {T T':TypeId} {u w:Operand} (z:PlainSound P j) (Q:∀ d,(g d).bd n) (m:o.op = .binOp op T u w T')
  (h:(bin P j op T (YQ P g u) (YQ P g w) fun v=>k v [] [] n).wp P R A ρ):WE tx P R A ρ g o n k:=by
 have p:=Jp (P:=P) Q u;have q:=Jp (P:=P) Q w;generalize hx:YQ P g u=x at h p;generalize hy:YQ P g w=y at h q;have r:=Zx ρ hx;have s:=Zx ρ hy;unfold bin at h;split at h
 ·rename_i M a S b
  have l:∀ (i:IOp),M=S→ZwB op=Xa i→(i = .quo∨i = .rem→b.den ρ≠0)→(k (.c (.int M (.bin i M a b))) [] [] n).wp P R A ρ→WE tx P R A ρ g o n k:=by
   intro i f N X t;subst f;exact JH t ⟨p,q⟩ (Zsa m N r s X)
  have comp:∀ (i:COp),M=S→ZxR op=Xa i→(k (.c (.bool (.cmp i a b))) [] [] n).wp P R A ρ→WE tx P R A ρ g o n k:=by
   intro i f N t;subst f;exact JH t ⟨p,q⟩ (ZsO m N r s)
  split at h
  ·exact JH h.2 ⟨p,q⟩ (ZfK m (.inl ⟨rfl,rfl⟩) r s h.1)
  ·exact JH h.2 ⟨p,q⟩ (ZfK m (.inr ⟨rfl,rfl⟩) r s h.1)
  ·split at h
   ·rename_i f
    split at h<;>first
     | exact h.elim
     | exact l _ f rfl (by simp) h
     | exact l _ f rfl (fun _ => h.1) h.2
     | exact comp _ f rfl h
   ·exact h.elim
 ·rename_i a b;split at h
  ·exact JH h ⟨p,q⟩ (Zmz (op:=.eql) m (.inl rfl) r s)
  ·exact JH h ⟨p,q⟩ (Zmz (op:=.neq) m (.inr rfl) r s)
  ·exact h.elim
 ·rename_i a b;split at h
  ·rename_i C;split at h
   ·exact JH h ⟨p,q⟩ (Zi9 (op:=.eql) m C (.inl rfl) r s)
   ·exact JH h ⟨p,q⟩ (Zi9 (op:=.neq) m C (.inr rfl) r s)
   ·exact h.elim
  ·exact h.elim
 ·rename_i xs D;split at h
  ·rename_i e E O;simp only [ZpJ,Xj,UZ] at E;obtain ⟨C,f⟩:=E
   cases hL:VP P 8 T with
   | none => simp [hL] at f
   | some L =>
    rw [hL] at f;simp only [Xj] at f;obtain ⟨U,Y,u3⟩:=Zd5 ρ L xs f.1;obtain ⟨W,Z,v3⟩:=Zd5 ρ L D f.2;have G:=Znf xs D e p q O;have H:Z0 P (fun d=>(g d).den ρ) u = .agg ((xs.map (Zhp ρ)).map AV.val):=by rw [r,← Y];rfl
    have J:Z0 P (fun d=>(g d).den ρ) w = .agg ((D.map (Zhp ρ)).map AV.val):=by rw [s,← Z];rfl
    split at h
    ·refine JH h G ?_;have:=ZdX (o:=o) (op:=.eql) z C hL m (.inl rfl) H J U W;rw [P4 rfl,← Zej ρ xs D e O] at this;exact this
    ·refine JH h G ?_;have:=ZdX (o:=o) (op:=.neq) z C hL m (.inr rfl) H J U W;rw [P3 (by simp),← Zej ρ xs D e O] at this;exact this
    ·exact h.elim
  ·exact h.elim
 ·exact h.elim
end
def Zoe (ρ:Nat→V) (c:SC):(c.den ρ).isCell=Xb:=by cases c<;>rfl
def Zbo {x:SV} {cs:List SC} (ρ:Nat→V) (h:x.cells=Xa cs):(x.den ρ).cells? = Xa (cs.map (SC.den ρ)):=by
 cases x with
 | c y =>
  simp only [SV.cells,Xg] at h;subst h
  cases y<;>rfl
 | agg ds =>
  simp only [SV.cells,Xg] at h;subst h;rfl
 | _ => simp [SV.cells] at h
def Zc3 {x:SV} {cs:List SC} {n:Nat} (h:x.cells=Xa cs) (a:x.bd n):∀ c∈cs,c.bd n:=by
 cases x with
 | c y =>
  simp only [SV.cells,Xg] at h;subst h;intro c b;simp at b;subst b;exact a
 | agg ds =>
  simp only [SV.cells,Xg] at h;subst h;exact a
 | _ => simp [SV.cells] at h
def Zd6 (ρ:Nat→V) (place:Nat→Option (Nat×Nat)):∀ (a:List (Nat×SV)) (b c:List SC),Zhs place b a=Xa c→
  ZdN place (b.map (SC.den ρ)) (a.map fun p=>(p.1,p.2.den ρ))=Xa (c.map (SC.den ρ))
 | [], b, c, h => by simp only [Zhs, Xg] at h; subst h; rfl
 | (i, v) :: a, b, c, h => by
  simp only [Zhs] at h;split at h
  ·rename_i off size vc d e;split at h
   ·rename_i f;have ih:=Zd6 ρ place a _ c h;simp only [UL,Uq,Uy] at ih;simp only [Xn,ZdN,d,Zbo ρ e];rw [P4 (by simpa using f)];exact ih
   ·cases h
  ·cases h
def Zgq {n:Nat} (place:Nat→Option (Nat×Nat)):∀ (a:List (Nat×SV)) (b d:List SC),(∀ c∈b,c.bd n)→(∀ p∈a,p.2.bd n)→Zhs place b a=Xa d→∀ c∈d,c.bd n
 | [], b, d, hc, _, h => by simp only [Zhs, Xg] at h; subst h; exact hc
 | (i, v) :: a, b, d, hc, hp, h => by
  simp only [Zhs] at h;split at h
  ·rename_i off size vc g j;split at h
   ·refine Zgq place a _ d (fun c e=>?_) (fun p f=>hp p (by simp [f])) h;rcases Xz.1 e with h1 | h1
    ·rcases Xz.1 h1 with h1 | h1
     ·exact hc c (XS h1)
     ·exact Zc3 j (hp (i,v) (by simp)) c h1
    ·exact hc c (X4 h1)
   ·cases h
  ·cases h
def ZbB (ρ:Nat→V):∀ (cs:List SC),(ZoE cs).den ρ=cs.map (SC.den ρ)
 | [] => rfl
 | c :: cs => by simp only [ZoE, CE.den, ZbB ρ cs, Xn]
def Zem {n:Nat} : ∀ (cs:List SC),(∀ c∈cs,c.bd n)→(ZoE cs).bd n
 | [], _ => trivial
 | c :: cs, h => ⟨h c (by simp), Zem cs fun x a => h x (by simp [a])⟩
def ZqX (ρ:Nat→V) (size:Nat) (cs:List SC):∀ (n:Nat),(lOf size cs n).den ρ=Zam size (cs.map (SC.den ρ)) n
 | 0 => rfl
 | n + 1 => by
  simp only [lOf,LE.den,ZqX ρ size cs n,ZbB,Zam,List.range_succ,UL,Xn,XI,Uq,Uy]
def Zud {m:Nat} (size:Nat) (cs:List SC) (h:∀ c∈cs,c.bd m):∀ (n:Nat),(lOf size cs n).bd m
 | 0 => trivial
 | n + 1 => ⟨Zud size cs h n, Zem _ fun c a => h c (X4 (XS a))⟩
def Zfr (P:Program) (ρ:Nat→V) (b:BC):(Zgb P b).den ρ=VA P (b.den ρ):=by
 cases b with
 | c x => cases x <;> rfl
 | own x e l => rfl
def W2 {cs:List BC} (h:W0 cs=Xb) (ρ:Nat→V):W5 (cs.map (BC.den ρ)):=by
 intro c d e xs a;obtain ⟨b,f,rfl⟩:=XB.1 d;unfold W0 at h;rw [Xo] at h;have:=h b f
 cases b with
 | c x => cases x <;> cases a
 | own x e l =>
  cases x with
  | false => cases a
  | true => cases this
def ZpG {P:Program} {n:Nat} {b:BC} (h:b.bd n):(Zgb P b).bd n:=by
 cases b<;>exact h
def Zsn {P:Program} {T:TypeId} {cs:List BC} (ρ:Nat→V) (n:Nat) (h:ZwO P T=Xa cs) :
  ∃ i z,P.info? T=Xa i∧i.zero=Xa z∧Zue (cs.map (BC.den ρ)) z.cells.toList∧∀ c∈cs,c.bd n:=by
 unfold ZwO at h;split at h
 ·rename_i i E;split at h
  ·rename_i z G;split at h
   ·rename_i t k;split at h
    ·rename_i o;simp only [Xg] at h;subst h
     have H:t.length=z.cells.toList.length:=by
      have a:=Vz ρ z.cells.toList;rw [k] at a;have b:=(ZbH (w:=default) (lim:=fun _=>0) a.symm).1;simpa using b
     refine ⟨i,z,E,G,⟨by simp [o,H],fun j x u g J=>?_⟩,fun c p=>?_⟩
     ·rw [Xy,List.getElem?_zipWith] at g
      cases a:(K9 P 8 T)[j]? with
      | none => simp [a] at g
      | some e =>
       cases b:t[j]? with
       | none => simp [a, b] at g
       | some c =>
        simp only [a,b,XC,Xg] at g
        have d:ofC u=Xa c:=by
         have y:∀ (vs:List Value) (cs:List SC) (j:Nat),Ziu vs=Xa cs→cs[j]? = Xa c→vs[j]? = Xa u→ofC u=Xa c:=by
          intro vs
          induction vs with
          | nil => intro cs j _ _ h; simp at h
          | cons v vs ih =>
           intro cs j h p A;simp only [Ziu] at h;split at h
           ·rename_i c' C D q;simp only [Xg] at h;subst h
            cases j with
            | zero => simp at p A; subst p; subst A; exact D
            | succ j => exact ih C j q (by simpa using p) (by simpa using A)
           ·cases h
         exact y _ _ j k b J
        have m:(∃ e',Zds e c = .own Xc e' .nil∧u = .slice Xe 0 0)∨Zds e c = .c c:=by
         cases e with
         | none => right; cases c <;> rfl
         | some e =>
          cases c with
          | slice f s l =>
           cases f with
           | false => right; cases l <;> rfl
           | true =>
            cases l with
            | nil =>
             left;refine ⟨e,rfl,?_⟩;unfold ofC at d;split at d<;>simp at d;rfl
            | _ => right; rfl
          | _ => right; rfl
        rcases m with ⟨e',h3,h4⟩ | h3
        ·rw [h3] at g;exact .inr ⟨_,e',g.symm,h4⟩
        ·rw [h3] at g;left;rw [← Zkf ρ,d,← g];rfl
     ·obtain ⟨j,r⟩:=Uj.1 p;rw [List.getElem?_zipWith] at r
      cases a:(K9 P 8 T)[j]? with
      | none => simp [a] at r
      | some e =>
       cases b:t[j]? with
       | none => simp [a, b] at r
       | some c' =>
        simp only [a,b,Xg] at r;subst r;have L:c'.bd n:=WW k c' (Xt b);unfold Zds;split
        ·trivial
        ·exact L
    ·cases h
   ·cases h
  ·cases h
 ·cases h
def Zn5 (s:Sh) (n:Nat):(KT s n).bd (n+1):=by cases s<;>exact UD n
def Ky:∀ (l:List Sh) (n:Nat),∀ c∈JF l n,c.bd (n+l.length)
 | [], n, c, h => by simp [JF] at h
 | s :: ss, n, c, h => by
  rcases Xs.1 h with rfl | h
  ·exact SC.bd_mono (by simp) _ (Zn5 s n)
  ·have:=Ky ss (n+1) c h;exact SC.bd_mono (by simp only [Xv];omega) _ this
def Zr7 (s:Sh) (n:Nat):(Zwk s n).bd (n+1):=by cases s<;>exact UD n
def Kr:∀ (l:List Sh) (n:Nat),∀ c∈Wr l n,c.bd (n+l.length)
 | [], n, c, h => by simp [Wr] at h
 | s :: ss, n, c, h => by
  rcases Xs.1 h with rfl | h
  ·exact BC.bd_mono (by simp) _ (Zr7 s n)
  ·have:=Kr ss (n+1) c h;exact BC.bd_mono (by simp only [Xv];omega) _ this
def Vm:∀ (b:List SV) (n:Nat),n≤(J6 b n).2.2
 | [], n => Xr n
 | a :: b, n => by
  cases a with
  | box cs =>
   simp only [J6];exact XX (Tx _ _) (Vm b _)
  | gbox cs =>
   simp only [J6];exact XX (Tx _ _) (Vm b _)
  | _ => exact Vm b n
def Zge:∀ (b:List SV) (n:Nat),(J6 b n).1.length=b.length
 | [], n => rfl
 | a :: b, n => by
  cases a<;>simp only [J6,Xv,Zge b]
def Zcb:∀ (b:List SV) (n:Nat),∀ x∈(J6 b n).1,x.bd (J6 b n).2.2
 | [], n, x, h => by simp [J6] at h
 | a :: b, n, x, h => by
  cases a with
  | box cs =>
   simp only [J6] at h ⊢;rcases Xs.1 h with rfl | h
   ·intro c d;have e:=Kr (cs.map ZrU) n c d;exact BC.bd_mono (Vm b _) _ e
   ·exact Zcb b _ x h
  | gbox cs =>
   simp only [J6] at h ⊢;rcases Xs.1 h with rfl | h
   ·intro c d;have e:=Kr (cs.map ZrU) n c d;exact BC.bd_mono (Vm b _) _ e
   ·exact Zcb b _ x h
  | _ =>
   simp only [J6] at h ⊢;rcases Xs.1 h with rfl | h
   ·trivial
   ·exact Zcb b _ x h
def Zaf:∀ (c:List SV) (n i:Nat) (b:Bool) (cs:List BC) (y:SV),c[i]? = Xa (Zrz b cs)→(J6 c n).1[i]? = Xa y→∃ d,y=Zrz b d
 | [], n, i, b, cs, y, h, _ => by simp at h
 | a :: c, n, i, b, cs, y, h, h' => by
  cases i with
  | zero =>
   simp only [XQ,Xg] at h;subst h
   cases b with
   | false =>
    simp only [Zrz,J6,XQ,Xg] at h';exact ⟨_,h'.symm⟩
   | true =>
    simp only [Zrz,J6,XQ,Xg] at h';exact ⟨_,h'.symm⟩
  | succ i =>
   have e:c[i]? = Xa (Zrz b cs):=by simpa using h
   cases a with
   | box ds => simp only [J6, Uz] at h'; exact Zaf c _ i b cs y e h'
   | gbox ds => simp only [J6, Uz] at h'; exact Zaf c _ i b cs y e h'
   | _ => simp only [J6, Uz] at h'; exact Zaf c _ i b cs y e h'
def Zto (r:RSh) (n:Nat):(ZwJ r n).1.bd (n+(ZwJ r n).2.length):=by
 cases r with
 | c s => cases s <;> exact UD n
 | agg l => exact Ky l n
def ZaH {P:Program} {a:Nat} : ∀ (Ts:List TypeId) (n:Nat) (vs:List TC) (sh:List Sh) (b:Nat),ZbJ P a Ts n=Xa (vs,sh,b)→n≤b∧∀ v∈vs,v.bd b∧v≠.gone
 | [], n, vs, sh, b, h => by
  simp only [ZbJ,Xg,XG] at h;obtain ⟨rfl,rfl,rfl⟩:=h;exact ⟨Xr _,by simp⟩
 | T :: Ts, n, vs, sh, b, h => by
  simp only [ZbJ] at h;split at h
  ·rename_i r k;split at h
   ·rename_i d e m g;simp only [Xg,XG] at h;obtain ⟨rfl,rfl,rfl⟩:=h;obtain ⟨i,j⟩:=ZaH Ts _ d e m g;refine ⟨by omega,fun v f=>?_⟩;rcases Xs.1 f with rfl | f
    ·exact ⟨TC.bd_mono i _ (Zto r n),by cases r with | c s=>cases s<;>exact fun h=>(by cases h) | agg l=>exact fun h=>(by cases h)⟩
    ·exact j v f
   ·cases h
  ·cases h
def Zhd (ρ:Nat→V) (x:TC):(ZDy x).den ρ=x.den ρ:=by cases x<;>rfl
def Zvr {n:Nat} {x:TC} (h:x.bd n):(ZDy x).bd n:=by cases x<;>exact h
def Zpi (ρ:Nat→V) (x:TC) (a:x≠.gone):ZlD (x.den ρ):=by
 cases x with
 | c y => cases y <;> first | exact .inl (.inl ⟨_, rfl⟩) | exact .inl (.inr (.inr ⟨_, _, _, rfl⟩))
 | agg cs => exact .inl (.inr (.inl ⟨_, rfl⟩))
 | own x e l => exact .inr (.inl ⟨_, _, _, rfl⟩)
 | gone => exact (a rfl).elim
def ZkA {P:Program} {a:Nat} {Ts:List TypeId} {n d:Nat} {res:SV} {sh:List Sh} (h:Zgt P a Ts n=Xa (res,sh,d)) :
  n≤d∧res.bd d∧∀ ρ,ZlD (res.den ρ):=by
 unfold Zgt at h;split at h
 ·rename_i x b m e;simp only [Xg,XG] at h;obtain ⟨rfl,rfl,rfl⟩:=h;obtain ⟨f,c⟩:=ZaH Ts n [x] b m e;exact ⟨f,Zvr (c x (by simp)).1,fun ρ=>by rw [Zhd];exact Zpi ρ x (c x (by simp)).2⟩
 ·rename_i vs b m _ e;simp only [Xg,XG] at h;obtain ⟨rfl,rfl,rfl⟩:=h;obtain ⟨f,c⟩:=ZaH Ts n vs b m e;exact ⟨f,fun v g=>(c v g).1,fun ρ=>.inr (.inr ⟨_,rfl⟩)⟩
 ·cases h
def SAK.den (ρ:Nat→V):SAK→AK
 | .imm x => .imm (x.den ρ)
 | .own t x e l => .own t x e (l.den ρ)
 | .box d fr to cs => .box d fr to (cs.map (BC.den ρ))
 | .clo g ds gs => .clo g ds gs
 | .pad => .pad
def Zdm (ρ:Nat→V) (a:Bool) (cs:List BC):(Zrz a cs).den ρ=mkB a (cs.map (BC.den ρ)):=by cases a<;>rfl
def Zub (ρ:Nat→V) (a:SAK):(a.den ρ).av=a.sv.den ρ:=by
 cases a with
 | box d fr to cs => exact (Zdm ρ to cs).symm
 | _ => rfl
def ZlM (ρ:Nat→V) (a:SAK):(a.den ρ).slot=a.slot:=by cases a<;>rfl
def ZnU {x:SV} {ρ:Nat→V} {b:Bool} {e:TypeId} {a:List (List AV)} (h:x.den ρ = .own b e a):∃ l,x = .own b e l:=by
 cases x with
 | own b' e' l => simp only [SV.den, AV.own.injEq] at h; obtain ⟨rfl, rfl, _⟩ := h; exact ⟨l, rfl⟩
 | c y => cases y <;> cases h
 | _ => cases h
def Zkl {x:SV} {ρ:Nat→V} {d q:Nat} (h:x.den ρ = .mref d q):x = .mref d q:=by
 cases x with
 | mref d' q' => simp only [SV.den, AV.mref.injEq] at h; obtain ⟨rfl, rfl⟩ := h; rfl
 | c y => cases y <;> cases h
 | _ => cases h
def ZjR {x:SV} {k:Nat} {e:TypeId} {l:LE} (ρ:Nat→V) (h:Kq x k=Xa (e,l)):Je (x.den ρ) k=Xa (e,l.den ρ):=by
 unfold Kq at h;split at h
 ·simp only [Xg,XG] at h;obtain ⟨rfl,rfl⟩:=h;rfl
 ·rename_i cs q;split at h
  ·rename_i e' b a;simp only [Xg,XG] at h;obtain ⟨rfl,rfl⟩:=h;simp only [SV.den,Je,Xy,a];rfl
  ·cases h
 ·cases h
def ZrL {P:Program} {g:Nat→SV} {x:Operand} {a:SAK} (ρ:Nat→V) (h:Zux P g x=Xa a):(a.den ρ).ok P (fun d=>(g d).den ρ) (.op x)∧a.sv.isG=Xc∧∀ h ds o,a = .clo h ds o→o = []:=by
 unfold Zux at h;split at h
 ·rename_i t b e l p r;simp only [Xg] at h;subst h;have i:x = .tmp t:=by cases x<;>simp [Ym] at p;rw [p]
  subst i;simp only [Ym,XC,Xg] at r;exact ⟨⟨rfl,by show (g t).den ρ=_;rw [r];rfl⟩,rfl,fun _ _ _ h=>by cases h⟩
 ·rename_i j;split at h
  ·rename_i v c;simp only [Xg] at h;subst h;refine ⟨.inl ⟨Zx ρ c,?_⟩,rfl,fun _ _ _ h=>by cases h⟩
   cases v<;>first | exact .inl ⟨_,rfl⟩ | exact .inr (.inr ⟨_,_,_,rfl⟩)
  ·rename_i cs c;simp only [Xg] at h;subst h;exact ⟨.inl ⟨Zx ρ c,.inr (.inl ⟨_,rfl⟩)⟩,rfl,fun _ _ _ h=>by cases h⟩
  ·rename_i d c;split at h
   ·rename_i cs k;split at h
    ·rename_i m;simp only [Xg] at h;subst h;exact ⟨⟨Zx ρ c,by show (g d).den ρ=_;rw [k];rfl,W2 m ρ,rfl,rfl⟩,rfl,fun _ _ _ h=>by cases h⟩
    ·cases h
   ·cases h
  ·rename_i f ds c;simp only [Xg] at h;subst h;exact ⟨Zx ρ c,rfl,fun _ _ _ h=>by cases h;rfl⟩
  ·rename_i d q c;split at h
   ·rename_i e l s;split at h
    ·rename_i y;simp only [Xg] at h;subst h;refine ⟨.inr ⟨d,q,e,l.den ρ,⟨Zx ρ c,fun t e' z i u=>?_⟩,ZjR ρ s,by omega,rfl⟩,rfl,fun _ _ _ h=>by cases h⟩;obtain ⟨w,n⟩:=ZnU (show (g t).den ρ=_ from u);subst i;exact j t Xb e' w rfl (by simp only [Ym,XC,n])
    ·cases h
   ·cases h
  ·cases h
def WC (P:Program) (g:Nat→SV) (ρ:Nat→V) (xs:List Zcs) (b:List SAK):Prop:=
 xs.length=b.length∧∀ (i:Nat) (x:Zcs) (a:SAK),xs[i]? = Xa x→b[i]? = Xa a→(a.den ρ).ok P (fun d=>(g d).den ρ) x
def WC.append {P:Program} {g:Nat→SV} {ρ:Nat→V} {xs d:List Zcs} {e f:List SAK} (h:WC P g ρ xs e) (k:WC P g ρ d f):WC P g ρ (xs++d) (e++f):=by
 refine ⟨by rw [Xf,Xf,h.1,k.1],fun i x a b c=>?_⟩;rcases Ub i xs.length with hi | hi
 ·rw [XL hi] at b;rw [XL (by rw [← h.1];exact hi)] at c;exact h.2 i x a b c
 ·rw [XH hi] at b;rw [XH (by rw [← h.1];exact hi),← h.1] at c;exact k.2 _ x a b c
def Raw (c:List SAK):Prop:=∀ a∈c,a.sv.isG=Xc∧∀ h ds b,a = .clo h ds b→b = []
def ZdS {P:Program} {g:Nat→SV} (ρ:Nat→V):∀ (xs:List Operand) (d:List SAK),ZfA P g xs=Xa d→WC P g ρ (xs.map .op) d∧Raw d
 | [], d, h => by simp only [ZfA, Xg] at h; subst h; exact ⟨⟨rfl, by simp⟩, by simp [Raw]⟩
 | x :: xs, d, h => by
  simp only [ZfA] at h;split at h
  ·rename_i a e k f;simp only [Xg] at h;subst h;obtain ⟨⟨l,m⟩,n⟩:=ZdS ρ xs e f;obtain ⟨o,p,q⟩:=ZrL ρ k;refine ⟨⟨by simpa using l,fun i y b j c=>?_⟩,fun b c=>?_⟩
   ·cases i with
    | zero =>
     simp only [Xn,XQ,Xg] at j c;subst j;subst c;exact o
    | succ i => exact m i y b (by simpa using j) (by simpa using c)
   ·rcases Xs.1 c with rfl | c
    ·exact ⟨p,q⟩
    ·exact n b c
  ·cases h
def Zsj {g:Nat→SV} {e:Bool} {d:Nat} {a:SAK} (ρ:Nat→V) (h:ZvA g e d=Xa a):∃ f cs,a = .box d f e cs∧(g d).den ρ=mkB f (cs.map (BC.den ρ))∧W5 (cs.map (BC.den ρ)):=by
 unfold ZvA at h;split at h
 ·rename_i cs b;split at h
  ·rename_i c;simp only [Xg] at h;exact ⟨Xc,cs,h.symm,by rw [b];rfl,W2 c ρ⟩
  ·cases h
 ·rename_i cs b;split at h
  ·rename_i c;simp only [Xg] at h;exact ⟨Xb,cs,h.symm,by rw [b];rfl,W2 c ρ⟩
  ·cases h
 ·cases h
def ZbU {g:Nat→SV} {l:Bool} (ρ:Nat→V):∀ (ds:List Nat) (b:List SAK),ZbW g l ds=Xa b→b.length=ds.length∧∀ (i d:Nat),ds[i]? = Xa d→∃ c cs,b[i]? = Xa (.box d c l cs)∧
  (g d).den ρ=mkB c (cs.map (BC.den ρ))∧W5 (cs.map (BC.den ρ))
 | [], b, h => by simp only [ZbW, Xg] at h; subst h; exact ⟨rfl, by simp⟩
 | d :: ds, b, h => by
  simp only [ZbW] at h;split at h
  ·rename_i a f m j;simp only [Xg] at h;subst h;obtain ⟨n,o⟩:=ZbU ρ ds f j;refine ⟨by simp [n],fun i e k=>?_⟩
   cases i with
   | zero =>
    simp only [XQ,Xg] at k;subst k;obtain ⟨c,cs,rfl,p,q⟩:=Zsj ρ m;exact ⟨c,cs,rfl,p,q⟩
   | succ i => exact o i e (by simpa using k)
  ·cases h
def Zwj {P:Program} {g:Nat→SV} (ρ:Nat→V) {ds:List Nat} {e:List SAK} (h:ZbW g Xc ds=Xa e):WC P g ρ (ds.map .cap) e∧Raw e:=by
 obtain ⟨l,m⟩:=ZbU ρ ds e h;refine ⟨⟨by simp [l],fun i x a b c=>?_⟩,fun a c=>?_⟩
 ·rw [Xy] at b
  cases hd:ds[i]? with
  | none => rw [hd] at b; cases b
  | some d =>
   rw [hd] at b;simp only [XC,Xg] at b;subst b;obtain ⟨n,cs,j,o,p⟩:=m i d hd;rw [j] at c;simp only [Xg] at c;subst c;exact ⟨rfl,o,p,rfl⟩
 ·obtain ⟨i,f⟩:=Uj.1 c;have k:i < ds.length:=by rw [← l];exact (XA.1 f).1
  obtain ⟨n,cs,j,_⟩:=m i _ (Xp k);rw [j] at f;simp only [Xg] at f;subst f;exact ⟨rfl,fun _ _ _ h=>by cases h⟩
def Zpc {P:Program} {g:Nat→SV} (ρ:Nat→V) {ds:List Nat} {c:List SAK} (h:ZbW g Xb ds=Xa c):WC P g ρ (ds.map fun _=>.ghost) c:=by
 obtain ⟨f,j⟩:=ZbU ρ ds c h;refine ⟨by simp [f],fun i x a b e=>?_⟩;rw [Xy] at b
 cases hd:ds[i]? with
 | none => rw [hd] at b; cases b
 | some d =>
  rw [hd] at b;simp only [XC,Xg] at b;subst b;obtain ⟨n,cs,k,l,m⟩:=j i d hd;rw [k] at e;simp only [Xg] at e;subst e;exact ⟨l,m,rfl⟩
def VQ:∀ (c:List SAK) (h:FuncId) (ds f:List Nat),SAK.clo h ds f∈c→∀ d∈ds,d∈Jm c
 | [], _, _, _, hm, _, _ => by simp at hm
 | a :: c, h, ds, f, hm, d, hd => by
  have b:d∈Jm c→d∈Jm (a::c):=by
   intro e
   cases a with
   | clo _ _ _ => exact Xz.2 (.inr e)
   | _ => exact e
  rcases Xs.1 hm with rfl | hm
  ·by_cases e:d∈Jm c
   ·exact b e
   ·refine Xz.2 (.inl ?_);rw [List.mem_eraseDups,List.mem_filter];exact ⟨hd,by simpa using e⟩
  ·exact b (VQ c h ds f hm d hd)
def Zri:∀ (l:List Nat) (d:Nat),d∈l→l[Zyh d l]? = Xa d
 | [], _, h => by simp at h
 | x :: xs, d, h => by
  unfold Zyh;split
  ·rename_i a;rw [a];rfl
  ·rename_i a;rcases Xs.1 h with rfl | h
   ·exact (a rfl).elim
   ·simpa using Zri xs d h
def Zrf {P:Program} {σ:Nat→AV} {ρ:Nat→V} {base:Nat} {b:List Nat} {x:Zcs} {a:SAK} (h:(a.den ρ).ok P σ x):((ZhK base b a).den ρ).ok P σ x:=by
 cases a with
 | clo f ds gs => cases x <;> exact h
 | _ => exact h
def Zce (ρ:Nat→V) {x:SC} (h:ZcQ x=Xb):ZbC (x.den ρ)=Xb:=by cases x<;>first | rfl | cases h
def Zgj (ρ:Nat→V) {x:SV} (h:ZlO x=Xb):Zjs (x.den ρ)=Xb:=by
 have a:∀ cs:List SC,cs.all ZcQ=Xb→(cs.map (SC.den ρ)).all ZbC=Xb:=by
  intro cs h;rw [Xo] at h ⊢;intro y b;obtain ⟨z,d,rfl⟩:=XB.1 b;exact Zce ρ (h z d)
 have e:∀ cs:List BC,cs.all Zo1=Xb→(cs.map (BC.den ρ)).all ZbC=Xb:=by
  intro cs h;rw [Xo] at h ⊢;intro y b;obtain ⟨z,d,rfl⟩:=XB.1 b;have:=h z d
  cases z with
  | c w => exact Zce ρ this
  | own _ _ _ => cases this
 cases x with
 | c y => cases y <;> first | rfl | cases h
 | dead => rfl
 | agg cs => exact a cs h
 | box cs => exact e cs h
 | gbox cs => exact e cs h
 | tuple vs =>
  simp only [ZlO,Xo] at h;simp only [SV.den,Zjs,Xo];intro y b;obtain ⟨z,d,rfl⟩:=XB.1 b;have:=h z d
  cases z with
  | c w =>
   have f:=Zce ρ (show ZcQ w=Xb from this)
   cases w<;>first | rfl | cases this
  | agg cs => exact a cs this
  | own _ _ _ => cases this
  | gone => cases this
 | _ => cases h
def ZqI {P:Program} {g:Nat→SV} (ρ:Nat→V) {args:List Operand} {x:Operand} {d q:Nat} (i:x∈args) (h:Z0 P (fun d=>(g d).den ρ) x = .mref d q) (c:∀ t e' j,x = .tmp t→(g t).den ρ≠.own Xb e' j):(d,q)∈Zgn P g args:=by
 have f:YQ P g x = .mref d q:=Zkl (ρ:=ρ) (by rw [KE];exact h);refine Tb.2 ⟨x,i,?_⟩;split
 ·rename_i b e l a
  cases x with
  | tmp t =>
   simp only [Ym,XC,Xg] at a
   cases b with
   | true => exact (c t e (l.den ρ) rfl (by rw [a]; rfl)).elim
   | false => simp only [YQ, a] at f; cases f
  | _ => simp [Ym] at a
 ·rw [f]
def Wp (ρ:Nat→V):∀ (c:List SAK),(∀ a∈c,a.sv.isG=Xc)→((c.map (SAK.den ρ)).map AK.av).countP AV.isG=0
 | [], _ => rfl
 | a :: c, h => by
  have f:=h a (by simp)
  have:(a.den ρ).av.isG=Xc:=by
   rw [Zub]
   cases a with
   | imm x => cases x <;> first | rfl | (rename_i y; cases y <;> rfl) | (simp [SAK.sv, SV.isG] at f)
   | own t x e l => rfl
   | box d fr to cs => cases to <;> first | rfl | (simp [SAK.sv, Zrz, SV.isG] at f)
   | clo g ds gs => rfl
   | pad => rfl
  rw [Xn,Xn,U7,Wp ρ c fun b i=>h b (by simp [i]),this];rfl
def ZnZ {P:Program} {g:Nat→SV} (ρ:Nat→V) {xs:List Zcs} {c n:List SAK} {o:Nat} (q:WC P g ρ xs c) (E:Raw c) (h:ZdW g o c=Xa n) :
  ∃ tail,WC P g ρ (xs++tail) n∧(∀ x∈tail,x = .pad∨x = .ghost)∧xs.length+((n.map (SAK.den ρ)).map AK.av).countP AV.isG≤n.length∧ZBo (n.map (SAK.den ρ)):=by
 unfold ZdW at h;split at h
 ·rename_i U;simp only [Xg] at h;subst h;refine ⟨[],by rw [XY];exact q,by simp,by rw [Wp ρ c fun a e=>(E a e).1,q.1];exact Xr _,fun i f ds w m=>?_⟩;rw [Xy] at m
  cases e:c[i]? with
  | none => rw [e] at m; cases m
  | some a =>
   rw [e] at m;simp only [XC,Xg] at m;have u:=Xt e
   cases a<;>simp only [SAK.den,reduceCtorEq] at m
   rename_i f' s v;simp only [AK.clo.injEq] at m;obtain ⟨rfl,rfl,rfl⟩:=m;have G:=(E _ u).2 _ _ _ rfl
   have H:s = []:=by
    refine List.eq_nil_iff_forall_not_mem.2 fun d J=>?_;have:=VQ c f' s v u d J;rw [U] at this
    cases this
   subst G;subst H;exact ⟨rfl,fun k d j t=>by simp at t⟩
 ·split at h
  ·rename_i W
   cases hc:ZbW g Xb (Jm c) with
   | none => rw [hc] at h; cases h
   | some w =>
    rw [hc] at h;simp only [XC,Xg] at h;subst h;obtain ⟨X,S⟩:=ZbU ρ (Jm c) w hc
    have y:WC P g ρ (Xx (o-c.length) Zcs.pad) (Xx (o-c.length) SAK.pad):=by
     refine ⟨by simp,fun i x a q e=>?_⟩;have z:=Xt q;have Y:=Xt e;rw [(UI.1 z).2,(UI.1 Y).2];trivial
    have A:WC P g ρ xs (c.map (ZhK o (Jm c))):=by
     refine ⟨by simp [q.1],fun i x a L e=>?_⟩;rw [Xy] at e
     cases hai:c[i]? with
     | none => rw [hai] at e; cases e
     | some b =>
      rw [hai] at e;simp only [XC,Xg] at e;subst e;exact Zrf (q.2 i x b L hai)
    refine ⟨Xx (o-c.length) Zcs.pad++(Jm c).map fun _=>Zcs.ghost,?_,fun x q=>?_,?_,fun i f ds Z m=>?_⟩
    ·rw [← Xl];exact (A.append y).append (Zpc ρ hc)
    ·rcases Xz.1 q with q | q
     ·exact .inl (UI.1 q).2
     ·obtain ⟨_,_,rfl⟩:=XB.1 q;exact .inr rfl
    ·have C:(((c.map (ZhK o (Jm c))).map (SAK.den ρ)).map AK.av).countP AV.isG=0:=Wp ρ _ fun a e=>by
      obtain ⟨b,hb,rfl⟩:=XB.1 e;have:=(E b hb).1
      cases b<;>exact this
     have D:(((Xx (o-c.length) SAK.pad).map (SAK.den ρ)).map AK.av).countP AV.isG=0:=Wp ρ _ fun a e=>by
      rw [(UI.1 e).2];rfl
     have M:((w.map (SAK.den ρ)).map AK.av).countP AV.isG≤w.length:=by
      have:=List.countP_le_length (p:=AV.isG) (l:=(w.map (SAK.den ρ)).map AK.av);simpa using this
     simp only [UL,List.countP_append,Xf,Xk,Tg] at C D M ⊢;rw [C,D,q.1];omega
    ·rw [Xy] at m
     have N:∃ a,(c.map (ZhK o (Jm c)))[i]? = Xa a∧a.den ρ = .clo f ds Z:=by
      cases hs:(c.map (ZhK o (Jm c))++Xx (o-c.length) .pad++w)[i]? with
      | none => rw [hs] at m; cases m
      | some a =>
       rw [hs] at m;simp only [XC,Xg] at m;rcases Ub i c.length with z | z
       ·rw [Xl,XL (by simpa using z)] at hs;exact ⟨a,hs,m⟩
       ·rw [Xl,XH (by simpa using z)] at hs;rcases Xz.1 (Xt hs) with u | u
        ·rw [(UI.1 u).2] at m;cases m
        ·obtain ⟨k,t⟩:=Uj.1 u;have O:k < (Jm c).length:=by rw [← X];exact (XA.1 t).1
         obtain ⟨T,cs,Q,_⟩:=S k _ (Xp O);rw [Q] at t;simp only [Xg] at t;subst t
         cases m
     obtain ⟨a,e,r⟩:=N;rw [Xy] at e
     cases hai:c[i]? with
     | none => rw [hai] at e; cases e
     | some b =>
      rw [hai] at e;simp only [XC,Xg] at e;subst e;have u:=Xt hai
      cases b<;>simp only [ZhK,SAK.den,reduceCtorEq] at r
      rename_i f' s v;simp only [AK.clo.injEq] at r;obtain ⟨rfl,rfl,rfl⟩:=r;refine ⟨by simp,fun k d j t R=>?_⟩;rw [Xy,t] at R;simp only [XC,Xg] at R;subst R;have J:=VQ c f' s v u d (Xt t);obtain ⟨T,cs,Q,_⟩:=S _ d (Zri _ d J);refine ⟨T,cs.map (BC.den ρ),?_⟩;rw [Xy,XH (by simp;omega)]
      have:o+Zyh d (Jm c)-(c.map (ZhK o (Jm c))++Xx (o-c.length) SAK.pad).length=Zyh d (Jm c):=by
       simp;omega
      rw [this,Q];rfl
  ·cases h
def Zbz:∀ (l:List Nat),ZfG l=Xb→l.Nodup
 | [], _ => List.nodup_nil
 | x :: xs, h => by
  simp only [ZfG,Xj,Xu,List.contains_eq_mem,decide_eq_false_iff_not] at h;exact UY.2 ⟨h.1,Zbz xs h.2⟩
def ZrH (ρ:Nat→V) (a b:Bool) (o:SV):(ZDC a b o).den ρ=reB a b (o.den ρ):=by
 cases b with
 | true => cases o <;> first | exact Zdm ρ a _ | rfl | (rename_i x; cases x <;> rfl)
 | false => cases o <;> first | exact Zdm ρ a _ | rfl | (rename_i x; cases x <;> rfl)
def ZuH {a b:Bool} {o:SV} {n:Nat} (h:o.bd n):(ZDC a b o).bd n:=by
 unfold ZDC;split
 ·cases a<;>exact h
 ·cases a<;>exact h
 ·trivial
def ZiM (ρ b:Nat→V):∀ (d:List SAK) (c:List SV),Zgo (d.map (SAK.den ρ)) (c.map (SV.den b))=(ZcX d c).map fun u=>(u.1,u.2.den b)
 | [], c => by cases c <;> rfl
 | a :: d, [] => by cases a <;> rfl
 | a :: d, o :: c => by
  cases a<;>simp only [Xn,SAK.den,Zgo,ZcX,ZiM ρ b d c,ZrH]<;>rfl
def Zad {n:Nat} : ∀ (g:List SAK) (b:List SV),(∀ o∈b,o.bd n)→∀ u∈ZcX g b,u.2.bd n
 | [], b, _, u, h => by cases b <;> simp [ZcX] at h
 | a :: g, [], _, u, h => by cases a <;> simp [ZcX] at h
 | a :: g, o :: b, ho, u, h => by
  cases a with
  | imm x => exact Zad g b (fun c f => ho c (by simp [f])) u h
  | clo _ _ _ => exact Zad g b (fun c f => ho c (by simp [f])) u h
  | pad => exact Zad g b (fun c f => ho c (by simp [f])) u h
  | own t x e l =>
   rcases Xs.1 h with rfl | h
   ·trivial
   ·exact Zad g b (fun c f=>ho c (by simp [f])) u h
  | box d fr to cs =>
   rcases Xs.1 h with rfl | h
   ·exact ZuH (ho o (by simp))
   ·exact Zad g b (fun c f=>ho c (by simp [f])) u h
def us1 {t n:Nat} {x:SV} (h:x.bd n):∀ u∈[(t,x)],u.2.bd n:=by
 intro u a;rw [Uh] at a;subst a;exact h
def us2 {t b n:Nat} {x y:SV} (h:x.bd n) (c:y.bd n):∀ u∈[(t,x),(b,y)],u.2.bd n:=by
 intro u a;rcases Xs.1 a with rfl | a
 ·exact h
 ·exact us1 c u a
def Ks {g:Nat→SV} {d:Nat} : ∀ (n:Nat) (u:Nat×SV),u∈Kd g d n↔u.2 = .dead∧u.1 < n∧u.1≠d∧ZfV d (g u.1)=Xb
 | 0, u => by simp [Kd]
 | n + 1, u => by
  have ih:=Ks (g:=g) (d:=d) n u;have f:∀ p:Prop,(u∈(if n≠d∧ZfV d (g n)=Xb then (n,SV.dead)::Kd g d n else Kd g d n)↔p)→(u∈Kd g d (n+1)↔p):=fun p h=>h;apply f;split
  ·rename_i h;rw [Xs,ih];constructor
   ·rintro (rfl | ⟨c,i,e⟩)
    ·exact ⟨rfl,UD n,h.1,h.2⟩
    ·exact ⟨c,by omega,e⟩
   ·rintro ⟨c,i,e⟩;by_cases hn:u.1=n
    ·left;obtain ⟨a,b⟩:=u;simp only at c hn;rw [c,hn]
    ·exact .inr ⟨c,by omega,e⟩
  ·rename_i h;rw [ih];constructor
   ·rintro ⟨c,i,e⟩;exact ⟨c,by omega,e⟩
   ·rintro ⟨c,i,e,j⟩;refine ⟨c,?_,e,j⟩;by_cases hn:u.1=n
    ·subst hn;exact (h ⟨e,j⟩).elim
    ·omega
def ZfS (ρ:Nat→V) (d:Nat) (x:SV):ZfV d x=Xb↔∃ k,Yr (x.den ρ) d k:=by
 cases x with
 | mref d' k' =>
  simp only [ZfV,beq_iff_eq];constructor
  ·rintro rfl;exact ⟨k',.inl rfl⟩
  ·rintro ⟨k,h | ⟨_,h⟩⟩ <;> cases h;rfl
 | eref d' k' i s o =>
  simp only [ZfV,beq_iff_eq];constructor
  ·rintro rfl;exact ⟨k',.inr ⟨_,rfl⟩⟩
  ·rintro ⟨k,h | ⟨_,h⟩⟩ <;> cases h;rfl
 | c y =>
  constructor
  ·intro h;cases h
  ·rintro ⟨k,h | ⟨_,h⟩⟩ <;> cases y<;>cases h
 | _ =>
  constructor
  ·intro h;cases h
  ·rintro ⟨k,h | ⟨_,h⟩⟩ <;> cases h
def Wo {g:Nat→SV} (ρ:Nat→V) {d a:Nat} (c:∀ i,a≤i→g i = .dead):Wf (fun d=>(g d).den ρ) d ((Kd g d a).map fun u=>(u.1,u.2.den ρ)):=by
 refine ⟨fun u f=>?_,fun i k j l=>?_⟩
 ·obtain ⟨v,m,rfl⟩:=XB.1 f;obtain ⟨p,s,q,r⟩:=(Ks a v).1 m;exact ⟨q,by show v.2.den ρ=_;rw [p];rfl,(ZfS ρ d _).1 r⟩
 ·have b:=(ZfS ρ d (g i)).2 ⟨k,l⟩
  have e:i < a:=by
   rcases Ub i a with h | h
   ·exact h
   ·rw [c i h] at b;cases b
  rw [UB];exact XB.2 ⟨(i,.dead),(Ks a (i,.dead)).2 ⟨rfl,e,j,b⟩,rfl⟩
def Vl {P:Program} {g:Nat→SV} (ρ:Nat→V) {b:Nat} (c:∀ i,b≤i→g i = .dead) {f:Odr} {x:Bool} {t:Nat} {e:TypeId} {l:LE} {us:Ups} (m:g t = .own x e l) (h:Wt P f g b t x e l=Xa us) :
  ∃ a,us=a∧(a.map fun u=>(u.1,u.2.den ρ))=(t,Zep P x e (l.den ρ))::(a.tail.map fun u=>(u.1,u.2.den ρ))∧((x=Xc∧(a.tail.map fun u=>(u.1,u.2.den ρ)) = [])∨WQ f (fun d=>(g d).den ρ) t (a.tail.map fun u=>(u.1,u.2.den ρ))):=by
 unfold Wt at h;split at h
 ·simp only [Xg] at h;subst h;exact ⟨_,rfl,rfl,.inl ⟨rfl,rfl⟩⟩
 ·split at h
  ·simp only [Xg] at h;subst h;exact ⟨_,rfl,rfl,.inr (.inl ⟨rfl,Wo ρ c⟩)⟩
  ·rename_i N;split at h
   ·rename_i j;simp only [Xg] at h;subst h;exact ⟨_,rfl,rfl,.inr (.inr ⟨N,rfl,j,rfl⟩)⟩
   ·cases h
def K4 {P:Program} {g:Nat→SV} {a n:Nat} {b:Odr} {x:Bool} {t:Nat} {e:TypeId} {l:LE} {us:Ups} (h:Wt P b g a t x e l=Xa us) (d:l.bd n):∀ u∈us,u.2.bd n:=by
 unfold Wt at h;split at h
 ·simp only [Xg] at h;subst h;exact us1 d
 ·split at h
  ·simp only [Xg] at h;subst h;intro u c;rcases Xs.1 c with rfl | c
   ·trivial
   ·rw [((Ks a u).1 c).1];trivial
  ·split at h
   ·simp only [Xg] at h;subst h;exact us1 trivial
   ·cases h
def Zag {cs:List BC} {off m:Nat} (h:W0 ((cs.drop off).take m)=Xb) (ρ:Nat→V):W5 (((cs.map (BC.den ρ)).drop off).take m):=by
 rw [← Uy,← Uq];exact W2 h ρ
def Kt {x:SV} {k:Nat} {e:TypeId} {l:LE} (ρ:Nat→V) (h:Kq x k=Xa (e,l)):Je (x.den ρ) k=Xa (e,l.den ρ):=by
 unfold Kq at h;split at h
 ·simp only [Xg,XG] at h;obtain ⟨rfl,rfl⟩:=h;rfl
 ·rename_i cs q;split at h
  ·rename_i e' b a;simp only [Xg,XG] at h;obtain ⟨rfl,rfl⟩:=h;simp only [SV.den,Je,Xy,a];rfl
  ·cases h
 ·cases h
def Zal {x:SV} {k n:Nat} {e:TypeId} {l:LE} (h:Kq x k=Xa (e,l)) (a:x.bd n):l.bd n:=by
 unfold Kq at h;split at h
 ·simp only [Xg,XG] at h;obtain ⟨rfl,rfl⟩:=h;exact a
 ·rename_i cs q;split at h
  ·rename_i e' c b;simp only [Xg,XG] at h;obtain ⟨rfl,rfl⟩:=h;exact a _ (Xt b)
  ·cases h
 ·cases h
def WK (ρ:Nat→V) (x:SV) (k:Nat) (b:Bool) (e:TypeId) (l:LE):(VF x k b e l).den ρ=JA (x.den ρ) k b e (l.den ρ):=by
 cases x with
 | own x e' l' => cases k <;> rfl
 | box cs =>
  cases k with
  | zero => rfl
  | succ k => simp only [VF, SV.den, JA, List.map_set]; rfl
 | c y => cases y <;> rfl
 | _ => cases k <;> rfl
def ZaK {x:SV} {k n:Nat} {b:Bool} {e:TypeId} {l:LE} (d:x.bd n) (f:l.bd n):(VF x k b e l).bd n:=by
 unfold VF;split
 ·exact f
 ·intro c a;rcases US a with a | rfl
  ·exact d c a
  ·exact f
 ·exact d
section
variable {P:Program} {E:Env} {tx:Odr} {tk:Bool} {R:AV→List AV→Prop} {A:Nat→List V→Prop} {ρ:Nat→V} {g:Nat→SV} {o:Oper} {n:Nat} {k:K}
def Zwz {x:Operand} (q:∀ d,(g d).bd n) (j:∀ i,E.top≤i→g i = .dead) (p:o.op = .move x) (h:(Km P E tx tk g o n k).wp P R A ρ):WE tx P R A ρ g o n k:=by
 have a:(k (YQ P g x) [] [] n).wp P R A ρ→WE tx P R A ρ g o n k:=fun r=>JH r (Jp q x) (by rw [KE];exact Zi5 (.inl p));simp only [Km,p] at h;split at h
 ·rename_i t;have l:=q t;split at h
  ·rename_i vs f;rw [f] at l;exact Zhy h l (us1 trivial) (ZnA p (by rw [f];rfl))
  ·rename_i b e xs f;rw [f] at l;unfold ZhD at h;split at h
   ·split at h
    ·rename_i us m;obtain ⟨s,rfl,u,v⟩:=Vl ρ j (t:=t) f m;exact Zn4 h l (K4 m l) (by rw [u];exact ZjG (.inl p) (by rw [f];rfl) v)
    ·exact h.elim
   ·refine a ?_;have:YQ P g (.tmp t)=match b with | true=>.mref t 0 | false=>.c (.slice Xc (P.cellsOf e) xs):=by simp only [YQ,f];cases b<;>rfl
    rw [this]
    cases b<;>exact h
  ·exact a h
 ·exact a h
def Zq2 {x:Operand} (q:∀ d,(g d).bd n) (f:∀ i,E.top≤i→g i = .dead) (l:o.op = .assign x) (h:(Km P E tx tk g o n k).wp P R A ρ):WE tx P R A ρ g o n k:=by
 have a:(k (YQ P g x) [] [] n).wp P R A ρ→WE tx P R A ρ g o n k:=fun r=>JH r (Jp q x) (by rw [KE];exact Zi5 (.inr l));simp only [Km,l] at h;split at h
 ·rename_i t;have p:=q t;split at h
  ·exact h.elim
  ·rename_i b e xs m;rw [m] at p;unfold ZhD at h;split at h
   ·split at h
    ·rename_i us j;obtain ⟨s,rfl,u,v⟩:=Vl ρ f (t:=t) m j;exact Zn4 h p (K4 j p) (by rw [u];exact ZjG (.inr l) (by rw [m];rfl) v)
    ·exact h.elim
   ·refine a ?_;have:YQ P g (.tmp t)=match b with | true=>.mref t 0 | false=>.c (.slice Xc (P.cellsOf e) xs):=by simp only [YQ,m];cases b<;>rfl
    rw [this]
    cases b<;>exact h
  ·exact a h
 ·split at h
  ·exact JH h trivial (ZrY l)
  ·exact h.elim
 ·exact a h
def ZvJ {c a b:Operand} (f:∀ d,(g d).bd n) (i:o.op = .pick c a b) (h:(Km P E tx tk g o n k).wp P R A ρ):WE tx P R A ρ g o n k:=by
 simp only [Km,i] at h;split at h
 ·rename_i v j;obtain ⟨l,m⟩:=ZkL h;have p:=Zx ρ j;have e:=Zq4 i p
  cases hb:v.den ρ with
  | true =>
   rw [hb,P4 rfl] at e;exact JH (l hb) (Jp f a) (by rw [KE];exact e)
  | false =>
   rw [hb,P3 (by simp)] at e;exact JH (m hb) (Jp f b) (by rw [KE];exact e)
 ·exact h.elim
def ZsD {T:TypeId} (b:o.op = .alloc T) (h:(Km P E tx tk g o n k).wp P R A ρ):WE tx P R A ρ g o n k:=by
 simp only [Km,b] at h;split at h
 ·rename_i cs a;obtain ⟨i,z,c,d,e,f⟩:=Zsn ρ n a;exact JH h f (Zny b c d e)
 ·exact h.elim
def ZCQ {T:TypeId} {x:Operand} (e:∀ d,(g d).bd n) (b:o.op = .box T x) (h:(Km P E tx tk g o n k).wp P R A ρ):WE tx P R A ρ g o n k:=by
 simp only [Km,b] at h;split at h
 ·rename_i cs a;refine JH h (fun c f=>?_) ?_
  ·obtain ⟨y,i,rfl⟩:=XB.1 f;exact Zc3 a (Jp e x) y i
  ·have j:=Zbo ρ a;have:=ZrI b (KE P g ρ x).symm j;have l:((SV.box (cs.map .c)).den ρ) = .box (cs.map (SC.den ρ)):=by simp only [SV.den,UB];rfl
   rw [l];exact this
 ·exact h.elim
def Zjz (a:Array (Nat×Operand)):(a.toList.map fun p=>(p.1,Z0 P (fun d=>(g d).den ρ) p.2))=(a.toList.map fun p=>(p.1,YQ P g p.2)).map fun p=>(p.1,p.2.den ρ):=by
 rw [UB];refine Tu fun p _=>?_;simp only [Function.comp,KE]
def Zm2 (b:∀ d,(g d).bd n) (a:Array (Nat×Operand)):∀ p∈(a.toList.map fun p=>(p.1,YQ P g p.2)),p.2.bd n:=by
 intro p c;obtain ⟨q,_,rfl⟩:=XB.1 c;exact Jp b q.2
def Zlv {T:TypeId} {a:Array (Nat×Operand)} {f t:Nat} {e:TypeId} {l:LE} (N:∀ d,(g d).bd n) (p:∀ i,E.top≤i→g i = .dead) (O:o.op = .build T a) (j:ZkK g a.toList=Xa (f,t,e,l)) (h:(ZgK P E tx g T f t e l n k).wp P R A ρ):WE tx P R A ρ g o n k:=by
 have b:a.toList = [(f,.tmp t)]∧g t = .own Xb e l:=by
  unfold ZkK at j;split at j
  ·split at j
   ·rename_i v _ _ _ Q;simp only [Xg,XG] at j;obtain ⟨rfl,rfl,rfl,rfl⟩:=j;exact ⟨v,Q⟩
   ·cases j
  ·cases j
 obtain ⟨w,x⟩:=b;have m:=N t;rw [x] at m;unfold ZgK at h;split at h
 ·rename_i fs i S U;split at h
  ·rename_i q;split at h
   ·rename_i z L W C;split at h
    ·rename_i zc us r s;split at h
     ·rename_i M;have v:=Vz ρ z.cells.toList;rw [r] at v;have D:Zcf z.cells.toList=Xa (zc.map (SC.den ρ)):=v.symm;obtain ⟨X,rfl,Y,G⟩:=Vl ρ p (t:=t) x s;refine Zn4 h (fun c H=>?_) (K4 s m) ?_
      ·rcases US H with H | rfl
       ·obtain ⟨y,Z,rfl⟩:=XB.1 H;exact WW r y Z
       ·exact m
      ·have J:WQ tx (fun d=>(g d).den ρ) t (us.tail.map fun u=>(u.1,u.2.den ρ)):=by
        rcases G with ⟨h0,_⟩ | G
        ·cases h0
        ·exact G
       have:=Zfc (zc:=zc.map (SC.den ρ)) O w S U W D q C M.1 (by simpa using M.2) (show (fun d=>(g d).den ρ) t = .own Xb e (l.den ρ) by show (g t).den ρ=_;rw [x];rfl) J;rw [Y]
       have he:(SV.aggo ((zc.map .c).set L.offset (.own Xb e l))).den ρ = .aggo ((zc.map (SC.den ρ)).set L.offset (.own Xb e (l.den ρ))):=by
        simp only [SV.den,List.map_set,UB];rfl
       rw [he];exact this
     ·exact h.elim
    ·exact h.elim
   ·exact h.elim
  ·exact h.elim
 ·exact h.elim
def Zr8 {T:TypeId} {a:Array (Nat×Operand)} (q:∀ d,(g d).bd n) (b:∀ i,E.top≤i→g i = .dead) (p:o.op = .build T a) (h:(Km P E tx tk g o n k).wp P R A ρ):WE tx P R A ρ g o n k:=by
 simp only [Km,p] at h;split at h
 ·rename_i f t e l s;exact Zlv q b p s h
 split at h
 ·rename_i x i u v;split at h
  ·rename_i c;split at h
   ·rename_i z w;split at h
    ·rename_i zc j;split at h
     ·rename_i cs m;refine JH h (Zgq _ _ _ _ (WW j) (Zm2 q a) m) ?_;have r:=Vz ρ z.cells.toList;rw [j] at r;refine Zoj p u v w r.symm c ?_;rw [Zjz];exact Zd6 ρ _ _ _ _ m
     ·exact h.elim
    ·exact h.elim
   ·exact h.elim
  ·exact h.elim
 ·exact h.elim
def ZcC {w:World} {lim:Nat→Nat} {f g:Bool} {s e:Nat} {v:Value} (i:g=Xb→f=Xb) (h:Rep w lim (.slice f s []) v):Rep w lim (.slice g e []) v:=by
 have d:∀ (y:AV),Rep w lim y v→y = .slice f s []→Rep w lim (.slice g e []) v:=by
  intro y j c
  cases j with
  | sliceN => exact .sliceN
  | @sliceE f' s2 a cap hf =>
   injection c with h1 h2 h3;exact .sliceE fun h=>hf (h1.trans (i h))
  | @sliceC f' s2 xs b o cap us hs hc hf hle hlim hus hcell hr =>
   injection c with h1 h2 h3;subst h3;exact .sliceE fun h=>by have:=hf (h1.trans (i h));simpa using this
  | val _ => cases c
  | agg _ _ _ => cases c
 exact d _ h rfl
def Zlk {w:World} {lim:Nat→Nat} {f:Bool} {s:Nat} {xs:List (List AV)} {v:Value} (h:Rep w lim (.slice f s xs) v):Rep w lim (.slice Xc s xs) v:=by
 have d:∀ (y:AV),Rep w lim y v→y = .slice f s xs→Rep w lim (.slice Xc s xs) v:=by
  intro y e c
  cases e with
  | sliceN => injection c with h1 h2 h3; subst h3; exact .sliceN
  | @sliceE f' s2 a cap hf => injection c with h1 h2 h3; subst h3; exact .sliceE fun h => by cases h
  | @sliceC f' s2 xs b o cap us hs hc hf hle hlim hus hcell hr =>
   injection c with h1 h2 h3;subst h2;subst h3;exact .sliceC hs hc (fun h=>by cases h) hle hlim hus hcell hr
  | val _ => cases c
  | agg _ _ _ => cases c
 exact d _ h rfl
def Zsm (ρ:Nat→V) {s:Sh} {c c':SC} (h:Zo5 s c=Xa c'):∀ (w:World) (lim:Nat→Nat) (u:Value),Rep w lim (c.den ρ) u→Rep w lim (c'.den ρ) u:=by
 unfold Zo5 at h;split at h
 ·split at h
  ·simp only [Xg] at h;subst h;rename_i b;subst b;exact fun w lim u a=>Zlk a
  ·split at h
   ·simp only [Xg] at h;subst h;exact fun w lim u a=>ZcC (fun h=>by cases h) a
   ·cases h
 ·simp only [Xg] at h;subst h;exact fun _ _ _ h=>h
def Ztc {n:Nat} {s:Sh} {c c':SC} (h:Zo5 s c=Xa c') (a:c.bd n):c'.bd n:=by
 unfold Zo5 at h;split at h
 ·split at h
  ·simp only [Xg] at h;subst h;exact a
  ·split at h
   ·simp only [Xg] at h;subst h;trivial
   ·cases h
 ·simp only [Xg] at h;subst h;exact a
def W4 {n:Nat} : ∀ (l:List Sh) (cs a:List SC),KX l cs=Xa a→(∀ c∈cs,c.bd n)→∀ c∈a,c.bd n
 | [], [], _, h, _ => by simp only [KX, Xg] at h; subst h; simp
 | [], _ :: _, _, h, _ => by simp [KX] at h
 | _ :: _, [], _, h, _ => by simp [KX] at h
 | s :: ss, c :: cs, r, h, hb => by
  simp only [KX] at h;split at h
  ·rename_i v vs e b;simp only [Xg] at h;subst h;intro x d;rcases Xs.1 d with rfl | d
   ·exact Ztc e (hb c (by simp))
   ·exact W4 ss cs vs b (fun y f=>hb y (by simp [f])) x d
  ·cases h
def Zi1 (ρ:Nat→V):∀ (l:List Sh) (cs a:List SC),KX l cs=Xa a→a.length=cs.length∧∀ (i:Nat) (c:SC),a[i]? = Xa c→∃ e,cs[i]? = Xa e∧∀ (w:World) (lim:Nat→Nat) (u:Value),Rep w lim (e.den ρ) u→Rep w lim (c.den ρ) u
 | [], [], _, h => by simp only [KX, Xg] at h; subst h; exact ⟨rfl, by simp⟩
 | [], _ :: _, _, h => by simp [KX] at h
 | _ :: _, [], _, h => by simp [KX] at h
 | s :: ss, c :: cs, r, h => by
  simp only [KX] at h;split at h
  ·rename_i v vs f b;simp only [Xg] at h;subst h;obtain ⟨j,m⟩:=Zi1 ρ ss cs vs b;refine ⟨by simp [j],fun i x d=>?_⟩
   cases i with
   | zero =>
    simp only [XQ,Xg] at d;subst d;exact ⟨c,rfl,Zsm ρ f⟩
   | succ i => exact m i x (by simpa using d)
  ·cases h
def ZbA (ρ:Nat→V) (l:List Sh) (cs a:List SC) (h:KX l cs=Xa a):(a.map (SC.den ρ)).length=(cs.map (SC.den ρ)).length∧
  ∀ (w:World) (lim:Nat→Nat) (us:List Value),KO w lim (cs.map (SC.den ρ)) us→KO w lim (a.map (SC.den ρ)) us:=by
 obtain ⟨d,f⟩:=Zi1 ρ l cs a h;refine ⟨by simp [d],fun w lim us e=>⟨by rw [← e.1];simp [d],fun x b=>?_,fun i x u b j=>?_⟩⟩
 ·obtain ⟨y,_,rfl⟩:=XB.1 b;exact Zoe ρ y
 ·rw [Xy] at b
  cases hc:a[i]? with
  | none => rw [hc] at b; cases b
  | some c =>
   rw [hc] at b;simp only [XC,Xg] at b;subst b;obtain ⟨q,m,p⟩:=f i c hc;exact p w lim u (e.2.2 i _ u (by rw [Xy,m];rfl) j)
def Zho {T:TypeId} {p:Nat} {a:Array (Nat×Operand)} (u:∀ d,(g d).bd n) (r:o.op = .buildSlice T p a) (h:(Km P E tx tk g o n k).wp P R A ρ):WE tx P R A ρ g o n k:=by
 simp only [Km,r] at h;split at h
 ·rename_i e v;split at h
  ·rename_i i w;split at h
   ·rename_i z y;split at h
    ·rename_i zc f;split at h
     ·rename_i q;split at h
      ·rename_i cs sh j C;split at h
       ·rename_i D b
        have G:∀ c∈cs,c.bd n:=Zgq _ _ _ _ (fun c m=>by
         obtain ⟨l,H,m⟩:=U4.1 m;rw [(UI.1 H).2] at m;exact WW f c m) (Zm2 u a) j
        refine JH h (x:=.own _ e _) (Zud _ _ (W4 _ _ _ b G) _) ?_;have s:=Vz ρ z.cells.toList;rw [f] at s;have t:=Zd6 ρ _ _ _ _ j;rw [← Zjz,List.map_flatten,List.map_replicate] at t;have:=Zd3 (E.exO o) r v w y s.symm q.1 q.2.1 q.2.2 t (ZbA ρ _ _ _ b);rw [← ZqX] at this;exact this
       ·exact h.elim
      ·exact h.elim
     ·exact h.elim
    ·exact h.elim
   ·exact h.elim
  ·exact h.elim
 ·exact h.elim
def ZsP (ρ:Nat→V) (x:SC):VA P (x.den ρ)=x.den ρ:=by cases x<;>rfl
def Zvd {T:TypeId} {a:Operand} (M:∀ d,(g d).bd n) (r:o.op = .load T a) (h:(Km P E tx tk g o n k).wp P R A ρ):WE tx P R A ρ g o n k:=by
 have J:=Jp (P:=P) M a;simp only [Km,r] at h;split at h
 ·rename_i d off j f;split at h
  ·rename_i cs m;split at h
   ·rename_i u;have w:=M d;rw [m] at w;refine JH h (fun c v=>?_) ?_
    ·obtain ⟨y,S,rfl⟩:=XB.1 v;exact ZpG (w y (X4 (XS S)))
    ·have:=Zhj (cs:=cs.map (BC.den ρ)) r j (Zx ρ f) (by rw [m];rfl) (by simpa using u.1) (Zag u.2 ρ)
     have U:(SV.agg (((cs.drop off).take (P.cellsOf T)).map (Zgb P))).den ρ = .agg (((((cs.map (BC.den ρ)).drop off).take (P.cellsOf T))).map (VA P)):=by
      simp only [SV.den,UB,← Uq,← Uy];congr 1;exact Tu fun b _=>Zfr P ρ b
     rw [U];exact this
   ·exact h.elim
  ·exact h.elim
 ·rename_i d off j f;split at h
  ·rename_i cs m;have w:=M d;rw [m] at w;have L:(fun d=>(g d).den ρ) d = .box (cs.map (BC.den ρ)):=by show (g d).den ρ=_;rw [m];rfl
   split at h
   ·rename_i b e xs z;have p:(cs.map (BC.den ρ))[off]? = Xa (.own b e (xs.den ρ)):=by rw [Xy,z];rfl
    have C:=w _ (Xt z);split at h
    ·exact JH h trivial (ZgR r j (Zx ρ f) L p)
    ·split at h
     ·refine Zhy h C (us1 (fun c v=>?_)) ?_
      ·rcases US v with v | rfl
       ·exact w c v
       ·exact C
      ·have:=ZgH r j (Zx ρ f) L p;simp only [Xn,XI,SV.den,List.map_set];exact this
     ·exact JH h C (ZaA r j (Zx ρ f) L p (fun e xs h=>by cases h))
   ·rename_i x z;have p:(cs.map (BC.den ρ))[off]? = Xa (x.den ρ):=by rw [Xy,z];rfl
    have:=ZaA r j (Zx ρ f) L p (fun e xs h=>by cases x<;>cases h);rw [ZsP] at this;exact JH h (w _ (Xt z)) this
   ·exact h.elim
  ·exact h.elim
 ·rename_i agg d q i s off j f;split at h
  ·rename_i e l W;split at h
   ·rename_i sh X;split at h
    ·rename_i Y;obtain ⟨rfl,Z,h3,h4⟩:=Y;obtain ⟨vs,w1,O,w3⟩:=h;have D:=Ky sh n;have G:=Kt ρ W
     have Q:(JF sh n).length=P.cellsOf e:=by
      have N:∀ (l:List Sh) (n:Nat),(JF l n).length=l.length:=by
       intro l
       induction l with
       | nil => intro n; rfl
       | cons s l ih => intro n; simp only [JF, Xv, ih]
      rw [N,Z]
     refine ⟨bind ρ n vs,n+sh.length,_,[],[d],Tx _ _,Zg4 ρ n vs,?_,by simp,w3,?_⟩
     ·cases agg with
      | true => exact fun c v => D c (X4 (XS v))
      | false =>
       show SV.bd _ (match (JF sh n)[off]? with | some x=>.c x | none=>.dead);split
       ·rename_i x z;exact D x (Xt z)
       ·trivial
     ·cases agg with
      | true =>
       have:=Zb4 r j (Zx ρ f) (show Je ((fun d=>(g d).den ρ) d) q=_ from G) O h3;rw [← Uy,← Uq] at this;exact this.t
      | false =>
       have aa:P.cellsOf T=1∨off < (JF sh n).length:=.inr (by omega);have H:off < (JF sh n).length:=by omega
       show Zfb tx P o _ ((match (JF sh n)[off]? with | some x=>SV.c x | none=>.dead).den (bind ρ n vs)) _ _;rw [Xp H];exact (ZaI r j (Zx ρ f) (show Je ((fun d=>(g d).den ρ) d) q=_ from G) O (by omega) (by rw [Xy,Xp H];rfl)).t
    ·exact h.elim
   ·exact h.elim
  ·exact h.elim
 ·rename_i cs j f;rw [f] at J;split at h
  ·rename_i u;refine JH h (fun c v=>J c (XS v)) ?_;have:=Zfe (cs:=cs.map (SC.den ρ)) r j (Zx ρ f) (by simpa using u);rw [← Uq] at this;exact this
  ·exact h.elim
 ·rename_i cs j f;rw [f] at J;split at h
  ·rename_i x rest;exact JH h (J x (by simp)) (Zd9 (cs:=rest.map (SC.den ρ)) r j (Zx ρ f))
  ·exact h.elim
 ·exact h.elim
def Zs9 {T:TypeId} {a x:Operand} (v:∀ d,(g d).bd n) (H:∀ i,E.top≤i→g i = .dead) (J:o.op = .store T a x) (h:(Km P E tx tk g o n k).wp P R A ρ):WE tx P R A ρ g o n k:=by
 have X:=Jp (P:=P) v x;simp only [Km,J] at h;split at h
 ·rename_i d off z;split at h
  ·rename_i cs L;have C:=v d;rw [L] at C;have O:(fun d=>(g d).den ρ) d = .box (cs.map (BC.den ρ)):=by show (g d).den ρ=_;rw [L];rfl
   split at h
   ·rename_i t b e xs w p;have Q:x = .tmp t:=by cases x<;>simp [Ym] at w;rw [w]
    subst Q;simp only [Ym,XC,Xg] at p;have D:=v t;rw [p] at D;split at h
    ·rename_i us M;split at h
     ·rename_i j;obtain ⟨Z,rfl,q1,q2⟩:=Vl ρ H (t:=t) p M;refine Zn4 h trivial (fun u G=>?_) ?_
      ·rcases Xz.1 G with G | G
       ·exact K4 M D u G
       ·rw [Uh] at G;subst G;intro c f;rcases US f with f | rfl
        ·exact C c f
        ·exact D
      ·have:=Ze1 (T':=tx) (e:=e) (xs:=xs.den ρ) J (Zx ρ z) O (by show (g t).den ρ=_;rw [p];rfl) j.1 (by simpa using j.2.1) (Zag j.2.2 ρ) q2;rw [UL,q1];simp only [Xn,XI,SV.den,List.map_set];exact this
     ·exact h.elim
    ·exact h.elim
   ·rename_i t vc w p;have Q:x = .tmp t:=by cases x<;>simp [Ym] at w;rw [w]
    subst Q;simp only [Ym,XC,Xg] at p;have D:=v t;rw [p] at D;split at h
    ·rename_i j;refine Zhy h trivial (us2 trivial (fun c f=>?_)) ?_
     ·rcases Xz.1 f with f | f
      ·rcases Xz.1 f with f | f
       ·exact C c (XS f)
       ·exact D c f
      ·exact C c (X4 f)
     ·have:=ZeB (vc:=vc.map (BC.den ρ)) J (Zx ρ z) O (show (fun d=>(g d).den ρ) t = .aggo (vc.map (BC.den ρ)) by show (g t).den ρ=_;rw [p];rfl) (by simpa using j.1) (by omega) (by simpa using j.2.2.1) (Zag j.2.2.2 ρ)
      have S:(SV.box (cs.take off++vc++cs.drop (off+P.cellsOf T))).den ρ = .box ((cs.map (BC.den ρ)).take off++vc.map (BC.den ρ)++(cs.map (BC.den ρ)).drop (off+P.cellsOf T)):=by
       simp only [SV.den,UL,Uq,Uy]
      simp only [Xn,XI,S];exact this
    ·exact h.elim
   ·split at h
    ·rename_i vc m;split at h
     ·rename_i j;refine Zhy h trivial (us1 (fun c f=>?_)) ?_
      ·rcases Xz.1 f with f | f
       ·rcases Xz.1 f with f | f
        ·exact C c (XS f)
        ·obtain ⟨y,hy,rfl⟩:=XB.1 f;exact Zc3 m X y hy
       ·exact C c (X4 f)
      ·have:=Zol (vc:=vc.map (SC.den ρ)) J (Zx ρ z) O (KE P g ρ x).symm (Zbo ρ m) (by simpa using j.1) (by omega) (by simpa using j.2.2.1) (Zag j.2.2.2 ρ)
       have S:(SV.box (cs.take off++vc.map .c++cs.drop (off+P.cellsOf T))).den ρ = .box ((cs.map (BC.den ρ)).take off++vc.map (SC.den ρ)++(cs.map (BC.den ρ)).drop (off+P.cellsOf T)):=by
        simp only [SV.den,UL,UB,Uq,Uy];rfl
       simp only [Xn,XI,S];exact this
     ·exact h.elim
    ·exact h.elim
  ·exact h.elim
 ·rename_i d q i s off z;split at h
  ·rename_i e l vc Y m;have N:=Jp (P:=P) v a;rw [z] at N;have U:=Kt ρ Y;split at h
   ·rename_i sh aa;split at h
    ·rename_i vc' r;split at h
     ·rename_i j;obtain ⟨r1,r2,h⟩:=h;have ab:0≤i.den ρ:=r1;have ac:i.den ρ < ((l.den ρ).length:Int):=r2;have W:=W4 _ _ _ r (Zc3 m X);refine Zhy h trivial (us1 (ZaK (v d) ⟨Zal Y (v d),N,Zem _ W⟩)) ?_;obtain ⟨w,p,h3,h4⟩:=j;subst w;have:=ZeL (vc:=vc.map (SC.den ρ)) (vc':=vc'.map (SC.den ρ)) J (Zx ρ z) (show Je ((fun d=>(g d).den ρ) d) q=_ from U) (KE P g ρ x).symm (Zbo ρ m) (by simpa using p) (by omega) (by omega) h4 (ZbA ρ _ _ _ r);rw [← ZbB] at this;simp only [Xn,XI,WK];exact this
     ·exact h.elim
    ·exact h.elim
   ·exact h.elim
  ·exact h.elim
 ·exact h.elim
def Zk1 {x:Operand} (e:∀ d,(g d).bd n) (b:o.op = .nilCheck x) (h:(Km P E tx tk g o n k).wp P R A ρ):WE tx P R A ρ g o n k:=by
 have c:=Jp (P:=P) e x;simp only [Km,b] at h;split at h
 ·rename_i d off a;exact JH h trivial (Wq b (Zx ρ a) (.inl ⟨_,_,rfl⟩))
 ·rename_i cs a;rw [a] at c;exact JH h c (Wq b (Zx ρ a) (.inr (.inl ⟨_,rfl⟩)))
 ·rename_i d q i s off a;rw [a] at c;exact JH h c (Wq b (Zx ρ a) (.inr (.inr ⟨_,_,_,rfl⟩)))
 ·exact h.elim
def ZuW {op:UnOp} {T:TypeId} {x:Operand} (i:∀ d,(g d).bd n) (f:o.op = .unOp op T x) (h:(Km P E tx tk g o n k).wp P R A ρ):WE tx P R A ρ g o n k:=by
 have c:=Jp (P:=P) i x;simp only [Km,f] at h;split at h
 ·rename_i b a;rw [a] at c;refine JH h (Zr2 c) ?_;have:=ZtA f (Zx ρ a);rw [← Zpp] at this;exact this
 ·rename_i kd e a;rw [a] at c;exact JH h ⟨trivial,c⟩ (Zs5 f (Zx ρ a))
 ·rename_i kd e a;rw [a] at c;exact JH h ⟨trivial,c⟩ (ZnW f (Zx ρ a))
 ·exact h.elim
def Zok {S T:TypeId} {x:Operand} (i:∀ d,(g d).bd n) (c:o.op = .convert S T x) (h:(Km P E tx tk g o n k).wp P R A ρ):WE tx P R A ρ g o n k:=by
 have b:=Jp (P:=P) i x;simp only [Km,c] at h;split at h
 ·rename_i e f a;rw [a] at b;exact JH h b (ZoR c e f (Zx ρ a))
 ·rename_i e f a;rw [a] at b;split at h
  ·rename_i j;split at h
   ·rename_i l;subst l;exact JH h.2 b (ZnI c e j f (Zx ρ a) h.1)
   ·exact h.elim
  ·exact h.elim
 ·exact h.elim
def ZhP {T:TypeId} {x:Operand} {f:Nat} (m:∀ d,(g d).bd n) (e:o.op = .fieldAddr T x f) (h:(Km P E tx tk g o n k).wp P R A ρ):WE tx P R A ρ g o n k:=by
 have j:=Jp (P:=P) m x;simp only [Km,e] at h;split at h
 ·rename_i b a;exact JH h trivial (Ze4 e b (Zx ρ a))
 ·rename_i off cs b a;rw [a] at j;refine JH h (fun c p=>j c (X4 p)) ?_;have:=ZdI (cs:=cs.map (SC.den ρ)) e b (Zx ρ a);rw [← Uy] at this;exact this
 ·rename_i off d q i s l b a;rw [a] at j;refine JH h j ?_;have:=Zev e b (Zx ρ a);rw [Ui] at this;exact this
 ·exact h.elim
def ZsR {T:TypeId} {x:Operand} {f:Nat} (q:∀ d,(g d).bd n) (i:o.op = .field T x f) (h:(Km P E tx tk g o n k).wp P R A ρ):WE tx P R A ρ g o n k:=by
 have j:=Jp (P:=P) q x;simp only [Km,i] at h;split at h
 ·rename_i off agg r cs l m p;rw [p] at j;split at h
  ·rename_i b;have a:Z0 P (fun d=>(g d).den ρ) x = .agg (cs.map (SC.den ρ)):=Zx ρ p
   cases agg with
   | true =>
    simp only at h;refine JH h (fun c e=>j c (X4 (XS e))) ?_;have:=ZdM (y:=.agg (((cs.map (SC.den ρ)).drop off).take r)) i l m a (by simpa using b.1) b.2 (.inl ⟨rfl,rfl⟩);rw [← Uy,← Uq] at this;exact this
   | false =>
    simp only at h;split at h
    ·rename_i c e;refine JH h (j c (Xt e)) ?_;exact ZdM (y:=c.den ρ) i l m a (by simpa using b.1) b.2 (.inr ⟨rfl,by simp [e],by cases c<;>rfl⟩)
    ·exact h.elim
  ·exact h.elim
 ·exact h.elim
def ZlZ {a:IE} {d off s m:Nat} {e:SV→STree} : ∀ (j:Nat),j≤m→(Zvg a d off s m e j).wp P R A ρ→∃ i:Nat,i < m∧a.den ρ=(i:Int)∧(e (.ptr d (off+i*s))).wp P R A ρ
 | 0, _, h => h.elim
 | 1, hj, h => by
  obtain ⟨b,c,f⟩:=h;have l:((m-1:Nat):Int)≤a.den ρ:=b;have p:a.den ρ≤((m-1:Nat):Int):=c;exact ⟨m-1,by omega,by omega,f⟩
 | j + 2, hj, h => by
  obtain ⟨b,c⟩:=h;by_cases he:a.den ρ=((m-(j+2):Nat):Int)
  ·exact ⟨m-(j+2),by omega,he,b (by simp [BE.den,IE.den,P0,he])⟩
  ·exact ZlZ (j+1) (by omega) (c (by simp [BE.den,IE.den,P0,he]))
def Zji {T:TypeId} {x i:Operand} (C:∀ d,(g d).bd n) (f:o.op = .indexAddr T x i) (h:(Km P E tx tk g o n k).wp P R A ρ):WE tx P R A ρ g o n k:=by
 simp only [Km,f] at h;split at h
 ·rename_i b c a;split at h
  ·rename_i sh D;split at h
   ·rename_i j;obtain ⟨vs,v,p,r⟩:=h
    exact ⟨bind ρ n vs,n+sh.length,.eptr (JF sh n),[],[],Tx _ _,Zg4 ρ n vs,Ky sh n,by simp,r,
     (Zoc f b j.1 (by omega) (Zx ρ c) (Zx ρ a) v p).t⟩
   ·exact h.elim
  ·exact h.elim
 ·rename_i m e d off kd s b c a;split at h
  ·rename_i j;split at h
   ·rename_i z;split at h
    ·rename_i w;exact JH h trivial (ZaB (kd:=kd) (z:=z) f b (by omega) (Zx ρ c) (Zx ρ a) w.1 w.2)
    ·exact h.elim
   ·obtain ⟨G,v,p,r⟩:=ZlZ m (Xr _) h;have:=ZaB (kd:=kd) (z:=(G:Int)) f b (by omega) (Zx ρ c) (by rw [← p];exact Zx ρ a) (by omega) (by omega);rw [Int.toNat_natCast] at this;exact JH r trivial this
  ·exact h.elim
 ·rename_i e d q kd s b c a;split at h
  ·rename_i e' l H;split at h
   ·rename_i j;obtain ⟨rfl,N⟩:=j;obtain ⟨J,L,h⟩:=h;have u:0≤s.den ρ:=J;have M:s.den ρ < ((l.den ρ).length:Int):=L;have y:=Jp (P:=P) C i;rw [a] at y;exact JH h y (ZeD f b (by omega) (Zx ρ c) (show Je ((fun d=>(g d).den ρ) d) q=_ from Kt ρ H) (Zx ρ a) u (by omega))
   ·exact h.elim
  ·exact h.elim
 ·exact h.elim
def Zxz {T:TypeId} {a b:Operand} (w:∀ d,(g d).bd n) (r:o.op = .makeSlice T a b) (h:(Km P E tx tk g o n k).wp P R A ρ):WE tx P R A ρ g o n k:=by
 simp only [Km,r] at h;split at h
 ·rename_i m j s y;split at h
  ·rename_i e C;have t:=Jp (P:=P) w a;rw [s] at t;split at h
   ·rename_i i D;split at h
    ·rename_i z G;split at h
     ·rename_i zc sh f H;split at h
      ·rename_i zc' c;split at h
       ·rename_i l;have u:=Vz ρ z.cells.toList;rw [f] at u;obtain ⟨v,J,L,h⟩:=h;have M:m.den ρ≤j.den ρ:=J;have N:j.den ρ≤m.den ρ:=L;have p:j.den ρ=m.den ρ:=by omega
        refine JH h (x:=.own (!(E.exO o)) e _) ⟨t,Zem _ (W4 _ _ _ c (WW f))⟩ ?_;have q:Z0 P (fun d=>(g d).den ρ) b = .val (.int .i64 (m.den ρ)):=by rw [← p];exact Zx ρ y
        have:=ZoU (!(E.exO o)) (zc:=zc.map (SC.den ρ)) (zc':=zc'.map (SC.den ρ)) r C D G l u.symm (Zx ρ s) q v.1 v.2 (ZbA ρ _ _ _ c);rw [← ZbB] at this;exact this
       ·exact h.elim
      ·exact h.elim
     ·exact h.elim
    ·exact h.elim
   ·exact h.elim
  ·exact h.elim
 ·exact h.elim
def Zsp {T:TypeId} {x:Operand} {M v N:Option Operand} (w:∀ d,(g d).bd n) (Q:∀ i,E.top≤i→g i = .dead) (C:o.op = .slice T x M v N) (h:(Km P E tx tk g o n k).wp P R A ρ):WE tx P R A ρ g o n k:=by
 have S:=Jp (P:=P) w x;simp only [Km,C] at h;split at h
 ·rename_i e r s xs D hx;rw [hx] at S;have U:=Zx ρ hx;split at h
  ·rename_i O;have j:P.cellsOf e≠0:=by omega
   unfold Zqd at h;split at h
   ·rename_i k1 k2 c a m
    cases M with
    | some y => simp at c
    | none =>
     cases v with
     | none => simp at a
     | some y =>
      cases N with
      | none => simp at m
      | some z =>
       simp only [XC,Xg] at a m;exact JH h trivial (ZnG C D j U (Zx ρ a) (Zx ρ m))
   ·rename_i c a m
    cases M with
    | some y => simp at c
    | none =>
     cases v with
     | some y => simp at a
     | none =>
      cases N with
      | some z => simp at m
      | none =>
       have:=Zdo (l:=0) (h:=(xs.den ρ).length) (f':=r) C D O.1 j U (XT _) (Xr _) (.inl ⟨rfl,rfl⟩) (.inl ⟨rfl,rfl⟩) (fun h=>⟨h,rfl⟩);rw [Ty,X7] at this;exact JH h S this
   ·rename_i W l c a m
    cases M with
    | none => simp at c
    | some y =>
     cases v with
     | some y => simp at a
     | none =>
      cases N with
      | some z => simp at m
      | none =>
       simp only [XC,Xg] at c;have b:=Jp (P:=P) w y;rw [c] at b;obtain ⟨G,H,h⟩:=h;have f:0≤l.den ρ:=G;have J:l.den ρ≤((xs.den ρ).length:Int):=H;have X:=Zx ρ c;have L:((l.den ρ).toNat:Int)=l.den ρ:=Th f;have:=Zdo (l:=(l.den ρ).toNat) (h:=(xs.den ρ).length) (f':=r) C D O.1 j U (by omega) (Xr _) (.inr ⟨y,W,rfl,by rw [L];exact X⟩) (.inl ⟨rfl,rfl⟩) (fun h=>⟨h,rfl⟩);rw [Ty] at this;exact JH h ⟨S,b⟩ this
   ·rename_i W l c a m
    cases M with
    | some y => simp at c
    | none =>
     cases v with
     | none => simp at a
     | some y =>
      cases N with
      | some z => simp at m
      | none =>
       simp only [XC,Xg] at a;have b:=Jp (P:=P) w y;rw [a] at b;obtain ⟨G,H,h⟩:=h;have f:0≤l.den ρ:=G;have J:l.den ρ≤((xs.den ρ).length:Int):=H;have X:=Zx ρ a;have L:((l.den ρ).toNat:Int)=l.den ρ:=Th f;have:=Zdo (l:=0) (h:=(l.den ρ).toNat) (f':=Xc) C D O.1 j U (XT _) (by omega) (.inl ⟨rfl,rfl⟩) (.inr ⟨y,W,rfl,by rw [L];exact X⟩) (fun h=>by simp at h);rw [X7] at this;exact JH h ⟨S,b⟩ this
   ·rename_i W l kh p c a m
    cases M with
    | none => simp at c
    | some y =>
     cases v with
     | none => simp at a
     | some z =>
      cases N with
      | some z => simp at m
      | none =>
       simp only [XC,Xg] at c a;have b:=Jp (P:=P) w y;rw [c] at b;have Y:=Jp (P:=P) w z;rw [a] at Y;obtain ⟨G,H,r3,h⟩:=h;have f:0≤l.den ρ:=G;have J:l.den ρ≤p.den ρ:=H;have ac:p.den ρ≤((xs.den ρ).length:Int):=r3;have X:=Zx ρ c;have sz:=Zx ρ a;have L:((l.den ρ).toNat:Int)=l.den ρ:=Th f;have e2:((p.den ρ).toNat:Int)=p.den ρ:=Th (by omega);have:=Zdo (l:=(l.den ρ).toNat) (h:=(p.den ρ).toNat) (f':=Xc) C D O.1 j U (by omega) (by omega) (.inr ⟨y,W,rfl,by rw [L];exact X⟩) (.inr ⟨z,kh,rfl,by rw [e2];exact sz⟩) (fun h=>by simp at h);exact JH h ⟨⟨S,Y⟩,b⟩ this
   ·exact h.elim
  ·exact h.elim
 ·rename_i e d D hx;split at h
  ·rename_i kh Z e' l q hd;have p:=w d;rw [hd] at p;split at h
   ·rename_i us aa;split at h
    ·rename_i O;obtain ⟨rfl,h0⟩:=O
     cases v with
     | none => simp at q
     | some z =>
      simp only [XC,Xg] at q;have bz:=Jp (P:=P) w z;rw [q] at bz;obtain ⟨G,H,h⟩:=h;have f:0≤Z.den ρ:=G;have J:Z.den ρ≤((l.den ρ).length:Int):=H;have L:((Z.den ρ).toNat:Int)=Z.den ρ:=Th f;obtain ⟨ad,rfl,q1,q2⟩:=Vl ρ Q (t:=d) hd aa
      have ab:WQ tx (fun d=>(g d).den ρ) d (us.tail.map fun u=>(u.1,u.2.den ρ)):=by
       rcases q2 with ⟨h0,_⟩ | q2
       ·cases h0
       ·exact q2
      refine Zn4 h ⟨p,bz⟩ (K4 aa p) ?_;rw [q1];exact Zlw (h:=(Z.den ρ).toNat) C D (by omega) (Zx ρ hx) (show (fun d=>(g d).den ρ) d = .own Xb e' (l.den ρ) by show (g d).den ρ=_;rw [hd];rfl) (by rw [L];exact Zx ρ q) (by omega) ab
    ·exact h.elim
   ·exact h.elim
  ·exact h.elim
 ·exact h.elim
def ZnR {x:Operand} {i:Nat} (v:∀ d,(g d).bd n) (m:o.op = .extract x i) (h:(Km P E tx tk g o n k).wp P R A ρ):WE tx P R A ρ g o n k:=by
 simp only [Km,m] at h;split at h
 ·rename_i t vs u q;have w:x = .tmp t:=by cases x<;>simp [Ym] at u;rw [u]
  subst w;simp only [Ym,XC,Xg] at q;have j:=v t;rw [q] at j;have r:(fun d=>(g d).den ρ) t = .tuple (vs.map (TC.den ρ)):=by show (g t).den ρ=_;rw [q];rfl
  split at h
  ·rename_i b e xs f;have a:(vs.map (TC.den ρ))[i]? = Xa (.own b e (xs.den ρ)):=by rw [Xy,f];rfl
   have l:=j _ (Xt f);refine Zhy h l (us1 (fun c s=>?_)) ?_
   ·rcases US s with s | rfl
    ·exact j c s
    ·cases b<;>first | exact l | trivial
   ·have:=Zc0 (P:=P) (σ:=fun d=>(g d).den ρ) m r a;simp only [Xn,XI,SV.den,List.map_set]
    cases b<;>exact this
  ·rename_i y f;have a:(vs.map (TC.den ρ))[i]? = Xa (y.den ρ):=by rw [Xy,f];rfl
   refine JH h (j _ (Xt f)) (ZcJ (σ:=fun d=>(g d).den ρ) m r a ?_ ?_ ?_ ?_ ?_)
   ·cases y<;>rfl
   all_goals first
    | (intro d p; cases y <;> simp [SV.den, SC.den])
    | (intro d; cases y <;> simp [SV.den, SC.den])
    | (cases y <;> simp [SV.den, SC.den])
  ·rename_i cs f;have a:(vs.map (TC.den ρ))[i]? = Xa (.agg (cs.map (SC.den ρ))):=by rw [Xy,f];rfl
   exact JH h (j _ (Xt f)) (ZcJ (σ:=fun d=>(g d).den ρ) m r a rfl (fun _ _ h=>by cases h) (fun _ h=>by cases h) (fun h=>by cases h) (fun h=>by cases h))
  ·exact h.elim
  ·exact h.elim
 ·exact h.elim
def ZCW {c:Call} (r:∀ d,(g d).bd n) (j:o.op = .call c) (m:c.callee = .builtin .len) (h:(Km P E tx tk g o n k).wp P R A ρ):WE tx P R A ρ g o n k:=by
 simp only [Km,j,m] at h;split at h
 ·rename_i x T a b;have p:=Jp (P:=P) r x;split at h
  ·rename_i d q f;split at h
   ·rename_i e e' l i s;exact JH h (Zal s (r d)) (ZgU j m a b i (Zx ρ f) (show Je ((fun d=>(g d).den ρ) d) q=_ from Kt ρ s))
   ·exact h.elim
  ·unfold ZCk at h;split at h
   ·rename_i i f;rw [f] at p;exact JH h p (ZeX j m a b i (Zx ρ f))
   ·rename_i i f;rw [f] at p;exact JH h p (ZiB j m a b i (Zx ρ f))
   ·exact h.elim
 ·exact h.elim
def Zv5 {c:Call} (i:∀ d,(g d).bd n) (m:o.op = .call c) (p:c.callee = .builtin .copy) (h:(Km P E tx tk g o n k).wp P R A ρ):WE tx P R A ρ g o n k:=by
 simp only [Km,m,p] at h;split at h
 ·rename_i x y T T' a j;split at h
  ·rename_i e d q f s C u v r;split at h
   ·rename_i e' l t;split at h
    ·rename_i w;obtain ⟨rfl,z,rfl⟩:=w;have b:=Jp (P:=P) i y;rw [r] at b;refine Zhy h trivial (us1 (ZaK (i d) ⟨Zal t (i d),b⟩)) ?_;simp only [Xn,XI,WK];exact ZeT (f:=f) m p a j u z (Zx ρ v) (show Je ((fun d=>(g d).den ρ) d) q=_ from Kt ρ t) (Zx ρ r)
    ·exact h.elim
   ·exact h.elim
  ·exact h.elim
 ·exact h.elim
def Zd8 {c:Call} {T:TypeId} {x y:Operand} (a:Option Nat) {D:SV} {L:Bool} (H:∀ d,(g d).bd n) (q:∀ i,E.top≤i→g i = .dead) (M:o.op = .call c) (N:c.callee = .builtin .append) (j:c.args.toList = [x,y])
  (r:c.argTypes.toList = [T,T]) (l:∀ t,a=Xa t→x = .tmp t∧D=g t) (m:a=Xe→D=YQ P g x)
  (h:(Zc5 P T tx g E.top L a D (YQ P g y) fun v us=>k v us [] n).wp P R A ρ):WE tx P R A ρ g o n k:=by
 have G:=Jp (P:=P) H y
 have u:D.bd n:=by
  cases a with
  | none => rw [m rfl]; exact Jp H x
  | some t => rw [(l t rfl).2]; exact H t
 unfold Zc5 at h;split at h
 ·rename_i e O;split at h
  ·rename_i i Q;split at h
   ·rename_i z S;split at h
    ·rename_i U;split at h
     ·rename_i b e' xs f s W w;rw [w] at G;split at h
      ·rename_i t;obtain ⟨rfl,p⟩:=l t rfl;split at h
       ·rename_i us C;split at h
        ·rename_i J;obtain ⟨rfl,rfl⟩:=J;obtain ⟨X,rfl,Y,Z⟩:=Vl ρ q (t:=t) p.symm C;refine Zn4 h.2 ⟨u,G⟩ (K4 C u) ?_;rw [Y];exact ZdO (σ:=fun d=>(g d).den ρ) M N j r O Q S U.1 (by show (g t).den ρ=_;rw [← p];rfl) (Zx ρ w) h.1 Z
        ·exact h.elim
       ·exact h.elim
      ·exact h.elim
     ·rename_i s0 f s W w;rw [w] at G;split at h
      ·rename_i J;subst J;refine Zhy h.2 G (by simp) ?_
       have p:Z0 P (fun d=>(g d).den ρ) x = .slice Xb s0 []:=by
        cases a with
        | none => exact Zx ρ (m rfl).symm
        | some t =>
         obtain ⟨rfl,p⟩:=l t rfl;simp only [Z0,← p];rfl
       exact ZcV (σ:=fun d=>(g d).den ρ) L M N j r O Q S U.1 p (Zx ρ w) h.1
      ·exact h.elim
     ·exact h.elim
    ·exact h.elim
   ·exact h.elim
  ·exact h.elim
 ·exact h.elim
def ZoZ {c:Call} (p:∀ d,(g d).bd n) (e:∀ i,E.top≤i→g i = .dead) (j:o.op = .call c) (l:c.callee = .builtin .append) (h:(Km P E tx tk g o n k).wp P R A ρ):WE tx P R A ρ g o n k:=by
 simp only [Km,j,l] at h;split at h
 ·rename_i x y T T' a f;split at h
  ·rename_i m;subst m;split at h
   ·rename_i t q;have r:x = .tmp t:=by cases x<;>simp [Ym] at q;rw [q]
    exact Zd8 (Xa t) p e j l a f (fun s b=>by simp only [Xg] at b;subst b;exact ⟨r,rfl⟩) (fun h=>by cases h) h
   ·exact Zd8 Xe p e j l a f (fun s b=>by cases b) (fun _=>rfl) h
  ·exact h.elim
 ·exact h.elim
def ZtO {c:Call} {d e:IntKind} {a b:IE} (h:c.args.toList.map (YQ P g) = [.c (.int d a),.c (.int e b)]) :
  ∃ x y,c.args.toList = [x,y]∧YQ P g x = .c (.int d a)∧YQ P g y = .c (.int e b):=by
 cases hl:c.args.toList with
 | nil => simp [hl] at h
 | cons x l =>
  cases l with
  | nil => simp [hl] at h
  | cons y l =>
   cases l with
   | nil => simp only [hl, Xn, XI, List.cons.injEq, and_true] at h; exact ⟨x, y, rfl, h.1, h.2⟩
   | cons z l => simp [hl] at h
def ZB7 {c:Call} (e:∀ d,(g d).bd n) (f:o.op = .call c) (i:c.callee = .builtin .min) (h:(Km P E tx tk g o n k).wp P R A ρ):WE tx P R A ρ g o n k:=by
 simp only [Km,f,i] at h;split at h
 ·rename_i t a u b q;obtain ⟨x,y,r,j,l⟩:=ZtO q;split at h
  ·rename_i s;subst s;have m:=Jp (P:=P) e x;have p:=Jp (P:=P) e y;rw [j] at m;rw [l] at p;exact JH h ⟨m,p⟩ (ZdV (mn:=Xb) f i r (Zx ρ j) (Zx ρ l))
  ·exact h.elim
 ·exact h.elim
def Zz4 {c:Call} (e:∀ d,(g d).bd n) (f:o.op = .call c) (i:c.callee = .builtin .max) (h:(Km P E tx tk g o n k).wp P R A ρ):WE tx P R A ρ g o n k:=by
 simp only [Km,f,i] at h;split at h
 ·rename_i t a u b q;obtain ⟨x,y,r,j,l⟩:=ZtO q;split at h
  ·rename_i s;subst s;have m:=Jp (P:=P) e x;have p:=Jp (P:=P) e y;rw [j] at m;rw [l] at p;exact JH h ⟨m,p⟩ (ZdV (mn:=Xc) f i r (Zx ρ j) (Zx ρ l))
  ·exact h.elim
 ·exact h.elim
def ZjQ (ρ:Nat→V) (l:List SAK):(l.map (SAK.den ρ)).filterMap AK.slot=l.filterMap SAK.slot:=by
 rw [List.filterMap_map];congr 1;funext a;exact ZlM ρ a
def ZoK {c:Call} {f:FuncId} {ds:List Nat} {Q:List SAK} (w:∀ i,E.top≤i→g i = .dead) (ho:o.op = .call c) (hc:(c.callee = .value (.func f)∧ds = [])∨∃ t,c.callee = .value (.tmp t)∧(g t).den ρ = .clo f ds)
  (S:WC P g ρ (c.args.toList.map Zcs.op++ds.map Zcs.cap) Q) (z:Raw Q) (h:(Zm6 P E tx g f (Zgn P g c.args.toList) (ZdW g (ZGx P f) Q) n k).wp P R A ρ):WE tx P R A ρ g o n k:=by
 unfold Zm6 at h;split at h
 ·rename_i b Ts J _;split at h
  ·rename_i C;obtain ⟨U,m⟩:=C;split at h
   ·rename_i res sh s L;obtain ⟨q1,q2,q3⟩:=ZkA L;dsimp only at h;split at h
    case isFalse=>exact h.elim
    rename_i u;obtain ⟨vs,W,M⟩:=h;obtain ⟨tail,O,a2,a3,a4⟩:=ZnZ ρ S z J;have D:((J6 (b.map SAK.sv) s).1).length=b.length:=by rw [Zge,Xk]
    refine ⟨bind ρ n vs,(J6 (b.map SAK.sv) s).2.2,res,ZcX b (J6 (b.map SAK.sv) s).1,b.filterMap SAK.slot++(Zgn P g c.args.toList).map (·.1),XX q1 (Vm _ _),Zg4 ρ n vs,SV.bd_mono (Vm _ _) _ q2,
     Zad _ _ (Zcb _ _),M,?_⟩
    have:=ZpD (T:=tx) (((Zgn P g c.args.toList).head?.getD (0,0)).1) (((Zgn P g c.args.toList).head?.getD (0,0)).2) ((Zgn P g c.args.toList).map (·.1)) (P:=P) (σ:=fun d=>(g d).den ρ) (aks:=b.map (SAK.den ρ)) (res:=res.den (bind ρ n vs)) (outs:=(J6 (b.map SAK.sv) s).1.map (SV.den (bind ρ n vs))) (tail:=tail) ho hc (by simpa using O.1)
     (fun i x a G l=>?_) a2 (by simpa using a3) a4
     (by rw [ZjQ];exact Zbz _ U) (by simp [D]) (fun i d fr to cs y l v=>?_) (q3 _) (fun i t e xs l=>?_) (fun x G d q X Y=>?_) ?_
    ·rw [ZiM,ZjQ] at this;exact this
    ·rw [Xy] at l
     cases hsi:b[i]? with
     | none => simp [hsi] at l
     | some a0 =>
      simp only [hsi,XC,Xg] at l;subst l;exact O.2 i x a0 G hsi
    ·rw [Xy] at l v
     cases hsi:b[i]? with
     | none => simp [hsi] at l
     | some a =>
      cases hyi:(J6 (b.map SAK.sv) s).1[i]? with
      | none => simp [hyi] at v
      | some y0 =>
       simp only [hsi,hyi,XC,Xg] at l v;subst v
       cases a with
       | box d0 fr0 to0 cs0 =>
        simp only [SAK.den,AK.box.injEq] at l;obtain ⟨rfl,rfl,rfl,rfl⟩:=l;obtain ⟨ae,rfl⟩:=Zaf (b.map SAK.sv) s i to0 cs0 y0 (by rw [Xy,hsi];rfl) hyi;exact ⟨_,Zdm _ _ _⟩
       | _ => cases l
    ·rw [Xy] at l
     cases hsi:b[i]? with
     | none => simp [hsi] at l
     | some a =>
      simp only [hsi,XC,Xg] at l
      cases a with
      | own t0 x0 e0 l0 =>
       simp only [SAK.den,AK.own.injEq] at l;obtain ⟨rfl,rfl,rfl,_⟩:=l;unfold Zmd at m;rw [Xo] at m;have Z:=m _ (Xt hsi)
       cases tx with
       | any N => exact .inr ⟨N, rfl, Z, rfl⟩
       | text =>
       simp only [List.isEmpty_iff] at Z;refine .inl ⟨rfl,by simp,fun j q _ L=>?_⟩;have aa:=(Wo ρ w (d:=t0)).2 j q;by_cases hj:j=t0
       ·subst hj;have ab:=O.2 i;have ac:=(XA.1 hsi).1;obtain ⟨x,G⟩:∃ x,(c.args.toList.map Zcs.op++ds.map Zcs.cap++tail)[i]? = Xa x:=⟨_,Xp (by rw [O.1];exact ac)⟩;have hk:=ab x _ G hsi
        cases x with
        | op y =>
         have W:(g j).den ρ = .own Xb e0 (l0.den ρ):=hk.2;have H:Yr ((g j).den ρ) j q:=L;rw [W] at H;rcases H with M | ⟨_,M⟩ <;> cases M
        | _ => exact hk.elim
       ·have:=aa hj L;rw [Z] at this
        cases this
      | _ => cases l
    ·have hm:=ZqI (P:=P) (g:=g) ρ G X Y;generalize Zgn P g c.args.toList=bs at hm u
     cases bs with
     | nil => cases hm
     | cons p r =>
      simp only [ZAx,Xj,Xo,P5,Xu,List.contains_eq_mem,decide_eq_false_iff_not] at u;obtain ⟨⟨⟨b1,b2⟩,b3⟩,b4⟩:=u
      have hp:d=p.1∧q=p.2:=by
       rcases Xs.1 hm with h0 | h0
       ·rw [← h0];exact ⟨rfl,rfl⟩
       ·exact b1 _ h0
      refine ⟨hp.1,hp.2,by simp,fun a S J=>b2 ?_,fun i=>?_⟩
      ·obtain ⟨a0,ad,rfl⟩:=XB.1 S;rw [ZlM] at J;exact Tb.2 ⟨a0,ad,J⟩
      ·simp only [JG];rcases Ub i ((J6 (b.map SAK.sv) s).1.map (SV.den (bind ρ n vs))).length with l | l
       ·rw [XL l,Xy]
        cases v:(J6 (b.map SAK.sv) s).1[i]? with
        | none => rfl
        | some y => exact Zgj _ (b4 y (Xt v))
       ·rw [XH l]
        cases hj:i-((J6 (b.map SAK.sv) s).1.map (SV.den (bind ρ n vs))).length with
        | zero => exact Zgj _ b3
        | succ j => rfl
    ·have he:(b.map (SAK.den ρ)).map AK.av=(b.map SAK.sv).map (SV.den ρ):=by
      rw [UB,UB];exact Tu fun a _=>Zub ρ a
     rw [he];exact W
   ·exact h.elim
  ·exact h.elim
 ·exact h.elim
def Zjq:∀ (l:List SV) (ds:List Nat),ZfO l=Xa ds→l.length=ds.length∧∀ (i d:Nat),ds[i]? = Xa d→l[i]? = Xa (.ptr d 0)
 | [], ds, h => by simp only [ZfO, Xg] at h; subst h; exact ⟨rfl, by simp⟩
 | x :: l, ds, h => by
  unfold ZfO at h;split at h
  ·rename_i a;cases a
  ·rename_i d r a;simp only [List.cons.injEq] at a;obtain ⟨rfl,rfl⟩:=a
   cases hr:ZfO l with
   | none => rw [hr] at h; cases h
   | some es =>
    rw [hr] at h;simp only [XC,Xg] at h;subst h;obtain ⟨c,f⟩:=Zjq l es hr;refine ⟨by simp [c],fun i e b=>?_⟩
    cases i with
    | zero => simp only [XQ, Xg] at b ⊢; rw [b]
    | succ i => simpa using f i e (by simpa using b)
  ·cases h
def Zk5 {r:Fn} {c a:Array Operand} (m:o.op = .makeFunc r c a) (h:(Km P E tx tk g o n k).wp P R A ρ):WE tx P R A ρ g o n k:=by
 simp only [Km,m] at h;split at h
 ·rename_i f ds s e;split at h
  ·rename_i b;obtain ⟨t,u⟩:=Zjq _ _ e;refine JH h trivial (ZgE m s (by simpa using t) fun i x d v p=>?_);have j:=u i d p;rw [Xy,v] at j;simp only [XC,Xg] at j;rw [Xo] at b;have q:=b d (Xt p);refine ⟨Zx ρ j,?_⟩;show ∃ cs,(g d).den ρ = .box cs;split at q
   ·rename_i cs l;rw [l];exact ⟨_,rfl⟩
   ·cases q
  ·exact h.elim
 ·exact h.elim
def Zod (p:PlainSound P E.plain) (j:∀ d,(g d).bd n) (e:∀ i,E.top≤i→g i = .dead) (h:(Km P E tx tk g o n k).wp P R A ρ):WE tx P R A ρ g o n k:=by
 cases ho:o.op with
 | move x => exact Zwz j e ho h
 | assign x => exact Zq2 j e ho h
 | pick c a b => exact ZvJ j ho h
 | alloc T => exact ZsD ho h
 | box T x => exact ZCQ j ho h
 | build T parts => exact Zr8 j e ho h
 | buildSlice T len parts => exact Zho j ho h
 | load T a => exact Zvd j ho h
 | store T a x => exact Zs9 j e ho h
 | nilCheck x => exact Zk1 j ho h
 | binOp op T x y T' => exact Zpb p j ho (by simp only [Km, ho] at h; exact h)
 | unOp op T x => exact ZuW j ho h
 | convert S T x => exact Zok j ho h
 | fieldAddr T x f => exact ZhP j ho h
 | field T x f => exact ZsR j ho h
 | indexAddr T x i => exact Zji j ho h
 | makeSlice T a b => exact Zxz j ho h
 | makeFunc fn first captured => exact Zk5 ho h
 | slice T x lo hi mx => exact Zsp j e ho h
 | extract x i => exact ZnR j ho h
 | call c =>
  cases hc:c.callee with
  | builtin b =>
   cases b with
   | len => exact ZCW j ho hc h
   | append => exact ZoZ j e ho hc h
   | copy => exact Zv5 j ho hc h
   | min => exact ZB7 j ho hc h
   | max => exact Zz4 j ho hc h
   | _ => simp only [Km, ho, hc] at h; exact h.elim
  | value x =>
   cases x with
   | func f =>
    simp only [Km,ho,hc] at h;split at h
    ·rename_i u l;obtain ⟨q,r⟩:=ZdS ρ _ _ l;exact ZoK (ds:=[]) e ho (.inl ⟨hc,rfl⟩) (by simpa using q) r h
    ·exact h.elim
   | tmp t =>
    simp only [Km,ho,hc] at h;split at h
    ·rename_i f ds u v l;obtain ⟨q,r⟩:=ZdS ρ _ _ l;split at h
     ·rename_i cs s;obtain ⟨w,z⟩:=Zwj (P:=P) ρ s;refine ZoK (ds:=ds) e ho (.inr ⟨t,hc,by rw [v];rfl⟩) (q.append w) (fun a m=>?_) h;rcases Xz.1 m with m | m
      ·exact r a m
      ·exact z a m
     ·exact h.elim
    ·exact h.elim
   | _ => simp only [Km, ho, hc] at h; exact h.elim
  | _ => simp only [Km, ho, hc] at h; exact h.elim
 | _ => simp only [Km, ho] at h; exact h.elim
end
structure Stp where
 F:List Nat
 ups:List (Nat×AV)
def ZvI (T:Odr) (P:Program) (nt:Nat) (ops:Array Oper) (B:Nat→Prop) (i:Nat) (b:Nat→AV) (s:Stp):Prop:=
 (∀ u∈s.ups,u.1∈s.F)∧(∀ u∈s.ups,B u.1→Zfx u.2)∧(∀ N,T = .any N→∀ u∈s.ups,∀ d k,N d=Xb→¬ Yr u.2 d k)∧
 ∀ (c:Ctx),c.P=P→c.nt=nt→∀ (a:Nat→AV) (f:Array Value) (w:World) (lim:Nat→Nat) (X:Nat→Nat→Option Nat),
  (∀ d∈s.F,a d=b d)→(∀ d,B d→Zfx (a d))→T.rel b a→Sim c a f w lim X→∀ (Q:Exit→Act→World→Prop) (K:Act→World→Prop),
   (∀ tm' w' e X',Sim c (Kb a s.ups) tm' w' e X'→K ⟨tm',[]⟩ w')→wpOp P ops Q i K ⟨f,[]⟩ w
def Zlg (T:Odr) (P:Program) (nt:Nat) (ops:Array Oper) (B:Nat→Prop):Nat→(Nat→AV)→List Stp→Prop
 | _, _, [] => True
 | i, σ, s :: ss => ZvI T P nt ops B i σ s ∧ Zlg T P nt ops B (i + 1) (Kb σ s.ups) ss
def Zhg {B:Nat→Prop} : ∀ (us:List (Nat×AV)) (σ:Nat→AV),(∀ u∈us,B u.1→Zfx u.2)→(∀ d,B d→Zfx (σ d))→∀ d,B d→Zfx (Kb σ us d)
 | [], _, _, h, d, a => h d a
 | (e, x) :: us, σ, hu, h, d, a => by
  refine Zhg us (upd σ e x) (fun u b=>hu u (by simp [b])) (fun d a=>?_) d a;by_cases he:d=e
  ·subst he;rw [J9];exact hu (d,x) (by simp) a
  ·rw [ZQ _ _ he];exact h d a
def Zln (σ:Nat→AV):List Stp→(Nat→AV)
 | [] => σ
 | s :: ss => Zln (Kb σ s.ups) ss
section
variable {T:Odr} {P:Program} {nt:Nat} {ops:Array Oper} {B:Nat→Prop} {Q:Exit→Act→World→Prop} {c:Ctx}
def Zfv (g:c.P=P) (j:c.nt=nt):∀ (e:List Stp) (i:Nat) (σ:Nat→AV) (b:Array Value) (w:World) (lim:Nat→Nat) (X:Nat→Nat→Option Nat),
  Zlg .text P nt ops B i σ e→(∀ d,B d→Zfx (σ d))→Sim c σ b w lim X→(∀ tm' w' a X',Sim c (Zln σ e) tm' w' a X'→Q .normal ⟨tm',[]⟩ w')→wpOps P ops Q (List.range' i e.length) ⟨b,[]⟩ w
 | [], i, σ, b, w, lim, X, _, _, hs, hk => by
  show Q .normal ⟨b,[]⟩ w;exact hk b w lim X hs
 | s :: e, i, σ, b, w, lim, X, h, hb, hs, hk => by
  rw [Xv,List.range'_succ,wpOps_cons];exact h.1.2.2.2 c g j σ b w lim X (fun _ _=>rfl) hb rfl hs Q _ fun tm' w' a X' f=>Zfv g j e (i+1) _ tm' w' a X' h.2 (Zhg _ _ h.1.2.1 hb) f hk
def Zcr:List (Nat×AV)→Nat→Option AV
 | [], _ => Xe
 | (e, x) :: us, d => match Zcr us d with | some y => Xa y | none => if d = e then Xa x else Xe
def Yf:∀ (us:List (Nat×AV)) (σ:Nat→AV) (d:Nat),Kb σ us d=(Zcr us d).getD (σ d)
 | [], σ, d => rfl
 | (e, x) :: us, σ, d => by
  simp only [Kb,Zcr,Yf us]
  cases Zcr us d with
  | some y => rfl
  | none =>
   by_cases h:d=e
   ·subst h;simp [upd]
   ·simp [upd,h]
def Vb:∀ (us:List (Nat×AV)) (d:Nat),d∉us.map (·.1)→Zcr us d=Xe
 | [], d, _ => rfl
 | (e, x) :: us, d, h => by
  simp only [Xn,Xs,not_or] at h;simp only [Zcr,Vb us d h.2,P3 h.1]
def Zah:∀ (us:List (Nat×AV)) (d:Nat),d∈us.map (·.1)→∃ x,Zcr us d=Xa x
 | [], d, h => by simp at h
 | (e, x) :: us, d, h => by
  simp only [Zcr]
  cases hl:Zcr us d with
  | some y => exact ⟨y, rfl⟩
  | none =>
   simp only [Xn,Xs] at h;rcases h with h | h
   ·subst h;exact ⟨x,by simp⟩
   ·obtain ⟨y,a⟩:=Zah us d h;rw [hl] at a;cases a
def comp (S:Nat→Bool):Nat→(Nat→AV)→List Stp→(Nat→AV)
 | _, σ, [] => σ
 | i, σ, s :: ss => comp S (i + 1) (if S i = Xb then Kb σ s.ups else σ) ss
def Znd (S:Nat→Bool):∀ (a:List Stp) (i:Nat) (σ:Nat→AV),(∀ j,i≤j→j < i+a.length→S j=Xb)→comp S i σ a=Zln σ a
 | [], _, _, _ => rfl
 | s :: a, i, σ, h => by
  simp only [comp,Zln,h i (Xr _) (by simp),if_true];exact Znd S a (i+1) _ fun j b d=>h j (by omega) (by simp only [Xv];omega)
def ZeM (S:Nat→Bool):∀ (a:List Stp) (i:Nat) (σ:Nat→AV),(∀ j,i≤j→j < i+a.length→S j=Xc)→comp S i σ a=σ
 | [], _, _, _ => rfl
 | s :: a, i, σ, h => by
  simp only [comp,h i (Xr _) (by simp),Xw,if_false];exact ZeM S a (i+1) _ fun j b d=>h j (by omega) (by simp only [Xv];omega)
def Zak {d:Nat} (S T:Nat→Bool):∀ (a:List Stp) (i:Nat) (σ e:Nat→AV),σ d=e d→(∀ (j:Nat) (s:Stp),a[j]? = Xa s→d∈s.ups.map (·.1)→S (i+j)=T (i+j))→comp S i σ a d=comp T i e a d
 | [], _, _, _, h, _ => h
 | s :: a, i, σ, e, h, hS => by
  simp only [comp]
  refine Zak S T a (i+1) _ _ ?_ fun j l f b=>by
   have:=hS (j+1) l (by simpa using f) b;rw [show i+1+j=i+(j+1) by omega];exact this
  by_cases b:d∈s.ups.map (·.1)
  ·have g:=hS 0 s rfl b;rw [U1] at g;rw [g];split
   ·rw [Yf,Yf,h]
   ·exact h
  ·have k:=Vb s.ups d b
   split<;>split<;>first
    | (rw [Yf, Yf, k]; exact h)
    | (rw [Yf, k]; exact h)
    | exact h
def ZdY:∀ (a:List Stp) (i:Nat) (σ:Nat→AV) (m:Nat),comp (fun j=>decide (j < i+m)) i σ a=Zln σ (a.take m)
 | [], i, σ, m => by simp [comp, Zln]
 | s :: a, i, σ, 0 => by
  rw [List.take_zero];exact ZeM _ (s::a) i σ fun j b _=>by simp;omega
 | s :: a, i, σ, m + 1 => by
  simp only [comp,Tq,Zln,P5];rw [P4 (by omega),← ZdY a (i+1)];congr 1;funext j;rw [show i+1+m=i+(m+1) by omega]
def Zo7 (S:Nat→Bool):∀ (b:List Stp) (i:Nat) (σ:Nat→AV),(∀ s∈b,∀ u∈s.ups,B u.1→Zfx u.2)→(∀ d,B d→Zfx (σ d))→∀ d,B d→Zfx (comp S i σ b d)
 | [], _, _, _, h, d, a => h d a
 | s :: b, i, σ, hu, h, d, a => by
  simp only [comp];refine Zo7 S b (i+1) _ (fun f e=>hu f (by simp [e])) (fun d a=>?_) d a;split
  ·exact Zhg _ _ (hu s (by simp)) h d a
  ·exact h d a
def ZjH:∀ (a:List Stp) (i:Nat) (σ:Nat→AV),Zlg T P nt ops B i σ a→∀ s∈a,∀ u∈s.ups,B u.1→Zfx u.2
 | [], _, _, _, s, hs => by simp at hs
 | s0 :: a, i, σ, h, s, hs => by
  rcases Xs.1 hs with rfl | hs
  ·exact h.1.2.1
  ·exact ZjH a (i+1) _ h.2 s hs
def ZpT {N:Nat→Bool} : ∀ (us:List (Nat×AV)) (σ:Nat→AV),(∀ u∈us,∀ d k,N d=Xb→¬ Yr u.2 d k)→(∀ d,N d=Xb→∀ i k,¬ Yr (σ i) d k)→∀ d,N d=Xb→∀ i k,¬ Yr (Kb σ us i) d k
 | [], _, _, h => h
 | (e, x) :: us, σ, hu, h => by
  refine ZpT us (upd σ e x) (fun u b=>hu u (by simp [b])) fun d a i k=>?_;by_cases he:i=e
  ·subst he;rw [J9];exact hu (i,x) (by simp) d k a
  ·rw [ZQ _ _ he];exact h d a i k
def ZpI {N:Nat→Bool} (S:Nat→Bool):∀ (a:List Stp) (i:Nat) (σ:Nat→AV),(∀ s∈a,∀ u∈s.ups,∀ d k,N d=Xb→¬ Yr u.2 d k)→(∀ d,N d=Xb→∀ i k,¬ Yr (σ i) d k)→∀ d,N d=Xb→∀ j k,¬ Yr (comp S i σ a j) d k
 | [], _, _, _, h => h
 | s :: a, i, σ, hu, h => by
  simp only [comp];refine ZpI S a (i+1) _ (fun f b=>hu f (by simp [b])) fun d e=>?_;split
  ·exact ZpT _ _ (hu s (by simp)) h d e
  ·exact h d e
def Zmk {N:Nat→Bool} : ∀ (a:List Stp) (i:Nat) (σ:Nat→AV),Zlg (.any N) P nt ops B i σ a→∀ s∈a,∀ u∈s.ups,∀ d k,N d=Xb→¬ Yr u.2 d k
 | [], _, _, _, s, hs => by simp at hs
 | s0 :: a, i, σ, h, s, hs => by
  rcases Xs.1 hs with rfl | hs
  ·exact h.1.2.2.1 N rfl
  ·exact Zmk a (i+1) _ h.2 s hs
def ZmY:∀ (a:List Stp) (i:Nat) (σ:Nat→AV),Zlg T P nt ops B i σ a→∀ (j:Nat) (s:Stp),a[j]? = Xa s→ZvI T P nt ops B (i+j) (Zln σ (a.take j)) s
 | [], _, _, _, j, s, h => by simp at h
 | s0 :: a, i, σ, hc, 0, s, h => by
  simp only [XQ,Xg] at h;subst h;exact hc.1
 | s0 :: a, i, σ, hc, j + 1, s, h => by
  have:=ZmY a (i+1) _ hc.2 j s (by simpa using h);rw [show i+(j+1)=i+1+j by omega];exact this
def Zq1 (hc:c.P=P) (hn:c.nt=nt) {N:Nat→Bool} {ss:List Stp} {σ:Nat→AV} (hch:Zlg (.any N) P nt ops B 0 σ ss) (hN:∀ d,N d=Xb→∀ i k,¬ Yr (σ i) d k) (hpb:∀ d,B d→Zfx (σ d)) (hlen:ss.length=ops.size)
  (hlow:∀ (i:Nat) (o:Oper),ops[i]? = Xa o→∀ e∈o.after,Region.binds .any e=Xb→e.on < i)
  (hind:∀ (i j:Nat) (a b:Stp),ss[i]? = Xa a→ss[j]? = Xa b→j < i→(∃ S:Nat→Prop,(∀ k o,ops[k]? = Xa o→S k→∀ e∈o.after,Region.binds .any e=Xb→S e.on)∧S i∧¬ S j)→
   (∀ d∈b.ups.map (·.1),d∉a.F)∧∀ d∈a.ups.map (·.1),d∉b.F) (hfin:∀ tm' w' lim' X',Sim c (Zln σ ss) tm' w' lim' X'→Q .normal ⟨tm',[]⟩ w') :
  ∀ (fuel:Nat) (listed:Array Bool) (tm:Array Value) (w:World) (lim:Nat→Nat) (X:Nat→Nat→Option Nat),listed.size=ops.size→
   (∀ k o,ops[k]? = Xa o→listed.getD k Xc=Xb→∀ e∈o.after,Region.binds .any e=Xb→listed.getD e.on Xc=Xb)→
   ((Ue ops.size).countP (fun i=>!listed.getD i Xc)≤fuel)→
   Sim c (comp (fun i=>listed.getD i Xc) 0 σ ss) tm w lim X→wpAny P .any ops Q fuel listed ⟨tm,[]⟩ w:=by
 -- where nothing is ready, all is done
 have hdone:∀ (listed:Array Bool),listed.size=ops.size→Region.ready .any ops listed = []→∀ j,j < ops.size→listed.getD j Xc=Xb:=by
  intro listed hsz hr j
  induction j using Nat.strongRecOn with
  | _ j ih =>
   intro hj
   cases hl:listed.getD j Xc with
   | true => rfl
   | false =>
    have:j∈Region.ready .any ops listed:=by
     rw [mem_ready];refine ⟨?_,ops[j],UO hj,fun e he hb=>?_⟩
     ·simp only [Ux,hsz,hj,dite_true] at hl ⊢;exact hl
     ·have hlt:=hlow j _ (UO hj) e he hb;exact ih e.on hlt (by omega)
    rw [hr] at this
    cases this
 have hend:∀ (listed:Array Bool) (tm:Array Value) (w:World) (lim:Nat→Nat) (X:Nat→Nat→Option Nat),listed.size=ops.size→Region.ready .any ops listed = []→
   Sim c (comp (fun i=>listed.getD i Xc) 0 σ ss) tm w lim X→Q .normal ⟨tm,[]⟩ w:=by
  intro listed tm w lim X hsz hr hs;rw [Znd _ ss 0 σ fun j _ h2=>hdone listed hsz hr j (by omega)] at hs;exact hfin tm w lim X hs
 intro fuel
 induction fuel with
 | zero =>
  intro listed tm w lim X hsz hcl hcnt hs
  have hall:∀ j,j < ops.size→listed.getD j Xc=Xb:=by
   intro j hj;have h0:(Ue ops.size).countP (fun i=>!listed.getD i Xc)=0:=by omega
   have:=(List.countP_eq_zero.1 h0) j (by simpa using hj);simpa using this
  have hr:Region.ready .any ops listed = []:=by
   refine List.eq_nil_iff_forall_not_mem.2 fun j hj=>?_;obtain ⟨h1,o,h2,_⟩:=mem_ready.1 hj;have hlt:=(TK.1 h2).1;have:=hall j hlt;simp only [Ux,hsz,hlt,dite_true] at h1 this;rw [h1] at this
   cases this
  exact ⟨hr,hend listed tm w lim X hsz hr hs⟩
 | succ fuel ih =>
  intro listed tm w lim X hsz hcl hcnt hs;refine ⟨fun hr=>hend listed tm w lim X hsz hr hs,fun i hi=>?_⟩;obtain ⟨h1,o,h2,h3⟩:=mem_ready.1 hi;have hlt:=(TK.1 h2).1
  have hun:listed.getD i Xc=Xc:=by
   simp only [Ux,hsz,hlt,dite_true] at h1 ⊢;exact h1
  obtain ⟨s,hsi⟩:∃ s,ss[i]? = Xa s:=⟨_,Xp (by omega)⟩;have hst:=ZmY ss 0 σ hch i s hsi;rw [X9] at hst
  have hset:∀ j,(listed.setIfInBounds i Xb).getD j Xc=if j=i then Xb else listed.getD j Xc:=by
   intro j;by_cases hji:j=i
   ·subst hji;simp [Ux,hsz,hlt]
   ·rw [P3 hji,getD_set_ne Xc (Ne.symm hji)]
  -- i is not before what is listed
  have hnot:∀ j,listed.getD j Xc=Xb→∃ S:Nat→Prop,(∀ k o,ops[k]? = Xa o→S k→∀ e∈o.after,Region.binds .any e=Xb→S e.on)∧S j∧¬ S i:=
   fun j hj=>⟨fun k=>listed.getD k Xc=Xb,hcl,hj,by simp [hun]⟩
  -- what is not listed is not before i
  have hnot':∀ j,j≠i→listed.getD j Xc=Xc→∃ S:Nat→Prop,(∀ k o,ops[k]? = Xa o→S k→∀ e∈o.after,Region.binds .any e=Xb→S e.on)∧S i∧¬ S j:=by
   intro j hji hj;refine ⟨fun k=>k=i∨listed.getD k Xc=Xb,fun k o' hk hS e he hb=>?_,.inl rfl,by simp [hji,hj]⟩;rcases hS with rfl | hS
   ·rw [h2] at hk
    cases hk
    exact .inr (h3 e he hb)
   ·exact .inr (hcl k o' hk hS e he hb)
  have hpre:∀ d∈s.F,comp (fun i=>listed.getD i Xc) 0 σ ss d=Zln σ (ss.take i) d:=by
   intro d hd;rw [← ZdY ss 0 σ i];refine Zak _ _ ss 0 σ σ rfl fun j s' hj hdj=>?_;simp only [X9];rcases Nat.lt_trichotomy j i with hlt' | rfl | hgt
   ·simp only [hlt',decide_true]
    cases hl:listed.getD j Xc with
    | true => rfl
    | false => exact (((hind i j s s' hsi hj hlt' (hnot' j (by omega) hl)).1 d hdj) hd).elim
   ·simp [hun]
   ·have hf:decide (j < i)=Xc:=by simp;omega
    rw [hf]
    cases hl:listed.getD j Xc with
    | false => rfl
    | true => exact (((hind j i s' s hj hsi hgt (hnot j hl)).2 d hdj) hd).elim
  refine hst.2.2.2 c hc hn _ tm w lim X hpre (Zo7 _ ss 0 σ (ZjH ss 0 σ hch) hpb) (ZpI _ ss 0 σ (Zmk ss 0 σ hch) hN) hs Q _ fun tm' w' lim' X' hs'=>?_;refine ih (listed.setIfInBounds i Xb) tm' w' lim' X' (by simpa using hsz) ?_ ?_ ?_
  ·intro k o' hk hl e he hb;rw [hset] at hl ⊢;by_cases hei:e.on=i
   ·simp [hei]
   ·rw [P3 hei];by_cases hki:k=i
    ·subst hki;rw [h2] at hk
     cases hk
     exact h3 e he hb
    ·rw [P3 hki] at hl;exact hcl k o' hk hl e he hb
  ·have hlt2:(Ue ops.size).countP (fun j=>!(listed.setIfInBounds i Xb).getD j Xc) < (Ue ops.size).countP (fun j=>!listed.getD j Xc):=by
    have key:∀ (l:List Nat),i∈l→l.countP (fun j=>!(listed.setIfInBounds i Xb).getD j Xc) < l.countP (fun j=>!listed.getD j Xc):=by
     have hle:∀ (l:List Nat),l.countP (fun j=>!(listed.setIfInBounds i Xb).getD j Xc)≤l.countP (fun j=>!listed.getD j Xc):=by
      intro l;refine List.countP_mono_left fun j _ hj=>?_;rw [hset] at hj;split at hj
      ·simp at hj
      ·exact hj
     intro l
     induction l with
     | nil => intro h; cases h
     | cons x l ihl =>
      intro h;rw [U7,U7];by_cases hx:x=i
      ·subst hx;have h1:(listed.setIfInBounds x Xb).getD x Xc=Xb:=by rw [hset,P4 rfl]
       have:=hle l;rw [h1,hun];simp only [Bool.not_true,Bool.not_false,Xw,if_false,if_true];omega
      ·have:=ihl (by rcases Xs.1 h with h | h;exact (hx h.symm).elim;exact h);rw [hset x,P3 hx];omega
    exact key _ (by simpa using hlt)
   omega
  ·have he:comp (fun j=>(listed.setIfInBounds i Xb).getD j Xc) 0 σ ss=Kb (comp (fun i=>listed.getD i Xc) 0 σ ss) s.ups:=by
    funext d;rw [Yf];by_cases hd:d∈s.ups.map (·.1)
    ·have hdF:d∈s.F:=by
      obtain ⟨u,hu,rfl⟩:=XB.1 hd;exact hst.1 u hu
     -- nothing behind i that is listed writes d
     rw [Zak (d:=d) _ (fun j=>decide (j < i+1)) ss 0 σ σ rfl fun j s' hj hdj=>?_]
     ·have:=ZdY ss 0 σ (i+1);rw [X9] at this;rw [this,List.take_add_one,hsi]
      have happ:∀ (l:List Stp) (τ:Nat→AV),Zln τ (l++[s])=Kb (Zln τ l) s.ups:=by
       intro l
       induction l with
       | nil => intro τ; rfl
       | cons x l ihl => intro τ; exact ihl _
      show Zln σ (ss.take i++[s]) d=_;rw [happ,Yf];obtain ⟨x,hx⟩:=Zah s.ups d hd;rw [hx];rfl
     ·rw [X9,hset];rcases Nat.lt_trichotomy j i with hlt' | rfl | hgt
      ·have:decide (j < i+1)=Xb:=by simp;omega
       rw [this,P3 (by omega)]
       cases hl:listed.getD j Xc with
       | true => rfl
       | false => exact (((hind i j s s' hsi hj hlt' (hnot' j (by omega) hl)).1 d hdj) hdF).elim
      ·simp
      ·have:decide (j < i+1)=Xc:=by simp;omega
       rw [this,P3 (by omega)]
       cases hl:listed.getD j Xc with
       | false => rfl
       | true => exact (((hind j i s' s hj hsi hgt (hnot j hl)).2 d hdj) hdF).elim
    ·rw [Vb s.ups d hd];refine Zak _ _ ss 0 σ σ rfl fun j s' hj hdj=>?_;rw [X9,hset];by_cases hji:j=i
     ·subst hji;rw [hsi] at hj
      cases hj
      exact (hd hdj).elim
     ·rw [P3 hji]
   rw [he];exact hs'
end
def ZgS {ops:Array Oper} {S:Nat→Prop} (z:∀ k o,ops[k]? = Xa o→S k→∀ e∈o.after,Region.binds .any e=Xb→S e.on) (i j:Nat) (p:S i)
  (w:((Region.before ops).getD i 0).testBit j=Xb):S j:=by
 have g:∀ (a:Array Nat),(∀ i j,S i→(a.getD i 0).testBit j=Xb→S j)→∀ (l:List Edge),(∀ e∈l,Region.binds .any e=Xb→S e.on)→∀ (s:Nat),(∀ j,s.testBit j=Xb→S j)→
   ∀ j,(l.foldl (fun s e=>if Region.binds .any e then s||| 2^e.on||| a.getD e.on 0 else s) s).testBit j=Xb→S j:=by
  intro a d l
  induction l with
  | nil => intro _ s u j f; exact u j f
  | cons e l ih =>
   intro q s u j f;rw [Tt] at f;refine ih (fun e' x=>q e' (by simp [x])) _ ?_ j f;intro n b;split at b
   ·rename_i y;have r:=q e (by simp) y;rw [Nat.testBit_or,Nat.testBit_or,Nat.testBit_two_pow,XF,XF,P5] at b;rcases b with (h | h) | h
    ·exact u n h
    ·rw [← h];exact r
    ·exact d e.on n r h
   ·exact u n b
 have m:∀ (l:List Oper) (a:Array Nat),(∀ j,l[j]? = ops[a.size+j]?)→(∀ i j,S i→(a.getD i 0).testBit j=Xb→S j)→
   ∀ i j,S i→((l.foldl (fun a o=>a.push (o.after.foldl (fun s e=>if Region.binds .any e then s||| 2^e.on||| a.getD e.on 0 else s) 0)) a).getD i 0).testBit j=Xb→S j:=by
  intro l
  induction l with
  | nil => intro a _ d i j p f; exact d i j p f
  | cons o l ih =>
   intro a q d i j p f;rw [Tt] at f;refine ih _ (fun j=>?_) ?_ i j p f
   ·have:=q (j+1);simp only [Uz,Array.size_push] at this ⊢;rw [this];congr 1;omega
   ·intro v n t b;have A:ops[a.size]? = Xa o:=by simpa using (q 0).symm
    by_cases h:v < a.size
    ·refine d v n t ?_;simp only [Ux,Array.size_push,h,dite_true] at b ⊢;rw [dif_pos (by omega)] at b;simp only [Array.getInternal_eq_getElem,Array.getElem_push,h,dite_true] at b ⊢;exact b
    ·by_cases h':v=a.size
     ·subst h'
      have:(a.push (o.after.foldl (fun s e=>if Region.binds .any e then s||| 2^e.on||| a.getD e.on 0 else s) 0)).getD a.size 0=o.after.foldl (fun s e=>if Region.binds .any e then s||| 2^e.on||| a.getD e.on 0 else s) 0:=by
       simp [Ux]
      rw [this,← Array.foldl_toList] at b;exact g a d o.after.toList (fun e C w=>z a.size o A t e (by simpa using C) w) 0 (by simp) n b
     ·have:(a.push (o.after.foldl (fun s e=>if Region.binds .any e then s||| 2^e.on||| a.getD e.on 0 else s) 0)).getD v 0=0:=by
       simp only [Ux,Array.size_push];rw [dif_neg (by omega)]
      rw [this] at b;simp at b
 have:=m ops.toList #[] (fun j=>by simp) (fun i j _ h=>by simp at h) i j p;apply this;rw [Array.foldl_toList];exact w
def Tr.get_set:∀ (k:Nat) (t:Tr) (d i:Nat) (x:SV),d < 2^k→i < 2^k→(Tr.set k t d x).get i=if i=d then x else t.get i
 | 0, t, d, i, x, hd, hi => by
  have f:d=0:=by simpa using hd
  have g:i=0:=by simpa using hi
  subst f;subst g;rfl
 | k + 1, .node l r, d, i, x, hd, hi => by
  have a:d / 2 < 2^k:=by rw [UJ] at hd;omega
  have b:i / 2 < 2^k:=by rw [UJ] at hi;omega
  have c:=Tr.get_set k l (d / 2) (i / 2) x a b;have e:=Tr.get_set k r (d / 2) (i / 2) x a b;rcases TO d with h | h<;>rcases TO i with h' | h'
  ·simp only [Tr.set,h,Tr.get,h',c];by_cases he:i=d
   ·simp [he]
   ·rw [P3 he,P3 (by omega)]
  ·simp only [Tr.set,h,Tr.get,h'];rw [P3 (by omega)]
  ·simp only [Tr.set,h,Tr.get,h'];rw [P3 (by omega)]
  ·simp only [Tr.set,h,Tr.get,h',e];by_cases he:i=d
   ·simp [he]
   ·rw [P3 he,P3 (by omega)]
 | k + 1, .leaf y, d, i, x, hd, hi => by
  have a:d / 2 < 2^k:=by rw [UJ] at hd;omega
  have b:i / 2 < 2^k:=by rw [UJ] at hi;omega
  have ih:=Tr.get_set k (.leaf y) (d / 2) (i / 2) x a b;rcases TO d with h | h<;>rcases TO i with h' | h'
  ·simp only [Tr.set,h,Tr.get,h',ih];by_cases he:i=d
   ·simp [he]
   ·rw [P3 he,P3 (by omega)]
  ·simp only [Tr.set,h,Tr.get,h'];rw [P3 (by omega)]
  ·simp only [Tr.set,h,Tr.get,h'];rw [P3 (by omega)]
  ·simp only [Tr.set,h,Tr.get,h',ih];by_cases he:i=d
   ·simp [he]
   ·rw [P3 he,P3 (by omega)]
def JV (E:Env) (s:Tr) (ρ:Nat→V):Nat→AV:=fun d=>(gE E s d).den ρ
def WV (E:Env) (s:Tr) (n:Nat):Prop:=∀ d,(gE E s d).bd n
section
variable {P:Program} {E:Env} {R:AV→List AV→Prop} {A:Nat→List V→Prop}
def Ke {d:Nat} (h:d < E.nt):d < E.top:=Nat.lt_of_lt_of_le h (Tx _ _)
def ZtF (a:E.top≤1024) {d:Nat} (b:d < E.top) (s:Tr) (x:SV) (i:Nat):gE E (s.set depth d x) i=if i=d then x else gE E s i:=by
 unfold gE;by_cases hi:i < E.top
 ·rw [P4 hi,P4 hi];exact Tr.get_set 10 s d i x (by omega) (by omega)
 ·rw [P3 hi,P3 hi,P3 (by omega)]
def KD (a:E.top≤1024) {d:Nat} (b:d < E.top) (s:Tr) (x:SV) (ρ:Nat→V):JV E (s.set depth d x) ρ=upd (JV E s ρ) d (x.den ρ):=by
 funext i;simp only [JV,ZtF a b,upd];split<;>rfl
def Y1 (a:E.top≤1024) {d n:Nat} (b:d < E.top) {s:Tr} {x:SV} (c:WV E s n) (e:x.bd n):WV E (s.set depth d x) n:=by
 intro i;rw [ZtF a b];split
 ·exact e
 ·exact c i
def ZaQ (E:Env) (us:Ups):Prop:=us.all (fun u=>decide (u.1 < E.top))=Xb
def Ku (a:E.top≤1024) (ρ:Nat→V):∀ (us:Ups) (s:Tr),ZaQ E us→JV E (Yy us s) ρ=Kb (JV E s ρ) (us.map fun u=>(u.1,u.2.den ρ))
 | [], _, _ => rfl
 | (d, x) :: us, s, h => by
  simp only [ZaQ,XU,Xj,P5] at h;simp only [Yy,Xn,Kb];rw [Ku a ρ us _ h.2,KD a h.1]
def Y7 (a:E.top≤1024) {n:Nat} : ∀ (us:Ups) (s:Tr),ZaQ E us→WV E s n→(∀ u∈us,u.2.bd n)→WV E (Yy us s) n
 | [], _, _, hs, _ => hs
 | (d, x) :: us, s, h, hs, hu => by
  simp only [ZaQ,XU,Xj,P5] at h;exact Y7 a us _ h.2 (Y1 a h.1 hs (hu (d,x) (by simp))) fun u b=>hu u (by simp [b])
def ZiF {s:Tr} {n a:Nat} (h:WV E s n) (b:n≤a):WV E s a:=fun d=>SV.bd_mono b _ (h d)
def ZfH {s:Tr} {n:Nat} {ρ a:Nat→V} (h:WV E s n) (b:∀ m,m < n→a m=ρ m):JV E s a=JV E s ρ:=by
 funext d;exact SV.den_congr b _ (h d)
def ZfC {x:SV} (ρ:Nat→V) (h:∀ cs,x≠.box cs):∀ cs,x.den ρ≠.box cs:=by
 intro cs a
 cases x with
 | box ds => exact h ds rfl
 | c y => cases y <;> cases a
 | _ => cases a
def Zme {x:SV} (ρ:Nat→V) (h:∀ cs,x≠.gbox cs):(x.den ρ).isG=Xc:=by
 cases x with
 | gbox cs => exact (h cs rfl).elim
 | c y => cases y <;> rfl
 | _ => rfl
def ZnC {a b:AV} (e:a.isG=Xc) (f:b.isG=Xc) (d:Zar a) (c:(∀ cs,b≠.box cs)∨a = .dead):ZaP a b=Xb:=by
 unfold ZaP;split
 ·cases e
 ·cases f
 ·rename_i cs _;exact (d.1 cs rfl).elim
 ·exact (d.2 _ _ rfl).elim
 ·rfl
 ·rename_i h g;rcases c with c | c
  ·exact (c _ rfl).elim
  ·exact (g c).elim
 ·rfl
def Zqz {x:SV} (ρ:Nat→V) (h:∀ cs,x≠.box cs) (d:∀ e l,x≠.own Xb e l):Zar (x.den ρ):=by
 refine ⟨ZfC ρ h,fun e xs a=>?_⟩
 cases x with
 | own b e' l =>
  cases b with
  | true => exact d _ _ rfl
  | false => cases a
 | c y => cases y <;> cases a
 | _ => cases a
def Kv {a b:SV} (ρ:Nat→V) (h:ZcO a b=Xb):ZaP (a.den ρ) (b.den ρ)=Xb:=by
 have c:∀ cs,a≠.box cs:=by
  rintro cs rfl
  cases b<;>cases h
 have d:∀ e l,a≠.own Xb e l:=by
  rintro e l rfl
  cases b<;>cases h
 have f:∀ cs,a≠.gbox cs:=by
  rintro cs rfl
  cases b<;>cases h
 have g:∀ cs,b≠.gbox cs:=by
  rintro cs rfl
  cases a with
  | own x e l => cases x <;> cases h
  | _ => cases h
 refine ZnC (Zme ρ f) (Zme ρ g) (Zqz ρ c d) ?_;by_cases hd:a = .dead
 ·subst hd;exact .inr rfl
 ·refine .inl (ZfC ρ ?_);rintro cs rfl
  cases a with
  | dead => exact hd rfl
  | own x e l => cases x <;> cases h
  | _ => cases h
def ZaN (σ:Nat→AV):∀ (us vs:List (Nat×AV)),Kb σ (us++vs)=Kb (Kb σ us) vs
 | [], _ => rfl
 | (d, x) :: us, vs => by
  simp only [XV,Kb];exact ZaN _ us vs
def ZnS {c:Ctx} {σ:Nat→AV} {d:Array Value} {w:World} {lim:Nat→Nat} {X:Nat→Nat→Option Nat} (h:Sim c σ d w lim X) {ops:Array Oper} {j a:Nat} {b:Bool}
  (m:(ops[j]?).bind (·.dst)=Xa a) (g:σ a = .val (.bool b)):yielded ops d j=Xa b:=by
 have e:a < d.size:=by
  rcases Ub a c.nt with h1 | h1
  ·rw [h.size];exact h1
  ·have:=h.out a h1;rw [g] at this;rcases this with f | f<;>cases f
 have k:=h.rel a;rw [g] at k;have l:d.getD a undef = .bool b:=ZaF k
 have f:d[a]? = Xa (.bool b):=by
  simp only [Ux,e,dite_true] at l;rw [UO e];exact congrArg Xa l
 unfold yielded;simp only [m,Xd,f]
def ZiR {c:Ctx} {σ:Nat→AV} {b:Array Value} {w:World} {lim:Nat→Nat} {X:Nat→Nat→Option Nat} (h:Sim c σ b w lim X) {ops:Array Oper} {j a:Nat}
  (f:(ops[j]?).bind (·.dst)=Xa a) (g:σ a = .tuple []):yielded ops b j=Xe:=by
 have d:=h.rel a;rw [g] at d;obtain ⟨us,e,k,_⟩:=d;have:us = []:=Um k;subst this;unfold yielded;simp only [f,Xd];by_cases hlt:a < b.size
 ·simp only [Ux,hlt,dite_true] at e
  have l:b[a]? = Xa (.tuple #[]):=by
   rw [UO hlt];exact congrArg Xa e
  simp only [l]
 ·simp only [Array.getElem?_eq_none (Nat.le_of_not_lt hlt)]
def Sim.putUndef {c:Ctx} {σ:Nat→AV} {a:Array Value} {w:World} {lim:Nat→Nat} {X:Nat→Nat→Option Nat} (h:Sim c σ a w lim X) {d:Nat} (g:d < c.nt) (j:Zar (σ d)) :
  ∃ X',Sim c (upd σ d (.tuple [])) (a.setIfInBounds d undef) w lim X':=
 ⟨_,h.putRow KU (Yv.refl w lim (fun _=>False)) (fun _ l=>l.elim) g (by simp) (fun i e=>JJ a d i undef e) (.inl j.1) (fun i q e m=>(h.noRefs j.none i q e m).elim)
  ⟨[],by rw [Ki a d undef (by rw [h.size];exact g)];rfl,rfl,by simp⟩ (fun k b f=>by simp [KU] at f) (fun k p b f=>by simp [KU] at f)⟩
def Zkw (ops:Array Oper) (o:Oper) (σ:Nat→AV) (gs:List Nat) (v:Bool):Prop:=
 (o.guard=Xe∧v=Xb)∨(∃ j a c b,o.guard=Xa (j,a)∧(ops[j]?).bind (·.dst)=Xa c∧c∈gs∧σ c = .val (.bool b)∧(v=Xb↔a=b))∨
 ∃ j a c,o.guard=Xa (j,a)∧(ops[j]?).bind (·.dst)=Xa c∧c∈gs∧σ c = .tuple []∧v=Xc
def Zb6 {ops:Array Oper} {o:Oper} {σ:Nat→AV} {gs:List Nat} {v:Bool} (k:Zkw ops o σ gs v) {c:Ctx} {a:Nat→AV} {g:Array Value} {w:World} {lim:Nat→Nat} {X:Nat→Nat→Option Nat}
  (h:Sim c a g w lim X) (e:∀ d∈gs,a d=σ d):Region.wanted o (yielded ops g)=v:=by
 rcases k with ⟨h1,h2⟩ | ⟨j,want,gd,b,h1,h2,h3,h4,h5⟩ | ⟨j,want,gd,h1,h2,h3,h4,h5⟩
 ·unfold Region.wanted;rw [h1,h2]
 ·have f:=ZnS h h2 ((e gd h3).trans h4);unfold Region.wanted;rw [h1];simp only [f]
  cases v<;>cases want<;>cases b<;>simp_all
 ·have f:=ZiR h h2 ((e gd h3).trans h4);unfold Region.wanted;rw [h1,h5];simp only [f];rfl
def Zm0 {x:SV} (ρ:Nat→V) (h:ZDx x=Xb):Zfx (x.den ρ):=by
 unfold ZDx at h;split at h
 ·rename_i cs;exact ⟨_,rfl⟩
 ·cases h
def ZeA {N:Nat→Bool} {x:SV} (ρ:Nat→V) (h:Zet (.any N) x=Xb):∀ d k,N d=Xb→¬ Yr (x.den ρ) d k:=by
 intro d k b a
 cases x with
 | mref d' k' =>
  rcases a with a | ⟨_,a⟩ <;> cases a;simp [Zet,b] at h
 | eref d' k' i s o =>
  rcases a with a | ⟨_,a⟩ <;> cases a;simp [Zet,b] at h
 | c y => rcases a with a | ⟨_, a⟩ <;> cases y <;> cases a
 | _ => rcases a with a | ⟨_, a⟩ <;> cases a
def Zai (T:Odr) (P:Program) (E:Env) (R:AV→List AV→Prop) (A:Nat→List V→Prop) (B:Nat→Bool) (ops:Array Oper) (i:Nat) (s:Tr) (ρ:Nat→V) (cont:Tr→Nat→Log→STree):Prop:=
 ∃ (b:Stp) (a:Nat→V) (e:Nat) (c:Tr),WV E c e∧(cont c e ⟨i,b.F,b.ups.map (·.1)⟩).wp P R A a∧ZvI T P E.nt ops (fun d=>B d=Xb) i (JV E s ρ) b∧JV E c a=Kb (JV E s ρ) b.ups
variable {ops:Array Oper} {o:Oper} {i:Nat} {s:Tr} {n:Nat} {ρ:Nat→V} {cont:Tr→Nat→Log→STree} {gs:List Nat} {tx:Odr} {tk:Bool} {B:Nat→Bool}
def Za0 (ab:PlainSound P E.plain) (q:E.top≤1024) (hB:∀ d,B d=Xb→Zfx (JV E s ρ d)) (hi:ops[i]? = Xa o) (hs:WV E s n) (hg:Zkw ops o (JV E s ρ) gs Xb) (h:(ZnJ P E tx tk B o i s gs n cont).wp P R A ρ) :
  Zai tx P E R A B ops i s ρ cont:=by
 obtain ⟨b,n',x,us,fp,h1,h2,h3,h4,G,h6⟩:=Zod ab hs (fun i hi=>by unfold gE;rw [P3 (by omega)]) h;have ac:(fun d=>(gE E s d).den ρ)=JV E s ρ:=rfl;rw [ac] at h6;have U:WV E s n':=ZiF hs h1;have hc:=ZfH hs h2;dsimp only at G;split at G
 case isFalse=>exact G.elim
 rename_i M;obtain ⟨p,ad⟩:=M;rw [Xo] at p
 have r:ZaQ E us:=by
  unfold ZaQ;rw [Xo];intro u e;have:=p u e;rw [Xj,Xj] at this;exact this.1.1
 have H:∀ u∈(us.map fun u=>(u.1,u.2.den b)),B u.1=Xb→Zfx u.2:=by
  intro u e J;obtain ⟨v,hv,rfl⟩:=XB.1 e;have:=p v hv;simp only [Xj,XF,Xu] at this;rcases this.1.2 with T | T
  ·have D:B v.1=Xb:=J;rw [D] at T;cases T
  ·exact Zm0 b T
 have W:∀ N,tx = .any N→∀ u∈(us.map fun u=>(u.1,u.2.den b)),∀ d k,N d=Xb→¬ Yr u.2 d k:=by
  rintro N rfl u e;obtain ⟨v,hv,rfl⟩:=XB.1 e;have:=p v hv;rw [Xj] at this;exact ZeA b this.2
 have L:∀ (f:Nat→AV),(∀ d∈(ZaE o).filter (fun t=>!B t),f d=JV E s ρ d)→(∀ d,B d=Xb→Zfx (f d))→∀ d∈ZaE o,Zfs (JV E s ρ d) (f d):=by
  intro f T h1 d Y
  cases J:B d with
  | true => exact .inr ⟨hB d J, h1 d J⟩
  | false => exact .inl (T d (List.mem_filter.2 ⟨Y, by simp [J]⟩))
 have g:(us.map fun u=>(u.1,u.2.den b)).map (·.1)=us.map (·.1):=by rw [UB];rfl
 have y:JV E (Yy us s) b=Kb (JV E s ρ) (us.map fun u=>(u.1,u.2.den b)):=by rw [Ku q b us s r,hc]
 split at G
 ·rename_i d Y;split at G
  ·rename_i Z;refine ⟨⟨(ZaE o).filter (fun t=>!B t)++gs++fp++us.map (·.1)++[d],(us.map fun u=>(u.1,u.2.den b))++[(d,x.den b)]⟩,b,n',(Yy us s).set depth d x,Y1 q (Ke Z.1) (Y7 q us s r U h4) h3,?_,⟨?_,?_,?_,?_⟩,?_⟩
   ·rw [UL,g];exact G
   ·intro u e;rcases Xz.1 e with e | e
    ·refine Xz.2 (.inl (Xz.2 (.inr ?_)));rw [← g];exact XB.2 ⟨u,e,rfl⟩
    ·rw [Uh] at e;subst e;simp
   ·intro u e J;rcases Xz.1 e with e | e
    ·exact H u e J
    ·rw [Uh] at e;subst e;have D:B d=Xb:=J;rw [Z.2.2] at D
     cases D
   ·intro N hN u e;rcases Xz.1 e with e | e
    ·exact W N hN u e
    ·rw [Uh] at e;subst e;subst hN;exact ZeA b ad
   ·intro c O aa f tm w lim X j S hT l Q K hK;unfold wpOp;simp only [hi];rw [Zb6 hg l fun z a=>j z (by simp [a])];rw [P4 rfl]
    refine .inl (h6 c O f tm w lim X (L f (fun z a=>j z (by simp only [Xz];exact .inl (.inl (.inl (.inl a))))) S) (fun z a=>j z (by
     rw [g] at a;simp only [Xz] at a ⊢;rcases a with a | a
     ·exact .inl (.inl (.inr a))
     ·exact .inl (.inr a))) hT l K Q fun v w' ha=>?_)
    rw [Y] at ha ⊢
    obtain ⟨C,X',m⟩:=ha (by rw [aa];exact Z.1) (by
     have:Kb f (us.map fun u=>(u.1,u.2.den b)) d=(gE E (Yy us s) d).den b:=by
      have h7:=congrFun y d;rw [Yf] at h7 ⊢;rw [j d (by simp)];exact h7.symm
     rw [this];exact Kv b Z.2.1)
    refine hK _ w' C X' ?_;rw [ZaN];exact m
   ·rw [KD q (Ke Z.1),y,ZaN];rfl
  ·exact G.elim
 ·rename_i Y;refine ⟨⟨(ZaE o).filter (fun t=>!B t)++gs++fp++us.map (·.1),us.map fun u=>(u.1,u.2.den b)⟩,b,n',Yy us s,Y7 q us s r U h4,?_,⟨?_,H,W,?_⟩,y⟩
  ·rw [g];exact G
  ·intro u e;refine Xz.2 (.inr ?_);rw [← g];exact XB.2 ⟨u,e,rfl⟩
  ·intro c O aa f tm w lim X j S hT l Q K hK;unfold wpOp;simp only [hi];rw [Zb6 hg l fun z a=>j z (by simp [a])];rw [P4 rfl]
   refine .inl (h6 c O f tm w lim X (L f (fun z a=>j z (by simp only [Xz];exact .inl (.inl (.inl a)))) S) (fun z a=>j z (by
    rw [g] at a;simp only [Xz] at a ⊢;rcases a with a | a
    ·exact .inl (.inr a)
    ·exact .inr a)) hT l K Q fun v w' ha=>?_)
   rw [Y] at ha ⊢;obtain ⟨C,X',m⟩:=ha;exact hK _ w' C X' m
def W1 (e:E.top≤1024) (z:ops[i]? = Xa o) (C:WV E s n) (D:Zkw ops o (JV E s ρ) gs Xc) (h:(Zeu E B o i s gs n cont).wp P R A ρ) :
  Zai tx P E R A B ops i s ρ cont:=by
 unfold Zeu at h;split at h
 ·rename_i d p;split at h
  ·rename_i f;refine ⟨⟨gs++[d],[(d,.tuple [])]⟩,ρ,n,s.set depth d (.tuple []),Y1 e (Ke f.1) C (by simp [SV.bd]),h,⟨by simp,fun u g G=>?_,fun N _ u g d k _ m=>?_,?_⟩,KD e (Ke f.1) _ _ _⟩
   ·rw [Uh] at g;subst g;have j:B d=Xb:=G;rw [f.2.2] at j
    cases j
   ·rw [Uh] at g;subst g;rcases m with m | ⟨_,m⟩ <;> cases m
   intro c q l r H w lim X b t J a Q K v;unfold wpOp;simp only [z];rw [Zb6 D a fun L x=>b L (by simp [x])];rw [P3 (by simp),p]
   obtain ⟨X',y⟩:=a.putUndef (d:=d) (by rw [l];exact f.1) (by
    rw [b d (by simp)];exact Ju (Kv ρ f.2.1))
   exact v _ w lim X' y
  ·exact h.elim
 ·rename_i p;refine ⟨⟨gs,[]⟩,ρ,n,s,C,h,⟨by simp,by simp,by simp,?_⟩,rfl⟩;intro c q l r H w lim X b t J a Q K v;unfold wpOp;simp only [z];rw [Zb6 D a b];rw [P3 (by simp),p];exact v _ w lim X a
def ZaX (f:E.top≤1024) {t:Nat} {b:BE} {v:Bool} (e:gE E s t = .c (.bool b)) (g:b.den ρ=v):t < E.top∧JV E (s.set depth t (.c (.bool (.lit v)))) ρ=JV E s ρ:=by
 have a:t < E.top:=by
  unfold gE at e;split at e
  ·assumption
  ·cases e
 refine ⟨a,?_⟩;rw [KD f a];funext d;by_cases hd:d=t
 ·subst hd;rw [J9];simp only [JV,e,SV.den,SC.den,g,BE.den]
 ·rw [ZQ _ _ hd]
def ZhL (r:PlainSound P E.plain) (e:E.top≤1024) (D:∀ d,B d=Xb→Zfx (JV E s ρ d)) (x:ops[i]? = Xa o) (z:WV E s n) (h:(ZqF P E tx tk B ops o i s n cont).wp P R A ρ):Zai tx P E R A B ops i s ρ cont:=by
 unfold ZqF at h;split at h
 ·rename_i t;exact Za0 r e D x z (.inl ⟨t,rfl⟩) h
 ·rename_i j a t;split at h
  ·exact h.elim
  ·rename_i f m;split at h
   ·rename_i y;have l:JV E s ρ f = .tuple []:=by simp only [JV,y];rfl
    exact W1 e x z (.inr (.inr ⟨j,a,f,t,m,by simp,l,rfl⟩)) h
   ·rename_i b y;have l:JV E s ρ f = .val (.bool b):=by simp only [JV,y];rfl
    split at h
    ·rename_i u;exact Za0 r e D x z (.inr (.inl ⟨j,a,f,b,t,m,by simp,l,by simp [u]⟩)) h
    ·rename_i u;exact W1 e x z (.inr (.inl ⟨j,a,f,b,t,m,by simp,l,by simp [u]⟩)) h
   ·rename_i b _ y;obtain ⟨H,J⟩:=h
    have p:∀ v,b.den ρ=v→(if a=v then ZnJ P E tx tk B o i (s.set depth f (.c (.bool (.lit v)))) [f] n cont else Zeu E B o i (s.set depth f (.c (.bool (.lit v)))) [f] n cont).wp P R A ρ→Zai tx P E R A B ops i s ρ cont:=by
     intro v l u;obtain ⟨G,g⟩:=ZaX e y l;have C:WV E (s.set depth f (.c (.bool (.lit v)))) n:=Y1 e G z trivial;have q:JV E (s.set depth f (.c (.bool (.lit v)))) ρ f = .val (.bool v):=by rw [g];simp only [JV,y,SV.den,SC.den,l]
     have k:Zai tx P E R A B ops i (s.set depth f (.c (.bool (.lit v)))) ρ cont:=by
      split at u
      ·rename_i w;exact Za0 r e (by rw [g];exact D) x C (.inr (.inl ⟨j,a,f,v,t,m,by simp,q,by simp [w]⟩)) u
      ·rename_i w;exact W1 e x C (.inr (.inl ⟨j,a,f,v,t,m,by simp,q,by simp [w]⟩)) u
     unfold Zai at k ⊢;rw [g] at k;exact k
    cases l:b.den ρ with
    | true => exact p Xb l (H l)
    | false => exact p Xc l (J l)
   ·exact h.elim
def ZjS:Nat→List Stp→List Log
 | _, [] => []
 | i, s :: ss => ZjS (i + 1) ss ++ [⟨i, s.F, s.ups.map (·.1)⟩]
def Zcx:∀ (a:List Stp) (i j:Nat) (s:Stp),a[j]? = Xa s→(⟨i+j,s.F,s.ups.map (·.1)⟩:Log)∈ZjS i a
 | [], i, j, s, h => by simp at h
 | s0 :: a, i, 0, s, h => by
  simp only [XQ,Xg] at h;subst h;simp [ZjS]
 | s0 :: a, i, j + 1, s, h => by
  have:=Zcx a (i+1) j s (by simpa using h);rw [show i+(j+1)=i+1+j by omega];exact Xz.2 (.inl this)
def Zeq (c:PlainSound P E.plain) (e:E.top≤1024) {g:Nat→Bool} {k:Tr→Nat→List Log→STree} : ∀ (l:List Oper) (i:Nat) (s:Tr) (n:Nat) (a:List Log) (ρ:Nat→V),(∀ j,l[j]? = ops[i+j]?)→(∀ d,B d=Xb→Zfx (JV E s ρ d))→WV E s n→
  (ZrJ P E tx g B ops l i s n a k).wp P R A ρ→∃ (b:List Stp) (f:Nat→V) (r:Nat) (m:Tr),b.length=l.length∧WV E m r∧(k m r (ZjS i b++a)).wp P R A f∧
   Zlg tx P E.nt ops (fun d=>B d=Xb) i (JV E s ρ) b∧JV E m f=Zln (JV E s ρ) b
 | [], i, s, n, a, ρ, _, _, hs, h => ⟨[], ρ, n, s, rfl, hs, h, trivial, rfl⟩
 | o :: l, i, s, n, a, ρ, hl, hB, hs, h => by
  have u:ops[i]? = Xa o:=by simpa using (hl 0).symm
  obtain ⟨v,p,w,x,y,z,t,g4⟩:=ZhL c e hB u hs h
  obtain ⟨b,q,C,D,G,H,J,L,M⟩:=Zeq c e l (i+1) x w _ p (fun j=>by
   have:=hl (j+1);rw [show i+(j+1)=i+1+j by omega] at this;simpa using this) (by rw [g4];exact Zhg _ _ t.2.1 hB) y z
  refine ⟨v::b,q,C,D,by simp [G],H,?_,⟨t,?_⟩,?_⟩
  ·simp only [ZjS,Xl,List.singleton_append];exact J
  ·rw [← g4];exact L
  ·simp only [Zln];rw [← g4];exact M
def Zqo {a b:List Nat} (h:ZEe a b=Xb):∀ d∈a,d∉b:=by
 intro d c;simp only [ZEe,Xo] at h;simpa using h d c
def Zq5 {E:Env} (s:Tr):∀ i,E.top≤i→gE E s i = .dead:=fun i a=>by unfold gE;rw [P3 (by omega)]
def ZsB {c:Ctx} {σ:Nat→AV} {d:Array Value} {w:World} {lim:Nat→Nat} {X:Nat→Nat→Option Nat} (h:Sim c σ d w lim X) {i k:Nat} (a:Yr (σ i) i k):False:=by
 obtain ⟨p,b⟩:=ZcD h a;rcases a with a | ⟨_,a⟩ <;> rw [a] at b<;>cases b
def ZiN (hm:P.follows .mixedOrders=Xb) (N:PlainSound P E.plain) (O:E.top≤1024) {id:Nat} {m:Bool} {k:Tr→Nat→STree} {T:Nat→Bool} (U:∀ d,B d=Xb→Zfx (JV E s ρ d)) (hs:WV E s n)
  (h:(ZrJ P E (ZAA E m ops s) T B ops ops.toList 0 s n [] fun t u C=>if m=Xb then (if Zko ops C=Xb then k t u else .stuck 114) else k t u).wp P R A ρ)
  {c:Ctx} (D:c.P=P) (G:c.nt=E.nt) {H:Array Value} {w:World} {lim:Nat→Nat} {X:Nat→Nat→Option Nat} (q:Sim c (JV E s ρ) H w lim X) {Q:Exit→Act→World→Prop}
  (L:∀ t u r,WV E t u→(k t u).wp P R A r→∀ tm' w' f X',Sim c (JV E t r) tm' w' f X'→Q .normal ⟨tm',[]⟩ w'):(Code.region id ops m).wp P Q ⟨H,[]⟩ w:=by
 obtain ⟨M,r,u,t,h1,h2,J,h4,h5⟩:=Zeq N O ops.toList 0 s n [] ρ (by simp) U hs h;have v:M.length=ops.size:=by simpa using h1
 cases m with
 | false =>
  refine wp_region ?_;rw [List.range_eq_range',← v];refine Zfv D G M 0 _ H w lim X h4 U q fun tm' w' f X' z=>L t u r h2 (by simpa using J) tm' w' f X' ?_;rw [h5];exact z
 | true =>
  simp only [if_true] at J;split at J
  ·rename_i W;rw [XY] at W;simp only [Zko,Xj,CheckFast.beforeF_eq] at W;obtain ⟨x,y⟩:=W;refine wp_region_any hm ?_;have Y:Sim c (JV E s ρ) H w.drew lim X:=q.world (Yv.refl w lim fun _=>False).drew fun b Z=>Z.elim;refine Zq1 D G h4 (fun d hd i k hr=>?_) U v ?_ ?_ (fun tm' w' f X' z=>L t u r h2 J tm' w' f X' (by rw [h5];exact z)) ops.size _ H w.drew lim X (by simp) ?_ ?_ ?_
   ·rw [Xj,List.isEmpty_iff] at hd;have aa:=(Wo (g:=gE E s) ρ (Zq5 s) (d:=d)).2 i k;by_cases hid:i=d
    ·subst hid;exact ZsB q hr
    ·have:=aa hid hr;rw [hd.2] at this
     cases this
   ·intro i o ab e he Z;rw [Xo] at x
    have:=x (o,i) (by
     rw [List.mem_zipIdx_iff_getElem?];simpa using ab)
    rw [Array.all_eq_true_iff_forall_mem] at this;have:=this e he;simpa [Z] using this
   ·rintro i j a b ac ad ae ⟨S,hS,af,ag⟩;rw [Xo] at y;have m1:=Zcx M 0 i a ac;have m2:=Zcx M 0 j b ad;rw [X9] at m1 m2;have:=y _ m1;rw [Xo] at this;have:=this _ m2;simp only [XF,Xj,Xu,decide_eq_false_iff_not] at this;rcases this with (this | this) | this
    ·exact (this ae).elim
    ·exact (ag (ZgS hS i j af this)).elim
    ·exact ⟨Zqo this.1,Zqo this.2⟩
   ·intro k o L hl;have ah:=(TK.1 L).1;simp [Ux,ah] at hl
   ·have:=List.countP_le_length (p:=fun i=>!(Array.replicate ops.size Xc).getD i Xc) (l:=Ue ops.size);simpa using this
   ·rw [ZeM]
    ·exact Y
    ·intro j _ hj;simp [Ux]
  ·exact J.elim
end
inductive KP (P:Program):AV→AV→Prop
 | same {x : AV} (h : x.isCell = Xb ∨ ∃ b e xs, x = .own b e xs) : KP P x x
 | nil {s s' : Nat} {f : Bool} : KP P (.slice Xb s []) (.slice f s' [])
 | imm {f : Bool} {s : Nat} {xs : List (List AV)} : KP P (.slice f s xs) (.slice Xc s xs)
 | immN {f : Bool} {s s' : Nat} : KP P (.slice f s []) (.slice Xc s' [])
 | own {e : TypeId} {xs : List (List AV)} : KP P (.own Xc e xs) (.slice Xc (P.cellsOf e) xs)
 | ownN {b b' : Bool} {e : TypeId} : KP P (.own b e []) (.own b' e [])
 | ownZ {b : Bool} {e : TypeId} {s : Nat} : KP P (.own b e []) (.slice Xc s [])
 | give {b : Bool} {s : Nat} {e : TypeId} : KP P (.slice Xb s []) (.own b e [])
def ZkY {w:World} {lim:Nat→Nat} {b:Bool} {e:TypeId} {xs:List (List AV)} {v:Value} (h:Rep w lim (.own b e xs) v):False:=by cases h
def ZjA {P:Program} {w:World} {lim:Nat→Nat} {b b':Bool} {e:TypeId} {v:Value} {ob:Option Nat} (h:YF P w lim b e [] v ob):YF P w lim b' e [] v ob:=by
 rcases h with ⟨us,h1,h2,h3,h4,h5,h6⟩ | h
 ·have a:us = []:=Um (by rw [h1.1];simp);subst a;refine .inl ⟨[],h1,h2,fun c d=>?_,h4,h5,h6⟩;have:=h3 c d;rw [this];simp
 ·exact .inr h
def ZsK {P:Program} {w:World} {lim:Nat→Nat} {x y:AV} {v:Value} (h:Rep w lim x v) (a:KP P x y) (b:y.isCell=Xb):Rep w lim y v:=by
 cases a with
 | same _ => exact h
 | nil => exact ZcC (fun _ => rfl) h
 | imm => exact Zlk h
 | immN => exact ZcC (fun h => by cases h) h
 | own => exact (ZkY h).elim
 | ownN => exact (ZkY h).elim
 | ownZ => exact (ZkY h).elim
 | give => cases b
def Zp6 {P:Program} {w:World} {lim:Nat→Nat} {ob:Option Nat} {x y:AV} {v:Value} (h:KI P w lim ob x v) (c:KP P x y):∃ a,(a=ob∨a=Xe)∧((∃ b e xs,x = .own b e xs)→a=ob)∧KI P w lim a y v:=by
 cases c with
 | same _ => exact ⟨ob, .inl rfl, fun _ => rfl, h⟩
 | nil => exact ⟨ob, .inl rfl, fun _ => rfl, ZcC (fun _ => rfl) h⟩
 | imm => exact ⟨ob, .inl rfl, fun _ => rfl, Zlk h⟩
 | immN => exact ⟨ob, .inl rfl, fun _ => rfl, ZcC (fun h => by cases h) h⟩
 | own => exact ⟨ob, .inl rfl, fun _ => rfl, YF.rep h Xc rfl⟩
 | ownN => exact ⟨ob, .inl rfl, fun _ => rfl, ZjA h⟩
 | ownZ => exact ⟨ob, .inl rfl, fun _ => rfl, ZcC (f := Xc) (fun h => h) (YF.rep (ZjA (b' := Xc) h) Xc rfl)⟩
 | give => exact ⟨Xe, .inr rfl, fun ⟨_, _, _, h⟩ => (by cases h), ZlT h⟩
inductive Ze9 (P:Program):AV→AV→Prop
 | cell {x y : AV} (h : KP P x y) : Ze9 P x y
 | agg {cs cs' : List AV} (hl : cs.length = cs'.length) (hc : ∀ c ∈ cs', c.isCell = Xb) (h : ∀ (i : Nat) (c c' : AV), cs[i]? = Xa c → cs'[i]? = Xa c' → KP P c c') : Ze9 P (.agg cs) (.agg cs')
def ZvB {w:World} {lim:Nat→Nat} {cs:List AV} {v:Value} (h:Rep w lim (.agg cs) v):∃ vs:List Value,v = .agg vs.toArray∧cs.length=vs.length∧
  ∀ (i:Nat) (c:AV) (v:Value),cs[i]? = Xa c→vs[i]? = Xa v→Rep w lim c v:=by
 cases h with
 | agg hl hc hr => exact ⟨_, rfl, hl, hr⟩
def Zjn {P:Program} {w:World} {lim:Nat→Nat} {ob:Option Nat} {x y:AV} {v:Value} (h:KI P w lim ob x v) (g:Ze9 P x y):∃ a,(a=ob∨a=Xe)∧((∃ b e xs,x = .own b e xs)→a=ob)∧KI P w lim a y v:=by
 cases g with
 | cell g => exact Zp6 h g
 | @agg cs cs' hl hc hp =>
  refine ⟨ob,.inl rfl,fun _=>rfl,?_⟩;obtain ⟨vs,rfl,l,j⟩:=ZvB (show Rep w lim (.agg cs) v from h);refine Rep.agg (by omega) hc fun i c' u d k=>?_;obtain ⟨c,f⟩:∃ c,cs[i]? = Xa c:=⟨_,Xp (by rw [hl];exact (XA.1 d).1)⟩;exact ZsK (j i c u f k) (hp i c c' f d) (hc c' (Xt d))
def ZfX {P:Program} {w:World} {lim:Nat→Nat} {cs a:List AV} {us:List Value} {Y:Nat→Option Nat} (k:cs.length=a.length) (h:∀ (i:Nat) (c:AV) (u:Value),cs[i]? = Xa c→us[i]? = Xa u→KI P w lim (Y i) c u)
  (l:∀ (i:Nat) (c c':AV),cs[i]? = Xa c→a[i]? = Xa c'→Ze9 P c c') :
  ∃ r:Nat→Option Nat,(∀ i,r i=Y i∨r i=Xe)∧(∀ (i:Nat) (c':AV),i < us.length→a[i]? = Xa c'→(∃ b e xs,cs[i]? = Xa (.own b e xs))→r i=Y i)∧∀ (i:Nat) (c':AV) (u:Value),a[i]? = Xa c'→us[i]? = Xa u→KI P w lim (r i) c' u:=by
 have d:∀ i,∃ ob:Option Nat,(ob=Y i∨ob=Xe)∧(∀ (c':AV),i < us.length→a[i]? = Xa c'→(∃ b e xs,cs[i]? = Xa (.own b e xs))→ob=Y i)∧∀ (c':AV) (u:Value),a[i]? = Xa c'→us[i]? = Xa u→KI P w lim ob c' u:=by
  intro i
  cases hc':a[i]? with
  | none => exact ⟨Xe, .inr rfl, fun c' _ h => (by cases h), fun c' u h => by cases h⟩
  | some c' =>
   cases hu:us[i]? with
   | none => exact ⟨Xe, .inr rfl, fun c' m _ => (by have := List.getElem?_eq_none_iff.1 hu; omega), fun c' u _ h => by cases h⟩
   | some u =>
    obtain ⟨c,f⟩:∃ c,cs[i]? = Xa c:=⟨_,Xp (by rw [k];exact (XA.1 hc').1)⟩;obtain ⟨ob,n,o,p⟩:=Zjn (h i c u f hu) (l i c c' f hc');refine ⟨ob,n,fun _ _ _ ⟨b,e,xs,j⟩=>o ⟨b,e,xs,by rw [f] at j;exact Ua j⟩,fun t v q s=>?_⟩
    cases q
    cases s
    exact p
 obtain ⟨r,g⟩:=Tv d;exact ⟨r,fun i=>(g i).1,fun i=>(g i).2.1,fun i=>(g i).2.2⟩
inductive Vw (P:Program):AV→AV→Prop
 | dead {x : AV} : Vw P x .dead
 | comp {x y : AV} (h : Ze9 P x y) : Vw P x y
 | tuple {cs cs' : List AV} (hl : cs.length = cs'.length) (h : ∀ (i : Nat) (c c' : AV), cs[i]? = Xa c → cs'[i]? = Xa c' → Ze9 P c c') : Vw P (.tuple cs) (.tuple cs')
 | box {cs cs' : List AV} (hl : cs.length = cs'.length) (h : ∀ (i : Nat) (c c' : AV), cs[i]? = Xa c → cs'[i]? = Xa c' → KP P c c') : Vw P (.box cs) (.box cs')
 | gbox {cs cs' : List AV} (hl : cs.length = cs'.length) (h : ∀ (i : Nat) (c c' : AV), cs[i]? = Xa c → cs'[i]? = Xa c' → KP P c c') : Vw P (.gbox cs) (.gbox cs')
def Wm {P:Program} {x y:AV} (h:KP P x y):y.isCell=Xb∨∃ b e xs,y = .own b e xs:=by
 cases h with
 | same h => exact h
 | nil => exact .inl rfl
 | imm => exact .inl rfl
 | immN => exact .inl rfl
 | own => exact .inl rfl
 | ownN => exact .inr ⟨_, _, _, rfl⟩
 | ownZ => exact .inl rfl
 | give => exact .inr ⟨_, _, _, rfl⟩
def Zf3 {P:Program} {x y:AV} (h:KP P x y):x.isCell=Xb∨∃ b e xs,x = .own b e xs:=by
 cases h with
 | same h => exact h
 | nil => exact .inl rfl
 | imm => exact .inl rfl
 | immN => exact .inl rfl
 | own => exact .inr ⟨_, _, _, rfl⟩
 | ownN => exact .inr ⟨_, _, _, rfl⟩
 | ownZ => exact .inr ⟨_, _, _, rfl⟩
 | give => exact .inl rfl
def ZhN {P:Program} {e e':TypeId} {xs xs':List (List AV)} (h:KP P (.own Xb e xs) (.own Xb e' xs')):e'=e∧xs'=xs:=by
 cases h with
 | same _ => exact ⟨rfl, rfl⟩
 | ownN => exact ⟨rfl, rfl⟩
def ZfF {P:Program} {w:World} {lim:Nat→Nat} {Y:Nat→Option Nat} {cs a:List AV} {v:Value} (h:Jt P w lim Y cs v) (f:cs.length=a.length)
  (s:∀ (i:Nat) (c c':AV),cs[i]? = Xa c→a[i]? = Xa c'→KP P c c'):∃ r:Nat→Option Nat,(∀ k,r k=Y k∨r k=Xe)∧r 0=Y 0∧(∀ k,(∃ p,Je (.box cs) k=Xa p)→r k=Y k)∧Jt P w lim r a v:=by
 obtain ⟨b,arr,t,y,rfl,z,A,C,J,D⟩:=h;obtain ⟨r,E,G,H⟩:=ZfX (P:=P) (w:=w) (lim:=lim) (us:=arr.toList) (Y:=fun i=>Y (i+1)) f (fun i c u d g=>D i c u d (by simpa using g)) (fun i c c' d j=>.cell (s i c c' d j));refine ⟨fun k=>match k with | 0=>Y 0 | k+1=>r k,fun k=>?_,rfl,fun k l=>?_,?_⟩
 ·cases k with
  | zero => exact .inl rfl
  | succ k => exact E k
 ·obtain ⟨⟨e,xs⟩,l⟩:=l;rcases Jh l with ⟨h,_⟩ | ⟨ds,q,hd,rfl,hq⟩
  ·cases h
  ·cases hd
   have m:=(XA.1 hq).1;exact G q _ (by simp;omega) (Xp (by rw [← f];exact m)) ⟨_,_,_,hq⟩
 ·refine ⟨b,arr,t,y,rfl,z,by rw [A,f],C,fun c d=>?_,fun i c u d g=>H i c u d (by simpa using g)⟩;obtain ⟨i,x⟩:=Uj.1 d;obtain ⟨n,o⟩:∃ n,cs[i]? = Xa n:=⟨_,Xp (by rw [f];exact (XA.1 x).1)⟩;exact Wm (s i n c o x)
def Za3 {P:Program} {x y:AV} (h:Ze9 P x y):y.isB=Xc:=by
 cases h with
 | agg _ _ _ => rfl
 | cell h =>
  rcases Wm h with hy | ⟨_,_,_,rfl⟩
  ·cases y<;>first | rfl | (simp [AV.isCell] at hy)
  ·rfl
def Zq0 {P:Program} {x y:AV} (h:Vw P x y) (a:y.isG=Xb):x.isG=Xb:=by
 cases h with
 | gbox _ _ => rfl
 | comp h => have := Za3 h; rw [Zcg a] at this; cases this
 | _ => cases a
def Ztl {P:Program} {x y:AV} (h:Ze9 P x y):(∀ d o,y≠.ptr d o)∧(∀ d k,y≠.mref d k)∧∀ g ds,y≠.clo g ds:=by
 cases h with
 | agg _ _ _ => exact ⟨fun _ _ h => (by cases h), fun _ _ h => (by cases h), fun _ _ h => (by cases h)⟩
 | cell hw =>
  refine ⟨fun _ _ e=>?_,fun _ _ e=>?_,fun _ _ e=>?_⟩ <;> subst e<;>rcases Wm hw with h | ⟨_,_,_,h⟩ <;> cases h
def Zdh {P:Program} {x y:AV} (h:Vw P x y):(∀ d o,y≠.ptr d o)∧(∀ d k,y≠.mref d k)∧∀ g ds,y≠.clo g ds:=by
 cases h with
 | comp hw => exact Ztl hw
 | _ => exact ⟨fun _ _ h => (by cases h), fun _ _ h => (by cases h), fun _ _ h => (by cases h)⟩
def ZpF {P:Program} {x y:AV} (h:Vw P x y) {k:Nat} {e e':TypeId} {xs xs':List (List AV)} (b:Je x k=Xa (e,xs)) (a:Je y k=Xa (e',xs')):e'=e∧xs'=xs:=by
 rcases Jh b with ⟨rfl,rfl⟩ | ⟨cs,q,rfl,rfl,hq⟩
 ·rcases Jh a with ⟨rfl,_⟩ | ⟨_,_,_,h0,_⟩
  ·cases h with
   | comp hw =>
    cases hw with
    | cell hc => exact ZhN hc
  ·cases h0
 ·rcases Jh a with ⟨_,h0⟩ | ⟨cs',q',rfl,h0,hq'⟩
  ·cases h0
  ·cases h0
   cases h with
   | comp hw => have := Za3 hw; cases this
   | box hl hp => exact ZhN (hp q _ _ hq hq')
def Zjm {P:Program} {w:World} {lim:Nat→Nat} {X:Nat→Nat→Option Nat} {σ:Nat→AV} {d:Nat} {x y:AV} {v:Value} (h:Jx P w lim X σ d x v) (f:Vw P x y) :
  ∃ r:Nat→Option Nat,(∀ k,r k=X d k∨r k=Xe)∧(y.isB=Xb→r 0=X d 0)∧(∀ k,(∃ p,Je x k=Xa p)→(∃ p,Je y k=Xa p)→r k=X d k)∧∀ (X':Nat→Nat→Option Nat) (g:Nat→AV) (j:Nat),X' j=r→Jx P w lim X' g j y v:=by
 cases f with
 | dead => exact ⟨fun _ => Xe, fun _ => .inr rfl, fun h => (by cases h), fun k _ ⟨p, a⟩ => (by rcases Jh (e := p.1) (xs := p.2) a with ⟨h, _⟩ | ⟨_, _, h, _⟩ <;> cases h), fun _ _ _ _ => trivial⟩
 | comp f =>
  have t:=Za3 f
  have m:KI P w lim (X d 0) x v:=by
   cases f with
   | agg hl m a => exact h
   | cell f =>
    rcases Zf3 f with hx | ⟨b,e,xs,rfl⟩
    ·cases x<;>simp [AV.isCell] at hx<;>exact h
    ·exact h
  obtain ⟨ob,D,E,n⟩:=Zjn m f;refine ⟨fun k=>if k=0 then ob else Xe,fun k=>?_,fun h=>by (rw [t] at h;cases h),fun k ⟨p,a⟩ _=>?_,fun X' g j l=>?_⟩
  ·dsimp only;split
   ·rename_i z;subst z;exact D
   ·exact .inr rfl
  ·rcases Jh (e:=p.1) (xs:=p.2) a with ⟨hx,rfl⟩ | ⟨cs,q,hx,_⟩
   ·exact E ⟨_,_,_,hx⟩
   ·subst hx
    cases f with
    | cell f => rcases Zf3 f with h | ⟨_, _, _, h⟩ <;> cases h
  ·have A:X' j 0=ob:=by rw [l];rfl
   cases f with
   | agg hl m a => exact n
   | cell f =>
    rcases Wm f with hy | ⟨b,e,xs,rfl⟩
    ·cases y<;>simp [AV.isCell] at hy<;>exact n
    ·show YF P w lim b e xs v (X' j 0);rw [A];exact n
 | @tuple cs cs' hl a =>
  obtain ⟨us,rfl,n,A⟩:=h;obtain ⟨r,o,_,s⟩:=ZfX (Y:=fun i=>X d (i+1)) hl A a;refine ⟨fun k=>match k with | 0=>Xe | k+1=>r k,fun k=>?_,fun h=>(by cases h),fun k ⟨p,a⟩ _=>(by rcases Jh (e:=p.1) (xs:=p.2) a with ⟨h,_⟩ | ⟨_,_,h,_⟩ <;> cases h),fun X' g j l=>?_⟩
  ·cases k with
   | zero => exact .inr rfl
   | succ k => exact o k
  ·refine ⟨us,rfl,by rw [n,hl],fun i c u m G=>?_⟩;have:X' j (i+1)=r i:=by rw [l]
   rw [this];exact s i c u m G
 | @box cs cs' hl a =>
  obtain ⟨r,o,s,g4,C⟩:=ZfF h hl a;exact ⟨r,o,fun _=>s,fun k z _=>g4 k z,fun X' g j l=>by (show Jt P w lim (X' j) cs' v;rw [l];exact C)⟩
 | @gbox cs cs' hl a =>
  obtain ⟨H,h⟩:=h;obtain ⟨r,o,s,_,C⟩:=ZfF h hl a;exact ⟨r,o,fun _=>s,fun k ⟨p,a⟩ _=>(by rcases Jh (e:=p.1) (xs:=p.2) a with ⟨h,_⟩ | ⟨_,_,h,_⟩ <;> cases h),fun X' g j l=>⟨H,by rw [l];exact C⟩⟩
def Yv.wider {w:World} {lim:Nat→Nat} {w':World} {a:Nat→Nat} {S S':Nat→Prop} (h:Yv w lim w' a S) (c:∀ b,S b→S' b):Yv w lim w' a S':=
 ⟨h.os,h.tape,h.output,h.size,h.frz,fun b d e=>h.blk b d fun f=>e (c b f),h.ext⟩
def ZJk (c:List AV) (a b:AV):Prop:=∃ g ds,a = .clo g ds∧b = .clo g ds∧∀ d∈ds,(JG c d).isB=Xb
def Zax (P:Program) (d c:List AV):Prop:=d.length=c.length∧∀ (i:Nat) (a b:AV),d[i]? = Xa a→c[i]? = Xa b→Vw P a b∨ZJk c a b
def ZdU {P:Program} {d c:List AV} (h:Zax P d c) (i:Nat):Vw P (JG d i) (JG c i)∨ZJk c (JG d i) (JG c i):=by
 cases hb:c[i]? with
 | none =>
  have:JG c i = .dead:=by simp [JG,hb]
  rw [this];exact .inl .dead
 | some b =>
  obtain ⟨a,e⟩:∃ a,d[i]? = Xa a:=⟨_,Xp (by rw [h.1];exact (XA.1 hb).1)⟩;have f:JG d i=a:=by simp [JG,e]
  have g:JG c i=b:=by simp [JG,hb]
  rw [f,g];exact h.2 i a b e hb
def Zg3 {P:Program} {b c:List AV} (h:Zax P b c) {i:Nat} (a:(JG c i).isG=Xb):(JG b i).isG=Xb:=by
 rcases ZdU h i with h1 | ⟨g,ds,_,h1,_⟩
 ·exact Zq0 h1 a
 ·rw [h1] at a;cases a
def ZhG:∀ (c d:List AV),c.length=d.length→(∀ (i:Nat) (a b:AV),c[i]? = Xa a→d[i]? = Xa b→b.isG=Xb→a.isG=Xb)→d.countP AV.isG≤c.countP AV.isG
 | [], [], _, _ => Xr _
 | [], _ :: _, h, _ => by simp at h
 | _ :: _, [], h, _ => by simp at h
 | a :: c, b :: d, hl, h => by
  have ih:=ZhG c d (by simpa using hl) fun i x y e f=>h (i+1) x y (by simpa using e) (by simpa using f);have g:=h 0 a b rfl rfl;rw [U7,U7];by_cases hb:b.isG=Xb
  ·rw [P4 hb,P4 (g hb)];omega
  ·rw [P3 hb];split<;>omega
def Zj5 {P:Program} {c d:List AV} (h:Zax P c d):d.countP AV.isG≤c.countP AV.isG:=
 ZhG c d h.1 fun i a b e f g=>by
  have j:JG c i=a:=by simp [JG,e]
  have k:JG d i=b:=by simp [JG,f]
  have:=Zg3 h (i:=i) (by rw [k];exact g)
  rwa [j] at this
def Zfk {P:Program} {w:World} {lim:Nat→Nat} {X:Nat→Nat→Option Nat} {l a:List AV} {vs:Nat→Value} (h:∀ i,Jx P w lim X (JG l) i (JG l i) (vs i)) (o:Zax P l a) :
  ∃ X':Nat→Nat→Option Nat,(∀ i k,X' i k=X i k∨X' i k=Xe)∧(∀ i,(JG a i).isB=Xb→X' i 0=X i 0)∧∀ i,Jx P w lim X' (JG a) i (JG a i) (vs i):=by
 have m:∀ i,∃ r:Nat→Option Nat,(∀ k,r k=X i k∨r k=Xe)∧((JG a i).isB=Xb→r 0=X i 0)∧((∀ g ds,JG a i≠.clo g ds)→∀ X':Nat→Nat→Option Nat,X' i=r→Jx P w lim X' (JG a) i (JG a i) (vs i)):=by
  intro i;rcases ZdU o i with h1 | ⟨g,ds,_,h1,_⟩
  ·obtain ⟨r,t,u,_,v⟩:=Zjm (h i) h1;exact ⟨r,t,u,fun _ X' c=>v X' _ _ c⟩
  ·exact ⟨fun _=>Xe,fun _=>.inr rfl,fun j=>by (rw [h1] at j;cases j),fun x=>(x g ds h1).elim⟩
 obtain ⟨X',c⟩:=Tv m;refine ⟨X',fun i=>(c i).1,fun i=>(c i).2.1,fun i=>?_⟩;by_cases f:∃ g ds,JG a i = .clo g ds
 ·obtain ⟨g,ds,f⟩:=f;rcases ZdU o i with h1 | ⟨g',ds',h0,h1,h2⟩
  ·rw [f] at h1;exact ((Zdh h1).2.2 g ds rfl).elim
  ·rw [h1] at f
   cases f
   have p:=h i;rw [h0] at p;rw [h1];obtain ⟨n,y,z,A⟩:=p;refine ⟨n,y,z,fun k d b q j=>?_⟩;have s:=h2 d (Xt q);exact ⟨((c d).2.1 s).trans (A k d b q j).1,s⟩
 ·exact (c i).2.2 (fun g ds e=>f ⟨g,ds,e⟩) X' rfl
def Zid {X X':Nat→Nat→Option Nat} (h:Zrv X) (e:∀ i k,X' i k=X i k∨X' i k=Xe):Zrv X':=by
 intro d k f g b a c;rcases e d k with e1 | e1
 ·rcases e f g with e2 | e2
  ·exact h d k f g b (e1.symm.trans a) (e2.symm.trans c)
  ·rw [e2] at c;cases c
 ·rw [e1] at a;cases a
def Kg.stronger {P:Program} {f:FuncId} {u x:List AV} {res:AV} {outs:List AV} (h:Kg P f x res outs) (l:Zax P u x):Kg P f u res outs:=by
 refine ⟨h.1,fun w lim X c z m d g=>?_⟩;obtain ⟨X2,y,A,C⟩:=Zfk m l
 have j:∀ i k b,X2 i k=Xa b→X i k=Xa b:=by
  intro i k b a;rcases y i k with e | e
  ·rw [← e];exact a
  ·rw [e] at a;cases a
 refine (h.2 w lim X2 c (by have:=Zj5 l;have:=l.1;omega) C (Zid d y) fun i k b a=>g i k b (j i k b a)).mono ?_;rintro e w' ⟨v,n,X',D,p,q,E,G,r,s⟩;refine ⟨v,n,X',D,p.wider fun b ⟨i,k,a⟩=>⟨i,k,j i k b a⟩,by rw [q,l.1],fun i=>by (rw [l.1];exact E i),G,fun i k b a=>?_,fun i H=>?_⟩
 ·obtain ⟨o,t⟩:=r i k b a;exact ⟨o,t.imp (fun ⟨i,k,h⟩=>⟨i,k,j i k b h⟩) id⟩
 ·obtain ⟨o,t⟩:=s i H;exact ⟨Zg3 l o,by rw [t,A i (Zcg o)]⟩
def Zm4 (ρ:Nat→V) (n:Nat) (l:List V):Prop:=∀ (j:Nat) (v:V),l[j]? = Xa v→ρ (n+j)=v
def Zm4.tail {ρ:Nat→V} {n:Nat} {v:V} {l:List V} (h:Zm4 ρ n (v::l)):ρ n=v∧Zm4 ρ (n+1) l:=
 ⟨h 0 v rfl,fun j u a=>by rw [show n+1+j=n+(j+1) by omega];exact h (j+1) u (by simpa using a)⟩
def Zm4.app {ρ:Nat→V} {n:Nat} {l b:List V} (h:Zm4 ρ n (l++b)):Zm4 ρ n l∧Zm4 ρ (n+l.length) b:=
  ⟨fun j v a=>h j v (by rw [XL (XA.1 a).1];exact a),
   fun j v a=>by
    rw [show n+l.length+j=n+(l.length+j) by omega];exact h _ v (by rw [XH (by omega)];simpa using a)⟩
def Zm4.bind (ρ:Nat→V) (n:Nat) (vs:List V):Zm4 (bind ρ n vs) n vs:=by
 intro j v a;unfold AM.bind;rw [P3 (by omega),show n+j-n=j by omega,a];rfl
def vAt (us:List V) (j:Nat):V:=(us[j]?).getD (.i 0)
def Vy:Sh→V→AV
 | .int k, v => .val (.int k v.int)
 | .bool, v => .val (.bool v.bool)
 | .str, v => .val (.string v.str)
 | .slice s, v => .slice Xc s v.list
 | .own x e, v => .own x e v.list
def JM:List Sh→List V→Nat→List AV
 | [], _, _ => []
 | s :: ss, us, j => Vy s (vAt us j) :: JM ss us (j + 1)
def Zor {s:Sh} (h:s.imm=Xb) (v:V):(Vy s v).isCell=Xb:=by cases s<;>simp [Sh.imm] at h<;>rfl
def W6 (a b:List V) (v:V):vAt (a++v::b) a.length=v:=by simp [vAt]
def Ys:∀ (l:List Sh) (us:List V) (j:Nat),(JM l us j).length=l.length
 | [], _, _ => rfl
 | _ :: ss, us, j => by simp [JM, Ys ss us (j + 1)]
def Wb:∀ (l:List Sh) (us:List V) (j:Nat),l.all Sh.imm=Xb→∀ c∈JM l us j,c.isCell=Xb
 | [], _, _, _ => by simp [JM]
 | s :: ss, us, j, h => by
  rw [XU,Xj] at h;intro c a;rcases Xs.1 a with rfl | a
  ·exact Zor h.1 _
  ·exact Wb ss us (j+1) h.2 c a
section
variable {P:Program} {ρ:Nat→V}
def Zhc {s:Sh} {x:SC} {v:VE} (h:ZtI s x=Xa v):KP P (x.den ρ) (Vy s (v.den ρ)):=by
 unfold ZtI at h;split at h
 ·split at h
  ·simp only [Xg] at h;subst h;rename_i a;subst a;exact .same (.inl rfl)
  ·cases h
 ·simp only [Xg] at h;subst h;exact .same (.inl rfl)
 ·simp only [Xg] at h;subst h;exact .same (.inl rfl)
 ·split at h
  ·simp only [Xg] at h;subst h;rename_i a;subst a;exact .imm
  ·split at h
   ·simp only [Xg] at h;subst h;exact .immN
   ·cases h
 ·split at h
  ·simp only [Xg] at h;subst h;exact .give
  ·cases h
 ·cases h
def Zh0 {l:LE} (h:l.isNil=Xb):l = .nil:=by cases l<;>first | rfl | cases h
def ZdZ {s:Sh} {x:Bool} {e:TypeId} {l:LE} {v:VE} (h:ZeO P s x e l=Xa v):KP P (.own x e (l.den ρ)) (Vy s (v.den ρ)):=by
 unfold ZeO at h;split at h
 ·split at h
  ·simp only [Xg] at h;subst h;rename_i a;obtain ⟨rfl,a⟩:=a;rcases a with rfl | a
   ·exact .same (.inr ⟨_,_,_,rfl⟩)
   ·have:=Zh0 a;subst this;exact .ownN
  ·cases h
 ·split at h
  ·simp only [Xg] at h;subst h;rename_i a;obtain ⟨rfl,a⟩:=a;rcases a with rfl | a
   ·exact .own
   ·have:=Zh0 a;subst this;exact .ownZ
  ·cases h
 ·cases h
def ZgB:∀ (l:List Sh) (cs:List SC) (vs:List VE),ZhR l cs=Xa vs→vs.length=l.length∧cs.length=l.length∧∀ b a:List V,
  ∀ (i:Nat) (c c':AV),(cs.map (SC.den ρ))[i]? = Xa c→(JM l (b++vs.map (VE.den ρ)++a) b.length)[i]? = Xa c'→KP P c c'
 | [], [], vs, h => by
  simp only [ZhR,Xg] at h;subst h;exact ⟨rfl,rfl,fun _ _ i c c' h=>by simp at h⟩
 | [], _ :: _, _, h => by simp [ZhR] at h
 | _ :: _, [], _, h => by simp [ZhR] at h
 | s :: ss, c :: cs, us, h => by
  simp only [ZhR] at h;split at h
  ·rename_i v vs g f;simp only [Xg] at h;subst h;obtain ⟨j,k,m⟩:=ZgB ss cs vs f;refine ⟨by simp [j],by simp [k],fun b a i n o e d=>?_⟩
   cases i with
   | zero =>
    simp only [JM,Xn,XQ,Xg] at e d;subst e;subst d;rw [Xl,XV,W6];exact Zhc g
   | succ i =>
    have:=m (b++[v.den ρ]) a i n o (by simpa using e);simp only [Xl,XV,XM,Xf,Xv,Xm] at this;simp only [JM,Xn,Uz,Xl,XV] at d;exact this d
  ·cases h
def ZwY {s:Sh} {x:BC} {v:VE} (h:ZFf P s x=Xa v):KP P (x.den ρ) (Vy s (v.den ρ)):=by
 unfold ZFf at h;split at h
 ·exact Zhc h
 ·exact ZdZ h
def ZbI:∀ (l:List Sh) (cs:List BC) (vs:List VE),Ze3 P l cs=Xa vs→vs.length=l.length∧cs.length=l.length∧∀ b a:List V,
  ∀ (i:Nat) (c c':AV),(cs.map (BC.den ρ))[i]? = Xa c→(JM l (b++vs.map (VE.den ρ)++a) b.length)[i]? = Xa c'→KP P c c'
 | [], [], vs, h => by
  simp only [Ze3,Xg] at h;subst h;exact ⟨rfl,rfl,fun _ _ i c c' h=>by simp at h⟩
 | [], _ :: _, _, h => by simp [Ze3] at h
 | _ :: _, [], _, h => by simp [Ze3] at h
 | s :: ss, c :: cs, us, h => by
  simp only [Ze3] at h;split at h
  ·rename_i v vs g f;simp only [Xg] at h;subst h;obtain ⟨j,k,m⟩:=ZbI ss cs vs f;refine ⟨by simp [j],by simp [k],fun b a i n o e d=>?_⟩
   cases i with
   | zero =>
    simp only [JM,Xn,XQ,Xg] at e d;subst e;subst d;rw [Xl,XV,W6];exact ZwY g
   | succ i =>
    have:=m (b++[v.den ρ]) a i n o (by simpa using e);simp only [Xl,XV,XM,Xf,Xv,Xm] at this;simp only [JM,Xn,Uz,Xl,XV] at d;exact this d
  ·cases h
end
def ZoA {s:Sh} (a:s.imm=Xb) {n:Nat} {ρ:Nat→V} {v:V} (h:ρ n=v):(KT s n).den ρ=Vy s v:=by
 subst h
 cases s<;>simp [Sh.imm] at a<;>rfl
def ZdH:∀ (l:List Sh) (n m:Nat) (ρ:Nat→V) (us:List V),l.all Sh.imm=Xb→(∀ j,j < l.length→ρ (n+j)=vAt us (m+j))→(JF l n).map (SC.den ρ)=JM l us m
 | [], _, _, _, _, _, _ => rfl
 | s :: ss, n, m, ρ, us, hi, h => by
  rw [XU,Xj] at hi
  rw [JF,Xn,JM,ZoA hi.1 (show ρ n=vAt us m from h 0 (by simp)),ZdH ss (n+1) (m+1) ρ us hi.2 fun j a=>by
   have:=h (j+1) (by simp;omega);rw [show n+1+j=n+(j+1) by omega,show m+1+j=m+(j+1) by omega];exact this]
def ZsI {s:Sh} {n:Nat} {ρ:Nat→V} {v:V} (h:ρ n=v):(Zwk s n).den ρ=Vy s v:=by
 subst h
 cases s<;>rfl
def Zct:∀ (l:List Sh) (n m:Nat) (ρ:Nat→V) (us:List V),(∀ j,j < l.length→ρ (n+j)=vAt us (m+j))→(Wr l n).map (BC.den ρ)=JM l us m
 | [], _, _, _, _, _ => rfl
 | s :: ss, n, m, ρ, us, h => by
  rw [Wr,Xn,JM,ZsI (show ρ n=vAt us m from h 0 (by simp)),Zct ss (n+1) (m+1) ρ us fun j a=>by
   have:=h (j+1) (by simp;omega);rw [show n+1+j=n+(j+1) by omega,show m+1+j=m+(j+1) by omega];exact this]
def ZaW (h:HP) (us:List V) (j:Nat):AV:=
 match h with
 | .c s => Vy s (vAt us j)
 | .agg l => .agg (JM l us j)
 | .box l => .box (JM l us j)
 | .mref d k => .mref d k
 | .ptr d o => .ptr d o
 | .dead => .dead
 | .gbox l => .gbox (JM l us j)
 | .clo g ds => .clo g ds
def HP.fine:HP→Bool
 | .agg l => l.all Sh.imm
 | _ => Xb
def Zpy {h:HP} (e:h.fine=Xb) {n m:Nat} {ρ:Nat→V} {us:List V} (a:∀ j,j < h.n→ρ (n+j)=vAt us (m+j)):(Zry h n).den ρ=ZaW h us m:=by
 cases h with
 | c s =>
  have b:=a 0 (Nat.zero_lt_one);simp only [U1] at b
  cases s<;>simp only [Zry,ZaW,SV.den,KT,SC.den,IE.den,BE.den,SE.den,LE.den,b,Vy]
 | agg l => simp only [Zry, ZaW, SV.den, ZdH l n m ρ us e a]
 | box l => simp only [Zry, ZaW, SV.den, Zct l n m ρ us a]
 | gbox l => simp only [Zry, ZaW, SV.den, Zct l n m ρ us a]
 | clo g ds => rfl
 | mref d k => rfl
 | ptr d o => rfl
 | dead => rfl
def ZFm (h:HP) (x:AV):Prop:=(∃ d o,h = .ptr d o∧x = .ptr d o)∨(∃ d k,h = .mref d k∧x = .mref d k)∨∃ g ds,h = .clo g ds∧x = .clo g ds
def Zpr {P:Program} {ρ:Nat→V} {h:HP} {x:SV} {vs:List VE} (a:ZmN P h x=Xa vs):vs.length=h.n∧h.fine=Xb∧∀ c b:List V,
  ZFm h (x.den ρ)∨Vw P (x.den ρ) (ZaW h (c++vs.map (VE.den ρ)++b) c.length):=by
 unfold ZmN at a;split at a
 ·cases hd:ZtI _ _ with
  | none => rw [hd] at a; cases a
  | some v =>
   rw [hd] at a;simp only [XC,Xg] at a;subst a;refine ⟨rfl,rfl,fun c b=>.inr ?_⟩;simp only [ZaW,Xn,XI,Xl,XV,XM,W6];exact .comp (.cell (Zhc hd))
 ·cases hd:ZeO P _ _ _ _ with
  | none => rw [hd] at a; cases a
  | some v =>
   rw [hd] at a;simp only [XC,Xg] at a;subst a;refine ⟨rfl,rfl,fun c b=>.inr ?_⟩;simp only [ZaW,Xn,XI,Xl,XV,XM,W6];exact .comp (.cell (ZdZ hd))
 ·split at a
  ·rename_i i;obtain ⟨d,e,f⟩:=ZgB (P:=P) (ρ:=ρ) _ _ _ a;exact ⟨d,i,fun c b=>.inr (.comp (.agg (by rw [Xk,e,Ys]) (Wb _ _ _ i) (f c b)))⟩
  ·cases a
 ·obtain ⟨d,e,f⟩:=ZbI (P:=P) (ρ:=ρ) _ _ _ a;exact ⟨d,rfl,fun c b=>.inr (.box (by rw [Xk,e,Ys]) (f c b))⟩
 ·split at a
  ·rename_i g;simp only [Xg] at a;subst a;obtain ⟨rfl,rfl⟩:=g;exact ⟨rfl,rfl,fun _ _=>.inl (.inr (.inl ⟨_,_,rfl,rfl⟩))⟩
  ·cases a
 ·split at a
  ·rename_i g;simp only [Xg] at a;subst a;obtain ⟨rfl,rfl⟩:=g;exact ⟨rfl,rfl,fun _ _=>.inl (.inl ⟨_,_,rfl,rfl⟩)⟩
  ·cases a
 ·simp only [Xg] at a;subst a;exact ⟨rfl,rfl,fun _ _=>.inr .dead⟩
 ·obtain ⟨d,e,f⟩:=ZbI (P:=P) (ρ:=ρ) _ _ _ a;exact ⟨d,rfl,fun c b=>.inr (.gbox (by rw [Xk,e,Ys]) (f c b))⟩
 ·split at a
  ·rename_i g;simp only [Xg] at a;subst a;obtain ⟨rfl,rfl⟩:=g;exact ⟨rfl,rfl,fun _ _=>.inl (.inr (.inr ⟨_,_,rfl,rfl⟩))⟩
  ·cases a
 ·cases a
def Wl {P:Program} {g:Nat→SV} {ρ:Nat→V} : ∀ (d:List (Nat×HP)) (n:Nat) (b:List VE) (c:List V),KZ P g d=Xa b→c.length=n→
  (Jy d n).2=n+b.length∧(Jy d n).1.map (·.1)=d.map (·.1)∧∀ u∈(Jy d n).1,∃ h,(u.1,h)∈d∧∃ m,u.2=Zry h m∧m+h.n≤n+b.length∧h.fine=Xb∧
   ∀ a:List V,ZFm h ((g u.1).den ρ)∨Vw P ((g u.1).den ρ) (ZaW h (c++b.map (VE.den ρ)++a) m)
 | [], n, b, c, h, hp => by
  simp only [KZ,Xg] at h;subst h;exact ⟨rfl,rfl,by simp [Jy]⟩
 | p :: r, n, b, c, h, hp => by
  simp only [KZ] at h;split at h
  ·rename_i v vs j i;simp only [Xg] at h;subst h;obtain ⟨e,k,l⟩:=Zpr (P:=P) (ρ:=ρ) j;obtain ⟨o,q,s⟩:=Wl r (n+p.2.n) vs (c++v.map (VE.den ρ)) i (by simp [hp,e]);refine ⟨by simp only [Jy,o,Xf,e];omega,by simp only [Jy,Xn,q],fun u f=>?_⟩;simp only [Jy,Xs] at f;rcases f with rfl | f
   ·refine ⟨p.2,by simp,n,rfl,by simp only [Xf,e];omega,k,fun a=>?_⟩;have:=l c (vs.map (VE.den ρ)++a);rw [hp] at this;simpa [Xl] using this
   ·obtain ⟨h,t,m,w,z,x,y⟩:=s u f;refine ⟨h,by simp [t],m,w,by simp only [Xf,e];omega,x,fun a=>?_⟩;have:=y a;simpa [Xl] using this
  ·cases h
def ZfY:∀ (b:List (Nat×HP)) (n:Nat),n≤(Jy b n).2∧∀ u∈(Jy b n).1,u.2.bd (Jy b n).2
 | [], n => ⟨Xr _, by simp [Jy]⟩
 | p :: r, n => by
  obtain ⟨e,f⟩:=ZfY r (n+p.2.n);refine ⟨by simp only [Jy];omega,fun u a=>?_⟩;simp only [Jy,Xs] at a;rcases a with rfl | a
  ·have h:(Zry p.2 n).bd (n+p.2.n):=by
    cases hp:p.2 with
    | c s => cases s <;> exact UD n
    | agg l => exact Ky l n
    | box l => exact Kr l n
    | mref d k => trivial
    | ptr d o => trivial
    | dead => trivial
    | gbox l => exact Kr l n
    | clo g ds => trivial
   exact SV.bd_mono (by simpa [Jy] using e) _ h
  ·exact f u a
def Zv1 (P:Program) (σ a:Nat→AV) (d:Nat):Prop:=
 Vw P (σ d) (a d)∨(∃ b o,σ d = .ptr b o∧a d = .ptr b o∧(∃ cs,a b = .box cs))∨(∃ b k,σ d = .mref b k∧a d = .mref b k∧∃ p,Je (a b) k=Xa p)∨
  ∃ g ds,σ d = .clo g ds∧a d = .clo g ds∧∀ b∈ds,(a b).isB=Xb
def Sim.head {c:Ctx} {σ a:Nat→AV} {J:Array Value} {w:World} {lim:Nat→Nat} {X:Nat→Nat→Option Nat} (h:Sim c σ J w lim X) (H:∀ d,Zv1 c.P σ a d) (C:∀ d,c.nt≤d→a d = .dead∨(a d).isG=Xb)
  (D:∀ d v,c.pin d=Xa v→∃ cs,a d = .box cs) (s:∀ d b,c.gpin d=Xa b→(a d).isG=Xb):∃ X',Sim c a J w lim X':=by
 have Q:∀ d,(a d).isG=Xb→(σ d).isG=Xb:=by
  intro d l;rcases H d with n | ⟨t,o,_,f,_⟩ | ⟨t,k,_,f,_⟩ | ⟨g,ds,_,f,_⟩
  ·exact Zq0 n l
  ·rw [f] at l;cases l
  ·rw [f] at l;cases l
  ·rw [f] at l;cases l
 have L:∀ d,∃ r:Nat→Option Nat,(∀ k,r k=X d k∨r k=Xe)∧((a d).isB=Xb→r 0=X d 0)∧(∀ k,(∃ p,Je (σ d) k=Xa p)→(∃ p,Je (a d) k=Xa p)→r k=X d k)∧
   (Vw c.P (σ d) (a d)→∀ X':Nat→Nat→Option Nat,X' d=r→Jx c.P w lim X' a d (a d) (J.getD d undef)):=by
  intro d;have l:=h.rel d
  have x:∀ {y:AV},σ d=y→(∀ k,Je y k=Xe)→∀ k,(∃ p,Je (σ d) k=Xa p)→(∃ p,Je (a d) k=Xa p)→(Xe:Option Nat)=X d k:=by
   rintro y R S k ⟨p,M⟩ _;rw [R,S k] at M
   cases M
  rcases H d with n | ⟨t,o,q,f,_⟩ | ⟨t,k,q,f,_⟩ | ⟨g,ds,q,f,_⟩
  ·obtain ⟨r,m,A,g4,E⟩:=Zjm l n;exact ⟨r,m,A,g4,fun _ X' u=>E X' a d u⟩
  ·exact ⟨fun _=>Xe,fun _=>.inr rfl,fun j=>by (rw [f] at j;cases j),x q (fun _=>rfl),fun n=>((Zdh n).1 t o f).elim⟩
  ·exact ⟨fun _=>Xe,fun _=>.inr rfl,fun j=>by (rw [f] at j;cases j),x q (fun _=>rfl),fun n=>((Zdh n).2.1 t k f).elim⟩
  ·exact ⟨fun _=>Xe,fun _=>.inr rfl,fun j=>by (rw [f] at j;cases j),x q (fun _=>rfl),fun n=>((Zdh n).2.2 g ds f).elim⟩
 obtain ⟨X',u⟩:=Tv L
 have z:∀ d k b,X' d k=Xa b→X d k=Xa b:=by
  intro d k b j;rcases (u d).1 k with e | e
  ·rw [← e];exact j
  ·rw [e] at j;cases j
 refine ⟨X',⟨fun d=>?_,h.size,C,fun d l=>h.ghost d (Q d l),fun d k t T b q f=>h.dist d k t T b (z _ _ _ q) (z _ _ _ f),fun d k b j=>h.ours d k b (z _ _ _ j),h.frm,fun d v N=>⟨(h.pin d v N).1,D d v N⟩,
  fun d b j=>⟨((u d).2.1 (Zcg (s d b j))).trans (h.gpin d b j).1,s d b j⟩⟩⟩
 have l:=h.rel d;rcases H d with n | ⟨d2,o2,q,f,cs',h3⟩ | ⟨d2,k2,q,f,p2,h3⟩ | ⟨g,ds,q,f,h3⟩
 ·exact (u d).2.2.2 n X' rfl
 ·rw [q] at l;obtain ⟨b,cs,m,A,E⟩:=l;rw [f];exact ⟨b,cs',by rw [(u d2).2.1 (by rw [h3];rfl),m],h3,E⟩
 ·rw [q] at l;obtain ⟨e,xs,m,A⟩:=l;rw [f];refine ⟨e,xs,?_,by rw [(u d2).2.2.1 k2 ⟨_,m⟩ ⟨_,h3⟩];exact A⟩;rcases H d2 with n | ⟨d3,o3,q1,q2,_⟩ | ⟨d3,k3,q1,q2,_⟩ | ⟨g,ds,q1,q2,_⟩
  ·obtain ⟨U,W⟩:=ZpF n m (e':=p2.1) (xs':=p2.2) h3;rw [h3,← U,← W]
  ·rw [q1] at m;cases m
  ·rw [q1] at m;cases m
  ·rw [q1] at m;cases m
 ·rw [q] at l;obtain ⟨Y,m,A,E⟩:=l;rw [f];refine ⟨Y,m,A,fun i t b G j=>?_⟩;have O:=h3 t (Xt G);exact ⟨((u t).2.1 O).trans (E i t b G j).1,O⟩
def Zq6:∀ (b:List (Nat×HP)) (d:Nat) (h a:HP),(b.map (·.1)).Nodup→(d,h)∈b→(d,a)∈b→h=a
 | [], _, _, _, _, h, _ => by simp at h
 | p :: r, d, h, a, hn, h1, h2 => by
  rw [Xn,UY] at hn;rcases Xs.1 h1 with e1 | e1
  ·rcases Xs.1 h2 with e2 | e2
   ·rw [← e1] at e2;exact (Prod.mk.inj e2).2.symm
   ·exact (hn.1 (by rw [← e1];exact XB.2 ⟨_,e2,rfl⟩)).elim
  ·rcases Xs.1 h2 with e2 | e2
   ·exact (hn.1 (by rw [← e2];exact XB.2 ⟨_,e1,rfl⟩)).elim
   ·exact Zq6 r d h a hn.2 e1 e2
def ZdB:∀ (us:List (Nat×AV)) (d:Nat) (x:AV),Zcr us d=Xa x→(d,x)∈us
 | [], d, x, h => by simp [Zcr] at h
 | (e, y) :: us, d, x, h => by
  simp only [Zcr] at h
  cases hl:Zcr us d with
  | some z =>
   rw [hl] at h;simp only [Xg] at h;subst h;exact List.mem_cons_of_mem _ (ZdB us d _ hl)
  | none =>
   rw [hl] at h;simp only at h;split at h
   ·rename_i a;simp only [Xg] at h;subst h;subst a;exact List.mem_cons_self
   ·cases h
def Zoz {E:Env} {d:Nat} {h:HP} (a:h.place E d=Xb):d < E.top∧(h.isG=Xb∨d < E.nt):=by
 cases h<;>simp only [HP.place,Xj,P5] at a
 case gbox l=>exact ⟨a.2,.inl rfl⟩
 all_goals exact ⟨Ke a,.inr a⟩
def ZaT {E:Env} {c:List (Nat×HP)} (h:headOk E c=Xb):(c.map (·.1)).Nodup∧(∀ p∈c,p.1 < E.top∧(p.2.isG=Xb∨p.1 < E.nt))∧((∀ d b o,(d,HP.ptr b o)∈c→∃ l:HP,l.isBox=Xb∧(b,l)∈c)∧∀ d b k,(d,HP.mref b k)∈c→∃ l:HP,l.isPl k=Xb∧(b,l)∈c)∧
  (∀ d∈E.pins,∃ l:HP,l.isBox=Xb∧(d,l)∈c)∧(∀ d g ds,(d,HP.clo g ds)∈c→∀ b∈ds,∃ l:HP,(l.isBox||l.isG)=Xb∧(b,l)∈c)∧∀ d,E.nt≤d→d < E.top→∃ l:HP,l.isG=Xb∧(d,l)∈c:=by
 have a:∀ (f:HP→Bool) (d:Nat),(c.any fun q=>decide (q.1=d)&&f q.2)=Xb→∃ l:HP,f l=Xb∧(d,l)∈c:=by
  intro f d e;rw [List.any_eq_true] at e;obtain ⟨q,t,e⟩:=e;obtain ⟨w,x⟩:=q;simp only [Xj,P5] at e;obtain ⟨rfl,e⟩:=e;exact ⟨_,e,t⟩
 simp only [headOk,Xj] at h;obtain ⟨⟨⟨u,i⟩,n⟩,r⟩:=h;rw [Xo] at i n r;refine ⟨Zbz _ u,fun p v=>?_,⟨fun d b o j=>?_,fun d b k j=>?_⟩,fun d e=>a HP.isBox d (n d e),fun d g ds j b m=>?_,fun d e m=>?_⟩
 ·have:=i p v;simp only [Xj] at this;exact Zoz this.1
 ·have:=i _ j;simp only [Xj] at this;exact a HP.isBox b this.2
 ·have:=i _ j;simp only [Xj] at this;exact a (fun h=>h.isPl k) b this.2
 ·have:=i _ j;simp only [Xj] at this;have s:=this.2;rw [Xo] at s;exact a (fun h=>h.isBox||h.isG) b (s b m)
 ·have:=r (d-E.nt) (List.mem_range.2 (by have:E.top=E.nt+E.ng:=rfl;omega));rw [show E.nt+(d-E.nt)=d by omega] at this;exact a HP.isG d this
def Zwl {P:Program} {E:Env} (n:E.top≤1024) {b:List (Nat×HP)} (o:headOk E b=Xb) {s:Tr} {ρ ρ0:Nat→V} {a:List VE} (w:KZ P (gE E s) b=Xa a) :
  (∀ d,d∉b.map (·.1)→JV E (Yy (Jy b 0).1 (.leaf .dead)) (bind ρ0 0 (a.map (VE.den ρ))) d = .dead)∧
  ∀ d h,(d,h)∈b→∃ m,JV E (Yy (Jy b 0).1 (.leaf .dead)) (bind ρ0 0 (a.map (VE.den ρ))) d=ZaW h (a.map (VE.den ρ)) m∧
   (ZFm h (JV E s ρ d)∨Vw P (JV E s ρ d) (ZaW h (a.map (VE.den ρ)) m)):=by
 obtain ⟨y,z,M,N,O,Q⟩:=ZaT o;obtain ⟨S,t,A⟩:=Wl (P:=P) (g:=gE E s) (ρ:=ρ) b 0 a [] w rfl
 have C:ZaQ E (Jy b 0).1:=by
  unfold ZaQ;rw [Xo];intro u q;have k:u.1∈b.map (·.1):=by rw [← t];exact XB.2 ⟨u,q,rfl⟩
  obtain ⟨p,D,l⟩:=XB.1 k;have:=(z p D).1;rw [l] at this;simpa using this
 have e:∀ d,JV E (.leaf .dead) (bind ρ0 0 (a.map (VE.den ρ))) d = .dead:=by
  intro d;simp only [JV,gE];split<;>rfl
 have c:((Jy b 0).1.map fun u=>(u.1,u.2.den (bind ρ0 0 (a.map (VE.den ρ))))).map (·.1)=b.map (·.1):=by rw [UB];exact t
 rw [Ku n _ _ _ C];refine ⟨fun d G=>?_,fun d h k=>?_⟩
 ·rw [Yf,Vb _ d (by rw [c];exact G),e];rfl
 ·obtain ⟨x,v⟩:=Zah ((Jy b 0).1.map fun u=>(u.1,u.2.den (bind ρ0 0 (a.map (VE.den ρ))))) d (by rw [c];exact XB.2 ⟨_,k,rfl⟩);obtain ⟨u,q,l⟩:=XB.1 (ZdB _ _ _ v);simp only [XG] at l;obtain ⟨rfl,rfl⟩:=l;obtain ⟨r,H,m,J,T,g4,L⟩:=A u q;have:r=h:=Zq6 b u.1 r h y H k;subst this
  have f:u.2.den (bind ρ0 0 (a.map (VE.den ρ)))=ZaW r (a.map (VE.den ρ)) m:=by
   rw [J];refine Zpy g4 fun j U=>?_;have i:m+j < (a.map (VE.den ρ)).length:=by rw [Xk];omega
   have:=Zm4.bind ρ0 0 (a.map (VE.den ρ)) (m+j) _ (Xp i);rw [X9] at this;rw [this,vAt,Xp i];rfl
  refine ⟨m,?_,?_⟩
  ·rw [Yf,v,← f];rfl
  ·have:=L [];simp only [XM,XY] at this;exact this
def Zjp:∀ (l:List Sh) (us:List V) (j k:Nat) (s:Sh),l[k]? = Xa s→(JM l us j)[k]? = Xa (Vy s (vAt us (j+k)))
 | [], _, _, _, _, h => by simp at h
 | t :: ts, us, j, 0, s, h => by
  simp only [XQ,Xg] at h;subst h;rfl
 | t :: ts, us, j, k + 1, s, h => by
  have:=Zjp ts us (j+1) k s (by simpa using h);rw [show j+1+k=j+(k+1) by omega] at this;simpa [JM] using this
def ZrF {h:HP} {k:Nat} (a:h.isPl k=Xb) (us:List V) (m:Nat):∃ p,Je (ZaW h us m) k=Xa p:=by
 unfold HP.isPl at a;split at a
 ·exact ⟨_,rfl⟩
 ·rename_i l k;split at a
  ·rename_i e b;have:=Zjp l us m k _ b;refine ⟨(e,(vAt us (m+k)).list),?_⟩;simp only [ZaW,Je,this,Vy]
  ·cases a
 ·cases a
def Zl2 {P:Program} {E:Env} (C:E.top≤1024) {c:Ctx} (D:c.P=P) (N:c.nt=E.nt) (u:∀ d v,c.pin d=Xa v→d∈E.pins) (r:∀ d b,c.gpin d=Xa b→E.nt≤d∧d < E.top) {n:List (Nat×HP)} (x:headOk E n=Xb) {s:Tr} {ρ:Nat→V} (ρ0:Nat→V) {q:List VE}
  (O:KZ P (gE E s) n=Xa q) {J:Array Value} {w:World} {lim:Nat→Nat} {X:Nat→Nat→Option Nat} (y:Sim c (JV E s ρ) J w lim X) :
  ∃ X',Sim c (JV E (Yy (Jy n 0).1 (.leaf .dead)) (bind ρ0 0 (q.map (VE.den ρ)))) J w lim X':=by
 obtain ⟨k1,Q,L,S,T,U⟩:=ZaT x;obtain ⟨M,A⟩:=Zwl (P:=P) C x (ρ0:=ρ0) (ρ:=ρ) O
 have h:∀ d (l:HP),l.isBox=Xb→(d,l)∈n→∃ cs,JV E (Yy (Jy n 0).1 (.leaf .dead)) (bind ρ0 0 (q.map (VE.den ρ))) d = .box cs:=by
  intro d l e a;obtain ⟨m,z,_⟩:=A d _ a
  cases l<;>simp [HP.isBox] at e<;>exact ⟨_,z⟩
 have t:∀ d (l:HP),l.isG=Xb→(d,l)∈n→(JV E (Yy (Jy n 0).1 (.leaf .dead)) (bind ρ0 0 (q.map (VE.den ρ))) d).isG=Xb:=by
  intro d l e a;obtain ⟨m,z,_⟩:=A d _ a;rw [z]
  cases l<;>simp [HP.isG] at e<;>rfl
 refine y.head (fun d=>?_) (fun d hd=>?_) (fun d v i=>?_) fun d b i=>?_
 ·by_cases a:d∈n.map (·.1)
  ·obtain ⟨p,i,rfl⟩:=XB.1 a;obtain ⟨m,z,f⟩:=A p.1 p.2 i;unfold Zv1;rw [z,D];rcases f with (⟨j,o,f,g3⟩ | ⟨j,k,f,g3⟩ | ⟨g,ds,f,g3⟩) | f
   ·obtain ⟨l,e,a⟩:=L.1 p.1 j o (by rw [← f];exact i);exact .inr (.inl ⟨j,o,g3,by rw [f];rfl,h j l e a⟩)
   ·obtain ⟨l,e,a⟩:=L.2 p.1 j k (by rw [← f];exact i);obtain ⟨m',W,_⟩:=A j l a;exact .inr (.inr (.inl ⟨j,k,g3,by rw [f];rfl,by rw [W];exact ZrF e _ _⟩))
   ·refine .inr (.inr (.inr ⟨g,ds,g3,by rw [f];rfl,fun j G=>?_⟩));obtain ⟨l,e,a⟩:=T p.1 g ds (by rw [← f];exact i) j G;rw [XF] at e;rcases e with e | e
    ·obtain ⟨cs,H⟩:=h j l e a;rw [H];rfl
    ·exact Zcg (t j l e a)
   ·exact .inl f
  ·unfold Zv1;rw [M d a];exact .inl .dead
 ·by_cases a:d∈n.map (·.1)
  ·obtain ⟨p,i,rfl⟩:=XB.1 a;rcases (Q p i).2 with h3 | h3
   ·exact .inr (t p.1 p.2 h3 i)
   ·omega
  ·exact .inl (M d a)
 ·obtain ⟨l,e,a⟩:=S d (u d v i);exact h d l e a
 ·obtain ⟨Y,Z⟩:=r d b i;obtain ⟨l,e,a⟩:=U d Y Z;exact t d l e a
def ZiV {ops:Array Oper} {x a d:Nat} {T:TypeId} {c:Bool} (h:ZlA ops=Xa (x,a,d,T,c)) :
  ∃ o p U,ops.toList = [o,p]∧o.guard=Xe∧p.guard=Xe∧o.op = .move (.tmp x)∧o.dst=Xa a∧p.op = .binOp (if c=Xb then .neq else .eql) T (.tmp a) (.const (.slice Xe 0 0)) U∧p.dst=Xa d:=by
 unfold ZlA at h;split at h
 ·rename_i o p b;split at h
  ·rename_i e;simp only [Option.isNone_iff_eq_none] at e;split at h
   ·rename_i f g i j;split at h
    ·rename_i k;subst k;simp only [Xg,XG] at h;obtain ⟨rfl,rfl,rfl,rfl,rfl⟩:=h;exact ⟨o,p,_,b,e.1,e.2,f,g,by simpa using i,j⟩
    ·cases h
   ·rename_i f g i j;split at h
    ·rename_i k;subst k;simp only [Xg,XG] at h;obtain ⟨rfl,rfl,rfl,rfl,rfl⟩:=h;exact ⟨o,p,_,b,e.1,e.2,f,g,by simpa using i,j⟩
    ·cases h
   ·cases h
  ·cases h
 ·cases h
def ZeW {ops:Array Oper} {x i a b c:Nat} {T:TypeId} (h:ZdF ops=Xa (x,i,a,b,c,T)) :
  ∃ o p q r,ops.toList = [o,p,q,r]∧o.guard=Xe∧p.guard=Xe∧q.guard=Xe∧r.guard=Xe∧o.op = .move (.tmp x)∧o.dst=Xa a∧p.op = .move (.tmp i)∧p.dst=Xa b∧
   q.op = .slice T (.tmp a) (Xa (.tmp b)) Xe Xe∧q.dst=Xa c∧(∃ d,r.op = .call d∧d.callee = .builtin .clear∧d.args = #[.tmp c]∧d.argTypes = #[T])∧r.dst=Xe:=by
 unfold ZdF at h;split at h
 case h_2=>cases h
 rename_i o p q r e;split at h
 case isFalse=>cases h
 rename_i f;simp only [Option.isNone_iff_eq_none] at f;split at h
 case h_2=>cases h
 rename_i L M N b' k l m n;split at h
 case h_2=>cases h
 rename_i T' s t c' d u v w y;split at h
 case h_2=>cases h
 rename_i z T'' A g j;split at h
 case isFalse=>cases h
 rename_i C;obtain ⟨D,G,H,J⟩:=C;subst D G H J;simp only [Xg,XG] at h;obtain ⟨rfl,rfl,rfl,rfl,rfl,rfl⟩:=h;exact ⟨o,p,q,r,e,f.1,f.2.1,f.2.2.1,f.2.2.2,k,l,m,n,u,v,⟨d,w,A,by rw [← g,UW],by rw [← j,UW]⟩,y⟩
def Zou {P:Program} {w:World} {lim:Nat→Nat} {X:Nat→Nat→Option Nat} {σ:Nat→AV} {d:Nat} {x:SV} {l:LE} {ρ:Nat→V} {v:Value} (e:ZqG x=Xa l) (h:Jx P w lim X σ d (x.den ρ) v) :
  ∃ a k cap,v = .slice a k cap∧(a.isNone=Xb→l.den ρ = []):=by
 have g:∀ f s,Rep w lim (.slice f s (l.den ρ)) v→∃ a k cap,v = .slice a k cap∧(a.isNone=Xb→l.den ρ = []):=by
  intro f s j
  have i:∀ y,Rep w lim y v→y = .slice f s (l.den ρ)→∃ a k cap,v = .slice a k cap∧(a.isNone=Xb→l.den ρ = []):=by
   intro y m c
   cases m with
   | sliceN => injection c with _ _ h3; exact ⟨Xe, 0, 0, rfl, fun _ => h3.symm⟩
   | sliceE _ => injection c with _ _ h3; exact ⟨_, _, _, rfl, fun _ => h3.symm⟩
   | sliceC _ _ _ _ _ _ _ _ => exact ⟨_, _, _, rfl, fun h => by cases h⟩
   | val _ => cases c
   | agg _ _ _ => cases c
  exact i _ j rfl
 unfold ZqG at e;split at e
 ·simp only [Xg] at e;subst e;exact g _ _ h
 ·simp only [Xg] at e;subst e;rcases YF.sliceV (show YF P w lim _ _ _ v (X d 0) from h) with ⟨_,h1,h2 | ⟨a,h2⟩⟩ | ⟨b,arr,cap,_,_,_,h2⟩
  ·exact ⟨Xe,0,0,h2,fun _=>Um h1⟩
  ·exact ⟨_,_,_,h2,fun h=>by cases h⟩
  ·exact ⟨_,_,_,h2,fun h=>by cases h⟩
 ·cases e
def Sim.refit {c:Ctx} {σ a:Nat→AV} {j:Array Value} {w:World} {lim e:Nat→Nat} {X:Nat→Nat→Option Nat} {S:Nat→Prop} (h:Sim c σ j w lim X) (o:Yv w lim w e S) (p:∀ b,S b→c.A b∨c.w0.heap.size≤b)
  (f:∀ i,Jx c.P w e X a i (a i) (j.getD i undef)) (g:∀ i,c.nt≤i→a i = .dead∨(a i).isG=Xb) (n:∀ i,(a i).isG=(σ i).isG) (q:∀ i cs,σ i = .box cs→∃ k,a i = .box k):Sim c a j w e X where
 rel:=f
 size:=h.size
 out:=g
 ghost d hd:=h.ghost d (by rw [← n];exact hd)
 dist:=h.dist
 ours:=h.ours
 frm:=h.frm.step o p
 pin d v hv:=by
  obtain ⟨l,cs,m⟩:=h.pin d v hv;exact ⟨l,q d cs m⟩
 gpin d b hb:=by
  obtain ⟨l,m⟩:=h.gpin d b hb;exact ⟨l,by rw [n];exact m⟩
def Sim.freeze {c:Ctx} {σ:Nat→AV} {tm:Array Value} {w:World} {lim:Nat→Nat} {X:Nat→Nat→Option Nat} (h:Sim c σ tm w lim X) {d q:Nat} {e:TypeId} {xs:List (List AV)} {us:List (Nat×AV)} (hp:Je (σ d) q=Xa (e,xs))
  (hs0:c.P.cellsOf e≠0) (h1:∀ u∈us,u.1≠d∧((σ u.1 = .mref d q∧u.2 = .slice Xc (c.P.cellsOf e) xs)∨((∃ o,σ u.1 = .eref d q o)∧u.2 = .dead))) (h2:∀ i,Yr (σ i) d q→i∈us.map (·.1)) :
  ∃ lim',Sim c (Kb (upd σ d (JA (σ d) q Xc e xs)) us) tm w lim' X:=by
 obtain ⟨v0,ho⟩:=WP h hp;refine ⟨fun b=>if X d q=Xa b then xs.length*c.P.cellsOf e else lim b,?_⟩
 have hlim0:∀ b,X d q=Xa b→lim b=0:=by
  intro b hb;rw [hb] at ho;obtain ⟨_,_,_,_,g,_⟩:=WJ ho;exact g
 have hw:Yv w lim w (fun b=>if X d q=Xa b then xs.length*c.P.cellsOf e else lim b) (fun b=>X d q=Xa b):=by
  refine ⟨rfl,rfl,rfl,Xr _,fun _ _=>rfl,fun b _ hb=>⟨rfl,P3 hb⟩,fun b _=>⟨?_,fun _ _ _ hu=>hu⟩⟩;show lim b≤if X d q=Xa b then xs.length*c.P.cellsOf e else lim b;split
  ·rename_i hb;rw [hlim0 b hb];exact XT _
  ·exact Xr _
 have hnew:∀ v,YF c.P w lim Xb e xs v (X d q)→YF c.P w (fun b=>if X d q=Xa b then xs.length*c.P.cellsOf e else lim b) Xc e xs v (X d q):=by
  intro v hv;rcases hv with ⟨ws,g1,g2,g3,g4,g5,g6⟩ | hv
  ·refine .inl ⟨ws,g1,g2,fun b hb=>?_,g4,g5,fun j z u hz hu=>(g6 j z u hz hu).mono hw.ext⟩;show (if X d q=Xa b then xs.length*c.P.cellsOf e else lim b)=_;rw [P4 hb,P3 (by simp),g1.1]
  ·exact .inr hv
 have hkept:∀ i k b,(i≠d∨k≠q)→X i k=Xa b→ZxK w lim w (fun b=>if X d q=Xa b then xs.length*c.P.cellsOf e else lim b) b:=by
  intro i k b hik hb;refine ⟨rfl,P3 fun hb'=>?_⟩;obtain ⟨e1,e2⟩:=h.dist i k d q b hb hb';exact hik.elim (fun h=>h e1) fun h=>h e2
 have hdu:d∉us.map (·.1):=by
  intro hm;obtain ⟨u,hu,rfl⟩:=XB.1 hm;exact (h1 u hu).1 rfl
 -- what stands where
 have hat:∀ i,i≠d→(i∉us.map (·.1)∧Kb (upd σ d (JA (σ d) q Xc e xs)) us i=σ i)∨
   (σ i = .mref d q∧Kb (upd σ d (JA (σ d) q Xc e xs)) us i = .slice Xc (c.P.cellsOf e) xs)∨((∃ o,σ i = .eref d q o)∧Kb (upd σ d (JA (σ d) q Xc e xs)) us i = .dead):=by
  intro i hi;rw [Yf];by_cases hm:i∈us.map (·.1)
  ·obtain ⟨x,hx⟩:=Zah us i hm;rw [hx];rcases (h1 _ (ZdB us i x hx)).2 with ⟨g1,g2⟩ | ⟨g1,g2⟩
   ·exact .inr (.inl ⟨g1,g2⟩)
   ·exact .inr (.inr ⟨g1,g2⟩)
  ·rw [Vb us i hm];exact .inl ⟨hm,ZQ _ _ hi⟩
 have hatd:Kb (upd σ d (JA (σ d) q Xc e xs)) us d=JA (σ d) q Xc e xs:=by
  rw [Yf,Vb us d hdu];exact J9 _ _ _
 have hdG:(JA (σ d) q Xc e xs).isG=Xc∧(σ d).isG=Xc:=by
  rcases Jh hp with ⟨g1,rfl⟩ | ⟨cs,k,g1,rfl,_⟩ <;> rw [g1]<;>exact ⟨rfl,rfl⟩
 have hdB:∀ cs,σ d = .box cs→∃ cs',JA (σ d) q Xc e xs = .box cs':=by
  intro cs hcs;rcases Jh hp with ⟨g1,rfl⟩ | ⟨cs',k,g1,rfl,_⟩
  ·rw [g1] at hcs;cases hcs
  ·rw [g1];exact ⟨_,rfl⟩
 have hGall:∀ i,(Kb (upd σ d (JA (σ d) q Xc e xs)) us i).isG=(σ i).isG:=by
  intro i;by_cases hi:i=d
  ·subst hi;rw [hatd,hdG.1,hdG.2]
  ·rcases hat i hi with ⟨_,g⟩ | ⟨g,g'⟩ | ⟨⟨o,g⟩,g'⟩
   ·rw [g]
   ·rw [g,g'];rfl
   ·rw [g,g'];rfl
 have hBall:∀ i cs,σ i = .box cs→∃ cs',Kb (upd σ d (JA (σ d) q Xc e xs)) us i = .box cs':=by
  intro i cs hcs;by_cases hi:i=d
  ·subst hi;rw [hatd];exact hdB cs hcs
  ·rcases hat i hi with ⟨_,g⟩ | ⟨g,g'⟩ | ⟨⟨o,g⟩,g'⟩
   ·exact ⟨cs,g.trans hcs⟩
   ·rw [g] at hcs;cases hcs
   ·rw [g] at hcs;cases hcs
 refine h.refit hw (fun b hb=>(h.ours d q b hb).2) (fun i=>?_) (fun i hi=>?_) hGall hBall
 ·by_cases hi:i=d
  ·subst hi;rw [hatd];have hr:=h.rel i;rcases Jh hp with ⟨g1,rfl⟩ | ⟨cs,k,g1,rfl,g2⟩
   ·rw [g1] at hr ⊢;exact hnew _ hr
   ·rw [g1] at hr ⊢;obtain ⟨b,arr,t,k1,k2,k3,k4,k5,k6,k7⟩:=(show Jt c.P w lim (X i) cs _ from hr);refine ⟨b,arr,t,k1,k2,k3,by rw [U6];exact k4,((hkept i 0 b (.inr (by omega)) k1).2).trans k5,fun x hx=>?_,fun j x u hx hu=>?_⟩
    ·rcases US hx with hx | hx
     ·exact k6 x hx
     ·exact .inr ⟨_,_,_,hx⟩
    ·by_cases hj:j=k
     ·subst hj;rw [UR (XA.1 g2).1] at hx;simp only [Xg] at hx;subst hx;exact hnew u (k7 j _ u g2 hu)
     ·rw [UN (fun h=>hj h.symm)] at hx;exact (k7 j x u hx hu).mono hw.ext fun b' hb'=>hkept i (j+1) b' (.inr (by omega)) hb'
  ·rcases hat i hi with ⟨hm,g⟩ | ⟨g,g'⟩ | ⟨⟨o,g⟩,g'⟩
   ·rw [g];have hr:=(h.rel i).mono hw.ext (fun k b hb=>hkept i k b (.inl hi) hb) fun d' k b _ _=>.of rfl;refine hr.chg rfl (fun d' cs hd'=>⟨hBall d' cs hd',rfl⟩) (fun d' hd'=>⟨by rw [hGall];exact hd',rfl⟩) fun d' k hrf=>⟨?_,rfl⟩;by_cases hdd:d'=d
    ·subst hdd;rw [hatd];have hkq:k≠q:=fun he=>hm (h2 i (he ▸ hrf));intro e' ys hy;rcases Jh hy with ⟨m1,rfl⟩ | ⟨cs,k',m1,rfl,m2⟩
     ·rcases Jh hp with ⟨_,h0⟩ | ⟨_,_,h0,_⟩
      ·exact (hkq h0.symm).elim
      ·rw [m1] at h0;cases h0
     ·rcases Jh hp with ⟨h0,_⟩ | ⟨cs2,q',h0,rfl,_⟩
      ·rw [m1] at h0;cases h0
      ·refine ⟨ys,?_,rfl⟩;rw [m1];simp only [JA,Je];rw [UN (by omega),m2]
    ·rcases hat d' hdd with ⟨_,m⟩ | ⟨m,m'⟩ | ⟨⟨o,m⟩,m'⟩
     ·rw [m];exact Zbp.refl _ _
     ·intro e' ys hy;rw [m] at hy;cases hy
     ·intro e' ys hy;rw [m] at hy;cases hy
   ·rw [g'];have hr:=h.rel i;rw [g] at hr;obtain ⟨e',xs',k1,k2⟩:=hr;rw [hp] at k1;simp only [Xg,XG] at k1;obtain ⟨rfl,rfl⟩:=k1;show Rep w _ _ _;rcases k2 with ⟨_,k2,k3 | ⟨a,k3⟩⟩ | ⟨b,arr,cap,k2,k3,k4,k5⟩
    ·have:xs = []:=Um k2;subst this;rw [k3];exact .sliceN
    ·have:xs = []:=Um k2;subst this;rw [k3];exact .sliceE fun h=>by cases h
    ·have ho':=ho;rw [k2] at ho';obtain ⟨arr0,cap0,m1,m2,_,_,_,m6,_⟩:=WJ ho';rw [k3] at m2;simp only [Xg,Obj.cells.injEq,and_true] at m2;subst m2;have hcap:cap=cap0:=TI (by omega) (k4.symm.trans m6);subst hcap;rw [k5,← m1];exact YF.rep (hnew v0 ho) Xc rfl
   ·rw [g'];trivial
 ·by_cases hid:i=d
  ·subst hid;rcases h.out i hi with h0 | h0
   ·rw [h0] at hp;cases hp
   ·rw [hdG.2] at h0;cases h0
  ·rcases hat i hid with ⟨_,g⟩ | ⟨g,_⟩ | ⟨⟨o,g⟩,_⟩
   ·rw [g];exact h.out i hi
   ·rcases h.out i hi with h0 | h0<;>rw [g] at h0<;>cases h0
   ·rcases h.out i hi with h0 | h0<;>rw [g] at h0<;>cases h0
def Kw {P:Program} {g:Nat→SV} {d q:Nat} {e:TypeId} {l:LE} : ∀ (n:Nat) (u:Nat×SV),u∈V6 P g d q e l n↔u.1 < n∧((g u.1 = .mref d q∧u.2 = .c (.slice Xc (P.cellsOf e) l))∨((∃ i s o,g u.1 = .eref d q i s o)∧u.2 = .dead))
 | 0, u => by simp [V6]
 | n + 1, u => by
  have ih:=Kw (P:=P) (g:=g) (d:=d) (q:=q) (e:=e) (l:=l) n u;have r:∀ {p:Prop},(u.1 < n∧p)→(u.1 < n+1∧p):=fun h=>⟨by omega,h.2⟩;simp only [V6];split
  ·rename_i v w j;split
   ·rename_i k;obtain ⟨rfl,rfl⟩:=k;rw [Xs,ih];constructor
    ·rintro (rfl | h)
     ·exact ⟨UD n,.inl ⟨j,rfl⟩⟩
     ·exact r h
    ·rintro ⟨t,f⟩;by_cases hn:u.1=n
     ·left;obtain ⟨a,b⟩:=u;simp only at hn f;subst hn;rcases f with ⟨_,f⟩ | ⟨⟨_,_,_,f⟩,_⟩
      ·rw [f]
      ·rw [j] at f;cases f
     ·exact .inr ⟨by omega,f⟩
   ·rename_i k;rw [ih];refine ⟨r,fun ⟨t,f⟩=>⟨?_,f⟩⟩;by_cases hn:u.1=n
    ·rw [hn,j] at f;rcases f with ⟨f,_⟩ | ⟨⟨_,_,_,f⟩,_⟩
     ·cases f;exact (k ⟨rfl,rfl⟩).elim
     ·cases f
    ·omega
  ·rename_i v w i s o j;split
   ·rename_i k;obtain ⟨rfl,rfl⟩:=k;rw [Xs,ih];constructor
    ·rintro (rfl | h)
     ·exact ⟨UD n,.inr ⟨⟨_,_,_,j⟩,rfl⟩⟩
     ·exact r h
    ·rintro ⟨t,f⟩;by_cases hn:u.1=n
     ·left;obtain ⟨a,b⟩:=u;simp only at hn f;subst hn;rcases f with ⟨f,_⟩ | ⟨_,f⟩
      ·rw [j] at f;cases f
      ·rw [f]
     ·exact .inr ⟨by omega,f⟩
   ·rename_i k;rw [ih];refine ⟨r,fun ⟨t,f⟩=>⟨?_,f⟩⟩;by_cases hn:u.1=n
    ·rw [hn,j] at f;rcases f with ⟨f,_⟩ | ⟨⟨_,_,_,f⟩,_⟩
     ·cases f
     ·cases f;exact (k ⟨rfl,rfl⟩).elim
    ·omega
  ·rename_i t f;rw [ih];refine ⟨r,fun ⟨x,m⟩=>⟨?_,m⟩⟩;by_cases hn:u.1=n
   ·rw [hn] at m;rcases m with ⟨m,_⟩ | ⟨⟨_,_,_,m⟩,_⟩
    ·exact (t _ _ m).elim
    ·exact (f _ _ _ _ _ m).elim
   ·omega
def ZgG {P:Program} {E:Env} (m:E.top≤1024) {c:Ctx} (r:c.P=P) {s:Tr} {n:Nat} {ρ:Nat→V} (p:Nat×Nat) {J:Array Value} {w:World} (t:WV E s n) (h:∃ lim X,Sim c (JV E s ρ) J w lim X) :
  WV E (V2 P E s p) n∧∃ lim X,Sim c (JV E (V2 P E s p) ρ) J w lim X:=by
 unfold V2;split
 ·rename_i e l D;split
  ·rename_i N
   have k:ZaQ E ((p.1,VF (gE E s p.1) p.2 Xc e l)::V6 P (gE E s) p.1 p.2 e l E.top):=by
    unfold ZaQ;rw [Xo];intro u j;rcases Xs.1 j with rfl | j
    ·simpa using Ke N.1
    ·simpa using ((Kw E.top u).1 j).1
   have L:=Zal D (t p.1);refine ⟨Y7 m _ _ k t fun u j=>?_,?_⟩
   ·rcases Xs.1 j with rfl | j
    ·exact ZaK (t p.1) L
    ·rcases ((Kw E.top u).1 j).2 with ⟨_,g⟩ | ⟨_,g⟩ <;> rw [g]
     ·exact L
     ·trivial
   ·obtain ⟨lim,X,z⟩:=h;rw [Ku m _ _ _ k]
    have O:∀ u∈((V6 P (gE E s) p.1 p.2 e l E.top).map fun u=>(u.1,u.2.den ρ)),u.1≠p.1∧((JV E s ρ u.1 = .mref p.1 p.2∧u.2 = .slice Xc (c.P.cellsOf e) (l.den ρ))∨((∃ o,JV E s ρ u.1 = .eref p.1 p.2 o)∧u.2 = .dead)):=by
     intro u j;obtain ⟨v,M,rfl⟩:=XB.1 j
     have G:v.1≠p.1:=by
      intro Q;have g:=((Kw E.top v).1 M).2;rw [Q] at g;rcases g with ⟨g,_⟩ | ⟨⟨_,_,_,g⟩,_⟩ <;> rw [g] at D<;>cases D
     refine ⟨G,?_⟩;rcases ((Kw E.top v).1 M).2 with ⟨h1,g⟩ | ⟨⟨i,s',o,h1⟩,g⟩
     ·exact .inl ⟨by show (gE E s v.1).den ρ=_;rw [h1];rfl,by rw [g,r];rfl⟩
     ·exact .inr ⟨⟨_,by show (gE E s v.1).den ρ=_;rw [h1];rfl⟩,by rw [g];rfl⟩
    have S:∀ i,Yr (JV E s ρ i) p.1 p.2→i∈((V6 P (gE E s) p.1 p.2 e l E.top).map fun u=>(u.1,u.2.den ρ)).map (·.1):=by
     intro i T;rw [UB];have f:Yr ((gE E s i).den ρ) p.1 p.2:=T
     have A:i < E.top:=by
      rcases Ub i E.top with h | h
      ·exact h
      ·rw [Zq5 s i h] at f;rcases f with h0 | ⟨_,h0⟩ <;> cases h0
     have H:∃ x,(i,x)∈V6 P (gE E s) p.1 p.2 e l E.top:=by
      cases hg:gE E s i with
      | mref d' q' =>
       rw [hg] at f;rcases f with h0 | ⟨_,h0⟩ <;> cases h0;exact ⟨_,(Kw E.top (i,_)).2 ⟨A,.inl ⟨hg,rfl⟩⟩⟩
      | eref d' q' a b o =>
       rw [hg] at f;rcases f with h0 | ⟨_,h0⟩ <;> cases h0;exact ⟨_,(Kw E.top (i,_)).2 ⟨A,.inr ⟨⟨_,_,_,hg⟩,rfl⟩⟩⟩
      | c y => rw [hg] at f; rcases f with h0 | ⟨_, h0⟩ <;> cases y <;> cases h0
      | _ => rw [hg] at f; rcases f with h0 | ⟨_, h0⟩ <;> cases h0
     obtain ⟨x,U⟩:=H;exact XB.2 ⟨_,U,rfl⟩
    obtain ⟨C,W⟩:=z.freeze (d:=p.1) (q:=p.2) (Kt ρ D) (by rw [r];omega) O S;refine ⟨C,X,?_⟩;rw [Xn,WK];exact W
  ·exact ⟨t,h⟩
 ·exact ⟨t,h⟩
def ZkS {E:Env} (i:E.top≤1024) {c:Ctx} {a:List Nat} {s:Tr} {n:Nat} {ρ:Nat→V} (d:Nat) {m:Array Value} {w:World} (k:WV E s n) (h:∃ lim X,Sim c (JV E s ρ) m w lim X) :
  WV E (ZcB E a s d) n∧∃ lim X,Sim c (JV E (ZcB E a s d) ρ) m w lim X:=by
 unfold ZcB;split
 ·rename_i e l o;split
  ·rename_i p
   have b:ZaQ E ((d,.dead)::Kd (gE E s) d E.top):=by
    unfold ZaQ;rw [Xo];intro u f;rcases Xs.1 f with rfl | f
    ·simpa using Ke p.1
    ·simpa using ((Ks E.top u).1 f).2.1
   refine ⟨Y7 i _ _ b k fun u f=>?_,?_⟩
   ·rcases Xs.1 f with rfl | f
    ·trivial
    ·rw [((Ks E.top u).1 f).1];trivial
   ·obtain ⟨lim,X,j⟩:=h;rw [Ku i _ _ _ b];have q:Wf (JV E s ρ) d ((Kd (gE E s) d E.top).map fun u=>(u.1,u.2.den ρ)):=Wo (g:=gE E s) ρ (Zq5 s);obtain ⟨X',r,_⟩:=j.freeAll (t:=d) (x:=Xb) (e:=e) (xs:=l.den ρ) (by show (gE E s d).den ρ=_;rw [o];rfl) (.inr q);exact ⟨lim,X',r⟩
  ·exact ⟨k,h⟩
 ·exact ⟨k,h⟩
def Ztp {P:Program} {E:Env} (g:E.top≤1024) {c:Ctx} (k:c.P=P) {id:Nat} {ops:Array Oper} {s:Tr} {n:Nat} {ρ:Nat→V} {f:Array Value} {w:World} {lim:Nat→Nat} {X:Nat→Nat→Option Nat} (m:WV E s n) (h:Sim c (JV E s ρ) f w lim X) :
  WV E (ZDT P E id ops s) n∧∃ lim X,Sim c (JV E (ZDT P E id ops s) ρ) f w lim X:=by
 have a:∀ (l:List (Nat×Nat)) (s:Tr),WV E s n→(∃ lim X,Sim c (JV E s ρ) f w lim X)→WV E (l.foldl (V2 P E) s) n∧∃ lim X,Sim c (JV E (l.foldl (V2 P E) s) ρ) f w lim X:=by
  intro l
  induction l with
  | nil => exact fun s b d => ⟨b, d⟩
  | cons p l ih =>
   intro s b d;obtain ⟨i,j⟩:=ZgG g k p b d;exact ih _ i j
 have e:∀ (l:List Nat) (s:Tr),WV E s n→(∃ lim X,Sim c (JV E s ρ) f w lim X)→WV E (l.foldl (ZcB E (ZkG ops)) s) n∧∃ lim X,Sim c (JV E (l.foldl (ZcB E (ZkG ops)) s) ρ) f w lim X:=by
  intro l
  induction l with
  | nil => exact fun s b d => ⟨b, d⟩
  | cons p l ih =>
   intro s b d;obtain ⟨i,j⟩:=ZkS g p b d;exact ih _ i j
 obtain ⟨i,j⟩:=a (E.fz id) s m ⟨lim,X,h⟩;exact e (ZIG ops) _ i j
section
variable {P:Program} {E:Env} {R:AV→List AV→Prop}
def Zrq (lv:Nat) (A A':Nat→List V→Prop):Prop:=∀ i,i < lv→A' i=A i
def ZsG (hm:P.follows .mixedOrders=Xb) (b7:PlainSound P E.plain) (D:E.top≤1024) {c:Ctx} (ab:c.P=P) (aa:c.nt=E.nt) (ay:∀ d v,c.pin d=Xa v→d∈E.pins) (ai:∀ d b,c.gpin d=Xa b→E.nt≤d∧d < E.top) :
  ∀ (af:Code) (lv n:Nat) (s:Tr) (kn:Tr→Nat→STree) (kx:Nat→Tr→Nat→STree) (Z:Tr→Nat→STree) (A:Nat→List V→Prop) (ρ:Nat→V) (y:Array Value) (w:World) (lim:Nat→Nat) (X:Nat→Nat→Option Nat)
   (Q:Exit→Act→World→Prop),WV E s n→(ev P E lv af s n kn kx Z).wp P R A ρ→Sim c (JV E s ρ) y w lim X→
   (∀ N n' G A',Zrq lv A A'→WV E N n'→(kn N n').wp P R A' G→∀ tm' w' C X',Sim c (JV E N G) tm' w' C X'→Q .normal ⟨tm',[]⟩ w')→
   (∀ id N n' G A',Zrq lv A A'→WV E N n'→(kx id N n').wp P R A' G→∀ tm' w' C X',Sim c (JV E N G) tm' w' C X'→Q (.exit id) ⟨tm',[]⟩ w')→
   (∀ N n' G A',Zrq lv A A'→WV E N n'→(Z N n').wp P R A' G→∀ tm' w' C X',Sim c (JV E N G) tm' w' C X'→Q .ret ⟨tm',[]⟩ w')→
   af.wp P Q ⟨y,[]⟩ w:=by
 intro af
 induction af with
 | skip => intro lv n s kn kx Z A ρ y w lim X Q L h f Y hx hr; exact wp_skip (Y s n ρ A (fun _ _ => rfl) L h y w lim X f)
 | label l => intro lv n s kn kx Z A ρ y w lim X Q L h f Y hx hr; exact wp_label (Y s n ρ A (fun _ _ => rfl) L h y w lim X f)
 | exit id => intro lv n s kn kx Z A ρ y w lim X Q L h f Y hx hr; exact wp_exit (hx id s n ρ A (fun _ _ => rfl) L h y w lim X f)
 | ret => intro lv n s kn kx Z A ρ y w lim X Q L h f Y hx hr; exact wp_ret (hr s n ρ A (fun _ _ => rfl) L h y w lim X f)
 | seq a b iha ihb =>
  intro lv n s kn kx Z A ρ y w lim X Q L h f Y hx hr;refine wp_seq (iha lv n s _ kx Z A ρ y w lim X _ L h f ?_ hx hr);intro N n' G A' hA O h' tm' w' C X' H
  exact ihb lv n' N kn kx Z A' G tm' w' C X' Q O h' H (fun s2 n2 aj A2 ak=>Y s2 n2 aj A2 fun i hi=>(ak i hi).trans (hA i hi))
   (fun id s2 n2 aj A2 ak=>hx id s2 n2 aj A2 fun i hi=>(ak i hi).trans (hA i hi)) (fun s2 n2 aj A2 ak=>hr s2 n2 aj A2 fun i hi=>(ak i hi).trans (hA i hi))
 | cond x a b iha ihb =>
  intro lv n s kn kx Z A ρ y w lim X Q L h f Y hx hr;simp only [ev] at h;split at h
  ·rename_i t ht;have b8:x = .tmp t:=by cases x<;>simp [Ym] at ht;rw [ht]
   subst b8
   have al:∀ v:BE,gE E s t = .c (.bool v)→Act.eval ⟨y,[]⟩ (.tmp t) = .bool (v.den ρ):=by
    intro v hv;have az:=f.rel t;have:JV E s ρ t = .val (.bool (v.den ρ)):=by simp only [JV,hv,SV.den,SC.den]
    rw [this] at az;exact ZaF az
   split at h
   ·rename_i v hv;have he:=al _ hv;simp only [BE.den] at he;split at h
    ·rename_i a4;subst a4;exact wp_cond_true he (iha lv n s kn kx Z A ρ y w lim X Q L h f Y hx hr)
    ·rename_i a4;have:v=Xc:=by simpa using a4
     subst this;exact wp_cond_false he (ihb lv n s kn kx Z A ρ y w lim X Q L h f Y hx hr)
   ·rename_i v _ hv;refine wp_cond_split (al v hv) (fun am=>?_) fun am=>?_
    ·obtain ⟨an,ac⟩:=ZaX D hv am;exact iha lv n _ kn kx Z A ρ y w lim X Q (Y1 (x:=.c (.bool (.lit Xb))) D an L trivial) (h.1 am) (by rw [ac];exact f) Y hx hr
    ·obtain ⟨an,ac⟩:=ZaX D hv am;exact ihb lv n _ kn kx Z A ρ y w lim X Q (Y1 (x:=.c (.bool (.lit Xc))) D an L trivial) (h.2 am) (by rw [ac];exact f) Y hx hr
   ·exact h.elim
  ·exact h.elim
 | block id body ih =>
  intro lv n s kn kx Z A ρ y w lim X Q L h f Y hx hr;refine wp_block (ih lv n s kn _ Z A ρ y w lim X _ L h f Y ?_ hr);intro bm N n' G A' hA O h' tm' w' C X' H;unfold Exit.inBlock;by_cases hid:bm=id
  ·rw [P4 hid] at h';simp only [hid,if_true];exact Y N n' G A' hA O h' tm' w' C X' H
  ·rw [P3 hid] at h';simp only [hid,if_false];exact hx bm N n' G A' hA O h' tm' w' C X' H
 | scope body ih =>
  intro lv n s kn kx Z A ρ y w lim X Q L h f Y hx hr;exact wp_scope_straight (ih lv n s kn kx Z A ρ y w lim X _ L h f Y hx hr)
 | loop body ih =>
  intro lv n s kn kx Z A ρ y w lim X Q L h f Y hx hr;simp only [ev] at h;split at h
  case isFalse=>exact h.elim
  rename_i ah;split at h
  case h_2=>exact h.elim
  rename_i ao ad;obtain ⟨I,m,h0,au⟩:=h
  have a0:∀ {N:Tr} {av:List VE},KZ P (gE E N) (E.keep (JS body))=Xa av→(Jy (E.keep (JS body)) 0).2=av.length:=by
   intro N av hv;have:=(Wl (P:=P) (g:=gE E N) (ρ:=ρ) _ 0 av [] hv rfl).1;omega
  have b9:∀ (k:Nat) (vs:List V) (y:Array Value) (w:World) (lim:Nat→Nat) (X:Nat→Nat→Option Nat),m vs < k→vs.length=ao.length→I vs→
    Sim c (JV E (Yy (Jy (E.keep (JS body)) 0).1 (.leaf .dead)) (bind Zj2 0 vs)) y w lim X→Code.rounds P body Q k ⟨y,[]⟩ w:=by
   intro k
   induction k with
   | zero => intro vs y w lim X an; omega
   | succ k ihk =>
    intro vs y w lim X an ca hI f;rw [rounds_succ];obtain ⟨k1,k2,k3,k4,k5,k6⟩:=ZaT ah
    have cb:WV E (Yy (Jy (E.keep (JS body)) 0).1 (.leaf .dead)) (Jy (E.keep (JS body)) 0).2:=by
     refine Y7 D _ _ ?_ (fun d=>?_) (ZfY _ 0).2
     ·unfold ZaQ;rw [Xo];intro u hu;have h2:=(Wl (P:=P) (g:=gE E s) (ρ:=ρ) _ 0 ao [] ad rfl).2.1;have hm:u.1∈(E.keep (JS body)).map (·.1):=by rw [← h2];exact XB.2 ⟨u,hu,rfl⟩
      obtain ⟨p,hp,he⟩:=XB.1 hm;have:=(k2 p hp).1;rw [he] at this;simpa using this
     ·unfold gE;split<;>trivial
    refine ih (lv+1) _ _ _ kx Z _ (bind Zj2 0 vs) y w lim X _ cb (au vs ca hI) f ?_ ?_ ?_
    ·intro N n' G A' hA O h' tm' w' C X' H;split at h'
     ·rename_i bn ap
      have cd:A' lv=fun aq=>I aq∧m aq < m vs:=by
       rw [hA lv (UD _)];funext aq;simp only [ZAC,if_true]
      have bo:A' lv (bn.map (VE.den G)):=h';rw [cd] at bo;obtain ⟨ce,c8⟩:=bo;obtain ⟨X2,ar⟩:=Zl2 D ab aa ay ai ah Zj2 ap H;exact ihk _ tm' w' C X2 (by omega) (by rw [Xk,← a0 ap,a0 ad]) ce ar
     ·exact h'.elim
    ·intro id N n' G A' hA O h' tm' w' C X' H;exact hx id N n' G A' (fun i hi=>by rw [hA i (by omega)];funext aq;simp only [ZAC,Nat.ne_of_lt hi,if_false]) O h' tm' w' C X' H
    ·intro N n' G A' hA O h' tm' w' C X' H;exact hr N n' G A' (fun i hi=>by rw [hA i (by omega)];funext aq;simp only [ZAC,Nat.ne_of_lt hi,if_false]) O h' tm' w' C X' H
  obtain ⟨X0,a5⟩:=Zl2 D ab aa ay ai ah Zj2 ad f;exact wp_loop_rounds _ (b9 (m (ao.map (VE.den ρ))+1) _ y w lim X0 (UD _) (by rw [Xk]) h0 a5)
 | region id ops draw =>
  intro lv n s0 kn kx Z A ρ y w c7 X0 Q a5 h a6 Y hx hr;simp only [ev] at h;obtain ⟨L,lim,X,f⟩:=Ztp (P:=P) D ab (id:=id) (ops:=ops) a5 a6;generalize ZDT P E id ops s0=s at h L f;split at h
  ·rename_i x a d T S ae;split at h
   case h_2=>exact h.elim
   rename_i e l hT hl;split at h
   case isFalse=>exact h.elim
   rename_i hh;obtain ⟨ha,hd,a7,cf,cg,bp⟩:=hh;obtain ⟨o,p,U,J,a8,a9,h1,h2,h3,h4⟩:=ZiV ae;obtain ⟨W,k,cap,hv,bq⟩:=Zou hl (f.rel x);have ba:ops.size=2:=by rw [← TG,J];rfl
   have bb:ops[0]? = Xa o:=by rw [← Tj,J];rfl
   have bc:ops[1]? = Xa p:=by rw [← Tj,J];rfl
   refine wp_region ?_;rw [ba,show Ue 2 = [0,1] from rfl,wpOps_cons];unfold wpOp;simp only [bb,Region.wanted,a8];simp only [if_true];refine .inl (ZR (v:=.slice W k cap) (w':=w) ?_ ?_)
   ·have be:Act.eval ⟨y,[]⟩ (.tmp x)=y.getD x undef:=rfl;simp only [execOp,h1,be,hv,Sem.run_pure]
   ·rw [wpOps_cons];unfold wpOp;simp only [bc,Region.wanted,a9];simp only [if_true]
    have br:Act.eval (Act.put ⟨y,[]⟩ o.dst (.slice W k cap)) (.tmp a) = .slice W k cap:=by
     rw [h2];exact Ki y a _ (by rw [f.size,aa];exact ha)
    refine .inl (ZR (v:=.bool (if S=Xb then !W.isNone else W.isNone)) (w':=w) ?_ ?_)
    ·have bs:Act.eval (Act.put ⟨y,[]⟩ o.dst (.slice W k cap)) (.const (.slice Xe 0 0)) = .slice Xe 0 0:=rfl;have bt:=run_equal_slice_nil (P:=P) w T _ W k cap hT
     cases S
     ·simp [execOp,h3,br,bs,eqGuard,binOp,bt]
     ·simp [execOp,h3,br,bs,eqGuard,binOp,bt]
    ·have hb:=h W.isNone bq;have bf:Zar (JV E s ρ a):=Ju (Kv (a:=gE E s a) (b:=.dead) ρ a7);have ch:Zar (JV E s ρ d):=Ju (Kv (a:=gE E s d) (b:=.dead) ρ cf);have s1:=f.put (k:=0) (x:=.dead) (v:=.slice W k cap) (by rw [aa];exact ha) bf rfl trivial;have s2:=s1.put (d:=d) (k:=0) (x:=.val (.bool (if S=Xb then !W.isNone else W.isNone))) (v:=.bool (if S=Xb then !W.isNone else W.isNone)) (by rw [aa];exact hd) (by rw [ZQ _ _ (Ne.symm cg)];exact ch) rfl (Rep.val rfl)
     have ci:(BE.den (bind ρ n [.b W.isNone]) (if S=Xb then .not (.var n) else .var n))=(if S=Xb then !W.isNone else W.isNone):=by
      have a1:bind ρ n [.b W.isNone] n = .b W.isNone:=by simp [bind]
      cases S
      ·simp only [Xw,if_false,BE.den,a1,V.bool]
      ·simp only [if_true,BE.den,a1,V.bool]
     have bg:JV E ((s.set depth a .dead).set depth d (.c (.bool (if S=Xb then .not (.var n) else .var n)))) (bind ρ n [.b W.isNone])=upd (upd (JV E s ρ) a .dead) d (.val (.bool (if S=Xb then !W.isNone else W.isNone))):=by
      rw [KD D (Ke hd),KD D (Ke ha),ZfH L (Zg4 ρ n _)];simp only [SV.den,SC.den,ci]
     have ar:WV E ((s.set depth a .dead).set depth d (.c (.bool (if S=Xb then .not (.var n) else .var n)))) (n+1):=by
      refine Y1 D (Ke hd) (Y1 D (Ke ha) (ZiF L (Nat.le_succ n)) trivial) ?_
      cases S
      ·exact UD n
      ·exact UD n
     rw [h2,h4];show Q .normal ⟨(y.setIfInBounds a (.slice W k cap)).setIfInBounds d (.bool (if S=Xb then !W.isNone else W.isNone)),[]⟩ w;exact Y _ _ _ A (fun _ _=>rfl) ar hb _ w lim _ (by rw [bg];exact s2)
  ·split at h
   ·rename_i x i a b cc T ae _;split at h
    case h_2=>exact h.elim
    rename_i e0 e l M hT bu bv;split at h
    case h_2=>exact h.elim
    rename_i c9 bw;split at h
    case h_2=>exact h.elim
    rename_i z hz;split at h
    case h_2=>exact h.elim
    rename_i zc sh bz da;split at h
    case h_2=>exact h.elim
    rename_i zc' a2;split at h
    case isFalse=>exact h.elim
    rename_i hh;obtain ⟨rfl,cj,h0,ah⟩:=hh;simp only [ZqH,Xj,P5] at ah;obtain ⟨⟨b0,aw,ax,ag,bp,ck,cm,cn,b1,co,cp⟩,a7,cq,cr⟩:=ah;obtain ⟨r1,r2,h⟩:=h;have db:(0:Int)≤M.den ρ:=r1;have dc:M.den ρ≤((l.den ρ).length:Int):=r2;obtain ⟨o,p,q,r,J,a8,a9,cs,ct,h1,h2,h3,h4,h5,h6,⟨cl,h7,h9,cu,cv⟩,h8⟩:=ZeW ae;have b2:JV E s ρ x = .own Xb e (l.den ρ):=by show (gE E s x).den ρ=_;rw [bu];rfl
    have b3:JV E s ρ i = .val (.int .i64 (M.den ρ)):=by show (gE E s i).den ρ=_;rw [bv];rfl
    have b4:=Vz ρ z.cells.toList;rw [bz] at b4;have a3:∀ (w:World) (lim:Nat→Nat),KO w lim (zc.map (SC.den ρ)) z.cells.toList:=fun w lim=>K8 (h:=b4.symm);have cw:∀ (w:World) (lim:Nat→Nat),KO w lim (zc'.map (SC.den ρ)) z.cells.toList:=fun w lim=>(ZbA ρ _ _ _ a2).2 w lim _ (a3 w lim)
    have cx:∀ v∈z.cells.toList,v.oneCell'=Xb:=by
     intro v hv;obtain ⟨j,hj⟩:=Uj.1 hv;have cy:=(XA.1 hj).1;have bh:=a3 w lim;have b5:j < (zc.map (SC.den ρ)).length:=by rw [bh.1];exact cy
     exact (bh.2.2 j _ v (Xp b5) hj).oneCell (bh.2.1 _ (Xq b5))
    obtain ⟨v2,w',X',bj,b6,O,cz⟩:=f.clear (x:=x) (n:=(M.den ρ).toNat) (T:=T) (zc:=zc'.map (SC.den ρ)) b2 (by rw [ab];exact hT) (by rw [ab];exact bw) hz cj h0 cw cx (by omega);rw [ab] at bj b6
    have c0:y.getD i undef = .int .i64 (M.den ρ):=by
     have:=f.rel i;rw [b3] at this;exact ZaF (show Rep w lim _ _ from this)
    have c1:((M.den ρ).toNat:Int)=M.den ρ:=by omega
    rw [c1] at bj;have ba:ops.size=4:=by rw [← TG,J];rfl
    have bb:ops[0]? = Xa o:=by rw [← Tj,J];rfl
    have bc:ops[1]? = Xa p:=by rw [← Tj,J];rfl
    have c2:ops[2]? = Xa q:=by rw [← Tj,J];rfl
    have c3:ops[3]? = Xa r:=by rw [← Tj,J];rfl
    have bk:y.size=E.nt:=by rw [f.size,aa]
    refine wp_region ?_;rw [ba,show Ue 4 = [0,1,2,3] from rfl,wpOps_cons];unfold wpOp;simp only [bb,Region.wanted,a8];simp only [if_true];refine .inl (ZR (v:=y.getD x undef) (w':=w) ?_ ?_)
    ·have be:Act.eval ⟨y,[]⟩ (.tmp x)=y.getD x undef:=rfl;simp only [execOp,h1,be,Sem.run_pure]
    rw [wpOps_cons];unfold wpOp;simp only [bc,Region.wanted,a9];simp only [if_true]
    have e1:Act.eval (Act.put ⟨y,[]⟩ o.dst (y.getD x undef)) (.tmp i) = .int .i64 (M.den ρ):=by
     rw [h2];exact (JJ y a i _ cn).trans c0
    refine .inl (ZR (v:=.int .i64 (M.den ρ)) (w':=w) ?_ ?_)
    ·simp only [execOp,h3,e1,Sem.run_pure]
    rw [wpOps_cons];unfold wpOp;simp only [c2,Region.wanted,cs];simp only [if_true]
    have e2:Act.eval (Act.put (Act.put ⟨y,[]⟩ o.dst (y.getD x undef)) p.dst (.int .i64 (M.den ρ))) (.tmp a)=y.getD x undef:=by
     rw [h2,h4];exact (JJ _ b a _ b1).trans (Ki y a _ (by rw [bk];exact aw))
    have e3:Act.eval (Act.put (Act.put ⟨y,[]⟩ o.dst (y.getD x undef)) p.dst (.int .i64 (M.den ρ))) (.tmp b) = .int .i64 (M.den ρ):=by
     rw [h2,h4];exact Ki _ b _ (by show b < (y.setIfInBounds a _).size;rw [TZ,bk];exact ax)
    refine .inl (ZR (v:=v2) (w':=w) ?_ ?_)
    ·simp only [execOp,h5,XC,Option.map_none,Sem.run_bind,e2,e3,bj,Result.andThen_ok,Sem.run_pure]
    rw [wpOps_cons];unfold wpOp;simp only [c3,Region.wanted,ct];simp only [if_true]
    have e4:Act.eval (Act.put (Act.put (Act.put ⟨y,[]⟩ o.dst (y.getD x undef)) p.dst (.int .i64 (M.den ρ))) q.dst v2) (.tmp cc)=v2:=by
     rw [h2,h4,h6];exact Ki _ cc _ (by show cc < ((y.setIfInBounds a _).setIfInBounds b _).size;rw [TZ,TZ,bk];exact ag)
    refine .inl (ZR (v:=.tuple #[]) (w':=w') ?_ ?_)
    ·simp only [execOp,h7,h9,cu,cv,resolve,invoke,builtin,Sem.run_bind,Sem.run_pure,Result.andThen_ok,U5,Xn,XI,e4,b6]
    have bf:Zar (JV E s ρ a):=Ju (Kv (a:=gE E s a) (b:=.dead) ρ a7);have c4:Zar (JV E s ρ b):=Ju (Kv (a:=gE E s b) (b:=.dead) ρ cq);have c5:Zar (JV E s ρ cc):=Ju (Kv (a:=gE E s cc) (b:=.dead) ρ cr);have s1:=O.put (d:=a) (k:=0) (x:=.dead) (v:=y.getD x undef) (by rw [aa];exact aw) (by rw [ZQ _ _ (Ne.symm bp)];exact bf) rfl trivial;have s2:=s1.put (d:=b) (k:=0) (x:=.dead) (v:=.int .i64 (M.den ρ)) (by rw [aa];exact ax) (by rw [ZQ _ _ (Ne.symm b1),ZQ _ _ (Ne.symm ck)];exact c4) rfl trivial;have s3:=s2.put (d:=cc) (k:=0) (x:=.dead) (v:=v2) (by rw [aa];exact ag) (by rw [ZQ _ _ (Ne.symm cp),ZQ _ _ (Ne.symm co),ZQ _ _ (Ne.symm cm)];exact c5) rfl trivial
    have c6:P1 .sub .i64 ((l.den ρ).length:Int) (M.den ρ)=((l.den ρ).length:Int)-M.den ρ:=by
     show IntKind.i64.wrap _=_;rw [IntKind.wrap_i64];unfold maxLen at cz;omega
    have bl:(LE.app (.take l M) (.rep (.bin .sub .i64 (.len l) M) (ZoE zc'))).den ρ=(l.den ρ).take (M.den ρ).toNat++Xx ((l.den ρ).length-(M.den ρ).toNat) (zc'.map (SC.den ρ)):=by
     show (l.den ρ).take (M.den ρ).toNat++Xx (P1 .sub .i64 ((l.den ρ).length:Int) (M.den ρ)).toNat ((ZoE zc').den ρ)=_;rw [c6,ZbB];congr 2;omega
    have bx:(gE E s x).bd n:=L x;have bi:(gE E s i).bd n:=L i;rw [bu] at bx;rw [bv] at bi
    have bg:JV E ((((s.set depth x (.own Xb e (.app (.take l M) (.rep (.bin .sub .i64 (.len l) M) (ZoE zc'))))).set depth a .dead).set depth b .dead).set depth cc .dead) ρ=upd (upd (upd (upd (JV E s ρ) x (.own Xb e ((l.den ρ).take (M.den ρ).toNat++Xx ((l.den ρ).length-(M.den ρ).toNat) (zc'.map (SC.den ρ))))) a .dead) b .dead) cc .dead:=by
     rw [KD D (Ke ag),KD D (Ke ax),KD D (Ke aw),KD D (Ke b0)];simp only [SV.den,bl]
    have ar:WV E ((((s.set depth x (.own Xb e (.app (.take l M) (.rep (.bin .sub .i64 (.len l) M) (ZoE zc'))))).set depth a .dead).set depth b .dead).set depth cc .dead) n:=
     Y1 D (Ke ag) (Y1 D (Ke ax) (Y1 D (Ke aw) (Y1 D (Ke b0) L ⟨⟨bx,bi⟩,⟨bx,bi⟩,Zem _ (W4 _ _ _ a2 (WW bz))⟩) trivial) trivial) trivial
    rw [h2,h4,h6,h8];exact Y _ _ ρ A (fun _ _=>rfl) ar h _ w' lim _ (by rw [bg];exact s3)
   ·exact ZiN hm b7 D (fun d hd=>Zm0 ρ hd) L h ab aa f fun N n' G O h'=>Y N n' G A (fun _ _=>rfl) O h'
 | _ => intro lv n s kn kx Z A ρ y w lim X Q L h f Y hx hr; exact h.elim
end
def ZaJ (b:Array Value):ResultVar→Sem Value
 | .tmp t => pure (b.getD t undef)
 | .cell a t => do loadVar t (← asAddr (b.getD a undef))
def ZjK:ResultVar→Nat
 | .tmp _ => 0
 | .cell _ _ => 1
def Zow (a:Func) (b:Array Value):results a b=(do
  let vs ← a.results.mapM (ZaJ b)
  pure (if h:vs.size=1 then vs[0] else .tuple vs)):=by
 unfold results;congr 1
def ZmF {P:Program} {w:World} {f:ResultVar→Sem Value} : ∀ (a:List ResultVar) (vs:List Value),a.length=vs.length→
  (∀ (i:Nat) (r:ResultVar) (v:Value),a[i]? = Xa r→vs[i]? = Xa v→(f r).run P w = .ok v w)→(a.mapM f).run P w = .ok vs w
 | [], [], _, _ => by simp
 | [], _ :: _, h, _ => by simp at h
 | _ :: _, [], h, _ => by simp at h
 | r :: a, v :: vs, h, hf => by
  have b:=hf 0 r v rfl rfl;have c:=ZmF a vs (by simpa using h) fun i d e g j=>hf (i+1) d e (by simpa using g) (by simpa using j);simp [List.mapM_cons,b,c]
def Zea {P:Program} {w:World} {a:Func} {b:Array Value} {vs:List Value} (c:a.results.toList.length=vs.length)
  (d:∀ (i:Nat) (r:ResultVar) (v:Value),a.results.toList[i]? = Xa r→vs[i]? = Xa v→(ZaJ b r).run P w = .ok v w) :
  (results a b).run P w = .ok (match vs with | [v]=>v | vs=>.tuple vs.toArray) w:=by
 have h:=ZmF _ _ c d;rw [Zow,Array.mapM_eq_mapM_toList];simp only [Sem.run_bind,Sem.run_map,h,Result.andThen_ok];rcases vs with _ | ⟨v,_ | ⟨u,l⟩⟩ <;> simp
section
variable {P:Program} {E:Env}
def Zi6 {c:Ctx} (n:c.P=P) {s:Tr} {ρ:Nat→V} {C:Array Value} {w:World} {lim:Nat→Nat} {X:Nat→Nat→Option Nat} (D:Sim c (JV E s ρ) C w lim X) {r:ResultVar} {x:TC}
  (h:Zfz P (gE E s) r=Xa x):∃ v,(ZaJ C r).run P w = .ok v w∧KI P w lim (X (Kk r) (ZjK r)) (x.den ρ) v:=by
 cases r with
 | tmp t =>
  have d:=D.rel t;simp only [Zfz] at h;split at h
  ·rename_i y f;simp only [Xg] at h;subst h;have:JV E s ρ t=y.den ρ:=by simp only [JV,f,SV.den]
   rw [this] at d;exact ⟨_,rfl,by cases y<;>exact d⟩
  ·rename_i cs f;simp only [Xg] at h;subst h;have:JV E s ρ t = .agg (cs.map (SC.den ρ)):=by simp only [JV,f,SV.den]
   rw [this] at d;exact ⟨_,rfl,d⟩
  ·rename_i b e xs f;simp only [Xg] at h;subst h;have:JV E s ρ t = .own b e (xs.den ρ):=by simp only [JV,f,SV.den]
   rw [this,n] at d;exact ⟨_,rfl,d⟩
  ·cases h
 | cell t T =>
  have d:=D.rel t;simp only [Zfz] at h;split at h
  ·rename_i cs g f;split at h
   ·rename_i k;simp only [Xg] at h;subst h;have:JV E s ρ t = .box (cs.map (BC.den ρ)):=by simp only [JV,f,SV.den]
    rw [this,n] at d;obtain ⟨b,us,W,H,G,g4,J,L⟩:=Jt.part (show Jt P w lim (X t) _ _ from d) 0 (P.cellsOf T) (by simp [k.1]) (by rw [X7,UM (by simp [k.1])];exact W2 k.2 ρ);refine ⟨.agg us.toArray,?_,?_⟩
    ·obtain ⟨i,M⟩:=Zft g;have l:=run_loadCells_list (P:=P) w ⟨b,0,Xe⟩ us (fun j v N=>by rw [YY];exact g4 j v N);rw [G] at l;simp [ZaJ,H,asAddr,loadVar,Zcm g,Z7 M,l]
    ·have O:(TC.agg (cs.map (Zgb P))).den ρ = .agg ((((cs.map (BC.den ρ)).drop 0).take (P.cellsOf T)).map (VA P)):=by
      rw [X7,UM (by simp [k.1])];simp only [TC.den,UB];congr 1;exact Tu fun b _=>Zfr P ρ b
     rw [O];exact .agg (by simp [G,k.1]) J L
   ·cases h
  ·rename_i Q e xs g f;simp only [Xg] at h;subst h;have:JV E s ρ t = .box [.own Q e (xs.den ρ)]:=by simp only [JV,f,SV.den];rfl
   rw [this,n] at d;obtain ⟨b,arr,ty,R,o,p,q,S,U,z⟩:=(show Jt P w lim (X t) _ _ from d);obtain ⟨u,m⟩:∃ u,arr[0]? = Xa u:=⟨_,UO (by rw [q];simp)⟩;refine ⟨u,?_,z 0 _ u rfl m⟩;have a:w.cell? ⟨b,0,Xe⟩=Xa u:=by rw [J5 p];exact m
   simp [ZaJ,o,asAddr,loadVar,V9 g,a]
  ·rename_i y g f;simp only [Xg] at h;subst h;have:JV E s ρ t = .box [y.den ρ]:=by simp only [JV,f,SV.den];rfl
   rw [this,n] at d;obtain ⟨b,arr,ty,R,o,p,q,S,U,z⟩:=(show Jt P w lim (X t) _ _ from d);obtain ⟨u,m⟩:∃ u,arr[0]? = Xa u:=⟨_,UO (by rw [q];simp)⟩;have A:=z 0 _ u rfl m;refine ⟨u,?_,by cases y<;>exact A⟩;have a:w.cell? ⟨b,0,Xe⟩=Xa u:=by rw [J5 p];exact m
   simp [ZaJ,o,asAddr,loadVar,V9 g,a]
  ·cases h
def ZhV {c:Ctx} (g:c.P=P) {s:Tr} {ρ:Nat→V} {j:Array Value} {w:World} {lim:Nat→Nat} {X:Nat→Nat→Option Nat} (k:Sim c (JV E s ρ) j w lim X):∀ (a:List ResultVar) (xs:List TC),
  Zfl P (gE E s) a=Xa xs→∃ vs:List Value,a.length=vs.length∧xs.length=vs.length∧∀ (i:Nat) (r:ResultVar) (v:Value),a[i]? = Xa r→vs[i]? = Xa v→
   (ZaJ j r).run P w = .ok v w∧∀ x,xs[i]? = Xa x→KI P w lim (X (Kk r) (ZjK r)) (x.den ρ) v
 | [], xs, h => by
  simp only [Zfl,Xg] at h;subst h;exact ⟨[],rfl,rfl,by simp⟩
 | r :: a, xs, h => by
  simp only [Zfl] at h;split at h
  ·rename_i x xs' l d;simp only [Xg] at h;subst h;obtain ⟨v,m,n⟩:=Zi6 g k l;obtain ⟨vs,o,p,q⟩:=ZhV g k a xs' d;refine ⟨v::vs,by simp [o],by simp [p],fun i t u e f=>?_⟩
   cases i with
   | zero =>
    simp only [XQ,Xg] at e f;subst e;subst f;refine ⟨m,fun y b=>?_⟩;simp only [XQ,Xg] at b;subst b;exact n
   | succ i =>
    obtain ⟨z,A⟩:=q i t u (by simpa using e) (by simpa using f);exact ⟨z,fun y b=>A y (by simpa using b)⟩
  ·cases h
def ZkE {w:World} {lim:Nat→Nat} {X:Nat→Nat→Option Nat} {σ:Nat→AV} {d:Nat} {x:TC} {ρ:Nat→V} {v:Value} (h:KI P w lim (X d 0) (x.den ρ) v):Jx P w lim X σ d (x.den ρ) v:=by
 cases x with
 | c y => cases y <;> exact h
 | agg cs => exact h
 | own x e l => exact h
 | gone => trivial
def Zf6 (ρ:Nat→V):∀ (b:List SV) (i:Nat) (σ:Nat→AV) (d:Nat),Kb σ ((W7 b i).map fun u=>(u.1,u.2.den ρ)) d=if i≤d∧d < i+b.length then JG (b.map (SV.den ρ)) (d-i) else σ d
 | [], i, σ, d => by
  rw [P3 (by simp)];rfl
 | a :: b, i, σ, d => by
  simp only [W7,Xn,Kb];rw [Zf6 ρ b (i+1)];by_cases h:i+1≤d∧d < i+1+b.length
  ·rw [P4 h,P4 (by simp only [Xv];omega)];obtain ⟨k,c⟩:∃ k,d-i=k+1:=⟨d-i-1,by omega⟩;rw [c,show d-(i+1)=k by omega];simp [JG]
  ·rw [P3 h];by_cases hd:d=i
   ·subst hd;rw [J9,P4 (by simp)];simp [JG]
   ·rw [ZQ _ _ hd,P3 (by simp only [Xv];omega)]
def Zjh {n:Nat} : ∀ (c:List SV) (i:Nat),(∀ a∈c,a.bd n)→∀ u∈W7 c i,u.2.bd n
 | [], i, _, u, hu => by simp [W7] at hu
 | a :: c, i, h, u, hu => by
  rcases Xs.1 hu with rfl | hu
  ·exact h a (by simp)
  ·exact Zjh c (i+1) (fun b d=>h b (by simp [d])) u hu
def ZfQ:∀ (b:List SV) (i m:Nat),i+b.length≤m→∀ u∈W7 b i,u.1 < m
 | [], i, m, _, u, hu => by simp [W7] at hu
 | a :: b, i, m, h, u, hu => by
  simp only [Xv] at h;rcases Xs.1 hu with rfl | hu
  ·show i < m;omega
  ·exact ZfQ b (i+1) m (by omega) u hu
def SV.isBx:SV→Bool
 | .box _ => Xb
 | .gbox _ => Xb
 | _ => Xc
def Wa {a:SV} {b:List SV} {i:Nat} (h:Yo E (a::b) i=Xb):Yo E b (i+1)=Xb:=by
 cases a<;>simp only [Yo,Xj,Xw] at h<;>exact h.2
def ZaG:∀ (c:List SV) (i:Nat),Yo E c i=Xb→∀ (j:Nat) (a:SV),c[j]? = Xa a→(∀ cs,a = .box cs→i+j∈E.pins)∧(a.isG=Xb↔E.nt≤i+j)
 | [], i, _, j, a, h => by simp at h
 | a :: c, i, hf, j, b, h => by
  cases j with
  | zero =>
   simp only [XQ,Xg] at h;subst h;refine ⟨fun cs e=>?_,?_⟩
   ·subst e;simp only [Yo,Xj,UZ] at hf;exact hf.1.2
   ·cases a<;>simp only [Yo,Xj,P5,Xw] at hf<;>simp only [SV.isG,Xw,false_iff,true_iff]<;>omega
  | succ j =>
   have:=ZaG c (i+1) (Wa hf) j b (by simpa using h);rw [show i+(j+1)=i+1+j by omega];exact this
def Znq (g:Nat→SV):∀ (b:List SV) (i j:Nat),(Zek g b i)[j]? = (b[j]?).map fun a=>if a.isBx=Xb then g (i+j) else .dead
 | [], i, j => by simp [Zek]
 | a :: b, i, 0 => by cases a <;> rfl
 | a :: b, i, j + 1 => by
  have:=Znq g b (i+1) j;rw [show i+1+j=i+(j+1) by omega] at this
  cases a<;>simpa [Zek] using this
def ZjD (g:Nat→SV):∀ (b:List SV) (i:Nat),(Zek g b i).length=b.length
 | [], i => rfl
 | a :: b, i => by cases a <;> simp [Zek, ZjD g b]
def ZeS (args:List SV) (a:List ResultVar) (i k:Nat):Option (Nat×Nat):=
 if i < args.length then (if (args[i]?).map SV.isBx=Xa Xb then Xa (i,k) else Xe)
 else if i=args.length then
  match a with
  | [r] => if k = 0 then Xa (Kk r, ZjK r) else Xe
  | a => match k with | 0 => Xe | k + 1 => (a[k]?).map fun r => (Kk r, ZjK r)
 else Xe
def Znn:∀ (c:List ResultVar),(c.map Kk).Nodup→∀ (i j:Nat) (a b:ResultVar),c[i]? = Xa a→c[j]? = Xa b→Kk a=Kk b→i=j
 | [], _, i, j, a, b, h, _, _ => by simp at h
 | r :: c, hn, i, j, a, b, ha, hb, he => by
  rw [Xn,UY] at hn
  cases i with
  | zero =>
   cases j with
   | zero => rfl
   | succ j =>
    simp only [XQ,Xg] at ha;subst ha;exact (hn.1 (XB.2 ⟨b,Xt (by simpa using hb),he.symm⟩)).elim
  | succ i =>
   cases j with
   | zero =>
    simp only [XQ,Xg] at hb;subst hb;exact (hn.1 (XB.2 ⟨a,Xt (by simpa using ha),he⟩)).elim
   | succ j => rw [Znn c hn.2 i j a b (by simpa using ha) (by simpa using hb) he]
def Zc8 {args:List SV} {a:List ResultVar} {k:Nat} {p:Nat×Nat} (h:ZeS args a args.length k=Xa p) :
  ∃ j r,a[j]? = Xa r∧p=(Kk r,ZjK r)∧((a.length=1∧j=0∧k=0)∨(a.length≠1∧k=j+1)):=by
 unfold ZeS at h;rw [P3 (U8 _),P4 rfl] at h;split at h
 ·rename_i r;split at h
  ·rename_i d;simp only [Xg] at h;exact ⟨0,r,rfl,h.symm,.inl ⟨rfl,rfl,d⟩⟩
  ·cases h
 ·rename_i b;split at h
  ·cases h
  ·rename_i k
   cases hr:a[k]? with
   | none => simp [hr] at h
   | some r =>
    simp only [hr,XC,Xg] at h;refine ⟨k,r,hr,h.symm,.inr ⟨fun e=>?_,rfl⟩⟩;obtain ⟨f,c⟩:=Tp.1 e;exact b f c
def ZsX {args:List SV} {f:List ResultVar} (w:Zhq args f=Xb) {i k m n:Nat} {p:Nat×Nat} (h:ZeS args f i k=Xa p) (o:ZeS args f m n=Xa p):i=m∧k=n:=by
 simp only [Zhq,Xj] at w;obtain ⟨y,x⟩:=w;have q:=Zbz _ y
 have b:∀ i k p,ZeS args f i k=Xa p→(i < args.length∧p=(i,k)∧∃ a,args[i]? = Xa a∧a.isBx=Xb)∨i=args.length:=by
  intro i k p h;unfold ZeS at h;split at h
  ·rename_i s;split at h
   ·rename_i t;simp only [Xg] at h;obtain ⟨a,u,d⟩:=Option.map_eq_some_iff.1 t;exact .inl ⟨s,h.symm,a,u,d⟩
   ·cases h
  ·split at h
   ·rename_i s;exact .inr s
   ·cases h
 have g:∀ (j:Nat) (r:ResultVar),f[j]? = Xa r→∀ a,args[Kk r]? = Xa a→a.isBx=Xb→False:=by
  intro j r z a u d;rw [Xo] at x;have:=x r (Xt z);rw [u] at this
  cases a<;>simp [SV.isBx] at d<;>cases this
 rcases b i k p h with ⟨h1,h2,a,h3,h4⟩ | h1<;>rcases b m n p o with ⟨h1',h2',a',h3',h4'⟩ | h1'
 ·rw [h2] at h2';simp only [XG] at h2';exact h2'
 ·subst h1';obtain ⟨j,r,l,c,_⟩:=Zc8 o;rw [h2] at c;simp only [XG] at c;exact (g j r l a (by rw [← c.1];exact h3) h4).elim
 ·subst h1;obtain ⟨j,r,l,c,_⟩:=Zc8 h;rw [h2'] at c;simp only [XG] at c;exact (g j r l a' (by rw [← c.1];exact h3') h4').elim
 ·subst h1;subst h1';obtain ⟨j,r,l,c,G⟩:=Zc8 h;obtain ⟨A,C,v,e,D⟩:=Zc8 o;rw [c] at e;simp only [XG] at e;have:=Znn f q j A r C l v e.1;refine ⟨rfl,?_⟩;omega
end
def ZsN (P:Program) (rec:TypeId→Bool) (e:Nat):List Field→Nat→Bool
 | [], _ => Xb
 | f :: fs, off => (f.name != "_") && (f.offset == off) &&
  (match P.underlying f.type with
   | some (.int _) => Xb
   | some .bool => Xb
   | some (.struct _) => rec f.type && (P.info? f.type).isSome
   | _ => Xc) &&
  (match VP P e f.type with | some l=>(P.cellsOf f.type == l.length)&&ZsN P rec e fs (off+l.length) | none=>Xc)
def ZnO (P:Program):Nat→TypeId→Bool
 | 0, _ => Xc
 | e + 1, T =>
  match P.underlying T with
  | some (.struct fs) => ZsN P (ZnO P e) e fs.toList 0 && !P.stoodInHeld T
  | _ => Xc
def Zy1 (P:Program) (T:TypeId):Bool:=ZnO P 8 T&&!P.eqGuardType P.depth T
def Zaa:∀ (L1 L2:List Sh) (us:List Value),KK (L1++L2) us→KK L1 (us.take L1.length)∧KK L2 (us.drop L1.length)∧(us.take L1.length).length=L1.length
 | [], L2, us, h => ⟨by simp [KK], by simpa using h, by simp⟩
 | s :: L1, L2, [], h => by cases s <;> exact h.elim
 | s :: L1, L2, u :: us, h => by
  cases s<;>cases u<;>try exact h.elim
  ·obtain ⟨a,b,c⟩:=Zaa L1 L2 us h.2;exact ⟨⟨h.1,a⟩,b,by simpa using c⟩
  ·obtain ⟨a,b,c⟩:=Zaa L1 L2 us h;exact ⟨a,b,by simpa using c⟩
def Zk9:∀ (L:List Sh) (a c b d:List Value),KK L a→KK L c→eqV (a++b) (c++d)=(eqV a c&&eqV b d)
 | [], [], [], b, d, _, _ => by simp [eqV]
 | [], _ :: _, _, _, _, h, _ => h.elim
 | [], [], _ :: _, _, _, _, h => h.elim
 | s :: L, [], _, _, _, h, _ => by cases s <;> exact h.elim
 | s :: L, _ :: _, [], _, _, _, h => by cases s <;> exact h.elim
 | s :: L, x :: a, y :: c, b, d, h, h' => by
  cases s<;>cases x<;>(try exact h.elim)<;>cases y<;>try exact h'.elim
  ·simp only [XV,eqV,Zk9 L a c b d h.2 h'.2,Bool.and_assoc]
  ·simp only [XV,eqV,Zk9 L a c b d h h',Bool.and_assoc]
section
variable {P:Program}
def Zt0 (P:Program) (e k:Nat) (T:TypeId):Prop:=∀ (L:List Sh) (us vs:List Value) (w:World),VP P e T=Xa L→KK L us→KK L vs→
 (Op.equalIn (k+e) T (.agg us.toArray) (.agg vs.toArray)).run P w = .ok (eqV us vs) w
def Zew (e k:Nat) (rec:TypeId→Bool) (hrec:∀ T,rec T=Xb→Zt0 P e k T) (w:World) (us vs:List Value):∀ (fs:List Field) (n:Nat) (L:List Sh),ZsN P rec e fs n=Xb→
  fs.foldr (fun f acc=>match VP P e f.type,acc with | some a,Xa b=>Xa (a++b) | _,_=>Xe) (Xa [])=Xa L→KK L (us.drop n)→KK L (vs.drop n)→
  (Op.eqFields (k+e) us.toArray vs.toArray fs).run P w = .ok (eqV (us.drop n) (vs.drop n)) w
 | [], n, L, _, hL, hu, hv => by
  simp only [List.foldr_nil,Xg] at hL;subst hL
  cases h:us.drop n with
  | nil => simp [Op.eqFields, eqV]
  | cons x l => rw [h] at hu; exact hu.elim
 | f :: fs, n, L, hf, hL, hu, hv => by
  simp only [ZsN,Xj,bne_iff_ne,ne_eq,beq_iff_eq] at hf;obtain ⟨⟨⟨hname,hoff⟩,hty⟩,hrest⟩:=hf;simp only [List.foldr_cons] at hL;split at hL
  case h_2=>cases hL
  rename_i a L' ha hL';simp only [Xg] at hL;subst hL;rw [ha] at hrest;simp only [Xj,beq_iff_eq] at hrest;obtain ⟨hcells,hrest⟩:=hrest;obtain ⟨u1,u2,u3⟩:=Zaa a L' _ hu;obtain ⟨v1,v2,v3⟩:=Zaa a L' _ hv;rw [UU] at u2 v2;have ih:=Zew e k rec hrec w us vs fs (n+a.length) L' hrest hL' u2 v2
  have hus:us.drop n=(us.drop n).take a.length++us.drop (n+a.length):=by
   rw [← UU,Te]
  have hvs:vs.drop n=(vs.drop n).take a.length++vs.drop (n+a.length):=by
   rw [← UU,Te]
  have hev:eqV (us.drop n) (vs.drop n)=(eqV ((us.drop n).take a.length) ((vs.drop n).take a.length)&&eqV (us.drop (n+a.length)) (vs.drop (n+a.length))):=by
   rw [hus,hvs];have:=Zk9 a ((us.drop n).take a.length) ((vs.drop n).take a.length) (us.drop (n+a.length)) (vs.drop (n+a.length)) u1 v1;rw [← hus,← hvs] at this ⊢;exact this
  rw [hev]
  -- the field's value
  suffices hx:∃ x y,(part f.type us.toArray f.offset).run P w = .ok x w∧(part f.type vs.toArray f.offset).run P w = .ok y w∧(Op.equalIn (k+e) f.type x y).run P w = .ok (eqV ((us.drop n).take a.length) ((vs.drop n).take a.length)) w by
   obtain ⟨x,y,p1,p2,p3⟩:=hx;simp only [Op.eqFields,hname,ne_eq,not_false_eq_true,if_true,Sem.run_bind,p1,p2,p3,Result.andThen_ok,Sem.run_ite]
   cases h:eqV ((us.drop n).take a.length) ((vs.drop n).take a.length)
   ·simp
   ·simpa using ih
  have he:∃ e',e=e'+1:=by
   cases e with
   | zero => simp [VP] at ha
   | succ e' => exact ⟨e', rfl⟩
  obtain ⟨e',rfl⟩:=he
  have one:∀ (l:List Value),((l.drop n).take 1).length=1→∃ x,(l.drop n).take 1 = [x]∧l[n]? = Xa x:=by
   intro l hl
   cases h:l.drop n with
   | nil => rw [h] at hl; simp at hl
   | cons x r =>
    refine ⟨x,rfl,?_⟩;have:=congrArg (fun l=>l[0]?) h;simpa using this
  split at hty
  ·rename_i kk hk
   have ha':a = [.int kk]:=by
    simp only [VP,hk,Xg] at ha;exact ha.symm
   subst ha';obtain ⟨x,x1,x2⟩:=one us u3;obtain ⟨y,y1,y2⟩:=one vs v3;simp only [Xv,Xm,X9] at u1 v1 ⊢;rw [x1] at u1 ⊢;rw [y1] at v1 ⊢
   cases x<;>try exact u1.elim
   cases y<;>try exact v1.elim
   obtain ⟨rfl,_⟩:=u1;obtain ⟨rfl,_⟩:=v1
   have p1:∀ (l:List Value) (x:Value),l[n]? = Xa x→(part f.type l.toArray f.offset).run P w = .ok x w:=by
    intro l x h;rw [hoff];have:l.toArray[n]? = Xa x:=by simpa using h
    simp [part,isAgg,run_underlying hk,this]
   refine ⟨_,_,p1 us _ x2,p1 vs _ y2,?_⟩;rw [show k+(e'+1)=(k+e')+1 from rfl,run_equalIn_int w (k+e') f.type _ _ _ _ hk];simp [eqV]
  ·rename_i hk
   have ha':a = [.bool]:=by
    simp only [VP,hk,Xg] at ha;exact ha.symm
   subst ha';obtain ⟨x,x1,x2⟩:=one us u3;obtain ⟨y,y1,y2⟩:=one vs v3;simp only [Xv,Xm,X9] at u1 v1 ⊢;rw [x1] at u1 ⊢;rw [y1] at v1 ⊢
   cases x<;>try exact u1.elim
   cases y<;>try exact v1.elim
   have p1:∀ (l:List Value) (x:Value),l[n]? = Xa x→(part f.type l.toArray f.offset).run P w = .ok x w:=by
    intro l x h;rw [hoff];have:l.toArray[n]? = Xa x:=by simpa using h
    simp [part,isAgg,run_underlying hk,this]
   refine ⟨_,_,p1 us _ x2,p1 vs _ y2,?_⟩;rw [show k+(e'+1)=(k+e')+1 from rfl,run_equalIn_bool' w (k+e') f.type _ _ hk];simp [eqV]
  ·rename_i gs hk;rw [Xj] at hty;obtain ⟨inf,hinf⟩:=Option.isSome_iff_exists.1 hty.2;have hsz:P.cellsOf f.type=inf.size:=JL hinf
   have p1:∀ (l:List Value),(part f.type l.toArray f.offset).run P w = .ok (.agg ((l.drop n).take a.length).toArray) w:=by
    intro l;rw [hoff];have hag:(isAgg f.type).run P w = .ok Xb w:=by simp [isAgg,run_underlying hk]
    have:l.toArray.extract n (n+inf.size)=((l.drop n).take a.length).toArray:=by
     apply Ud.1;rw [Array.toList_extract];simp [List.extract_eq_take_drop,← hcells,hsz]
    rw [← hsz,hcells] at this;simp [part,hag,Z7 hinf,← hsz,hcells]
   exact ⟨_,_,p1 us,p1 vs,hrec f.type hty.1 a _ _ w ha u1 v1⟩
  ·cases hty
def Zqr:∀ (e k:Nat) (T:TypeId),ZnO P e T=Xb→Zt0 P e k T
 | 0, _, _, h => by simp [ZnO] at h
 | e + 1, k, T, h => by
  intro L us vs w c f g;unfold ZnO at h;split at h
  ·rename_i d a;simp only [Xj,Xu] at h;have b:P.fieldsOf T=d:=by simp only [Program.fieldsOf,a]
   rw [show k+(e+1)=(k+e)+1 from rfl,run_equalIn_struct w (k+e) T _ _ (by rw [b];exact a) h.2,b]
   have:=Zew e k (ZnO P e) (fun T' i=>Zqr e k T' i) w us vs d.toList 0 L h.1 (by
    rw [VP] at c;simp only [a] at c;exact c) (by simpa using f) (by simpa using g)
   simpa using this
  ·cases h
def ZsZ {a:List TypeId} (h:a.all (Zy1 P)=Xb):PlainSound P a:=by
 intro T c;rw [Xo] at h;have b:=h T c;unfold Zy1 at b;simp only [Xj,Xu] at b;exact ⟨b.2,fun L d us vs e f w=>Zqr 8 9992 T b.1 L us vs w d e f⟩
end
def ZBk (l:List V):Nat→V:=fun n=>(l[n]?).getD (.i 0)
abbrev I (z:Int):AV:=.val (.int .i64 z)
abbrev B (b:Bool):AV:=.val (.bool b)
def YK {z:Int} (a : -(2^63:Int)≤z) (b:z < 2^63):IntKind.i64.wrap z=z:=by
 have e:(2:Int)^63=9223372036854775808:=by decide
 rw [e] at a b;simp only [Xi];have:IntKind.i64.signed=Xb:=rfl;simp [this,IntKind.bits];omega
def Jc {z:Int} (b:0≤z) (a:z < 2^64):IntKind.u64.wrap z=z:=by
 have e:(2:Int)^64=18446744073709551616:=by decide
 rw [e] at a;simp only [Xi];have:IntKind.u64.signed=Xc:=rfl;simp [this,IntKind.bits];omega
def JE {a b:Int} (c : -(2^63:Int)≤a+b) (d:a+b < 2^63):P1 .add .i64 a b=a+b:=YK c d
def Ze0 {a b:Int} (c : -(2^63:Int)≤a-b) (d:a-b < 2^63):P1 .sub .i64 a b=a-b:=YK c d
def Zfd {a b:Int} (c : -(2^63:Int)≤a*b) (d:a*b < 2^63):P1 .mul .i64 a b=a*b:=YK c d
def Zyr {b:Int} (h:b≤62):P1 .shl .i64 1 b=2^b.toNat:=by
 have d:b.toNat≤62:=by omega
 have e:(2:Int)^b.toNat≤2^62:=by
  have:=Tk (n:=2) (by omega) d
  exact_mod_cast this
 have c:(0:Int) < 2^b.toNat:=by
  have:=Nat.pow_pos (n:=b.toNat) (show 0 < 2 by omega)
  exact_mod_cast this
 have f:(2:Int)^62=4611686018427387904:=by decide
 have g:(2:Int)^63=9223372036854775808:=by decide
 have a:min b.toNat IntKind.i64.bits=b.toNat:=by
  have:IntKind.i64.bits=64:=rfl;omega
 simp only [P1,a,Int.one_mul];rw [YK (by omega) (by omega)]
def Yn (n:Nat):(0:Int) < 2^n:=by
 have:=Nat.pow_pos (n:=n) (show 0 < 2 by omega)
 exact_mod_cast this
def ZgF {m n:Nat} (h:m≤n):(2:Int)^m≤2^n:=by
 have:=Tk (n:=2) (by omega) h
 exact_mod_cast this
def ZK (a b:Int):(P0 .lss a b=Xb)=(a < b):=by simp [P0]
def ZN (a b:Int):(P0 .lss a b=Xc)=(b≤a):=by simp [P0]
def ZL (a b:Int):(P0 .leq a b=Xb)=(a≤b):=by simp [P0]
def ZJ (a b:Int):(P0 .leq a b=Xc)=(b < a):=by simp [P0]
def ZI (a b:Int):(P0 .gtr a b=Xb)=(b < a):=by simp [P0]
def ZG (a b:Int):(P0 .gtr a b=Xc)=(a≤b):=by simp [P0]
def ZM (a b:Int):(P0 .geq a b=Xb)=(b≤a):=by simp [P0]
def ZO (a b:Int):(P0 .geq a b=Xc)=(a < b):=by simp [P0]
def ZP (a b:Int):(P0 .eql a b=Xb)=(a=b):=by simp [P0]
def ZF (a b:Int):(P0 .eql a b=Xc)=(a≠b):=by simp [P0]
def ZE (a b:Int):(P0 .neq a b=Xb)=(a≠b):=by simp [P0]
def ZH (a b:Int):(P0 .neq a b=Xc)=(a=b):=by simp [P0]
def Zm (x y:Bool):(x=y)=(x=Xb↔y=Xb):=by cases x<;>cases y<;>simp
section
variable {P:Program} {E:Env}
def callOk_ofR {R : AV → List AV → Prop} (hm : P.follows .mixedOrders = Xb) (hps : PlainSound P E.plain) {f : FuncId} {fn : Func} (hf : P.funcs[f]? = Xa fn) (hname : (fn.name == "runtime.NumGoroutine") = Xc) {args : List SV} {n : Nat} {ρ : Nat → V}
  (hargs:∀ a∈args,a.bd n) {res:AV} {outs:List AV} (hR:∀ r os,R r os→Zax P (os++[r]) (outs++[res])) (h:(ZDf P E fn args n).wp P R (fun _ _=>False) ρ):Kg P f (args.map (SV.den ρ)) res outs:=by
 unfold ZDf at h;split at h
 case h_2=>exact h.elim
 rename_i code hbody;dsimp only at h;split at h
 case isFalse=>exact h.elim
 rename_i hh;obtain ⟨hnt,hnm,hal,hng,haf⟩:=hh;have hat:=ZaG args 0 haf;refine ⟨⟨fn,hf,hname,by rw [hbody];rfl⟩,?_⟩;intro w lim X cargs hcl hrel hdist hsize;rw [Xk] at hcl
 have hgl:∀ (aZ:List SV) (i:Nat),Yo E aZ i=Xb→i+aZ.length≤E.nt+((aZ.map (SV.den ρ)).countP AV.isG)∨aZ.length≤(aZ.map (SV.den ρ)).countP AV.isG:=by
  intro aZ
  induction aZ with
  | nil => intro i _; exact .inr (XT _)
  | cons a aZ ih =>
   intro i hf;have h0:=ZaG (a::aZ) i hf 0 a rfl;have hd:(a.den ρ).isG=a.isG:=by cases a<;>first | rfl | (rename_i x;cases x<;>rfl)
   rw [Xn,U7,hd,Xv];by_cases hg:a.isG=Xb
   ·rw [P4 hg];rcases ih (i+1) (Wa hf) with h1 | h1
    ·left;omega
    ·right;omega
   ·rw [P3 hg]
    have h2:i < E.nt:=by
     rcases Ub i E.nt with h | h
     ·exact h
     ·exact (hg (h0.2.2 (by simpa using h))).elim
    rcases ih (i+1) (Wa hf) with h1 | h1
    ·left;omega
    ·left;omega
 have hcn:cargs.length≤E.nt:=by
  rcases hgl args 0 haf with h1 | h1<;>omega
 have hcd:∀ d,d < args.length→(∃ a,args[d]? = Xa a):=fun d hd=>⟨_,Xp hd⟩;refine calls_of_wp hf hbody ?_
 let c:Ctx:=⟨P,w,lim,fun b=>∃ i k,X i k=Xa b,E.nt,fun d=>match args[d]? with | some (.box _)=>Xa (cargs.getD d undef) | _=>Xe,fun d=>match args[d]? with | some (.gbox _)=>X d 0 | _=>Xe⟩
 have hlow:ZaQ E (W7 args 0):=by
  unfold ZaQ;rw [Xo];intro u hu;have:=ZfQ args 0 E.top (by omega) u hu;simpa using this
 have hσ:JV E (Yy (W7 args 0) (.leaf .dead)) ρ=JG (args.map (SV.den ρ)):=by
  rw [Ku hnt ρ _ _ hlow];funext d;rw [Zf6,X9,Nat.sub_zero];split
  ·rfl
  ·rename_i hd
   have h1:JV E (.leaf .dead) ρ d = .dead:=by
    simp only [JV,gE];split<;>rfl
   have h2:(args.map (SV.den ρ))[d]? = Xe:=UH (by rw [Xk];omega);rw [h1];simp only [JG,h2];rfl
 have htm:∀ d,(cargs.toArray++Array.replicate (fn.ntmps-cargs.toArray.size) undef).getD d undef=cargs.getD d undef:=by
  intro d;rw [List.getD_eq_getElem?_getD,Array.getD_eq_getD_getElem?,Array.getElem?_append];simp only [Td,List.getElem?_toArray];split
  ·rfl
  ·rename_i h1;rw [UH (by omega),Array.getElem?_replicate];split<;>rfl
 have hpin:∀ d v,c.pin d=Xa v→(∃ cs,args[d]? = Xa (.box cs))∧v=cargs.getD d undef:=by
  intro d v hv;have hv':(match args[d]? with | some (.box _)=>Xa (cargs.getD d undef) | _=>Xe)=Xa v:=hv;split at hv'
  ·rename_i cs hcs;simp only [Xg] at hv';exact ⟨⟨cs,hcs⟩,hv'.symm⟩
  ·cases hv'
 have hsim:Sim c (JV E (Yy (W7 args 0) (.leaf .dead)) ρ) (cargs.toArray++Array.replicate (fn.ntmps-cargs.toArray.size) undef) w lim X:=by
  rw [hσ]
  have hG:∀ d,(JG (args.map (SV.den ρ)) d).isG=Xb↔∃ cs,args[d]? = Xa (.gbox cs):=by
   intro d
   cases ha:args[d]? with
   | none =>
    have h2:(args.map (SV.den ρ))[d]? = Xe:=by rw [Xy,ha];rfl
    simp only [JG,h2];exact ⟨fun h=>(by cases h),fun ⟨_,h⟩=>(by cases h)⟩
   | some a =>
    have h2:JG (args.map (SV.den ρ)) d=a.den ρ:=by simp only [JG,Xy,ha];rfl
    rw [h2]
    cases a with
    | gbox cs => exact ⟨fun _ => ⟨cs, rfl⟩, fun _ => rfl⟩
    | c x => exact ⟨fun h => (by cases x <;> cases h), fun ⟨_, h⟩ => (by cases h)⟩
    | _ => exact ⟨fun h => (by cases h), fun ⟨_, h⟩ => (by cases h)⟩
  refine ⟨fun d=>by rw [htm d];exact hrel d,?_,fun d hd=>?_,fun d hd=>?_,hdist,fun d k b hb=>⟨hsize d k b hb,.inl ⟨d,k,hb⟩⟩,⟨rfl,rfl,rfl,Xr _,fun _ _=>rfl,fun _ _ _=>⟨rfl,rfl⟩,Ext.refl w lim⟩,fun d v hv=>?_,fun d b hb=>?_⟩
  ·show _=E.nt;simp;omega
  ·cases ha:args[d]? with
   | none =>
    left;have h2:(args.map (SV.den ρ))[d]? = Xe:=by rw [Xy,ha];rfl
    simp only [JG,h2];rfl
   | some a =>
    right;have h3:=(hat d a ha).2.2 (by rw [X9];exact hd);refine (hG d).2 ?_
    cases a<;>simp [SV.isG] at h3
    exact ⟨_,ha⟩
  ·obtain ⟨cs,hcs⟩:=(hG d).1 hd;have:=(hat d _ hcs).2.1 rfl
   rwa [X9] at this
  ·obtain ⟨⟨cs,hcs⟩,rfl⟩:=hpin d v hv;refine ⟨htm d,cs.map (BC.den ρ),?_⟩;simp only [JG,Xy,hcs];rfl
  ·have hb':(match args[d]? with | some (.gbox _)=>X d 0 | _=>Xe)=Xa b:=hb;split at hb'
   ·rename_i cs hcs;exact ⟨hb',(hG d).2 ⟨cs,hcs⟩⟩
   ·cases hb'
 have hfin:∀ s' n' ρ' (A':Nat→List V→Prop),WV E s' n'→((match Zs0 P (gE E s') fn.results.toList with
   | some r => if Zhq args fn.results.toList = Xb then STree.ret r (Zek (gE E s') args 0) else .stuck 124
   | none => .stuck 120) : STree).wp P R A' ρ' → ∀ tm' w' lim' X', Sim c (JV E s' ρ') tm' w' lim' X' → ∃ v, (results fn tm').run P w' = .ok v w' ∧
    ∃ v1 lim1 X1,Ending.returned v = .returned v1∧Yv w lim w' lim1 (fun b=>∃ i k,X i k=Xa b)∧outs.length=(args.map (SV.den ρ)).length∧
     (∀ i,Jx P w' lim1 X1 (JG (outs++[res])) i (JG (outs++[res]) i) (Zc2 (args.map (SV.den ρ)).length cargs v1 i))∧Zrv X1∧
     (∀ i k b,X1 i k=Xa b→b < w'.heap.size∧((∃ i k,X i k=Xa b)∨w.heap.size≤b))∧∀ i,(JG (outs++[res]) i).isG=Xb→(JG (args.map (SV.den ρ)) i).isG=Xb∧X1 i 0=X i 0:=by
  intro s' n' ρ' A' _ h' tm' w' lim' X' hsim';split at h'
  case h_2=>exact h'.elim
  rename_i r hr;split at h'
  case isFalse=>exact h'.elim
  rename_i hfine;obtain ⟨res0,hres⟩:∃ y,SV.den ρ' r=y:=⟨_,rfl⟩;obtain ⟨outs0,houts⟩:∃ y,(Zek (gE E s') args 0).map (SV.den ρ')=y:=⟨_,rfl⟩;have hww:=hR _ _ h';rw [hres,houts] at hww
  suffices hz:∃ v,(results fn tm').run P w' = .ok v w'∧
    ∃ v1 lim1 X1,Ending.returned v = .returned v1∧Yv w lim w' lim1 (fun b=>∃ i k,X i k=Xa b)∧outs0.length=(args.map (SV.den ρ)).length∧
     (∀ i,Jx P w' lim1 X1 (JG (outs0++[res0])) i (JG (outs0++[res0]) i) (Zc2 (args.map (SV.den ρ)).length cargs v1 i))∧Zrv X1∧
     (∀ i k b,X1 i k=Xa b→b < w'.heap.size∧((∃ i k,X i k=Xa b)∨w.heap.size≤b))∧∀ i,(JG (outs0++[res0]) i).isG=Xb→(JG (args.map (SV.den ρ)) i).isG=Xb∧X1 i 0=X i 0 by
   obtain ⟨v,hrun,v1,lim1,X1,he,hst,hol,hr,hd,hin,hgh⟩:=hz;obtain ⟨X3,k1,k3,k2⟩:=Zfk hr hww
   have hX3:∀ i k b,X3 i k=Xa b→X1 i k=Xa b:=by
    intro i k b hb;rcases k1 i k with e | e
    ·rw [← e];exact hb
    ·rw [e] at hb;cases hb
   have hll:outs0.length=outs.length:=by have:=hww.1;simpa using this
   refine ⟨v,hrun,v1,lim1,X3,he,hst,by rw [← hll,hol],k2,Zid hd k1,fun i k b hb=>hin i k b (hX3 i k b hb),fun i hi=>?_⟩;obtain ⟨m1,m2⟩:=hgh i (Zg3 hww hi);exact ⟨m1,by rw [k3 i (Zcg hi),m2]⟩
  -- the value
  have hval:∃ v,(results fn tm').run P w' = .ok v w'∧Jx P w' lim' (fun i k=>(ZeS args fn.results.toList i k).bind fun p=>X' p.1 p.2) (JG (outs0++[res0])) args.length res0 v:=by
   have hrow:∀ k,ZeS args fn.results.toList args.length k=match fn.results.toList with
     | [r] => if k = 0 then Xa (Kk r, ZjK r) else Xe
     | rs => match k with | 0 => Xe | k + 1 => (rs[k]?).map fun r => (Kk r, ZjK r) := by
    intro k;unfold ZeS;rw [P3 (U8 _),P4 rfl]
    all_goals rfl
   unfold Zs0 at hr;split at hr
   ·rename_i r0 hrs
    cases hx:Zfz P (gE E s') r0 with
    | none => simp [hx] at hr
    | some x =>
     simp only [hx,XC,Xg] at hr;subst hr;rw [Zhd] at hres;subst hres;obtain ⟨v,h1,h2⟩:=Zi6 (c:=c) rfl hsim' hx;refine ⟨v,?_,ZkE ?_⟩
     ·exact Zea (vs:=[v]) (by rw [hrs];rfl) fun i r' v' hr' hv'=>by
       rw [hrs] at hr'
       cases i with
       | zero =>
        simp only [XQ,Xg] at hr' hv';subst hr';subst hv';exact h1
       | succ i => simp at hr'
     ·show KI P w' lim' ((ZeS args fn.results.toList args.length 0).bind fun p=>X' p.1 p.2) _ v;rw [hrow,hrs];exact h2
   ·rename_i hne
    cases hx:Zfl P (gE E s') fn.results.toList with
    | none => simp [hx] at hr
    | some xs =>
     simp only [hx,XC,Xg] at hr;subst hr;subst hres;obtain ⟨vs,g1,g2,g3⟩:=ZhV (c:=c) rfl hsim' _ _ hx
     have hne1:∀ v,vs≠[v]:=by
      intro v hv;rw [hv] at g1;obtain ⟨r',hr'⟩:=Tp.1 g1;exact hne r' hr'
     refine ⟨.tuple vs.toArray,?_,?_⟩
     ·have:=Zea g1 fun i r' v' hr' hv'=>(g3 i r' v' hr' hv').1;rw [this];rcases vs with _ | ⟨v,_ | ⟨u,l⟩⟩
      ·rfl
      ·exact (hne1 v rfl).elim
      ·rfl
     ·refine ⟨vs,rfl,by simp [g2],fun i y u hy hu=>?_⟩;rw [Xy] at hy
      cases hxi:xs[i]? with
      | none => simp [hxi] at hy
      | some x =>
       simp only [hxi,XC,Xg] at hy;subst hy;obtain ⟨r',hr'⟩:∃ r',fn.results.toList[i]? = Xa r':=⟨_,Xp (by rw [g1];exact (XA.1 hu).1)⟩;have h3:=(g3 i r' u hr' hu).2 x hxi
       have hsrc:ZeS args fn.results.toList args.length (i+1)=Xa (Kk r',ZjK r'):=by
        rw [hrow];split
        ·rename_i r1 hr1;exact (hne r1 hr1).elim
        ·simp [hr']
       show KI P w' lim' ((ZeS args fn.results.toList args.length (i+1)).bind fun p=>X' p.1 p.2) _ u;rw [hsrc];exact h3
  obtain ⟨v,hv1,hv2⟩:=hval;have hol:outs0.length=args.length:=by rw [← houts,Xk,ZjD]
  have hrt:∀ i,Zc2 (args.map (SV.den ρ)).length cargs v i=if i=args.length then v else cargs.getD i undef:=by
   intro i;unfold Zc2;rw [Xk]
  have hout:∀ i,i < args.length→JG (outs0++[res0]) i=match args[i]? with | some a=>if a.isBx=Xb then JV E s' ρ' i else .dead | none=>.dead:=by
   intro i hi;simp only [JG];rw [XL (by omega),← houts,Xy,Znq,X9];have:=Xp hi;rw [this];simp only [XC,Option.getD_some];split<;>rfl
  have hgpn:∀ i cs,args[i]? = Xa (.gbox cs)→X' i 0=X i 0∧(JV E s' ρ' i).isG=Xb:=by
   intro i cs hcs;have hri:=hrel i;have h2:JG (args.map (SV.den ρ)) i = .gbox (cs.map (BC.den ρ)):=by simp only [JG,Xy,hcs];rfl
   rw [h2] at hri;obtain ⟨v',hp⟩:=hri;obtain ⟨b,hb,_⟩:=V7 hp;obtain ⟨g1,g2⟩:=hsim'.gpin i b (by show (match args[i]? with | some (.gbox _)=>X i 0 | _=>Xe)=_;rw [hcs];exact hb);exact ⟨by rw [g1,hb],g2⟩
  refine ⟨v,hv1,v,lim',fun i k=>(ZeS args fn.results.toList i k).bind fun p=>X' p.1 p.2,rfl,⟨hsim'.frm.os,hsim'.frm.tape,hsim'.frm.output,hsim'.frm.size,hsim'.frm.frz,hsim'.frm.blk,hsim'.frm.ext⟩,by rw [hol,Xk],fun i=>?_,fun d k d' k' b hb hb'=>?_,fun i k b hb=>?_,fun i hi=>?_⟩
  ·rw [hrt];rcases Nat.lt_trichotomy i args.length with hi | hi | hi
   ·rw [P3 (by omega),hout i hi];obtain ⟨a,ha⟩:=hcd i hi;rw [ha];dsimp only
    have hrow:a.isBx=Xb→(fun k=>(ZeS args fn.results.toList i k).bind fun p=>X' p.1 p.2)=X' i:=by
     intro hbx;funext k;unfold ZeS;rw [P4 hi,ha,P4 (by simp [hbx])];rfl
    cases a with
    | box cs =>
     rw [P4 (show (SV.box cs).isBx=Xb from rfl)];obtain ⟨p1,cs',p2⟩:=hsim'.pin i (cargs.getD i undef) (by show (match args[i]? with | some (.box _)=>Xa (cargs.getD i undef) | _=>Xe)=_;rw [ha]);have hrl:=hsim'.rel i;rw [p2,p1] at hrl;rw [p2];show Jt P w' lim' (fun k=>(ZeS args fn.results.toList i k).bind fun p=>X' p.1 p.2) cs' _;rw [hrow rfl];exact hrl
    | gbox cs =>
     rw [P4 (show (SV.gbox cs).isBx=Xb from rfl)];obtain ⟨_,g2⟩:=hgpn i cs ha;have hrl:=hsim'.rel i;generalize JV E s' ρ' i=x at g2 hrl
     cases x<;>simp [AV.isG] at g2
     obtain ⟨v',hrl⟩:=hrl;refine ⟨v',?_⟩;show Jt P w' lim' (fun k=>(ZeS args fn.results.toList i k).bind fun p=>X' p.1 p.2) _ v';rw [hrow rfl];exact hrl
    | _ => exact trivial
   ·subst hi
    have hout:JG (outs0++[res0]) args.length=res0:=by
     simp only [JG];rw [XH (by omega),hol];simp
    rw [P4 rfl,hout];exact hv2
   ·have hout:JG (outs0++[res0]) i = .dead:=by
     simp only [JG];rw [UH (by simp;omega)];rfl
    rw [hout];trivial
  ·cases hp:ZeS args fn.results.toList d k with
   | none => simp [hp] at hb
   | some p =>
    cases hp':ZeS args fn.results.toList d' k' with
    | none => simp [hp'] at hb'
    | some p' =>
     simp only [hp,hp',Xd] at hb hb';obtain ⟨e1,e2⟩:=hsim'.dist _ _ _ _ b hb hb';have:p=p':=Prod.ext e1 e2;subst this;exact ZsX hfine hp hp'
  ·cases hp:ZeS args fn.results.toList i k with
   | none => simp [hp] at hb
   | some p =>
    simp only [hp,Xd] at hb;exact hsim'.ours _ _ b hb
  ·rcases Nat.lt_trichotomy i args.length with hl | hl | hl
   ·rw [hout i hl] at hi;obtain ⟨a,ha⟩:=hcd i hl;rw [ha] at hi;dsimp only at hi
    cases a with
    | gbox cs =>
     obtain ⟨g1,g2⟩:=hgpn i cs ha;refine ⟨by simp only [JG,Xy,ha];rfl,?_⟩;show (ZeS args fn.results.toList i 0).bind (fun p=>X' p.1 p.2)=X i 0;unfold ZeS;rw [P4 hl,ha,P4 (show (Xa (SV.gbox cs)).map SV.isBx=Xa Xb from rfl)];exact g1
    | box cs =>
     obtain ⟨p1,cs',p2⟩:=hsim'.pin i (cargs.getD i undef) (by show (match args[i]? with | some (.box _)=>Xa (cargs.getD i undef) | _=>Xe)=_;rw [ha]);rw [P4 (show (SV.box cs).isBx=Xb from rfl),p2] at hi
     cases hi
    | _ => cases hi
   ·subst hl
    have hres0:JG (outs0++[res0]) args.length=res0:=by
     simp only [JG];rw [XH (by omega),hol];simp
    rw [hres0,← hres] at hi;unfold Zs0 at hr;split at hr
    ·obtain ⟨x,_,rfl⟩:=Option.map_eq_some_iff.1 hr;rw [Zhd] at hi
     cases x with
     | c y => cases y <;> cases hi
     | _ => cases hi
    ·obtain ⟨x,_,rfl⟩:=Option.map_eq_some_iff.1 hr
     cases hi
   ·have:JG (outs0++[res0]) i = .dead:=by
     simp only [JG];rw [UH (by simp;omega)];rfl
    rw [this] at hi
    cases hi
 refine ZsG hm hps hnt (c:=c) rfl rfl (fun d v hv=>?_) (fun d b hb=>?_) code 0 n _ _ _ _ _ ρ _ w lim X _ ?_ h hsim ?_ ?_ ?_
 ·obtain ⟨⟨cs,hcs⟩,_⟩:=hpin d v hv;have:=(hat d _ hcs).1 cs rfl
  rwa [X9] at this
 ·have hb':(match args[d]? with | some (.gbox _)=>X d 0 | _=>Xe)=Xa b:=hb;split at hb'
  ·rename_i cs hcs;have h1:=(hat d _ hcs).2.1 rfl;have h2:=(XA.1 hcs).1;exact ⟨by omega,by omega⟩
  ·cases hb'
 ·refine Y7 hnt _ _ hlow (fun d=>?_) (Zjh args 0 hargs);unfold gE;split<;>trivial
 ·intro s' n' ρ' A' _ hs' h' tm' w' lim' X' hsim';obtain ⟨v,h1,h2⟩:=hfin s' n' ρ' A' hs' h' tm' w' lim' X' hsim';exact ⟨rfl,v,h1,h2⟩
 ·intro id s' n' ρ' A' _ hs' h';exact h'.elim
 ·intro s' n' ρ' A' _ hs' h' tm' w' lim' X' hsim';obtain ⟨v,h1,h2⟩:=hfin s' n' ρ' A' hs' h' tm' w' lim' X' hsim';exact ⟨rfl,v,h1,h2⟩
end
end Go.AM
