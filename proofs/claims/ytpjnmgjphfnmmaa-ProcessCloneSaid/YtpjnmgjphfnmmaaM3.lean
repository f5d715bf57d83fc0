import Derived.Test.YtpjnmgjphfnmmaaM2
import Derived.Orders
open Option renaming some→Xa,none→Xc,bind_some→Xi,map_some→Xw,map_eq_some_iff→X6,getD_some→UZ
open Bool renaming true→Xb,false→Xe,and_eq_true→Xs,false_eq_true→UF,not_eq_true'→UM,or_eq_true_iff→UV,or_eq_true→UW
open Option.some renaming injEq→Xf
open List renaming replicate→Xg,map_cons→Xh,mem_map→Xj,getElem?_eq_some_iff→Xk,getElem?_map→Xl,mem_of_getElem?→Xm,append_assoc→Xo,getElem?_eq_getElem→Xp,mem_cons→Xq,length_map→Xr,length_append→Xu,mem_append→Xv,getElem?_append_left→Xx,getElem?_append_right→Xz,length_cons→XA,getElem?_cons_zero→XB,getElem?_take→XC,all_eq_true→XD,mem_singleton→XE,map_nil→XF,map_append→XL,append_nil→XN,mem_iff_getElem?→XO,getElem?_drop→XP,getElem?_cons_succ→XQ,mem_of_mem_take→XR,length_take→XU,mem_of_mem_drop→XY,eq_nil_of_length_eq_zero→X7,mem_replicate→Wb,mem_filter→We,map_map→Wf,ext_getElem?→Wo,map_congr_left→Wr,map_toArray→Ws,range→Ua,any_eq_true→Ud,length_drop→Ui,map_take→Up,mem_or_eq_of_mem_set→Ur,map_drop→Ut,filter_eq_self→Uu,all_cons→Uz,size_toArray→UB,mem_range→UC,mem_append_left→UG,getElem?_set→UH,mem_flatten→UK,countP_cons→UU,map_set→UX,drop_zero→UY,mem_filterMap→U2,countP_append→U9,take_length→Tb,mem_append_right→Td,find?_eq_none→Te,prefix_refl→Ti,getElem?_modify→Tm,length_singleton→To,contains_iff_mem→Tz
open Prod.mk renaming injEq→Xt
open Nat renaming le_refl→Xy,lt_or_ge→XG,zero_add→XH,lt_of_lt_of_le→XS,le_add_right→XX,mul_le_mul_right→XZ,zero_le→X5,add_zero→Uh,succ_mul→Uk,succ_pos→Uq,sub_self→UE,mod_two_eq_zero_or_one→Tf,lt_trichotomy→Tn
open Array renaming toList_inj→XK,getElem?_eq_getElem→XV,getElem?_toList→Wg,getElem?_eq_some_iff→Wk,getD→Ub,length_toList→UD
open Int renaming toNat_natCast→Wv,toNat_of_nonneg→Tc
set_option linter.unusedVariables false
set_option linter.unusedSimpArgs false
set_option linter.defProp false
namespace Go.AM
theorem us1 {t n:Nat} {x:SV} (h:x.bd n):∀ u∈[(t,x)],u.2.bd n:=by
 intro u hu;rw [XE] at hu;subst hu;exact h
theorem us2 {t t' n:Nat} {x y:SV} (h:x.bd n) (h':y.bd n):∀ u∈[(t,x),(t',y)],u.2.bd n:=by
 intro u hu;rcases Xq.1 hu with rfl | hu
 ·exact h
 ·exact us1 h' u hu
theorem JS {g:Nat→SV} {d:Nat} : ∀ (n:Nat) (u:Nat×SV),u∈Jz g d n↔u.2 = .dead∧u.1 < n∧u.1≠d∧ZfF d (g u.1)=Xb
 | 0, u => by simp [Jz]
 | n + 1, u => by
  have ih:=JS (g:=g) (d:=d) n u;have key:∀ p:Prop,(u∈(if n≠d∧ZfF d (g n)=Xb then (n,SV.dead)::Jz g d n else Jz g d n)↔p)→(u∈Jz g d (n+1)↔p):=fun p h=>h;apply key;split
  ·rename_i h;rw [Xq,ih];constructor
   ·rintro (rfl | ⟨h1,h2,h3⟩)
    ·exact ⟨rfl,Nat.lt_succ_self n,h.1,h.2⟩
    ·exact ⟨h1,by omega,h3⟩
   ·rintro ⟨h1,h2,h3⟩;by_cases hn:u.1=n
    ·left;obtain ⟨a,b⟩:=u;simp only at h1 hn;rw [h1,hn]
    ·exact .inr ⟨h1,by omega,h3⟩
  ·rename_i h;rw [ih];constructor
   ·rintro ⟨h1,h2,h3⟩;exact ⟨h1,by omega,h3⟩
   ·rintro ⟨h1,h2,h3,h4⟩;refine ⟨h1,?_,h3,h4⟩;by_cases hn:u.1=n
    ·subst hn;exact (h ⟨h3,h4⟩).elim
    ·omega
theorem ZbY (ρ:Nat→V) (d:Nat) (x:SV):ZfF d x=Xb↔∃ k,JB (x.den ρ) d k:=by
 cases x with
 | mref d' k' =>
  simp only [ZfF,beq_iff_eq];constructor
  ·rintro rfl;exact ⟨k',.inl rfl⟩
  ·rintro ⟨k,h | ⟨_,h⟩⟩ <;> cases h;rfl
 | eref d' k' i s o =>
  simp only [ZfF,beq_iff_eq];constructor
  ·rintro rfl;exact ⟨k',.inr ⟨_,rfl⟩⟩
  ·rintro ⟨k,h | ⟨_,h⟩⟩ <;> cases h;rfl
 | c y =>
  constructor
  ·intro h;cases h
  ·rintro ⟨k,h | ⟨_,h⟩⟩ <;> cases y<;>first | cases h | exact (Jb h rfl).elim
 | _ =>
  constructor
  ·intro h;cases h
  ·rintro ⟨k,h | ⟨_,h⟩⟩ <;> cases h
theorem Yu {g:Nat→SV} (ρ:Nat→V) {d top:Nat} (htop:∀ i,top≤i→g i = .dead):VM (fun d=>(g d).den ρ) d ((Jz g d top).map fun u=>(u.1,u.2.den ρ)):=by
 refine ⟨fun u hu=>?_,fun i k hi hr=>?_⟩
 ·obtain ⟨v,hv,rfl⟩:=Xj.1 hu;obtain ⟨h1,h2,h3,h4⟩:=(JS top v).1 hv;exact ⟨h3,by show v.2.den ρ=_;rw [h1];rfl,(ZbY ρ d _).1 h4⟩
 ·have hr':=(ZbY ρ d (g i)).2 ⟨k,hr⟩
  have hlt:i < top:=by
   rcases XG i top with h | h
   ·exact h
   ·rw [htop i h] at hr';cases hr'
  rw [Wf];exact Xj.2 ⟨(i,.dead),(JS top (i,.dead)).2 ⟨rfl,hlt,hi,hr'⟩,rfl⟩
theorem Zm2 {g:Nat→SV} (ρ:Nat→V) {top:Nat} (htop:∀ i,top≤i→g i = .dead) {txt:Odr} {d:Nat} {us:Ups} (h:ZpN txt g top d=Xa us) :
  (∀ u∈us,u.2 = .dead)∧Yr txt (fun d=>(g d).den ρ) d (us.map fun u=>(u.1,u.2.den ρ)):=by
 unfold ZpN at h;split at h
 ·simp only [Xf] at h;subst h;exact ⟨fun u hu=>((JS top u).1 hu).1,.inl ⟨rfl,Yu ρ htop⟩⟩
 ·split at h
  ·rename_i N M K hN;simp only [Xf] at h;subst h;exact ⟨fun u hu=>by simp at hu,.inr ⟨N,M,_,rfl,hN,rfl⟩⟩
  ·cases h
theorem Zlp {P:Program} {e:TypeId} {l:LE} (ρ:Nat→V) (h:mvB P e l=Xb):Mv P e (l.den ρ):=by
 unfold mvB at h;rcases UV.1 h with h | h
 ·rcases UV.1 h with h | h
  ·rcases UV.1 h with h | h
   ·exact .inl (by simpa using h)
   ·exact .inr (.inl h)
  ·unfold Zld at h;split at h
   ·exact .inr (.inr (.inl rfl))
   ·cases h
 ·exact .inr (.inr (.inr (by simpa using h)))
theorem Zp5 {P:Program} {res:SV} (ρ:Nat→V) (h:ZsV P res=Xb):∀ e xs,res.den ρ = .own Xb e xs→Mv P e xs:=by
 intro e xs he
 cases res with
 | own x e' l =>
  simp only [SV.den,AV.own.injEq] at he;obtain ⟨rfl,rfl,_⟩:=he;simp only [ZsV,UW,UM,Option.isNone_iff_eq_none] at h;exact h.imp id fun h=>.inr (.inr h)
 | c y => cases y <;> first | cases he | exact (Jb he rfl).elim
 | _ => cases he
theorem Yb {P:Program} {g:Nat→SV} (ρ:Nat→V) {top:Nat} (htop:∀ i,top≤i→g i = .dead) {txt:Odr} {x:Bool} {t:Nat} {e:TypeId} {l:LE} {us:Ups} (ht:g t = .own x e l) (h:YX P txt g top t x e l=Xa us) :
  ∃ us',us=us'∧(us'.map fun u=>(u.1,u.2.den ρ))=(t,ZaW P x e (l.den ρ))::(us'.tail.map fun u=>(u.1,u.2.den ρ))∧((x=Xe∧(us'.tail.map fun u=>(u.1,u.2.den ρ)) = [])∨Yr txt (fun d=>(g d).den ρ) t (us'.tail.map fun u=>(u.1,u.2.den ρ)))∧(x=Xb→Mv P e (l.den ρ)):=by
 unfold YX at h;split at h
 ·simp only [Xf] at h;subst h;exact ⟨_,rfl,rfl,.inl ⟨rfl,rfl⟩,fun h=>by cases h⟩
 ·split at h
  case isFalse=>cases h
  rename_i hmv;split at h
  ·simp only [Xf] at h;subst h;exact ⟨_,rfl,rfl,.inr (.inl ⟨rfl,Yu ρ htop⟩),fun _=>Zlp ρ hmv⟩
  ·rename_i N M K;split at h
   ·rename_i hN;simp only [Xf] at h;subst h;exact ⟨_,rfl,rfl,.inr (.inr ⟨N,M,_,rfl,hN,rfl⟩),fun _=>Zlp ρ hmv⟩
   ·cases h
theorem Yi {P:Program} {g:Nat→SV} {top n:Nat} {txt:Odr} {x:Bool} {t:Nat} {e:TypeId} {l:LE} {us:Ups} (h:YX P txt g top t x e l=Xa us) (hl:l.bd n):∀ u∈us,u.2.bd n:=by
 unfold YX at h;split at h
 ·simp only [Xf] at h;subst h;exact us1 hl
 ·split at h
  case isFalse=>cases h
  split at h
  ·simp only [Xf] at h;subst h;intro u hu;rcases Xq.1 hu with rfl | hu
   ·trivial
   ·rw [((JS top u).1 hu).1];trivial
  ·split at h
   ·simp only [Xf] at h;subst h;exact us1 trivial
   ·cases h
theorem W5 {cs:List BC} {off m:Nat} (h:WS ((cs.drop off).take m)=Xb) (ρ:Nat→V):Zdg (((cs.map (BC.den ρ)).drop off).take m):=by
 rw [← Ut,← Up];exact ZdZ h ρ
theorem Zfa {cs:List BC} {off m:Nat} (h:Zaw ((cs.drop off).take m)=Xb) (ρ:Nat→V):Whole (((cs.map (BC.den ρ)).drop off).take m):=by
 rw [← Ut,← Up];exact Zew h ρ
theorem Zk5 {g:Nat→SV} (ρ:Nat→V) {top:Nat} (htop:∀ i,top≤i→g i = .dead) {txt:Odr} {d:Nat} {cs:List BC} {off m:Nat} (h:(WS ((cs.drop off).take m)||Zgv txt g top d)=Xb) :
  Zdg (((cs.map (BC.den ρ)).drop off).take m)∨Yr txt (fun d=>(g d).den ρ) d []:=by
 rcases UV.1 h with h | h
 ·exact .inl (W5 h ρ)
 ·right;unfold Zgv at h;split at h
  ·simp only [List.isEmpty_iff] at h;refine .inl ⟨rfl,by simp,fun j q hj hr=>?_⟩;have:=(Yu ρ htop (d:=d)).2 j q hj hr;rw [h] at this;exact this
  ·exact .inr ⟨_,_,_,rfl,h,rfl⟩
theorem Zo9 {x:SV} (ρ:Nat→V) (h:x.isG=Xe):(x.den ρ).isG=Xe:=by
 cases x with
 | gbox cs => cases h
 | store l => cases h
 | c y => exact KD ρ y
 | _ => rfl
theorem Jw {x:SV} {k:Nat} {e:TypeId} {l:LE} (ρ:Nat→V) (h:Jy x k=Xa (e,l)):Zy (x.den ρ) k=Xa (e,l.den ρ):=by
 unfold Jy at h;split at h
 ·simp only [Xf,Xt] at h;obtain ⟨rfl,rfl⟩:=h;rfl
 ·rename_i cs q;split at h
  ·rename_i e' l' hc;simp only [Xf,Xt] at h;obtain ⟨rfl,rfl⟩:=h;simp only [SV.den,Zy,Xl,hc];rfl
  ·cases h
 ·rename_i cs q;split at h
  ·rename_i e' l' hc;simp only [Xf,Xt] at h;obtain ⟨rfl,rfl⟩:=h;simp only [SV.den,Zy,Xl,hc];rfl
  ·cases h
 ·cases h
theorem VA {x:SV} {k n:Nat} {e:TypeId} {l:LE} (h:Jy x k=Xa (e,l)) (hb:x.bd n):l.bd n:=by
 unfold Jy at h;split at h
 ·simp only [Xf,Xt] at h;obtain ⟨rfl,rfl⟩:=h;exact hb
 ·rename_i cs q;split at h
  ·rename_i e' l' hc;simp only [Xf,Xt] at h;obtain ⟨rfl,rfl⟩:=h;exact hb _ (Xm hc)
  ·cases h
 ·rename_i cs q;split at h
  ·rename_i e' l' hc;simp only [Xf,Xt] at h;obtain ⟨rfl,rfl⟩:=h;exact hb _ (Xm hc)
  ·cases h
 ·cases h
theorem Zcw (ρ:Nat→V) (x:SV) (k:Nat) (b:Bool) (e:TypeId) (l:LE):(Zak x k b e l).den ρ=ZM (x.den ρ) k b e (l.den ρ):=by
 cases x with
 | own x e' l' => cases k <;> rfl
 | box cs =>
  cases k with
  | zero => rfl
  | succ k => simp only [Zak, SV.den, ZM, UX]; rfl
 | c y =>
  cases y with
  | cel p => exact K2 (Q := fun z => z = ZM z k b e (l.den ρ)) _ (fun _ _ => rfl) (fun _ _ _ => rfl) (fun _ => rfl) (fun _ _ => rfl)
  | _ => rfl
 | _ => cases k <;> rfl
theorem Zeu {x:SV} {k n:Nat} {b:Bool} {e:TypeId} {l:LE} (hx:x.bd n) (hl:l.bd n):(Zak x k b e l).bd n:=by
 unfold Zak;split
 ·exact hl
 ·intro c hc;rcases Ur hc with hc | rfl
  ·exact hx c hc
  ·exact hl
 ·exact hx
section
variable {P:Program} {E:Env} {tx:Odr} {tk:Bool} {R:AV→List AV→Prop} {A:Nat→List V→Prop} {ρ:Nat→V} {g:Nat→SV} {o:Oper} {n:Nat} {k:K}
theorem ZtZ {x:Operand} (hg:∀ d,(g d).bd n) (htop:∀ i,E.top≤i→g i = .dead) (ho:o.op = .move x) (h:(Yo P E tx tk g o n k).wp P R A ρ):YV tx P R A ρ g o n k:=by
 have plain:(k (Jk P g x) [] [] n).wp P R A ρ→YV tx P R A ρ g o n k:=fun hk=>Ja hk (ZA hg x) (by rw [Yc];exact ZhD (.inl ho));simp only [Yo,ho] at h;split at h
 ·rename_i t;have ht:=hg t;split at h
  ·rename_i vs hv;rw [hv] at ht;exact ZhF h ht (us1 trivial) (ZmC ho (by rw [hv];rfl))
  ·rename_i b e xs hv;rw [hv] at ht;unfold ZfS at h;split at h
   ·split at h
    ·rename_i hb;obtain rfl:b=Xb:=by cases b<;>simp_all
     refine plain ?_;have:Jk P g (.tmp t) = .mref t 0:=by simp only [Jk,hv]
     rw [this];exact h
    split at h
    ·rename_i us hus;obtain ⟨us',rfl,q1,q2,q3⟩:=Yb ρ htop (t:=t) hv hus;exact ZcK h ht (Yi hus ht) (by rw [q1];exact Zhe (.inl ho) (by rw [hv];rfl) q2 q3)
    ·exact h.elim
   ·refine plain ?_;have:Jk P g (.tmp t)=match b with | true=>.mref t 0 | false=>.c (.slice Xe (P.cellsOf e) xs):=by simp only [Jk,hv];cases b<;>rfl
    rw [this]
    cases b<;>exact h
  ·exact plain h
 ·exact plain h
theorem ZnN {x:Operand} (hg:∀ d,(g d).bd n) (htop:∀ i,E.top≤i→g i = .dead) (ho:o.op = .assign x) (h:(Yo P E tx tk g o n k).wp P R A ρ):YV tx P R A ρ g o n k:=by
 have plain:(k (Jk P g x) [] [] n).wp P R A ρ→YV tx P R A ρ g o n k:=fun hk=>Ja hk (ZA hg x) (by rw [Yc];exact ZhD (.inr ho));simp only [Yo,ho] at h;split at h
 ·rename_i t;have ht:=hg t;split at h
  ·exact h.elim
  ·rename_i b e xs hv;rw [hv] at ht;unfold ZfS at h;split at h
   ·split at h
    ·rename_i hb;obtain rfl:b=Xb:=by cases b<;>simp_all
     refine plain ?_;have:Jk P g (.tmp t) = .mref t 0:=by simp only [Jk,hv]
     rw [this];exact h
    split at h
    ·rename_i us hus;obtain ⟨us',rfl,q1,q2,q3⟩:=Yb ρ htop (t:=t) hv hus;exact ZcK h ht (Yi hus ht) (by rw [q1];exact Zhe (.inr ho) (by rw [hv];rfl) q2 q3)
    ·exact h.elim
   ·refine plain ?_;have:Jk P g (.tmp t)=match b with | true=>.mref t 0 | false=>.c (.slice Xe (P.cellsOf e) xs):=by simp only [Jk,hv];cases b<;>rfl
    rw [this]
    cases b<;>exact h
  ·exact plain h
 ·split at h
  ·exact Ja h trivial (Zqr ho)
  ·exact h.elim
 ·exact plain h
theorem ZsT {c a b:Operand} (hg:∀ d,(g d).bd n) (ho:o.op = .pick c a b) (h:(Yo P E tx tk g o n k).wp P R A ρ):YV tx P R A ρ g o n k:=by
 simp only [Yo,ho] at h;split at h
 ·rename_i v hv;obtain ⟨h1,h2⟩:=Zje h;have hc:=Zg ρ hv;have hex:=ZnC ho hc
  cases hb:v.den ρ with
  | true =>
   rw [hb,if_pos rfl] at hex;exact Ja (h1 hb) (ZA hg a) (by rw [Yc];exact hex)
  | false =>
   rw [hb,if_neg (by simp)] at hex;exact Ja (h2 hb) (ZA hg b) (by rw [Yc];exact hex)
 ·exact h.elim
theorem Zqp {T:TypeId} (ho:o.op = .alloc T) (h:(Yo P E tx tk g o n k).wp P R A ρ):YV tx P R A ρ g o n k:=by
 simp only [Yo,ho] at h;split at h
 ·rename_i cs hcs;obtain ⟨i,z,h1,h2,h3,h4⟩:=Zqn ρ n hcs;exact Ja h h4 (Zmm ho h1 h2 h3)
 ·exact h.elim
theorem Zuw {T:TypeId} {x:Operand} (hg:∀ d,(g d).bd n) (ho:o.op = .box T x) (h:(Yo P E tx tk g o n k).wp P R A ρ):YV tx P R A ρ g o n k:=by
 simp only [Yo,ho] at h;split at h
 ·rename_i cs hcs;refine Ja h (fun c hc=>?_) ?_
  ·obtain ⟨y,hy,rfl⟩:=Xj.1 hc;exact WZ hcs (ZA hg x) y hy
  ·have hd:=Vn ρ hcs;have:=ZqT ho (Yc P g ρ x).symm hd;have he:((SV.box (cs.map .c)).den ρ) = .box (cs.map (SC.den ρ)):=by simp only [SV.den,Wf];rfl
   rw [he];exact this
 ·exact h.elim
theorem Zhc (parts:Array (Nat×Operand)):(parts.toList.map fun p=>(p.1,Zo P (fun d=>(g d).den ρ) p.2))=(parts.toList.map fun p=>(p.1,Jk P g p.2)).map fun p=>(p.1,p.2.den ρ):=by
 rw [Wf];refine Wr fun p _=>?_;simp only [Function.comp,Yc]
theorem Zlm (hg:∀ d,(g d).bd n) (parts:Array (Nat×Operand)):∀ p∈(parts.toList.map fun p=>(p.1,Jk P g p.2)),p.2.bd n:=by
 intro p hp;obtain ⟨q,_,rfl⟩:=Xj.1 hp;exact ZA hg q.2
theorem Zjz {T:TypeId} {parts:Array (Nat×Operand)} {f t:Nat} {e:TypeId} {l:LE} (hg:∀ d,(g d).bd n) (htop:∀ i,E.top≤i→g i = .dead) (ho:o.op = .build T parts) (hp:Zjq g parts.toList=Xa (f,t,e,l)) (h:(Zgf P E tx g T f t e l n k).wp P R A ρ):YV tx P R A ρ g o n k:=by
 have hparts:parts.toList = [(f,.tmp t)]∧g t = .own Xb e l:=by
  unfold Zjq at hp;split at hp
  ·split at hp
   ·rename_i h1 _ _ _ h2;simp only [Xf,Xt] at hp;obtain ⟨rfl,rfl,rfl,rfl⟩:=hp;exact ⟨h1,h2⟩
   ·cases hp
  ·cases hp
 obtain ⟨hp1,ht⟩:=hparts;have hbl:=hg t;rw [ht] at hbl;unfold Zgf at h;split at h
 ·rename_i fs i hT hi;split at h
  ·rename_i hall;split at h
   ·rename_i z fd hz hfd;split at h
    ·rename_i zc us hzc hus;split at h
     ·rename_i hh;have h1:=YF ρ z.cells.toList;rw [hzc] at h1;have hz1:ZaL z.cells.toList=Xa (zc.map (SC.den ρ)):=h1.symm;obtain ⟨us',rfl,q1,q2,q3⟩:=Yb ρ htop (t:=t) ht hus;refine ZcK h (fun c hc=>?_) (Yi hus hbl) ?_
      ·rcases Ur hc with hc | rfl
       ·obtain ⟨y,hy,rfl⟩:=Xj.1 hc;exact KO hzc y hy
       ·exact hbl
      ·have hod:Yr tx (fun d=>(g d).den ρ) t (us.tail.map fun u=>(u.1,u.2.den ρ)):=by
        rcases q2 with ⟨h0,_⟩ | q2
        ·cases h0
        ·exact q2
       have:=ZeG (zc:=zc.map (SC.den ρ)) ho hp1 hT hi hz hz1 hall hfd hh.1 (by simpa using hh.2) (show (fun d=>(g d).den ρ) t = .own Xb e (l.den ρ) by show (g t).den ρ=_;rw [ht];rfl) hod;rw [q1]
       have he:(SV.aggo ((zc.map .c).set fd.offset (.own Xb e l))).den ρ = .aggo ((zc.map (SC.den ρ)).set fd.offset (.own Xb e (l.den ρ))):=by
        simp only [SV.den,UX,Wf];rfl
       rw [he];exact this
     ·exact h.elim
    ·exact h.elim
   ·exact h.elim
  ·exact h.elim
 ·exact h.elim
theorem Zro {T:TypeId} {parts:Array (Nat×Operand)} (hg:∀ d,(g d).bd n) (htop:∀ i,E.top≤i→g i = .dead) (ho:o.op = .build T parts) (h:(Yo P E tx tk g o n k).wp P R A ρ):YV tx P R A ρ g o n k:=by
 simp only [Yo,ho] at h;split at h
 ·rename_i f t e l hp;exact Zjz hg htop ho hp h
 split at h
 ·rename_i fs i hT hi;split at h
  ·rename_i hall;split at h
   ·rename_i z hz;split at h
    ·rename_i zc hzc;split at h
     ·rename_i cs hcs;refine Ja h (Zc7 _ _ _ _ (KO hzc) (Zlm hg parts) hcs) ?_;have h1:=YF ρ z.cells.toList;rw [hzc] at h1;refine Zmq ho hT hi hz h1.symm hall ?_;rw [Zhc];exact Za5 ρ _ _ _ _ hcs
     ·exact h.elim
    ·exact h.elim
   ·exact h.elim
  ·exact h.elim
 ·exact h.elim
theorem VT {w:World} {lim:Lm} {f g:Bool} {s s':Nat} {v:Value} (hg:g=Xb→f=Xb) (h:Rep w lim (.slice f s []) v):Rep w lim (.slice g s' []) v:=by
 have key:∀ (y:AV),Rep w lim y v→y = .slice f s []→Rep w lim (.slice g s' []) v:=by
  intro y hy hye
  cases hy with
  | sliceN => exact .sliceN
  | @sliceE f' s2 a cap hf =>
   injection hye with h1 h2 h3;exact .sliceE fun h=>hf (h1.trans (hg h))
  | @sliceC f' s2 xs b o cap us hs hc hf hle hlim hus hcell hr =>
   injection hye with h1 h2 h3;subst h3;exact .sliceE fun h=>by have:=hf (h1.trans (hg h));simpa using this
  | val _ => cases hye
  | agg _ _ _ => cases hye
  | nest => cases hye
  | oref0 => cases hye
  | oref => cases hye
  | osl0 => cases hye
  | osl => cases hye
  | omap => cases hye
  | fnc => cases hye
  | omap0 => cases hye
  | fncN => cases hye
 exact key _ h rfl
theorem ZgU {w:World} {lim:Lm} {f:Bool} {s:Nat} {xs:List (List AV)} {v:Value} (h:Rep w lim (.slice f s xs) v):Rep w lim (.slice Xe s xs) v:=by
 have key:∀ (y:AV),Rep w lim y v→y = .slice f s xs→Rep w lim (.slice Xe s xs) v:=by
  intro y hy hye
  cases hy with
  | sliceN => injection hye with h1 h2 h3; subst h3; exact .sliceN
  | @sliceE f' s2 a cap hf => injection hye with h1 h2 h3; subst h3; exact .sliceE fun h => by cases h
  | @sliceC f' s2 xs b o cap us hs hc hf hle hlim hus hcell hr =>
   injection hye with h1 h2 h3;subst h2;subst h3;exact .sliceC hs hc (fun h=>by cases h) hle hlim hus hcell hr
  | val _ => cases hye
  | agg _ _ _ => cases hye
  | nest => cases hye
  | oref0 => cases hye
  | oref => cases hye
  | osl0 => cases hye
  | osl => cases hye
  | omap => cases hye
  | fnc => cases hye
  | omap0 => cases hye
  | fncN => cases hye
 exact key _ h rfl
theorem Zq7 (ρ:Nat→V) {s:Sh} {c c':SC} (h:Zo7 s c=Xa c'):∀ (w:World) (lim:Lm) (u:Value),Rep w lim (c.den ρ) u→Rep w lim (c'.den ρ) u:=by
 unfold Zo7 at h;split at h
 ·split at h
  ·simp only [Xf] at h;subst h;rename_i hk;subst hk;exact fun w lim u hr=>ZgU hr
  ·split at h
   ·simp only [Xf] at h;subst h;exact fun w lim u hr=>VT (fun h=>by cases h) hr
   ·cases h
 ·simp only [Xf] at h;subst h;exact fun _ _ _ h=>h
theorem ZrE {n:Nat} {s:Sh} {c c':SC} (h:Zo7 s c=Xa c') (hb:c.bd n):c'.bd n:=by
 unfold Zo7 at h;split at h
 ·split at h
  ·simp only [Xf] at h;subst h;exact hb
  ·split at h
   ·simp only [Xf] at h;subst h;trivial
   ·cases h
 ·simp only [Xf] at h;subst h;exact hb
theorem WX {n:Nat} : ∀ (l:List Sh) (cs cs':List SC),Kr l cs=Xa cs'→(∀ c∈cs,c.bd n)→∀ c∈cs',c.bd n
 | [], [], _, h, _ => by simp only [Kr, Xf] at h; subst h; simp
 | [], _ :: _, _, h, _ => by simp [Kr] at h
 | _ :: _, [], _, h, _ => by simp [Kr] at h
 | s :: ss, c :: cs, r, h, hb => by
  simp only [Kr] at h;split at h
  ·rename_i v vs hv hvs;simp only [Xf] at h;subst h;intro x hx;rcases Xq.1 hx with rfl | hx
   ·exact ZrE hv (hb c (by simp))
   ·exact WX ss cs vs hvs (fun y hy=>hb y (by simp [hy])) x hx
  ·cases h
theorem ZhX (ρ:Nat→V):∀ (l:List Sh) (cs cs':List SC),Kr l cs=Xa cs'→cs'.length=cs.length∧∀ (i:Nat) (c:SC),cs'[i]? = Xa c→∃ c0,cs[i]? = Xa c0∧∀ (w:World) (lim:Lm) (u:Value),Rep w lim (c0.den ρ) u→Rep w lim (c.den ρ) u
 | [], [], _, h => by simp only [Kr, Xf] at h; subst h; exact ⟨rfl, by simp⟩
 | [], _ :: _, _, h => by simp [Kr] at h
 | _ :: _, [], _, h => by simp [Kr] at h
 | s :: ss, c :: cs, r, h => by
  simp only [Kr] at h;split at h
  ·rename_i v vs hv hvs;simp only [Xf] at h;subst h;obtain ⟨h1,h2⟩:=ZhX ρ ss cs vs hvs;refine ⟨by simp [h1],fun i x hx=>?_⟩
   cases i with
   | zero =>
    simp only [XB,Xf] at hx;subst hx;exact ⟨c,rfl,Zq7 ρ hv⟩
   | succ i => exact h2 i x (by simpa using hx)
  ·cases h
theorem Zbl (ρ:Nat→V) (l:List Sh) (cs cs':List SC) (h:Kr l cs=Xa cs'):(cs'.map (SC.den ρ)).length=(cs.map (SC.den ρ)).length∧
  ∀ (w:World) (lim:Lm) (us:List Value),JI w lim (cs.map (SC.den ρ)) us→JI w lim (cs'.map (SC.den ρ)) us:=by
 obtain ⟨h1,h2⟩:=ZhX ρ l cs cs' h;refine ⟨by simp [h1],fun w lim us hr=>⟨by rw [← hr.1];simp [h1],fun x hx=>?_,fun i x u hx hu=>?_⟩⟩
 ·obtain ⟨y,_,rfl⟩:=Xj.1 hx;exact Yd ρ y
 ·rw [Xl] at hx
  cases hc:cs'[i]? with
  | none => rw [hc] at hx; cases hx
  | some c =>
   rw [hc] at hx;simp only [Xw,Xf] at hx;subst hx;obtain ⟨c0,g1,g2⟩:=h2 i c hc;exact g2 w lim u (hr.2.2 i _ u (by rw [Xl,g1];rfl) hu)
theorem ZiQ (ρ:Nat→V) (s:Sh) (c:SC):(∀ n,c.bd n→(Zud s c).bd n)∧((c.den ρ).isCell=Xb→((Zud s c).den ρ).isCell=Xb)∧∀ (w:World) (lim:Lm) (u:Value),Rep w lim (c.den ρ) u→Rep w lim ((Zud s c).den ρ) u:=by
 unfold Zud;split
 ·exact ⟨fun _ h=>h,fun _=>rfl,fun w lim u h=>VT (fun h=>h) h⟩
 ·exact ⟨fun _ h=>h,fun h=>h,fun _ _ _ h=>h⟩
theorem Zi6 (ρ:Nat→V):∀ (l:List Sh) (cs:List SC),(Zrs l cs).length=cs.length∧∀ (i:Nat) (c:SC),(Zrs l cs)[i]? = Xa c→∃ c0 s,cs[i]? = Xa c0∧(c=c0∨c=Zud s c0)
 | [], cs => by cases cs <;> exact ⟨rfl, fun i c h => ⟨c, .bool, h, .inl rfl⟩⟩
 | s :: ss, [] => ⟨rfl, fun i c h => by simp [Zrs] at h⟩
 | s :: ss, c :: cs => by
  obtain ⟨h1,h2⟩:=Zi6 ρ ss cs;refine ⟨by simp [Zrs,h1],fun i x hx=>?_⟩
  cases i with
  | zero =>
   simp only [Zrs,XB,Xf] at hx;exact ⟨c,s,rfl,.inr hx.symm⟩
  | succ i => exact h2 i x (by simpa [Zrs] using hx)
theorem Zvp {n:Nat} (P:Program) (T:TypeId) {vc:List SC} (h:∀ c∈vc,c.bd n):∀ c∈nrm P T vc,c.bd n:=by
 unfold nrm;split
 ·rename_i sh _;intro c hc;obtain ⟨i,hi⟩:=XO.1 hc;obtain ⟨c0,s,h0,e | e⟩:=(Zi6 (fun _=>.i 0) sh vc).2 i c hi
  ·rw [e];exact h c0 (Xm h0)
  ·rw [e];exact (ZiQ (fun _=>.i 0) s c0).1 n (h c0 (Xm h0))
 ·exact h
theorem ZuQ (ρ:Nat→V) (P:Program) (T:TypeId) (vc:List SC):((nrm P T vc).map (SC.den ρ)).length=(vc.map (SC.den ρ)).length∧
  ∀ (w:World) (lim:Lm) (us:List Value),JI w lim (vc.map (SC.den ρ)) us→JI w lim ((nrm P T vc).map (SC.den ρ)) us:=by
 unfold nrm;split
 ·rename_i sh _;obtain ⟨h1,h2⟩:=Zi6 ρ sh vc
  have hat:∀ (i:Nat) (x:AV),((Zrs sh vc).map (SC.den ρ))[i]? = Xa x→∃ x0,(vc.map (SC.den ρ))[i]? = Xa x0∧(x0.isCell=Xb→x.isCell=Xb)∧∀ (w:World) (lim:Lm) (u:Value),Rep w lim x0 u→Rep w lim x u:=by
   intro i x hx;rw [Xl] at hx;obtain ⟨c,hc,rfl⟩:=X6.1 hx;obtain ⟨c0,s,h0,e | e⟩:=h2 i c hc
   ·subst e;exact ⟨_,by rw [Xl,h0];rfl,fun h=>h,fun _ _ _ h=>h⟩
   ·subst e;exact ⟨_,by rw [Xl,h0];rfl,(ZiQ ρ s c0).2.1,(ZiQ ρ s c0).2.2⟩
  refine ⟨by simp [h1],fun w lim us hr=>⟨by rw [← hr.1];simp [h1],fun x hx=>?_,fun i x u hx hu=>?_⟩⟩
  ·obtain ⟨i,hi⟩:=XO.1 hx;obtain ⟨x0,h0,h3,_⟩:=hat i x hi;exact h3 (hr.2.1 x0 (Xm h0))
  ·obtain ⟨x0,h0,_,h4⟩:=hat i x hx;exact h4 w lim u (hr.2.2 i x0 u h0 hu)
 ·exact ⟨rfl,fun _ _ _ h=>h⟩
theorem Zjb (o:BC) (x:SC):Zqh o x = .c x∨∃ e s,Zqh o x = .own Xb e .nil∧x = .slice Xb s .nil:=by
 unfold Zqh;split
 ·exact .inr ⟨_,_,rfl,rfl⟩
 ·exact .inl rfl
theorem Zfj:∀ (os:List BC) (xs:List SC),(Kk os xs).length=xs.length
 | [], xs => by simp [Kk]
 | _ :: _, [] => rfl
 | _ :: os, _ :: xs => by simp [Kk, Zfj os xs]
theorem Zbk:∀ (os:List BC) (xs:List SC) (i:Nat) (y:BC),(Kk os xs)[i]? = Xa y→∃ x,xs[i]? = Xa x∧(y = .c x∨∃ e s,y = .own Xb e .nil∧x = .slice Xb s .nil)
 | [], xs, i, y, h => by
  simp only [Kk,Xl] at h;obtain ⟨x,hx,rfl⟩:=X6.1 h;exact ⟨x,hx,.inl rfl⟩
 | _ :: _, [], i, y, h => by simp [Kk] at h
 | o :: _, x :: _, 0, y, h => by
  simp only [Kk,XB,Xf] at h;subst h;exact ⟨x,rfl,Zjb o x⟩
 | o :: os, x :: xs, i + 1, y, h => by
  simp only [Kk,XQ] at h;obtain ⟨x',h1,h2⟩:=Zbk os xs i y h;exact ⟨x',by simpa using h1,h2⟩
theorem Znd {n:Nat} (os:List BC) (xs:List SC) (h:∀ c∈xs,c.bd n):∀ c∈Kk os xs,c.bd n:=by
 intro c hc;obtain ⟨i,hi⟩:=XO.1 hc;obtain ⟨x,h1,rfl | ⟨e,s,rfl,rfl⟩⟩:=Zbk os xs i c hi
 ·exact h x (Xm h1)
 ·trivial
theorem Zt1 {P:Program} (ρ:Nat→V) (os:List BC) {vc0:List AV} {xs:List SC}
  (h:(xs.map (SC.den ρ)).length=vc0.length∧∀ (w:World) (lim:Lm) (us:List Value),JI w lim vc0 us→JI w lim (xs.map (SC.den ρ)) us) :
  ((Kk os xs).map (BC.den ρ)).length=vc0.length∧∀ (w:World) (lim:Lm) (us:List Value),JI w lim vc0 us→
   (∀ z∈(Kk os xs).map (BC.den ρ),Zdn z)∧∀ (j:Nat) (z:AV) (u:Value),((Kk os xs).map (BC.den ρ))[j]? = Xa z→us[j]? = Xa u→Yq P w lim Xc z u:=by
 refine ⟨by rw [Xr,Zfj,← h.1,Xr],fun w lim us hr=>?_⟩;have hr:=h.2 w lim us hr;refine ⟨fun z hz=>?_,fun j z u hz hu=>?_⟩
 ·obtain ⟨y,hy,rfl⟩:=Xj.1 hz;obtain ⟨i,hi⟩:=XO.1 hy;obtain ⟨x,h1,rfl | ⟨e,s,rfl,rfl⟩⟩:=Zbk os xs i y hi
  ·exact .inl (hr.2.1 _ (Xj.2 ⟨x,Xm h1,rfl⟩))
  ·exact .inr (.inl ⟨_,_,_,rfl⟩)
 ·rw [Xl] at hz;obtain ⟨y,hy,rfl⟩:=X6.1 hz;obtain ⟨x,h1,he⟩:=Zbk os xs j y hy;have hx:(xs.map (SC.den ρ))[j]? = Xa (x.den ρ):=by rw [Xl,h1];rfl
  have hc:=hr.2.1 _ (Xm hx);have hrep:=hr.2.2 j _ u hx hu;rcases he with rfl | ⟨e,s,rfl,rfl⟩
  ·show Yq P w lim Xc (x.den ρ) u
   cases hxd:x.den ρ<;>rw [hxd] at hc hrep<;>simp [AV.isCell] at hc<;>exact hrep
  ·exact ZbC (s:=s) hrep
theorem Zju {g:Nat→SV} {len:Nat} {ps:List (Nat×Operand)} {t:Nat} {cs:List BC} (h:Zgb g len ps=Xa (t,cs)):len=1∧ps = [(0,.tmp t)]∧g t = .aggo cs:=by
 unfold Zgb at h;split at h
 ·rename_i t';split at h
  ·rename_i cs' hc;simp only [Xf,Xt] at h;obtain ⟨rfl,rfl⟩:=h;exact ⟨rfl,rfl,hc⟩
  ·cases h
 ·cases h
theorem Zf3 {T:TypeId} {len:Nat} {parts:Array (Nat×Operand)} (hg:∀ d,(g d).bd n) (ho:o.op = .buildSlice T len parts) (h:(Yo P E tx tk g o n k).wp P R A ρ):YV tx P R A ρ g o n k:=by
 simp only [Yo,ho] at h;split at h
 ·rename_i t cs hap;obtain ⟨rfl,hps,hgt⟩:=Zju hap;unfold Zip at h;exact h.elim
 split at h
 ·rename_i e hT;split at h
  ·rename_i i hi;split at h
   ·rename_i z hz;split at h
    ·rename_i zc hzc;split at h
     ·rename_i hh;split at h
      ·rename_i cs sh hcs hsh;split at h
       ·rename_i cs' hcs'
        have hb:∀ c∈cs,c.bd n:=Zc7 _ _ _ _ (fun c hc=>by
         obtain ⟨l,hl,hc⟩:=UK.1 hc;rw [(Wb.1 hl).2] at hc;exact KO hzc c hc) (Zlm hg parts) hcs
        refine Ja h (x:=.own _ e _) (Zsf _ _ (WX _ _ _ hcs' hb) _) ?_;have h1:=YF ρ z.cells.toList;rw [hzc] at h1;have h2:=Za5 ρ _ _ _ _ hcs;rw [← Zhc,List.map_flatten,List.map_replicate] at h2;have:=ZdB (E.exO o) ho hT hi hz h1.symm hh.1 hh.2.1 hh.2.2.1 hh.2.2.2 h2 (Zbl ρ _ _ _ hcs');rw [← Znu] at this;exact this
       ·exact h.elim
      ·exact h.elim
     ·exact h.elim
    ·exact h.elim
   ·exact h.elim
  ·exact h.elim
 ·exact h.elim
theorem Zq8 (ρ:Nat→V) (x:SC):YC P (x.den ρ)=x.den ρ:=by
 cases x with
 | cel p => exact K2 (Q := fun z => YC P z = z) _ (fun _ _ => rfl) (fun _ _ _ => rfl) (fun _ => rfl) (fun _ _ => rfl)
 | _ => rfl
theorem Zcs:∀ (l:List Sh) (n:Nat),(ZH l n).length=l.length
 | [], _ => rfl
 | s :: l, n => by simp only [ZH, XA, Zcs l]
theorem Zi1 {T:TypeId} {a:Operand} {all:Bool} {p:Nat×Nat×TypeId×LE×IE×Nat×Nat} (hg:∀ d,(g d).bd n) (ho:o.op = .load T a) (hp:ZlO P g a=Xa p) (h:(Zf0 P all tk g T p n k).wp P R A ρ):YV tx P R A ρ g o n k:=by
 unfold Zf0 at h;exact h.elim
theorem Zim {T:TypeId} {a x:Operand} {p:Nat×Nat×TypeId×LE×IE×Nat×Nat} (hg:∀ d,(g d).bd n) (htop:∀ i,E.top≤i→g i = .dead) (ho:o.op = .store T a x) (hp:ZlO P g a=Xa p) (h:(Zev P E tx g T x p n k).wp P R A ρ):YV tx P R A ρ g o n k:=by
 unfold Zev at h;exact h.elim
theorem ZjD {T:TypeId} {a:Operand} {fgt:Bool} {d off:Nat} {cs:List BC} (hg:∀ d,(g d).bd n) (htop:∀ i,E.top≤i→g i = .dead) (ho:o.op = .load T a) (hT:Ji P T=Xa Xb) (ha:Jk P g a = .ptr d off) (hd:g d = .box cs) (h:(Zgs P E tx fgt g T d off cs n k).wp P R A ρ):YV tx P R A ρ g o n k:=by
 unfold Zgs at h;exact h.elim
theorem Zrv {T:TypeId} {a:Operand} {d off m:Nat} {i:IE} (hg:∀ d,(g d).bd n) (ho:o.op = .load T a) (hT:Ji P T=Xa Xe) (ha:Jk P g a = .vptr d off m i) (h:(Zs7 g d off m i n k).wp P R A ρ):YV tx P R A ρ g o n k:=by
 unfold Zs7 at h;exact h.elim
theorem ZsI {T:TypeId} {a:Operand} (hg:∀ d,(g d).bd n) (htop:∀ i,E.top≤i→g i = .dead) (ho:o.op = .load T a) (h:(Yo P E tx tk g o n k).wp P R A ρ):YV tx P R A ρ g o n k:=by
 have ba:=ZA (P:=P) hg a;simp only [Yo,ho] at h;split at h
 ·rename_i p hp;exact Zi1 hg ho hp h
 split at h
 ·rename_i d off hT ha;split at h
  ·rename_i cs hcs;split at h
   ·rename_i hle;have hb:=hg d;rw [hcs] at hb;refine ZcK h (fun c hc=>?_) (by simp) ?_
    ·obtain ⟨y,hy,rfl⟩:=Xj.1 hc;exact Zok (hb y (XY (XR hy)))
    ·have:Ku tx P o (fun d=>(g d).den ρ) (.agg (((((cs.map (BC.den ρ)).drop off).take (P.cellsOf T))).map (YC P))) [] (fpL tx d off (P.cellsOf T)):=by
      unfold fpL;split
      ·rename_i hk;simp only [Xs,decide_eq_true_eq,XD,UC] at hk;exact ZbE (cs:=cs.map (BC.den ρ)) ho hT (Zg ρ ha) (by rw [hcs];rfl) (by simpa using hle.1) (W5 hle.2.1 ρ) (Zfa hle.2.2 ρ) hk.1 hk.2
      ·exact (Zbd (cs:=cs.map (BC.den ρ)) ho hT (Zg ρ ha) (by rw [hcs];rfl) (by simpa using hle.1) (W5 hle.2.1 ρ) (Zfa hle.2.2 ρ)).t
     have he:(SV.agg (((cs.drop off).take (P.cellsOf T)).map (ZfK P))).den ρ = .agg (((((cs.map (BC.den ρ)).drop off).take (P.cellsOf T))).map (YC P)):=by
      simp only [SV.den,Wf,← Up,← Ut];congr 1;exact Wr fun b _=>Zfd P ρ b
     rw [he];exact this
   ·exact ZjD hg htop ho hT ha hcs h
  ·exact h.elim
 ·rename_i d off hT ha;split at h
  ·rename_i cs hcs;have hb:=hg d;rw [hcs] at hb;have hd:(fun d=>(g d).den ρ) d = .box (cs.map (BC.den ρ)):=by show (g d).den ρ=_;rw [hcs];rfl
   split at h
   ·rename_i b e xs hx;have hx':(cs.map (BC.den ρ))[off]? = Xa (.own b e (xs.den ρ)):=by rw [Xl,hx];rfl
    have hbx:=hb _ (Xm hx);split at h
    ·split at h
     ·rename_i us _ hus;obtain ⟨q1,q2⟩:=Zm2 ρ htop hus;split at h
      case isFalse=>exact h.elim
      rename_i hmv;refine ZcK h hbx (fun u hu=>?_) ?_
      ·rcases Xv.1 hu with hu | hu
       ·rw [q1 u hu];trivial
       ·rw [XE] at hu;subst hu;intro c hc;rcases Ur hc with hc | rfl
        ·exact hb c hc
        ·trivial
      ·have:=ZeT (T':=tx) ho hT (Zg ρ ha) hd hx' q2 (Zlp ρ hmv);rw [XL];simp only [Xh,XF,SV.den,UX];exact this
     ·have:Ku tx P o (fun d=>(g d).den ρ) (.mref d (off+1)) [] (fpL tx d off 1):=by
       unfold fpL;split
       ·rename_i hk;simp only [Xs,decide_eq_true_eq,XD,UC] at hk;exact Zbr ho hT (Zg ρ ha) hd hx' (by simpa using hk.2 0 (by omega))
       ·exact (Zbn ho hT (Zg ρ ha) hd hx').t
      exact ZcK h trivial (by simp) this
    ·split at h
     ·refine ZhF h hbx (us1 (fun c hc=>?_)) ?_
      ·rcases Ur hc with hc | rfl
       ·exact hb c hc
       ·exact hbx
      ·have:=ZgE ho hT (Zg ρ ha) hd hx';simp only [Xh,XF,SV.den,UX];exact this
     ·exact Ja h hbx (K4 ho hT (Zg ρ ha) hd hx' (fun e xs h=>by cases h) (fun h=>by cases h))
   ·rename_i x hx;have hx':(cs.map (BC.den ρ))[off]? = Xa (x.den ρ):=by rw [Xl,hx];rfl
    have:Ku tx P o (fun d=>(g d).den ρ) (YC P (x.den ρ)) [] (fpL tx d off 1):=by
     unfold fpL;split
     ·rename_i hk;simp only [Xs,decide_eq_true_eq,XD,UC] at hk;exact Za1 ho hT (Zg ρ ha) hd hx' (fun e xs h=>by cases x<;>first | cases h | exact (Jb h rfl).elim) (fun h=>by cases x<;>first | cases h | exact (Jb h rfl).elim) (by simpa using hk.2 0 (by omega))
     ·exact (K4 ho hT (Zg ρ ha) hd hx' (fun e xs h=>by cases x<;>first | cases h | exact (Jb h rfl).elim) (fun h=>by cases x<;>first | cases h | exact (Jb h rfl).elim)).t
    rw [Zq8] at this;exact ZcK h (hb _ (Xm hx)) (by simp) this
   ·exact h.elim
   ·exact h.elim
  ·exact h.elim
 ·rename_i agg d q i s off hT ha;split at h
  ·rename_i e l hp;split at h
   ·rename_i sh hsh;split at h
    ·rename_i hh;obtain ⟨rfl,h2,h3,h4,hnm⟩:=hh;obtain ⟨vs,w1,w2,w3⟩:=h;have hbd:=JQ sh n;have hat:=Jw ρ hp
     have hlen:(ZH sh n).length=P.cellsOf e:=by
      have hsl:∀ (l:List Sh) (n:Nat),(ZH l n).length=l.length:=by
       intro l
       induction l with
       | nil => intro n; rfl
       | cons s l ih => intro n; simp only [ZH, XA, ih]
      rw [hsl,h2]
     refine ⟨bind ρ n vs,n+sh.length,_,[],[d],XX _ _,Zeq ρ n vs,?_,by simp,w3,?_⟩
     ·cases agg with
      | true => exact fun c hc => hbd c (XY (XR hc))
      | false =>
       show SV.bd _ (match (ZH sh n)[off]? with | some x=>.c x | none=>.dead);split
       ·rename_i x hx;exact hbd x (Xm hx)
       ·trivial
     ·cases agg with
      | true =>
       have:=ZbK ho hT (Zg ρ ha) (show Zy ((fun d=>(g d).den ρ) d) q=_ from hat) w2 h3 hnm;rw [← Ut,← Up] at this;exact this.t.s
      | false =>
       have hon:P.cellsOf T=1∨off < (ZH sh n).length:=.inr (by omega);have hlt:off < (ZH sh n).length:=by omega
       refine Ku.s ?_;show Ku tx P o _ ((match (ZH sh n)[off]? with | some x=>SV.c x | none=>.dead).den (bind ρ n vs)) _ _;rw [Xp hlt];exact (ZaK ho hT (Zg ρ ha) (show Zy ((fun d=>(g d).den ρ) d) q=_ from hat) w2 (by omega) (by rw [Xl,Xp hlt];rfl) hnm).t
    ·exact h.elim
   ·exact h.elim
  ·exact h.elim
 ·rename_i cs hT ha;rw [ha] at ba;split at h
  ·rename_i hle;refine Ja h (fun c hc=>ba c (XR hc)) ?_;have:=ZeH (cs:=cs.map (SC.den ρ)) ho hT (Zg ρ ha) (by simpa using hle);rw [← Up] at this;exact this
  ·exact h.elim
 ·rename_i cs hT ha;rw [ha] at ba;split at h
  ·rename_i x rest;exact Ja h (ba x (by simp)) (Zed (cs:=rest.map (SC.den ρ)) ho hT (Zg ρ ha))
  ·exact h.elim
 ·rename_i d off m i hT ha;exact Zrv hg ho hT ha h
 ·exact h.elim
theorem Zo4 {T:TypeId} {a x:Operand} {d off m:Nat} {i:IE} (hg:∀ d,(g d).bd n) (ho:o.op = .store T a x) (ha:Jk P g a = .vptr d off m i) (h:(ZpR P g T x d off m i n k).wp P R A ρ):YV tx P R A ρ g o n k:=by
 unfold ZpR at h;exact h.elim
theorem ZqB {T:TypeId} {a x:Operand} (hg:∀ d,(g d).bd n) (htop:∀ i,E.top≤i→g i = .dead) (ho:o.op = .store T a x) (h:(Yo P E tx tk g o n k).wp P R A ρ):YV tx P R A ρ g o n k:=by
 have bx:=ZA (P:=P) hg x;simp only [Yo,ho] at h;split at h
 ·rename_i p hp;exact Zim hg htop ho hp h
 split at h
 ·rename_i d off ha;split at h
  ·rename_i cs hcs;have hb:=hg d;rw [hcs] at hb;have hd:(fun d=>(g d).den ρ) d = .box (cs.map (BC.den ρ)):=by show (g d).den ρ=_;rw [hcs];rfl
   split at h
   ·rename_i t b e xs h1 h2;have hx:x = .tmp t:=by cases x<;>simp [ZY] at h1;rw [h1]
    subst hx;simp only [ZY,Xw,Xf] at h2;have ht:=hg t;rw [h2] at ht;split at h
    ·rename_i us hus;split at h
     ·rename_i hh;obtain ⟨us',rfl,q1,q2,q3⟩:=Yb ρ htop (t:=t) h2 hus;refine ZcK h trivial (fun u hu=>?_) ?_
      ·rcases Xv.1 hu with hu | hu
       ·exact Yi hus ht u hu
       ·rw [XE] at hu;subst hu;intro c hc;rcases Ur hc with hc | rfl
        ·exact hb c hc
        ·exact ht
      ·have:=ZeJ (T':=tx) (e:=e) (xs:=xs.den ρ) ho (Zg ρ ha) hd (by show (g t).den ρ=_;rw [h2];rfl) hh.1 (by simpa using hh.2.1) (Zk5 ρ htop hh.2.2) q2;rw [XL,q1];simp only [Xh,XF,SV.den,UX];exact this
     ·exact h.elim
    ·exact h.elim
   ·rename_i t vc h1 h2;have hx:x = .tmp t:=by cases x<;>simp [ZY] at h1;rw [h1]
    subst hx;simp only [ZY,Xw,Xf] at h2;have ht:=hg t;rw [h2] at ht;split at h
    ·rename_i hh;refine ZhF h trivial (us2 trivial (fun c hc=>?_)) ?_
     ·rcases Xv.1 hc with hc | hc
      ·rcases Xv.1 hc with hc | hc
       ·exact hb c (XR hc)
       ·exact ht c hc
      ·exact hb c (XY hc)
     ·have:=ZdJ (vc:=vc.map (BC.den ρ)) ho (Zg ρ ha) hd (show (fun d=>(g d).den ρ) t = .aggo (vc.map (BC.den ρ)) by show (g t).den ρ=_;rw [h2];rfl) (by simpa using hh.1) (by omega) (by simpa using hh.2.2.1) (W5 hh.2.2.2 ρ)
      have he:(SV.box (cs.take off++vc++cs.drop (off+P.cellsOf T))).den ρ = .box ((cs.map (BC.den ρ)).take off++vc.map (BC.den ρ)++(cs.map (BC.den ρ)).drop (off+P.cellsOf T)):=by
       simp only [SV.den,XL,Up,Ut]
      simp only [Xh,XF,he];exact this
    ·exact h.elim
   ·split at h
    ·rename_i vc hvc;split at h
     ·rename_i hh;refine ZcK h trivial (fun u hu=>?_) ?_
      ·rw [XE] at hu;subst hu;intro c hc;rcases Xv.1 hc with hc | hc
       ·rcases Xv.1 hc with hc | hc
        ·exact hb c (XR hc)
        ·exact Znd _ _ (Zvp P T (WZ hvc bx)) c hc
       ·exact hb c (XY hc)
      ·have:=ZmE (vc:=(Kk (cs.drop off) (nrm P T vc)).map (BC.den ρ)) ho (Zg ρ ha) hd (Yc P g ρ x).symm (Vn ρ hvc) (by simpa using hh.1) (by omega) (by simpa using hh.2.2.1) (Zk5 ρ htop hh.2.2.2) (Zt1 ρ (cs.drop off) (ZuQ ρ P T vc))
       have he:(SV.box (cs.take off++Kk (cs.drop off) (nrm P T vc)++cs.drop (off+P.cellsOf T))).den ρ = .box ((cs.map (BC.den ρ)).take off++(Kk (cs.drop off) (nrm P T vc)).map (BC.den ρ)++(cs.map (BC.den ρ)).drop (off+P.cellsOf T)):=by
        simp only [SV.den,XL,Up,Ut]
       simp only [Xh,XF,he];exact this
     ·exact h.elim
    ·exact h.elim
  ·exact h.elim
 ·rename_i d q i s off ha;split at h
  ·rename_i e l vc hp hvc;have hpt:=ZA (P:=P) hg a;rw [ha] at hpt;have hat:=Jw ρ hp;split at h
   ·rename_i sh hsh;split at h
    ·rename_i vc' hvc';split at h
     ·rename_i hh;obtain ⟨r1,r2,h⟩:=h;have r1':0≤i.den ρ:=r1;have r2':i.den ρ < ((l.den ρ).length:Int):=r2;have hbv:=WX _ _ _ hvc' (WZ hvc bx);refine ZhF h trivial (us1 (Zeu (hg d) ⟨VA hp (hg d),hpt,KG _ hbv⟩)) ?_;obtain ⟨h1,h2,h3,h4,h5,hnm⟩:=hh;subst h1;have:=ZdD (vc:=vc.map (SC.den ρ)) (vc':=vc'.map (SC.den ρ)) ho (Zg ρ ha) (show Zy ((fun d=>(g d).den ρ) d) q=_ from hat) (Zo9 ρ h5) (Yc P g ρ x).symm (Vn ρ hvc) (by simpa using h2) (by omega) (by omega) h4 (Zbl ρ _ _ _ hvc') hnm;rw [← YI] at this;simp only [Xh,XF,Zcw];exact this
     ·exact h.elim
    ·exact h.elim
   ·exact h.elim
  ·exact h.elim
 ·rename_i d off m i ha;exact Zo4 hg ho ha h
 ·exact h.elim
theorem ZjJ {x:Operand} (hg:∀ d,(g d).bd n) (ho:o.op = .nilCheck x) (h:(Yo P E tx tk g o n k).wp P R A ρ):YV tx P R A ρ g o n k:=by
 have bx:=ZA (P:=P) hg x;simp only [Yo,ho] at h;split at h
 ·rename_i d off hx;exact Ja h trivial (VO ho (Zg ρ hx) (.inl ⟨_,_,rfl⟩))
 ·rename_i cs hx;rw [hx] at bx;exact Ja h bx (VO ho (Zg ρ hx) (.inr (.inl ⟨_,rfl⟩)))
 ·rename_i d q i s off hx;rw [hx] at bx;split at h
  ·rename_i e l hpl;split at h
   ·rename_i hm;exact Ja h bx (VO ho (Zg ρ hx) (.inr (.inr ⟨_,_,_,_,_,rfl,Jw ρ hpl,hm,by simp⟩)))
   ·exact h.elim
  ·exact h.elim
 ·exact h.elim
theorem Zto {op:UnOp} {T:TypeId} {x:Operand} (hg:∀ d,(g d).bd n) (ho:o.op = .unOp op T x) (h:(Yo P E tx tk g o n k).wp P R A ρ):YV tx P R A ρ g o n k:=by
 have bx:=ZA (P:=P) hg x;simp only [Yo,ho] at h;split at h
 ·rename_i b hx;rw [hx] at bx;refine Ja h (ZqA bx) ?_;have:=Zqs ho (Zg ρ hx);rw [← Zpx] at this;exact this
 ·rename_i kd e hx;rw [hx] at bx;exact Ja h ⟨trivial,bx⟩ (Zq4 ho (Zg ρ hx))
 ·rename_i kd e hx;rw [hx] at bx;exact Ja h ⟨trivial,bx⟩ (ZmS ho (Zg ρ hx))
 ·exact h.elim
theorem Zmu {S T:TypeId} {x:Operand} (hg:∀ d,(g d).bd n) (ho:o.op = .convert S T x) (h:(Yo P E tx tk g o n k).wp P R A ρ):YV tx P R A ρ g o n k:=by
 have bx:=ZA (P:=P) hg x;simp only [Yo,ho] at h;split at h
 ·rename_i hS hT hx;rw [hx] at bx;exact Ja h bx (Znp ho hS hT (Zg ρ hx))
 ·rename_i hS hT hx;rw [hx] at bx;split at h
  ·rename_i he;split at h
   ·rename_i hs;subst hs;exact Ja h.2 bx (ZmK ho hS he hT (Zg ρ hx) h.1)
   ·exact h.elim
  ·exact h.elim
 ·exact h.elim
theorem ZiF {T:TypeId} {x:Operand} {f:Nat} (hg:∀ d,(g d).bd n) (ho:o.op = .fieldAddr T x f) (h:(Yo P E tx tk g o n k).wp P R A ρ):YV tx P R A ρ g o n k:=by
 have bx:=ZA (P:=P) hg x;simp only [Yo,ho] at h;split at h
 ·rename_i hf hx;exact Ja h trivial (ZeP ho hf (Zg ρ hx))
 ·rename_i off cs hf hx;rw [hx] at bx;refine Ja h (fun c hc=>bx c (XY hc)) ?_;have:=Zdt (cs:=cs.map (SC.den ρ)) ho hf (Zg ρ hx);rw [← Ut] at this;exact this
 ·rename_i off d q i s off' hf hx;rw [hx] at bx;split at h
  ·rename_i e l hpl;split at h
   ·rename_i hm;refine Ja h bx ?_;have:=ZdX ho hf (Zg ρ hx) (Jw ρ hpl) hm;rw [Nat.add_assoc] at this;exact this
   ·exact h.elim
  ·exact h.elim
 ·exact h.elim
theorem ZrB {T:TypeId} {x:Operand} {f:Nat} (hg:∀ d,(g d).bd n) (ho:o.op = .field T x f) (h:(Yo P E tx tk g o n k).wp P R A ρ):YV tx P R A ρ g o n k:=by
 have bx:=ZA (P:=P) hg x;simp only [Yo,ho] at h;split at h
 ·rename_i off agg sz cs hf hs hx;rw [hx] at bx;split at h
  ·rename_i hh;have hx':Zo P (fun d=>(g d).den ρ) x = .agg (cs.map (SC.den ρ)):=Zg ρ hx
   cases agg with
   | true =>
    simp only at h;refine Ja h (fun c hc=>bx c (XY (XR hc))) ?_;have:=ZdE (y:=.agg (((cs.map (SC.den ρ)).drop off).take sz)) ho hf hs hx' (by simpa using hh.1) hh.2 (.inl ⟨rfl,rfl⟩);rw [← Ut,← Up] at this;exact this
   | false =>
    simp only at h;split at h
    ·rename_i c hc;refine Ja h (bx c (Xm hc)) ?_;exact ZdE (y:=c.den ρ) ho hf hs hx' (by simpa using hh.1) hh.2 (.inr ⟨rfl,by simp [hc],ZaS ρ c⟩)
    ·exact h.elim
  ·exact h.elim
 ·exact h.elim
theorem ZkC {ix:IE} {d off s m:Nat} {kk:SV→STree} : ∀ (j:Nat),j≤m→(ZsL ix d off s m kk j).wp P R A ρ→∃ i:Nat,i < m∧ix.den ρ=(i:Int)∧(kk (.ptr d (off+i*s))).wp P R A ρ
 | 0, _, h => h.elim
 | 1, hj, h => by
  obtain ⟨h1,h2,h3⟩:=h;have h1':((m-1:Nat):Int)≤ix.den ρ:=h1;have h2':ix.den ρ≤((m-1:Nat):Int):=h2;exact ⟨m-1,by omega,by omega,h3⟩
 | j + 2, hj, h => by
  obtain ⟨h1,h2⟩:=h;by_cases he:ix.den ρ=((m-(j+2):Nat):Int)
  ·exact ⟨m-(j+2),by omega,he,h1 (by simp [BE.den,IE.den,cop,he])⟩
  ·exact ZkC (j+1) (by omega) (h2 (by simp [BE.den,IE.den,cop,he]))
theorem ZeF {P:Program} {o:Oper} {σ:Nat→AV} {T:TypeId} {x i:Operand} {k:IntKind} {z:Int} {s:ByteArray} (ho:o.op = .index T x i) (hT:P.underlying T=Xa .string) (hx:Zo P σ x = .val (.string s)) (hi:Zo P σ i = .val (.int k z)) (h0:0≤z) (h1:z < (s.size:Int)) :
  Js P o σ (.val (.int .u8 ((s.data.toList.getD z.toNat 0).toNat:Int))) [] []:=by
 refine Zq [] rfl fun c hc σ' tm w lim X hg hfp hsim=>⟨.int .u8 ((s.data.toList.getD z.toNat 0).toNat:Int),?_,.val rfl⟩;rw [ho] at hg;have hv:=Z6 hc hsim hx (hg x (by simp [Op.operands]));have hw:=Z6 hc hsim hi (hg i (by simp [Op.operands]));have hlt:z.toNat < s.size:=by omega
 have hg1:s[z.toNat]? = Xa s[z.toNat]:=by simp [hlt]
 have hg2:s.data.toList.getD z.toNat 0=s[z.toNat]:=by
  rw [List.getD_eq_getElem?_getD,Xp (by simpa using hlt)];simp;rfl
 simp only [execOp,ho,hv,hw,Instr.index,asIntOf,Sem.run_bind,Sem.run_pure,Result.andThen_ok,run_underlying hT,if_pos h0,hg1,hg2]
theorem Zp3 {T:TypeId} {x i:Operand} (hg:∀ d,(g d).bd n) (ho:o.op = .index T x i) (h:(Yo P E tx tk g o n k).wp P R A ρ):YV tx P R A ρ g o n k:=by
 simp only [Yo,ho] at h;split at h
 ·rename_i s kd ie hT hx hi;obtain ⟨r1,r2,h⟩:=h;have bx:=ZA (P:=P) hg x;have bi:=ZA (P:=P) hg i;rw [hx] at bx;rw [hi] at bi;exact Ja h ⟨bx,bi⟩ (ZeF ho hT (Zg ρ hx) (Zg ρ hi) r1 r2)
 ·exact h.elim
theorem ZhR {T:TypeId} {x i:Operand} (hg:∀ d,(g d).bd n) (ho:o.op = .indexAddr T x i) (h:(Yo P E tx tk g o n k).wp P R A ρ):YV tx P R A ρ g o n k:=by
 simp only [Yo,ho] at h;split at h
 ·rename_i hT hx hi;split at h
  ·rename_i sh hsh;split at h
   ·rename_i hh;obtain ⟨vs,h1,h2,h3⟩:=h
    exact ⟨bind ρ n vs,n+sh.length,.eptr (ZH sh n),[],[],XX _ _,Zeq ρ n vs,JQ sh n,by simp,h3,
     (Zmi ho hT hh.1 (by omega) (Zg ρ hx) (Zg ρ hi) h1 h2).t.s⟩
   ·exact h.elim
  ·exact h.elim
 ·rename_i m e d off kd ix hT hx hi;split at h
  ·rename_i hh;split at h
   ·rename_i z;split at h
    ·rename_i hz;exact Ja h trivial (K8 (kd:=kd) (z:=z) ho hT (by omega) (Zg ρ hx) (Zg ρ hi) hz.1 hz.2)
    ·exact h.elim
   ·split at h
    ·rename_i hv;obtain ⟨r1,r2,h⟩:=h;have r1':0≤ix.den ρ:=r1;have r2':ix.den ρ < (m:Int):=r2;have:=K8 (kd:=kd) (z:=ix.den ρ) ho hT (by omega) (Zg ρ hx) (Zg ρ hi) r1' r2';rw [hv.2,Nat.mul_one] at this;have bi:=ZA (P:=P) hg i;rw [hi] at bi;exact Ja h bi this
    obtain ⟨i',h1,h2,h3⟩:=ZkC m (Xy _) h;have:=K8 (kd:=kd) (z:=(i':Int)) ho hT (by omega) (Zg ρ hx) (by rw [← h2];exact Zg ρ hi) (by omega) (by omega);rw [Wv] at this;exact Ja h3 trivial this
  ·exact h.elim
 ·rename_i e d q kd ix hT hx hi;split at h
  ·rename_i e' l hp;split at h
   ·rename_i hh;obtain ⟨rfl,h0,hnm⟩:=hh;obtain ⟨r1,r2,h⟩:=h;have r1':0≤ix.den ρ:=r1;have r2':ix.den ρ < ((l.den ρ).length:Int):=r2;have bi:=ZA (P:=P) hg i;rw [hi] at bi;exact Ja h bi (Zea ho hT (by omega) (Zg ρ hx) (show Zy ((fun d=>(g d).den ρ) d) q=_ from Jw ρ hp) rfl (Zg ρ hi) r1' (by omega) hnm)
   ·exact h.elim
  ·exact h.elim
 ·exact h.elim
theorem ZsR {T:TypeId} {a b:Operand} (hg:∀ d,(g d).bd n) (ho:o.op = .makeSlice T a b) (h:(Yo P E tx tk g o n k).wp P R A ρ):YV tx P R A ρ g o n k:=by
 simp only [Yo,ho] at h;split at h
 ·rename_i m m' ha hb;split at h
  ·rename_i e hT;have bm:=ZA (P:=P) hg a;rw [ha] at bm;split at h
   ·rename_i i hi;split at h
    ·rename_i z hz;split at h
     ·rename_i zc sh hzc hsh;split at h
      ·rename_i zc' hzc';split at h
       ·rename_i hzs;have h1:=YF ρ z.cells.toList;rw [hzc] at h1;obtain ⟨r1,r2,r3,h⟩:=h;have r2':m.den ρ≤m'.den ρ:=r2;have r3':m'.den ρ≤m.den ρ:=r3;have hmm:m'.den ρ=m.den ρ:=by omega
        refine Ja h (x:=.own (!(E.exO o)) e _) ⟨bm,KG _ (WX _ _ _ hzc' (KO hzc))⟩ ?_;have hb':Zo P (fun d=>(g d).den ρ) b = .val (.int .i64 (m.den ρ)):=by rw [← hmm];exact Zg ρ hb
        have:=ZoG (!(E.exO o)) (zc:=zc.map (SC.den ρ)) (zc':=zc'.map (SC.den ρ)) ho hT hi hz hzs.1 h1.symm (Zg ρ ha) hb' r1.1 r1.2 hzs.2 (Zbl ρ _ _ _ hzc');rw [← YI] at this;exact this
       ·exact h.elim
      ·exact h.elim
     ·exact h.elim
    ·exact h.elim
   ·exact h.elim
  ·exact h.elim
 ·exact h.elim
theorem Zrh {T:TypeId} {x:Operand} {lo hi mx:Option Operand} (hg:∀ d,(g d).bd n) (htop:∀ i,E.top≤i→g i = .dead) (ho:o.op = .slice T x lo hi mx) (h:(Yo P E tx tk g o n k).wp P R A ρ):YV tx P R A ρ g o n k:=by
 have bx:=ZA (P:=P) hg x;simp only [Yo,ho] at h;split at h
 ·rename_i e full s xs hT hx;rw [hx] at bx;have sx:=Zg ρ hx;split at h
  ·rename_i hh;have hs0:P.cellsOf e≠0:=by omega
   unfold ZnR at h;split at h
   ·rename_i k1 k2 h1 h2 h3
    cases lo with
    | some y => simp at h1
    | none =>
     cases hi with
     | none => simp at h2
     | some y =>
      cases mx with
      | none => simp at h3
      | some z =>
       simp only [Xw,Xf] at h2 h3;exact Ja h trivial (Zmb ho hT hs0 sx (Zg ρ h2) (Zg ρ h3))
   ·rename_i h1 h2 h3
    cases lo with
    | some y => simp at h1
    | none =>
     cases hi with
     | some y => simp at h2
     | none =>
      cases mx with
      | some z => simp at h3
      | none =>
       have:=Zc4 (l:=0) (h:=(xs.den ρ).length) (f':=full) ho hT hh.1 hs0 sx (X5 _) (Xy _) (.inl ⟨rfl,rfl⟩) (.inl ⟨rfl,rfl⟩) (fun h=>⟨h,rfl⟩);rw [Tb,UY] at this;exact Ja h bx this
   ·rename_i kl l h1 h2 h3
    cases lo with
    | none => simp at h1
    | some y =>
     cases hi with
     | some y => simp at h2
     | none =>
      cases mx with
      | some z => simp at h3
      | none =>
       simp only [Xw,Xf] at h1;have by1:=ZA (P:=P) hg y;rw [h1] at by1;obtain ⟨r1,r2,h⟩:=h;have r1':0≤l.den ρ:=r1;have r2':l.den ρ≤((xs.den ρ).length:Int):=r2;have sy:=Zg ρ h1;have e1:((l.den ρ).toNat:Int)=l.den ρ:=Tc r1';have:=Zc4 (l:=(l.den ρ).toNat) (h:=(xs.den ρ).length) (f':=full) ho hT hh.1 hs0 sx (by omega) (Xy _) (.inr ⟨y,kl,rfl,by rw [e1];exact sy⟩) (.inl ⟨rfl,rfl⟩) (fun h=>⟨h,rfl⟩);rw [Tb] at this;exact Ja h ⟨bx,by1⟩ this
   ·rename_i kl l h1 h2 h3
    cases lo with
    | some y => simp at h1
    | none =>
     cases hi with
     | none => simp at h2
     | some y =>
      cases mx with
      | some z => simp at h3
      | none =>
       simp only [Xw,Xf] at h2;have by1:=ZA (P:=P) hg y;rw [h2] at by1;obtain ⟨r1,r2,h⟩:=h;have r1':0≤l.den ρ:=r1;have r2':l.den ρ≤((xs.den ρ).length:Int):=r2;have sy:=Zg ρ h2;have e1:((l.den ρ).toNat:Int)=l.den ρ:=Tc r1';have:=Zc4 (l:=0) (h:=(l.den ρ).toNat) (f':=Xe) ho hT hh.1 hs0 sx (X5 _) (by omega) (.inl ⟨rfl,rfl⟩) (.inr ⟨y,kl,rfl,by rw [e1];exact sy⟩) (fun h=>by simp at h);rw [UY] at this;exact Ja h ⟨bx,by1⟩ this
   ·rename_i kl l kh hb h1 h2 h3
    cases lo with
    | none => simp at h1
    | some y =>
     cases hi with
     | none => simp at h2
     | some z =>
      cases mx with
      | some z => simp at h3
      | none =>
       simp only [Xw,Xf] at h1 h2;have by1:=ZA (P:=P) hg y;rw [h1] at by1;have by2:=ZA (P:=P) hg z;rw [h2] at by2;obtain ⟨r1,r2,r3,h⟩:=h;have r1':0≤l.den ρ:=r1;have r2':l.den ρ≤hb.den ρ:=r2;have r3':hb.den ρ≤((xs.den ρ).length:Int):=r3;have sy:=Zg ρ h1;have sz:=Zg ρ h2;have e1:((l.den ρ).toNat:Int)=l.den ρ:=Tc r1';have e2:((hb.den ρ).toNat:Int)=hb.den ρ:=Tc (by omega);have:=Zc4 (l:=(l.den ρ).toNat) (h:=(hb.den ρ).toNat) (f':=Xe) ho hT hh.1 hs0 sx (by omega) (by omega) (.inr ⟨y,kl,rfl,by rw [e1];exact sy⟩) (.inr ⟨z,kh,rfl,by rw [e2];exact sz⟩) (fun h=>by simp at h);exact Ja h ⟨⟨bx,by2⟩,by1⟩ this
   ·exact h.elim
  ·exact h.elim
 ·rename_i e d q hT hx;split at h
  ·rename_i k1 k2 h2 h3;split at h
   ·rename_i e' l' hp;split at h
    ·rename_i h0
     cases hi with
     | none => simp at h2
     | some y =>
      cases mx with
      | none => simp at h3
      | some z =>
       simp only [Xw,Xf] at h2 h3;exact Ja h trivial (ZdP ho hT (by omega) (Zg ρ hx) (Zg ρ h2) (Zg ρ h3) (show Zy ((fun d=>(g d).den ρ) d) q=_ from Jw ρ hp) h0.2)
    ·exact h.elim
   ·exact h.elim
  split at h
  case isFalse=>exact h.elim
  rename_i hq0;subst hq0;split at h
  ·rename_i kh hv e' l hhi hd _;have hb:=hg d;rw [hd] at hb;split at h
   ·rename_i us hus;split at h
    ·rename_i hh;obtain ⟨rfl,h0,hnm⟩:=hh
     cases hi with
     | none => simp at hhi
     | some z =>
      simp only [Xw,Xf] at hhi;have bz:=ZA (P:=P) hg z;rw [hhi] at bz;obtain ⟨r1,r2,h⟩:=h;have r1':0≤hv.den ρ:=r1;have r2':hv.den ρ≤((l.den ρ).length:Int):=r2;have e1:((hv.den ρ).toNat:Int)=hv.den ρ:=Tc r1';obtain ⟨us',rfl,q1,q2,q3⟩:=Yb ρ htop (t:=d) hd hus
      have hod:Yr tx (fun d=>(g d).den ρ) d (us.tail.map fun u=>(u.1,u.2.den ρ)):=by
       rcases q2 with ⟨h0,_⟩ | q2
       ·cases h0
       ·exact q2
      refine ZcK h ⟨hb,bz⟩ (Yi hus hb) ?_;rw [q1];exact Zjl (h:=(hv.den ρ).toNat) ho hT (by omega) (Zg ρ hx) (show (fun d=>(g d).den ρ) d = .own Xb e' (l.den ρ) by show (g d).den ρ=_;rw [hd];rfl) (by rw [e1];exact Zg ρ hhi) (by omega) hod hnm
    ·exact h.elim
   ·exact h.elim
  ·exact h.elim
 ·exact h.elim
theorem Zl1 {x:Operand} {i:Nat} (hg:∀ d,(g d).bd n) (ho:o.op = .extract x i) (h:(Yo P E tx tk g o n k).wp P R A ρ):YV tx P R A ρ g o n k:=by
 simp only [Yo,ho] at h;split at h
 ·rename_i t vs h1 h2;have hx:x = .tmp t:=by cases x<;>simp [ZY] at h1;rw [h1]
  subst hx;simp only [ZY,Xw,Xf] at h2;have hb:=hg t;rw [h2] at hb;have ht:(fun d=>(g d).den ρ) t = .tuple (vs.map (TC.den ρ)):=by show (g t).den ρ=_;rw [h2];rfl
  split at h
  ·rename_i b e xs hv;have hv':(vs.map (TC.den ρ))[i]? = Xa (.own b e (xs.den ρ)):=by rw [Xl,hv];rfl
   have hbx:=hb _ (Xm hv);split at h
   case isFalse=>exact h.elim
   rename_i hmv;have hmv':b=Xb→Mv P e (xs.den ρ):=fun hb=>Zlp ρ (by rw [hb] at hmv;simpa using hmv);refine ZhF h hbx (us1 (fun c hc=>?_)) ?_
   ·rcases Ur hc with hc | rfl
    ·exact hb c hc
    ·cases b<;>first | exact hbx | trivial
   ·have:=ZcF (P:=P) (σ:=fun d=>(g d).den ρ) ho ht hv' hmv';simp only [Xh,XF,SV.den,UX]
    cases b<;>exact this
  ·rename_i y hv;have hv':(vs.map (TC.den ρ))[i]? = Xa (y.den ρ):=by rw [Xl,hv];rfl
   refine Ja h (hb _ (Xm hv)) (Zcv (σ:=fun d=>(g d).den ρ) ho ht hv' ?_ ?_ ?_ ?_ ?_)
   ·cases y with
    | cel p => exact K2 (Q := fun z => z.plain = Xb) _ (fun _ _ => rfl) (fun _ _ _ => rfl) (fun _ => rfl) (fun _ _ => rfl)
    | _ => rfl
   ·intro d p he;have:=Yd ρ y;rw [show (SV.c y).den ρ=y.den ρ from rfl] at he;rw [he] at this;cases this
   ·intro d he;have:=Yd ρ y;rw [show (SV.c y).den ρ=y.den ρ from rfl] at he;rw [he] at this;cases this
   ·intro he;have:=Yd ρ y;rw [show (SV.c y).den ρ=y.den ρ from rfl] at he;rw [he] at this;cases this
   ·intro he;have:=Yd ρ y;rw [show (SV.c y).den ρ=y.den ρ from rfl] at he;rw [he] at this;cases this
  ·rename_i cs hv;have hv':(vs.map (TC.den ρ))[i]? = Xa (.agg (cs.map (SC.den ρ))):=by rw [Xl,hv];rfl
   exact Ja h (hb _ (Xm hv)) (Zcv (σ:=fun d=>(g d).den ρ) ho ht hv' rfl (fun _ _ h=>by cases h) (fun _ h=>by cases h) (fun h=>by cases h) (fun h=>by cases h))
  ·exact h.elim
  ·exact h.elim
 ·exact h.elim
theorem Zvi {c:Call} (hg:∀ d,(g d).bd n) (ho:o.op = .call c) (hc:c.callee = .builtin .len) (h:(Yo P E tx tk g o n k).wp P R A ρ):YV tx P R A ρ g o n k:=by
 simp only [Yo,ho,hc] at h;split at h
 ·rename_i x T hargs hts;have bx:=ZA (P:=P) hg x;split at h
  ·rename_i d q hx;split at h
   ·rename_i e e' l hT hp;split at h
    ·rename_i hnm;exact Ja h (VA hp (hg d)) (ZfW ho hc hargs hts hT (Zg ρ hx) (show Zy ((fun d=>(g d).den ρ) d) q=_ from Jw ρ hp) hnm)
    ·exact h.elim
   ·exact h.elim
  ·unfold Zuv at h;split at h
   ·rename_i hT hx;rw [hx] at bx;exact Ja h bx (ZeC ho hc hargs hts hT (Zg ρ hx))
   ·rename_i hT hx;rw [hx] at bx;exact Ja h bx (Zix ho hc hargs hts hT (Zg ρ hx))
   ·exact h.elim
 ·exact h.elim
theorem ZsO {c:Call} (hg:∀ d,(g d).bd n) (ho:o.op = .call c) (hc:c.callee = .builtin .copy) (h:(Yo P E tx tk g o n k).wp P R A ρ):YV tx P R A ρ g o n k:=by
 simp only [Yo,ho,hc] at h;split at h
 ·rename_i x y T T' hargs hts;split at h
  ·rename_i e d q f s ys hT hx hy;split at h
   ·rename_i e' l hp;split at h
    ·rename_i hh;obtain ⟨rfl,h1,rfl,h5,hnm⟩:=hh;have by1:=ZA (P:=P) hg y;rw [hy] at by1;refine ZhF h trivial (us1 (Zeu (hg d) ⟨VA hp (hg d),by1⟩)) ?_;simp only [Xh,XF,Zcw];exact ZeO (f:=f) ho hc hargs hts hT h1 (Zg ρ hx) (show Zy ((fun d=>(g d).den ρ) d) q=_ from Jw ρ hp) (Zo9 ρ h5) (Zg ρ hy) hnm
    ·exact h.elim
   ·exact h.elim
  ·exact h.elim
 ·exact h.elim
theorem ZdA {c:Call} {T:TypeId} {x y:Operand} (src:Option Nat) {xv:SV} {ex:Bool} (hg:∀ d,(g d).bd n) (htop:∀ i,E.top≤i→g i = .dead) (ho:o.op = .call c) (hc:c.callee = .builtin .append) (hargs:c.args.toList = [x,y])
  (hts:c.argTypes.toList = [T,T]) (hsrc:∀ t,src=Xa t→x = .tmp t∧xv=g t) (hnone:src=Xc→xv=Jk P g x)
  (h:(Zad P T tx g E.top ex src xv (Jk P g y) fun v us=>k v us [] n).wp P R A ρ):YV tx P R A ρ g o n k:=by
 have bY:=ZA (P:=P) hg y
 have hxv:xv.bd n:=by
  cases src with
  | none => rw [hnone rfl]; exact ZA hg x
  | some t => rw [(hsrc t rfl).2]; exact hg t
 unfold Zad at h;split at h
 ·rename_i e hT;split at h
  ·rename_i i hi;split at h
   ·rename_i z hz;split at h
    ·rename_i hh;split at h
     ·rename_i b e' xs f s ys hy;rw [hy] at bY;split at h
      ·rename_i t;obtain ⟨rfl,hx⟩:=hsrc t rfl;split at h
       ·rename_i us hus;split at h
        ·rename_i he;obtain ⟨rfl,rfl⟩:=he;obtain ⟨us',rfl,q1,q2,q3⟩:=Yb ρ htop (t:=t) hx.symm hus;refine ZcK h.2 ⟨hxv,bY⟩ (Yi hus hxv) ?_;rw [q1];exact Zer (σ:=fun d=>(g d).den ρ) ho hc hargs hts hT hi hz hh.1 (by show (g t).den ρ=_;rw [← hx];rfl) (Zg ρ hy) h.1 q2 hh.2.2
        ·exact h.elim
       ·exact h.elim
      ·exact h.elim
     ·rename_i s0 f s ys hy;rw [hy] at bY;split at h
      ·rename_i he;subst he;refine ZhF h.2 bY (by simp) ?_
       have hx:Zo P (fun d=>(g d).den ρ) x = .slice Xb s0 []:=by
        cases src with
        | none => exact Zg ρ (hnone rfl).symm
        | some t =>
         obtain ⟨rfl,hx⟩:=hsrc t rfl;simp only [Zo,← hx];rfl
       exact ZcE (σ:=fun d=>(g d).den ρ) ex ho hc hargs hts hT hi hz hh.1 hx (Zg ρ hy) h.1 hh.2.2
      ·exact h.elim
     ·exact h.elim
    ·exact h.elim
   ·exact h.elim
  ·exact h.elim
 ·exact h.elim
theorem WD {c:Call} {T:TypeId} {x y:Operand} (src:Option Nat) {xv:SV} {ex:Bool} {d q:Nat} (hg:∀ d,(g d).bd n) (htop:∀ i,E.top≤i→g i = .dead) (ho:o.op = .call c) (hc:c.callee = .builtin .append) (hargs:c.args.toList = [x,y])
  (hts:c.argTypes.toList = [T,T]) (hy:Jk P g y = .mref d q) (hsrc:∀ t,src=Xa t→x = .tmp t∧xv=g t) (hnone:src=Xc→xv=Jk P g x)
  (h:(WV P T tx g E.top ex src xv (Jy (g d) q) fun v us=>k v us [d] n).wp P R A ρ):YV tx P R A ρ g o n k:=by
 have hxv:xv.bd n:=by
  cases src with
  | none => rw [hnone rfl]; exact ZA hg x
  | some t => rw [(hsrc t rfl).2]; exact hg t
 unfold WV at h;split at h
 ·rename_i e hT;split at h
  ·rename_i i hi;split at h
   ·rename_i z hz;split at h
    ·rename_i hh;split at h
     ·rename_i b e' xs e2 ys hp;split at h
      ·rename_i t;obtain ⟨rfl,hx⟩:=hsrc t rfl;split at h
       ·rename_i us hus;split at h
        ·rename_i he;obtain ⟨rfl,rfl⟩:=he;obtain ⟨us',rfl,q1,q2,q3⟩:=Yb ρ htop (t:=t) hx.symm hus;refine ZcK h.2 ⟨hxv,VA hp (hg d)⟩ (Yi hus hxv) ?_;rw [q1];exact Zap (σ:=fun d=>(g d).den ρ) ho hc hargs hts hT hi hz hh.1 (by show (g t).den ρ=_;rw [← hx];rfl) (Zg ρ hy) (show Zy ((fun d=>(g d).den ρ) d) q=_ from Jw ρ hp) h.1 q2 hh.2.2
        ·exact h.elim
       ·exact h.elim
      ·exact h.elim
     ·rename_i s0 e' ys hp;split at h
      ·rename_i he;subst he
       have hx':Zo P (fun d=>(g d).den ρ) x = .slice Xb s0 []:=by
        cases src with
        | none => exact Zg ρ (hnone rfl).symm
        | some t =>
         obtain ⟨rfl,hx⟩:=hsrc t rfl;simp only [Zo,← hx];rfl
       refine Ja h.2 (VA hp (hg d)) ?_;exact WR (σ:=fun d=>(g d).den ρ) ex ho hc hargs hts hT hi hz hh.1 hx' (Zg ρ hy) (show Zy ((fun d=>(g d).den ρ) d) q=_ from Jw ρ hp) h.1 hh.2.2
      ·exact h.elim
     ·exact h.elim
    ·exact h.elim
   ·exact h.elim
  ·exact h.elim
 ·exact h.elim
theorem Zgl {c:Call} {T:TypeId} {t u:Nat} {D D':TypeId} {xs ys:LE} (hg:∀ d,(g d).bd n) (htop:∀ i,E.top≤i→g i = .dead) (ho:o.op = .call c) (hc:c.callee = .builtin .append) (hargs:c.args.toList = [.tmp t,.tmp u])
  (hts:c.argTypes.toList = [T,T]) (hgt:g t = .own Xb D xs) (hgu:g u = .own Xb D' ys)
  (h:(Zch P T tx g E.top t u D D' xs ys fun v us=>k v us [] n).wp P R A ρ):YV tx P R A ρ g o n k:=by
 unfold Zch at h;exact h.elim
theorem Zpy {c:Call} (hg:∀ d,(g d).bd n) (htop:∀ i,E.top≤i→g i = .dead) (ho:o.op = .call c) (hc:c.callee = .builtin .append) (h:(Yo P E tx tk g o n k).wp P R A ρ):YV tx P R A ρ g o n k:=by
 simp only [Yo,ho,hc] at h;split at h
 ·rename_i x y T T' hargs hts;split at h
  ·rename_i hTT;subst hTT;split at h
   ·rename_i d q hy;split at h
    ·rename_i t D' ys u ht hgd;have hx:x = .tmp t:=by cases x<;>simp [ZY] at ht;rw [ht]
     split at h
     ·rename_i D xs hgt hdp;split at h
      case isFalse=>exact h.elim
      rename_i hud;subst hud;subst hx;exact Zgl hg htop ho hc hargs hts hgt hgd h
     ·exact WD (Xa t) hg htop ho hc hargs hts hy (fun t' ht'=>by simp only [Xf] at ht';subst ht';exact ⟨hx,rfl⟩) (fun h=>by cases h) h
    split at h
    ·rename_i t ht;have hx:x = .tmp t:=by cases x<;>simp [ZY] at ht;rw [ht]
     exact WD (Xa t) hg htop ho hc hargs hts hy (fun t' ht'=>by simp only [Xf] at ht';subst ht';exact ⟨hx,rfl⟩) (fun h=>by cases h) h
    ·exact WD Xc hg htop ho hc hargs hts hy (fun t' ht'=>by cases ht') (fun _=>rfl) h
   split at h
   ·rename_i t ht;have hx:x = .tmp t:=by cases x<;>simp [ZY] at ht;rw [ht]
    exact ZdA (Xa t) hg htop ho hc hargs hts (fun t' ht'=>by simp only [Xf] at ht';subst ht';exact ⟨hx,rfl⟩) (fun h=>by cases h) h
   ·exact ZdA Xc hg htop ho hc hargs hts (fun t' ht'=>by cases ht') (fun _=>rfl) h
  ·exact h.elim
 ·exact h.elim
theorem Zsa {c:Call} {ka kb:IntKind} {a b:IE} (h:c.args.toList.map (Jk P g) = [.c (.int ka a),.c (.int kb b)]) :
  ∃ x y,c.args.toList = [x,y]∧Jk P g x = .c (.int ka a)∧Jk P g y = .c (.int kb b):=by
 cases hl:c.args.toList with
 | nil => simp [hl] at h
 | cons x l =>
  cases l with
  | nil => simp [hl] at h
  | cons y l =>
   cases l with
   | nil => simp only [hl, Xh, XF, List.cons.injEq, and_true] at h; exact ⟨x, y, rfl, h.1, h.2⟩
   | cons z l => simp [hl] at h
theorem ZvO {c:Call} (hg:∀ d,(g d).bd n) (ho:o.op = .call c) (hc:c.callee = .builtin .min) (h:(Yo P E tx tk g o n k).wp P R A ρ):YV tx P R A ρ g o n k:=by
 simp only [Yo,ho,hc] at h;split at h
 ·rename_i ka a kb b hl;obtain ⟨x,y,h1,h2,h3⟩:=Zsa hl;split at h
  ·rename_i he;subst he;have b1:=ZA (P:=P) hg x;have b2:=ZA (P:=P) hg y;rw [h2] at b1;rw [h3] at b2;exact Ja h ⟨b1,b2⟩ (ZdG (mn:=Xb) ho hc h1 (Zg ρ h2) (Zg ρ h3))
  ·exact h.elim
 ·exact h.elim
theorem Zvk {c:Call} (hg:∀ d,(g d).bd n) (ho:o.op = .call c) (hc:c.callee = .builtin .max) (h:(Yo P E tx tk g o n k).wp P R A ρ):YV tx P R A ρ g o n k:=by
 simp only [Yo,ho,hc] at h;split at h
 ·rename_i ka a kb b hl;obtain ⟨x,y,h1,h2,h3⟩:=Zsa hl;split at h
  ·rename_i he;subst he;have b1:=ZA (P:=P) hg x;have b2:=ZA (P:=P) hg y;rw [h2] at b1;rw [h3] at b2;exact Ja h ⟨b1,b2⟩ (ZdG (mn:=Xe) ho hc h1 (Zg ρ h2) (Zg ρ h3))
  ·exact h.elim
 ·exact h.elim
theorem ZhO (ρ:Nat→V) (l:List SAK):(l.map (SAK.den ρ)).filterMap AK.slot=l.filterMap SAK.slot:=by
 rw [List.filterMap_map];congr 1;funext a;exact ZcR ρ a
theorem ZkM {c:Call} {f:FuncId} {cps tail:List KU} {rf:List Nat} {saks:List SAK} (htop:∀ i,E.top≤i→g i = .dead) (ho:o.op = .call c)
  (hc:(c.callee = .value (.func f)∧cps = [])∨∃ t,c.callee = .value (.tmp t)∧((∃ ds,(g t).den ρ = .clo f ds∧cps=ds.map KU.cap)∨∃ js,(g t).den ρ = .fnc f js∧js≠[]∧cps=js.map KU.obj))
  (a1:Kh P g ρ (c.args.toList.map KU.op++cps++tail) saks) (a2:∀ x∈tail,x = .pad∨x = .ghost) (a3:(c.args.toList.map KU.op++cps).length+((saks.map (SAK.den ρ)).map AK.av).countP AV.isG≤saks.length) (a4:Zon (saks.map (SAK.den ρ))) (a5:Zm3 (saks.map (SAK.den ρ)))
  (hrf:∀ (i:Nat) (x:Operand),c.args.toList[i]? = Xa x→(rf.contains i&&(ZcH g x).isSome)=Xb→∃ t d q j,saks[i]? = Xa (SAK.ref t d q j)) (h:(Zc8 P E tx g f (Wy P g rf c.args.toList 0) (Xa saks) n k).wp P R A ρ):YV tx P R A ρ g o n k:=by
 unfold Zc8 at h;split at h
 ·rename_i saks' Ts hs _
  cases hs
  split at h
  ·rename_i hnd0;obtain ⟨hnd,hfree⟩:=hnd0;split at h
   ·rename_i res sh n' hr;obtain ⟨q1,q2,q3⟩:=Zmn hr;dsimp only at h;split at h
    case isFalse=>exact h.elim
    rename_i hbo0;obtain ⟨hbo,hrnm⟩:=hbo0;obtain ⟨vs,h1,h2⟩:=h;have hlen:((Jd (saks.map SAK.sv) n').1).length=saks.length:=by rw [Ze3,Xr]
    refine ⟨bind ρ n vs,(Jd (saks.map SAK.sv) n').2.2,res,Za6 saks (Jd (saks.map SAK.sv) n').1,saks.filterMap SAK.slot++(Wy P g rf c.args.toList 0).map (·.1),Nat.le_trans q1 (YJ _ _),Zeq ρ n vs,SV.bd_mono (YJ _ _) _ q2,
     KZ _ _ (WO _ _),h2,?_⟩
    have:=Zo3 (T:=tx) (((Wy P g rf c.args.toList 0).head?.getD (0,0)).1) (((Wy P g rf c.args.toList 0).head?.getD (0,0)).2) ((Wy P g rf c.args.toList 0).map (·.1)) (P:=P) (σ:=fun d=>(g d).den ρ) (aks:=saks.map (SAK.den ρ)) (res:=res.den (bind ρ n vs)) (outs:=(Jd (saks.map SAK.sv) n').1.map (SV.den (bind ρ n vs))) (tail:=tail) ho hc (by simpa using a1.1)
     (fun i x a hx hi=>?_) a2 (by simpa using a3) a4 a5
     (by rw [ZhO];exact ZbA _ hnd) (by simp [hlen]) (fun i d fr to cs y hi hy=>?_) (fun i d rows y hi hy=>?_) (q3 _) (Zp5 _ hrnm) (fun i t e xs hi=>?_) (fun i d fr to cs hi=>?_) (fun i x hx hz d q hxm hno=>?_) ?_
    ·rw [Zhg,ZhO] at this;exact this.s
    ·rw [Xl] at hi
     cases hsi:saks[i]? with
     | none => simp [hsi] at hi
     | some a0 =>
      simp only [hsi,Xw,Xf] at hi;subst hi;exact a1.2 i x a0 hx hsi
    ·rw [Xl] at hi hy
     cases hsi:saks[i]? with
     | none => simp [hsi] at hi
     | some a =>
      cases hyi:(Jd (saks.map SAK.sv) n').1[i]? with
      | none => simp [hyi] at hy
      | some y0 =>
       simp only [hsi,hyi,Xw,Xf] at hi hy;subst hy
       cases a with
       | box d0 fr0 to0 cs0 =>
        simp only [SAK.den,AK.box.injEq] at hi;obtain ⟨rfl,rfl,rfl,rfl⟩:=hi;obtain ⟨cs',rfl⟩:=Vp (saks.map SAK.sv) n' i to0 cs0 y0 (by rw [Xl,hsi];rfl) hyi;exact ⟨_,ZcN _ _ _⟩
       | _ => cases hi
    ·obtain ⟨l,hl⟩:=Ztx hi;rw [Xl] at hy
     cases hyi:(Jd (saks.map SAK.sv) n').1[i]? with
     | none => simp [hyi] at hy
     | some y0 =>
      simp only [hyi,Xw,Xf] at hy;subst hy;obtain ⟨l',rfl⟩:=ZfC (saks.map SAK.sv) n' i l y0 (by rw [Xl,hl];rfl) hyi;rfl
    ·rw [Xl] at hi
     cases hsi:saks[i]? with
     | none => simp [hsi] at hi
     | some a =>
      simp only [hsi,Xw,Xf] at hi
      cases a with
      | own t0 x0 e0 l0 =>
       simp only [SAK.den,AK.own.injEq] at hi;obtain ⟨rfl,rfl,rfl,_⟩:=hi;unfold ZgG at hfree;rw [XD] at hfree;have hf:=hfree _ (Xm hsi)
       cases tx with
       | any N M K => exact .inr ⟨N, M, K, rfl, hf, rfl⟩
       | text =>
       simp only [List.isEmpty_iff] at hf;refine .inl ⟨rfl,by simp,fun j q _ hr=>?_⟩;have hda:=(Yu ρ htop (d:=t0)).2 j q;by_cases hj:j=t0
       ·subst hj;have hok:=a1.2 i;have hlt:=(Xk.1 hsi).1;obtain ⟨x,hx⟩:∃ x,(c.args.toList.map KU.op++cps++tail)[i]? = Xa x:=⟨_,Xp (by rw [a1.1];exact hlt)⟩;have hk:=hok x _ hx hsi
        cases x with
        | op y =>
         have h1:(g j).den ρ = .own Xb e0 (l0.den ρ):=hk.2;have hr':JB ((g j).den ρ) j q:=hr;rw [h1] at hr';rcases hr' with h2 | ⟨_,h2⟩ <;> cases h2
        | _ => exact hk.elim
       ·have:=hda hj hr;rw [hf] at this
        cases this
      | _ => cases hi
    ·rw [Xl] at hi
     cases hsi:saks[i]? with
     | none => simp [hsi] at hi
     | some a =>
      simp only [hsi,Xw,Xf] at hi
      cases a with
      | box t0 fr0 to0 cs0 =>
       simp only [SAK.den,AK.box.injEq] at hi;obtain ⟨rfl,rfl,rfl,rfl⟩:=hi;unfold ZgG at hfree;rw [XD] at hfree;have hf0:=hfree _ (Xm hsi);rcases UV.1 hf0 with hpl | hf
       ·exact .inl (ZdZ hpl ρ)
       ·right
        cases tx with
        | any N M K =>
         rcases UV.1 hf with hf | hf
         ·exact .inl (.inr ⟨N,M,K,rfl,hf,rfl⟩)
         ·refine .inr fun σ' hrl j q hr=>?_
          cases hM:M t0 with
          | none => rw [hM] at hf; cases hf
          | some t =>
           rw [hM] at hf;simp only at hf;by_cases hj:t=j
           ·subst hj;rw [Ud] at hf;obtain ⟨b,hb,hbt⟩:=hf
            cases b with
            | ref t1 _ _ _ =>
             have h4:t1=t:=by simpa using hbt
             exact ⟨_,Xj.2 ⟨_,hb,rfl⟩,by rw [ZcR];show Xa t1=Xa t;rw [h4]⟩
            | _ => cases hbt
           ·exact (hrl.1 t0 j q (by simp [Odr.nr,hM,hj]) hr).elim
        | text =>
        refine .inr fun σ' hrl j q hr=>?_;have hrl':σ'=fun d=>(g d).den ρ:=hrl;rw [hrl'] at hr;have hda:=(Yu ρ htop (d:=t0)).2 j q;by_cases hj:j=t0
        ·subst hj;have hok:=a1.2 i;have hlt:=(Xk.1 hsi).1;obtain ⟨x,hx⟩:∃ x,(c.args.toList.map KU.op++cps++tail)[i]? = Xa x:=⟨_,Xp (by rw [a1.1];exact hlt)⟩;have hk:=hok x _ hx hsi;have hr':JB ((g j).den ρ) j q:=hr
         have hb0:∃ fr cs,(g j).den ρ=mkB fr cs:=by
          cases x with
          | op y => exact ⟨Xe, _, hk.2.1⟩
          | cap d' => exact ⟨_, _, hk.2.1⟩
          | obj _ => exact hk.elim
          | ghost => exact ⟨_, _, hk.1⟩
          | pad => exact hk.elim
         obtain ⟨fr,cs,hb0⟩:=hb0;rw [hb0] at hr'
         cases fr<;>rcases hr' with h2 | ⟨_,h2⟩ <;> cases h2
        ·have hm:=hda hj hr;rw [XD] at hf;obtain ⟨u,hu,huj⟩:=Xj.1 hm;obtain ⟨u0,hu0,rfl⟩:=Xj.1 hu;have h3:=hf u0 hu0;rw [Ud] at h3;obtain ⟨b,hb,hbt⟩:=h3
         cases b with
         | ref t1 _ _ _ =>
          refine ⟨_,Xj.2 ⟨_,hb,rfl⟩,?_⟩;have h4:t1=u0.1:=by simpa using hbt
          rw [ZcR];show Xa t1=Xa j;rw [h4];exact congrArg Xa huj
         | _ => cases hbt
      | _ => cases hi
    ·have hnrf:(rf.contains (0+i)&&(ZcH g x).isSome)=Xe:=by
      rw [XH]
      cases hc':(rf.contains i&&(ZcH g x).isSome) with
      | false => rfl
      | true =>
       obtain ⟨t1,d1,q1,j2,h2'⟩:=hrf i x hx hc';obtain ⟨z,hz⟩:=hz;rw [Xl,h2'] at hz
       cases hz
     have hm:=Zhi (P:=P) (g:=g) ρ hx hnrf hxm hno;generalize Wy P g rf c.args.toList 0=bs at hm hbo
     cases bs with
     | nil => cases hm
     | cons p r =>
      simp only [ZuH,Xs,XD,decide_eq_true_eq,UM,List.contains_eq_mem,decide_eq_false_iff_not] at hbo;obtain ⟨⟨⟨b1,b2⟩,b3⟩,b4⟩:=hbo
      have hp:d=p.1∧q=p.2:=by
       rcases Xq.1 hm with h0 | h0
       ·rw [← h0];exact ⟨rfl,rfl⟩
       ·exact b1 _ h0
      refine ⟨hp.1,hp.2,by simp,fun a ha hs=>b2 ?_,fun i=>?_⟩
      ·obtain ⟨a0,ha0,rfl⟩:=Xj.1 ha;rw [ZcR] at hs;exact U2.2 ⟨a0,ha0,hs⟩
      ·simp only [ZB];rcases XG i ((Jd (saks.map SAK.sv) n').1.map (SV.den (bind ρ n vs))).length with hi | hi
       ·rw [Xx hi,Xl]
        cases hy:(Jd (saks.map SAK.sv) n').1[i]? with
        | none => rfl
        | some y => exact Zfu _ (b4 y (Xm hy))
       ·rw [Xz hi]
        cases hj:i-((Jd (saks.map SAK.sv) n').1.map (SV.den (bind ρ n vs))).length with
        | zero => exact Zfu _ b3
        | succ j => rfl
    ·have he:(saks.map (SAK.den ρ)).map AK.av=(saks.map SAK.sv).map (SV.den ρ):=by
      rw [Wf,Wf];exact Wr fun a _=>Zsp ρ a
     rw [he];exact h1
   ·exact h.elim
  ·exact h.elim
 ·exact h.elim
theorem ZiO {c:Call} {f:FuncId} {cps:List KU} {rf:List Nat} {aZ:List SAK} (htop:∀ i,E.top≤i→g i = .dead) (ho:o.op = .call c)
  (hc:(c.callee = .value (.func f)∧cps = [])∨∃ t,c.callee = .value (.tmp t)∧((∃ ds,(g t).den ρ = .clo f ds∧cps=ds.map KU.cap)∨∃ js,(g t).den ρ = .fnc f js∧js≠[]∧cps=js.map KU.obj))
  (ha:Kh P g ρ (c.args.toList.map KU.op++cps) aZ) (hraw:Raw aZ) (hrf:∀ (i:Nat) (x:Operand),c.args.toList[i]? = Xa x→(rf.contains i&&(ZcH g x).isSome)=Xb→∃ t d q j,aZ[i]? = Xa (SAK.ref t d q j)) (h:(Zc8 P E tx g f (Wy P g rf c.args.toList 0) (VP g (Zuc P f) aZ) n k).wp P R A ρ):YV tx P R A ρ g o n k:=by
 cases hs:VP g (Zuc P f) aZ with
 | none => rw [hs] at h; exact h.elim
 | some saks =>
  obtain ⟨tail,a1,a2,a3,a4,a5,a6⟩:=ZeX ρ ha hraw hs;rw [hs] at h;refine ZkM htop ho hc a1 a2 a3 a4 a5 (fun i x hx hr=>?_) h;obtain ⟨t,d,q,j,hj⟩:=hrf i x hx hr;obtain ⟨j',hj'⟩:=a6 i t d q j hj;exact ⟨t,d,q,j',hj'⟩
theorem ZjY {d:Nat} {u:Nat×SV} {n:Nat} (ρ:Nat→V) (hu:u∈Jz g d n):u.2 = .dead∧∃ d k,JB ((g u.1).den ρ) d k:=by
 obtain ⟨h1,_,_,h4⟩:=(JS n u).1 hu;obtain ⟨k,hk⟩:=(ZbY ρ d (g u.1)).1 h4;exact ⟨h1,d,k,hk⟩
theorem Zj3 {rf:List Nat} {args:List Operand} {u:Nat×SV} (ρ:Nat→V) (hu:u∈ZcV E tx g rf args):u.2 = .dead∧∃ d k,JB ((g u.1).den ρ) d k:=by
 unfold ZcV at hu;split at hu
 ·obtain ⟨p,_,hp⟩:=List.mem_flatMap.1 (We.1 hu).1;split at hp
  ·split at hp
   ·exact ZjY ρ hp
   ·cases hp
  ·cases hp
 ·cases hu
theorem Zhq (kl:Ups):(fun d=>(ZhV kl g d).den ρ)=JG (fun d=>(g d).den ρ) ((kl.map fun u=>(u.1,SV.dead.den ρ))):=by
 funext d;rw [WG _ _ _ (fun u hu=>by obtain ⟨v,_,rfl⟩:=Xj.1 hu;rfl)];unfold ZhV;by_cases h:(kl.any fun u=>u.1 == d)=Xb
 ·rw [if_pos h,if_pos]
  ·rfl
  ·rw [Ud] at h;obtain ⟨u,hu,he⟩:=h;rw [Wf];exact Xj.2 ⟨u,hu,by simpa using he⟩
 ·rw [if_neg h,if_neg];rw [Wf];intro hm;obtain ⟨u,hu,he⟩:=Xj.1 hm;exact h (Ud.2 ⟨u,hu,by simpa using he⟩)
theorem Zog (kl:Ups) (hkl:∀ u∈kl,u.2 = .dead∧(∃ d k,JB ((g u.1).den ρ) d k)∧u.1∉Vv o) (h:YV .text P R A ρ (ZhV kl g) o n (fun x us fp n'=>k x (kl++us) fp n')):YV .text P R A ρ g o n k:=by
 obtain ⟨ρ',n',x,us,fp,h1,h2,h3,h4,h5,h6⟩:=h;refine ⟨ρ',n',x,kl++us,fp,h1,h2,h3,fun u hu=>?_,h5,?_⟩
 ·rcases Xv.1 hu with hu | hu
  ·rw [(hkl u hu).1];trivial
  ·exact h4 u hu
 intro c hc σ' tm w lim X _ _ hT _ hsim next Q hn;have hT':σ'=fun d=>(g d).den ρ:=hT;subst hT';have hmap:(kl.map fun u=>(u.1,u.2.den ρ'))=kl.map fun u=>(u.1,SV.dead.den ρ):=Wr fun u hu=>by rw [(hkl u hu).1];rfl
 obtain ⟨X',hs,_⟩:=Sim.drops (kl.map fun u=>(u.1,SV.dead.den ρ)) hsim fun u hu=>by
  obtain ⟨v,hv,rfl⟩:=Xj.1 hu;obtain ⟨_,⟨d,q,hr⟩,_⟩:=hkl v hv;obtain ⟨g1,g2,g3⟩:=Vi hr;refine ⟨rfl,g2,WE hsim (fun he=>?_) g3⟩;rw [he] at hr;rcases hr with hr | ⟨_,hr⟩ <;> cases hr
 rw [← Zhq] at hs;refine h6 c hc _ tm w lim X' (fun _ _=>.inl rfl) (fun _ _=>rfl) rfl (fun _ _=>Zs9.refl _) hs next Q fun v w' ha=>hn v w' ?_;rw [XL,hmap,VR,← Zhq];exact ha
theorem ZhA:∀ (l:List SV) (ds:List Nat),Zff l=Xa ds→l.length=ds.length∧∀ (i d:Nat),ds[i]? = Xa d→l[i]? = Xa (.ptr d 0)
 | [], ds, h => by simp only [Zff, Xf] at h; subst h; exact ⟨rfl, by simp⟩
 | x :: l, ds, h => by
  unfold Zff at h;split at h
  ·rename_i heq;cases heq
  ·rename_i d r heq;simp only [List.cons.injEq] at heq;obtain ⟨rfl,rfl⟩:=heq
   cases hr:Zff l with
   | none => rw [hr] at h; cases h
   | some es =>
    rw [hr] at h;simp only [Xw,Xf] at h;subst h;obtain ⟨h1,h2⟩:=ZhA l es hr;refine ⟨by simp [h1],fun i e he=>?_⟩
    cases i with
    | zero => simp only [XB, Xf] at he ⊢; rw [he]
    | succ i => simpa using h2 i e (by simpa using he)
  ·cases h
theorem ZjA {fn:Fn} {first captured:Array Operand} (ho:o.op = .makeFunc fn first captured) (h:(Yo P E tx tk g o n k).wp P R A ρ):YV tx P R A ρ g o n k:=by
 simp only [Yo,ho] at h;split at h
 ·rename_i f ds hf hds;split at h
  ·rename_i hall;obtain ⟨h1,h2⟩:=ZhA _ _ hds;refine Ja h trivial (ZfV ho hf (by simpa using h1) fun i x d hx hd=>?_);have h3:=h2 i d hd;rw [Xl,hx] at h3;simp only [Xw,Xf] at h3;rw [XD] at hall;have h4:=hall d (Xm hd);refine ⟨Zg ρ h3,?_⟩;show ∃ cs,(g d).den ρ = .box cs;split at h4
   ·rename_i cs hcs;rw [hcs];exact ⟨_,rfl⟩
   ·cases h4
  ·exact h.elim
 ·exact h.elim
theorem ZpC {P:Program} (w:World) (d:Nat) {t e:TypeId} (a:Addr) (h:P.underlying t=Xa (.pointer e)):(Op.equalIn (d+1) t (.pointer (Xa a)) (.pointer Xc)).run P w = .ok Xe w:=by
 simp [Op.equalIn,run_underlying h]
theorem ZdS {P:Program} {o:Oper} {σ:Nat→AV} {op:BinOp} {T T' e:TypeId} {x:Operand} {d off:Nat} (ho:o.op = .binOp op T x (.const (.pointer Xc)) T') (hT:P.underlying T=Xa (.pointer e))
  (hop:op = .eql∨op = .neq) (hx:Zo P σ x = .ptr d off):Js P o σ (.val (.bool (if op = .eql then Xe else Xb))) [] []:=by
 refine Zq [] rfl fun c hc σ' tm w lim X hg _ hsim=>⟨.bool (if op = .eql then Xe else Xb),?_,.val rfl⟩;rw [ho] at hg;obtain ⟨b,cs,_,_,hv⟩:=Yf hc hsim hx (hg x (by simp [Op.operands]));have hc0:Act.eval ⟨tm,[]⟩ (.const (.pointer Xc)) = .pointer Xc:=rfl;have he:(Op.equal T (.pointer (Xa ⟨b,off,Xc⟩)) (.pointer Xc)).run P w = .ok Xe w:=ZpC w 9999 _ hT;rcases hop with rfl | rfl<;>simp [execOp,ho,hv,hc0,eqGuard,binOp,he]
theorem ZqS {op:BinOp} {T T':TypeId} {x y:Operand} (hps:EnvSound P E) (hg:∀ d,(g d).bd n) (ho:o.op = .binOp op T x y T') (h:(Yo P E tx tk g o n k).wp P R A ρ):YV tx P R A ρ g o n k:=by
 simp only [Yo,ho] at h;split at h
 ·rename_i b hb;unfold ZrF at hb;split at hb
  ·rename_i d off e hx hT;split at hb
   ·simp only [Xf] at hb;subst hb;exact Ja h trivial (ZdS (op:=.eql) ho hT (.inl rfl) (Zg ρ hx))
   ·simp only [Xf] at hb;subst hb;exact Ja h trivial (ZdS (op:=.neq) ho hT (.inr rfl) (Zg ρ hx))
   ·cases hb
  ·cases hb
 ·exact Zoo hps.1 hg ho h
theorem Zmv {T:TypeId} {x:Option Operand} (ho:o.op = .makeMap T x) (h:(Yo P E tx tk g o n k).wp P R A ρ):YV tx P R A ρ g o n k:=by
 simp only [Yo,ho] at h;exact h.elim
theorem Zoj {T:TypeId} {m kx:Operand} {ok:Bool} (hg:∀ d,(g d).bd n) (ho:o.op = .lookup T m kx ok) (h:(Yo P E tx tk g o n k).wp P R A ρ):YV tx P R A ρ g o n k:=by
 simp only [Yo,ho] at h;exact h.elim
theorem ZhH {T:TypeId} {m kx v:Operand} (hg:∀ d,(g d).bd n) (ho:o.op = .insert T m kx v∨o.op = .mapUpdate T m kx v) (h:(Yo P E tx tk g o n k).wp P R A ρ):YV tx P R A ρ g o n k:=by
 rcases ho with ho | ho<;>simp only [Yo,ho] at h<;>exact h.elim
theorem Zt3 {c:Call} {f:FuncId} {d:Nat} {gf:FuncId} {l:LE} (hps:EnvSound P E) (ho:o.op = .call c) (hc:c.callee = .value (.func f)) (hit:Zsb P E g f c.args.toList=Xa (d,gf,l))
  (h:(STree.req (.mq .any l (.lit 0)) (k (.eref d 0 (.lit 0) 0 gf) [] [d] n)).wp P R A ρ):YV tx P R A ρ g o n k:=by
 cases hit
theorem Zo1 {c:Call} {f:FuncId} {d:Nat} {l:LE} (hps:EnvSound P E) (hg:∀ d,(g d).bd n) (ho:o.op = .call c) (hc:c.callee = .value (.func f)) (hit:ZlE P E g f c.args.toList=Xa (d,l))
  (h:(STree.req (.mq .keys l (.lit 0)) (k (.c (.slice Xe 1 (.mkeys l))) [] [d] n)).wp P R A ρ):YV tx P R A ρ g o n k:=by
 cases hit
theorem ZuX {c:Call} {f:FuncId} {d:Nat} {e:TypeId} {l:LE} (hps:EnvSound P E) (hg:∀ d,(g d).bd n) (ho:o.op = .call c) (hc:c.callee = .value (.func f)) (hit:Zo2 P E g f c.args.toList=Xa (d,e,l))
  (h:(STree.req (.lq .ints l (.lit 0)) (k .dead [(d,.own Xb e (.fn .dsort l (.lit 0) .nil .nil))] [d] n)).wp P R A ρ):YV tx P R A ρ g o n k:=by
 cases hit
theorem Zmt (hps:EnvSound P E) (hg:∀ d,(g d).bd n) (htop:∀ i,E.top≤i→g i = .dead) (h:(Yo P E tx tk g o n k).wp P R A ρ):YV tx P R A ρ g o n k:=by
 cases ho:o.op with
 | move x => exact ZtZ hg htop ho h
 | assign x => exact ZnN hg htop ho h
 | pick c a b => exact ZsT hg ho h
 | alloc T => exact Zqp ho h
 | box T x => exact Zuw hg ho h
 | build T parts => exact Zro hg htop ho h
 | buildSlice T len parts => exact Zf3 hg ho h
 | load T a => exact ZsI hg htop ho h
 | store T a x => exact ZqB hg htop ho h
 | nilCheck x => exact ZjJ hg ho h
 | binOp op T x y T' => exact ZqS hps hg ho h
 | unOp op T x => exact Zto hg ho h
 | convert S T x => exact Zmu hg ho h
 | fieldAddr T x f => exact ZiF hg ho h
 | field T x f => exact ZrB hg ho h
 | index T x i => exact Zp3 hg ho h
 | indexAddr T x i => exact ZhR hg ho h
 | makeSlice T a b => exact ZsR hg ho h
 | makeFunc fn first captured => exact ZjA ho h
 | makeMap T x => exact Zmv ho h
 | lookup T m kx ok => exact Zoj hg ho h
 | insert T m kx v => exact ZhH hg (.inl ho) h
 | mapUpdate T m kx v => exact ZhH hg (.inr ho) h
 | slice T x lo hi mx => exact Zrh hg htop ho h
 | extract x i => exact Zl1 hg ho h
 | call c =>
  cases hc:c.callee with
  | builtin b =>
   cases b with
   | len => exact Zvi hg ho hc h
   | append => exact Zpy hg htop ho hc h
   | copy => exact ZsO hg ho hc h
   | min => exact ZvO hg ho hc h
   | max => exact Zvk hg ho hc h
   | _ => simp only [Yo, ho, hc] at h; exact h.elim
  | value x =>
   cases x with
   | func f =>
    simp only [Yo,ho,hc] at h;split at h
    ·rename_i hit;exact Zt3 hps ho hc hit h
    split at h
    ·rename_i hit;exact Zo1 hps hg ho hc hit h
    split at h
    ·rename_i hit;exact ZuX hps hg ho hc hit h
    split at h
    case h_2=>
     rename_i hkl;split at h
     case isFalse=>exact h.elim
     rename_i hall;rw [XD] at hall
     cases htx:tx with
     | any N M => exact (hkl (by rw [htx]; rfl)).elim
     | text =>
     subst htx;refine Zog (ZcV E .text g (E.rfs f) c.args.toList) (fun u hu=>?_) ?_
     ·obtain ⟨k1,k2⟩:=Zj3 ρ hu;exact ⟨k1,k2,by simpa using hall u hu⟩
     ·split at h
      ·rename_i aZ has;obtain ⟨h1,h2,h3⟩:=Vj ρ _ _ _ has;refine ZiO (cps:=[]) (fun i hi=>by unfold ZhV;split;rfl;exact htop i hi) ho (.inl ⟨hc,rfl⟩) (by simpa using h1) h2 (fun i x hx hci=>?_) h;have hl:i < aZ.length:=by rw [← h1.1,Xr];exact (Xk.1 hx).1
       obtain ⟨t,d,q,j,e⟩:=h3 i _ x hx (Xp hl) (by rw [XH];exact hci);exact ⟨t,d,q,j,by rw [Xp hl,e]⟩
      ·exact h.elim
    split at h
    ·rename_i aZ has;obtain ⟨h1,h2,h3⟩:=Vj ρ _ _ _ has;refine ZiO (cps:=[]) htop ho (.inl ⟨hc,rfl⟩) (by simpa using h1) h2 (fun i x hx hci=>?_) h;have hl:i < aZ.length:=by rw [← h1.1,Xr];exact (Xk.1 hx).1
     obtain ⟨t,d,q,j,e⟩:=h3 i _ x hx (Xp hl) (by rw [XH];exact hci);exact ⟨t,d,q,j,by rw [Xp hl,e]⟩
    ·exact h.elim
   | tmp t =>
    simp only [Yo,ho,hc] at h;split at h
    ·rename_i f ds aZ ht has;obtain ⟨h1,h2,_⟩:=Vj ρ _ _ _ has;split at h
     ·rename_i cs hcs;obtain ⟨k1,k2⟩:=Ztu (P:=P) ρ hcs;refine ZiO (cps:=ds.map KU.cap) htop ho (.inr ⟨t,hc,.inl ⟨ds,by rw [ht];rfl,rfl⟩⟩) (h1.append k1) (fun a ha=>?_) (fun i _ _ hi=>by simp at hi) h;rcases Xv.1 ha with ha | ha
      ·exact h2 a ha
      ·exact k2 a ha
     ·exact h.elim
    ·exact h.elim
   | _ => simp only [Yo, ho, hc] at h; exact h.elim
  | _ => simp only [Yo, ho, hc] at h; exact h.elim
 | _ => simp only [Yo, ho] at h; exact h.elim
end
structure Stp where
 F:List Nat
 ups:List (Nat×AV)
 V:List Nat
def Stp.D (s:Stp):List Nat:=s.ups.map (·.1)++s.V
def Zw6 (pre:Nat→AV) (s:Stp):Prop:=
 ∀ u∈s.ups,u.2.isSto=(pre u.1).isSto∧∀ rows rows',pre u.1 = .store rows→u.2 = .store rows'→vS u.1∈s.V∨rows <+: rows'
def ZsN (T:Odr) (P:Program) (nt:Nat) (ops:Array Oper) (B:Nat→Prop) (i:Nat) (pre:Nat→AV) (s:Stp):Prop:=
 ((∀ u∈s.ups,u.1∈s.F)∧Zw6 pre s)∧(∀ u∈s.ups,B u.1→ZfA u.2)∧(∀ u∈s.ups,∀ d k,T.nr d u.1=Xb→¬ JB u.2 d k)∧(∀ u∈s.ups,∀ j,T.kp u.1 j=Xb→cellAt u.2 j=cellAt (pre u.1) j)∧
 ∀ (c:Ctx),c.P=P→c.nt=nt→∀ (σ':Nat→AV) (tm:Array Value) (w:World) (lim:Lm) (X:Nat→Nat→Option Nat),
  (∀ d∈s.F,σ' d=pre d)→(∀ d,B d→ZfA (σ' d))→T.rel pre σ'→(∀ d,vS d∈s.F→Zs9 (pre d) (σ' d))→Sim c σ' tm w lim X→∀ (Q:Exit→Act→World→Prop) (K:Act→World→Prop),
   (∀ tm' w' lim' X',Sim c (JG σ' s.ups) tm' w' lim' X'→K ⟨tm',[]⟩ w')→wpOp P ops Q i K ⟨tm,[]⟩ w
def ZfY (T:Odr) (P:Program) (nt:Nat) (ops:Array Oper) (B:Nat→Prop):Nat→(Nat→AV)→List Stp→Prop
 | _, _, [] => True
 | i, σ, s :: ss => ZsN T P nt ops B i σ s ∧ ZfY T P nt ops B (i + 1) (JG σ s.ups) ss
theorem Zgx {B:Nat→Prop} : ∀ (us:List (Nat×AV)) (σ:Nat→AV),(∀ u∈us,B u.1→ZfA u.2)→(∀ d,B d→ZfA (σ d))→∀ d,B d→ZfA (JG σ us d)
 | [], _, _, h, d, hd => h d hd
 | (e, x) :: us, σ, hu, h, d, hd => by
  refine Zgx us (upd σ e x) (fun u h'=>hu u (by simp [h'])) (fun d hd=>?_) d hd;by_cases he:d=e
  ·subst he;rw [ZI];exact hu (d,x) (by simp) hd
  ·rw [Ze _ _ he];exact h d hd
def Zco (σ:Nat→AV):List Stp→(Nat→AV)
 | [] => σ
 | s :: ss => Zco (JG σ s.ups) ss
section
variable {T:Odr} {P:Program} {nt:Nat} {ops:Array Oper} {B:Nat→Prop} {Q:Exit→Act→World→Prop} {c:Ctx}
theorem Zfl (hc:c.P=P) (hn:c.nt=nt):∀ (ss:List Stp) (i:Nat) (σ:Nat→AV) (tm:Array Value) (w:World) (lim:Lm) (X:Nat→Nat→Option Nat),
  ZfY .text P nt ops B i σ ss→(∀ d,B d→ZfA (σ d))→Sim c σ tm w lim X→(∀ tm' w' lim' X',Sim c (Zco σ ss) tm' w' lim' X'→Q .normal ⟨tm',[]⟩ w')→wpOps P ops Q (List.range' i ss.length) ⟨tm,[]⟩ w
 | [], i, σ, tm, w, lim, X, _, _, hs, hk => by
  show Q .normal ⟨tm,[]⟩ w;exact hk tm w lim X hs
 | s :: ss, i, σ, tm, w, lim, X, h, hb, hs, hk => by
  rw [XA,List.range'_succ,wpOps_cons];exact h.1.2.2.2.2 c hc hn σ tm w lim X (fun _ _=>rfl) hb rfl (fun _ _=>Zs9.refl _) hs Q _ fun tm' w' lim' X' hs'=>Zfl hc hn ss (i+1) _ tm' w' lim' X' h.2 (Zgx _ _ h.1.2.1 hb) hs' hk
def Ww:List (Nat×AV)→Nat→Option AV
 | [], _ => Xc
 | (e, x) :: us, d => match Ww us d with | some y => Xa y | none => if d = e then Xa x else Xc
theorem Jm:∀ (us:List (Nat×AV)) (σ:Nat→AV) (d:Nat),JG σ us d=(Ww us d).getD (σ d)
 | [], σ, d => rfl
 | (e, x) :: us, σ, d => by
  simp only [JG,Ww,Jm us]
  cases Ww us d with
  | some y => rfl
  | none =>
   by_cases h:d=e
   ·subst h;simp [upd]
   ·simp [upd,h]
theorem Y3:∀ (us:List (Nat×AV)) (d:Nat),d∉us.map (·.1)→Ww us d=Xc
 | [], d, _ => rfl
 | (e, x) :: us, d, h => by
  simp only [Xh,Xq,not_or] at h;simp only [Ww,Y3 us d h.2,if_neg h.1]
theorem Vl:∀ (us:List (Nat×AV)) (d:Nat),d∈us.map (·.1)→∃ x,Ww us d=Xa x
 | [], d, h => by simp at h
 | (e, x) :: us, d, h => by
  simp only [Ww]
  cases hl:Ww us d with
  | some y => exact ⟨y, rfl⟩
  | none =>
   simp only [Xh,Xq] at h;rcases h with h | h
   ·subst h;exact ⟨x,by simp⟩
   ·obtain ⟨y,hy⟩:=Vl us d h;rw [hl] at hy;cases hy
def comp (S:Nat→Bool):Nat→(Nat→AV)→List Stp→(Nat→AV)
 | _, σ, [] => σ
 | i, σ, s :: ss => comp S (i + 1) (if S i = Xb then JG σ s.ups else σ) ss
theorem ZkI (S:Nat→Bool):∀ (ss:List Stp) (i:Nat) (σ:Nat→AV),(∀ j,i≤j→j < i+ss.length→S j=Xb)→comp S i σ ss=Zco σ ss
 | [], _, _, _ => rfl
 | s :: ss, i, σ, h => by
  simp only [comp,Zco,h i (Xy _) (by simp),if_true];exact ZkI S ss (i+1) _ fun j h1 h2=>h j (by omega) (by simp only [XA];omega)
theorem Zds (S:Nat→Bool):∀ (ss:List Stp) (i:Nat) (σ:Nat→AV),(∀ j,i≤j→j < i+ss.length→S j=Xe)→comp S i σ ss=σ
 | [], _, _, _ => rfl
 | s :: ss, i, σ, h => by
  simp only [comp,h i (Xy _) (by simp),UF,if_false];exact Zds S ss (i+1) _ fun j h1 h2=>h j (by omega) (by simp only [XA];omega)
theorem Vf {d:Nat} (S T:Nat→Bool):∀ (ss:List Stp) (i:Nat) (σ τ:Nat→AV),σ d=τ d→(∀ (j:Nat) (s:Stp),ss[j]? = Xa s→d∈s.ups.map (·.1)→S (i+j)=T (i+j))→comp S i σ ss d=comp T i τ ss d
 | [], _, _, _, h, _ => h
 | s :: ss, i, σ, τ, h, hS => by
  simp only [comp]
  refine Vf S T ss (i+1) _ _ ?_ fun j s' hs' hd=>by
   have:=hS (j+1) s' (by simpa using hs') hd;rw [show i+1+j=i+(j+1) by omega];exact this
  by_cases hd:d∈s.ups.map (·.1)
  ·have h0:=hS 0 s rfl hd;rw [Uh] at h0;rw [h0];split
   ·rw [Jm,Jm,h]
   ·exact h
  ·have hl:=Y3 s.ups d hd
   split<;>split<;>first
    | (rw [Jm, Jm, hl]; exact h)
    | (rw [Jm, hl]; exact h)
    | exact h
theorem Zbu:∀ (ss:List Stp) (i:Nat) (σ:Nat→AV) (m:Nat),comp (fun j=>decide (j < i+m)) i σ ss=Zco σ (ss.take m)
 | [], i, σ, m => by simp [comp, Zco]
 | s :: ss, i, σ, 0 => by
  rw [List.take_zero];exact Zds _ (s::ss) i σ fun j h1 _=>by simp;omega
 | s :: ss, i, σ, m + 1 => by
  simp only [comp,List.take_succ_cons,Zco,decide_eq_true_eq];rw [if_pos (by omega),← Zbu ss (i+1)];congr 1;funext j;rw [show i+1+m=i+(m+1) by omega]
theorem ZoV (S:Nat→Bool):∀ (ss:List Stp) (i:Nat) (σ:Nat→AV),(∀ s∈ss,∀ u∈s.ups,B u.1→ZfA u.2)→(∀ d,B d→ZfA (σ d))→∀ d,B d→ZfA (comp S i σ ss d)
 | [], _, _, _, h, d, hd => h d hd
 | s :: ss, i, σ, hu, h, d, hd => by
  simp only [comp];refine ZoV S ss (i+1) _ (fun s' hs'=>hu s' (by simp [hs'])) (fun d hd=>?_) d hd;split
  ·exact Zgx _ _ (hu s (by simp)) h d hd
  ·exact h d hd
theorem Zhh:∀ (ss:List Stp) (i:Nat) (σ:Nat→AV),ZfY T P nt ops B i σ ss→∀ s∈ss,∀ u∈s.ups,B u.1→ZfA u.2
 | [], _, _, _, s, hs => by simp at hs
 | s0 :: ss, i, σ, h, s, hs => by
  rcases Xq.1 hs with rfl | hs
  ·exact h.1.2.1
  ·exact Zhh ss (i+1) _ h.2 s hs
theorem Znl:∀ (us:List (Nat×AV)) (σ:Nat→AV),(∀ u∈us,∀ d k,T.nr d u.1=Xb→¬ JB u.2 d k)→(∀ d i k,T.nr d i=Xb→¬ JB (σ i) d k)→∀ d i k,T.nr d i=Xb→¬ JB (JG σ us i) d k
 | [], _, _, h => h
 | (e, x) :: us, σ, hu, h => by
  refine Znl us (upd σ e x) (fun u h'=>hu u (by simp [h'])) fun d i k hd=>?_;by_cases he:i=e
  ·subst he;rw [ZI];exact hu (i,x) (by simp) d k hd
  ·rw [Ze _ _ he];exact h d i k hd
theorem ZnD (S:Nat→Bool):∀ (ss:List Stp) (i:Nat) (σ:Nat→AV),(∀ s∈ss,∀ u∈s.ups,∀ d k,T.nr d u.1=Xb→¬ JB u.2 d k)→(∀ d i k,T.nr d i=Xb→¬ JB (σ i) d k)→∀ d j k,T.nr d j=Xb→¬ JB (comp S i σ ss j) d k
 | [], _, _, _, h => h
 | s :: ss, i, σ, hu, h => by
  simp only [comp];refine ZnD S ss (i+1) _ (fun s' hs'=>hu s' (by simp [hs'])) ?_;split
  ·exact Znl _ _ (hu s (by simp)) h
  ·exact h
theorem ZkD:∀ (ss:List Stp) (i:Nat) (σ:Nat→AV),ZfY T P nt ops B i σ ss→∀ s∈ss,∀ u∈s.ups,∀ d k,T.nr d u.1=Xb→¬ JB u.2 d k
 | [], _, _, _, s, hs => by simp at hs
 | s0 :: ss, i, σ, h, s, hs => by
  rcases Xq.1 hs with rfl | hs
  ·exact h.1.2.2.1
  ·exact ZkD ss (i+1) _ h.2 s hs
theorem Zgy {τ:Nat→AV} : ∀ (us:List (Nat×AV)) (σ:Nat→AV),(∀ u∈us,∀ j,T.kp u.1 j=Xb→cellAt u.2 j=cellAt (τ u.1) j)→(∀ d j,T.kp d j=Xb→cellAt (σ d) j=cellAt (τ d) j)→∀ d j,T.kp d j=Xb→cellAt (JG σ us d) j=cellAt (τ d) j
 | [], _, _, h => h
 | (e, x) :: us, σ, hu, h => by
  refine Zgy us (upd σ e x) (fun u h'=>hu u (by simp [h'])) fun d j hd=>?_;by_cases he:d=e
  ·subst he;rw [ZI];exact hu (d,x) (by simp) j hd
  ·rw [Ze _ _ he];exact h d j hd
theorem ZnG (S:Nat→Bool):∀ (ss:List Stp) (i:Nat) (τ σ:Nat→AV),(∀ s∈ss,∀ u∈s.ups,∀ j,T.kp u.1 j=Xb→cellAt u.2 j=cellAt (τ u.1) j)→(∀ d j,T.kp d j=Xb→cellAt (σ d) j=cellAt (τ d) j)→∀ d j,T.kp d j=Xb→cellAt (comp S i σ ss d) j=cellAt (τ d) j
 | [], _, _, _, _, h => h
 | s :: ss, i, τ, σ, hu, h => by
  simp only [comp];refine ZnG S ss (i+1) τ _ (fun s' hs'=>hu s' (by simp [hs'])) ?_;split
  ·exact Zgy _ _ (hu s (by simp)) h
  ·exact h
theorem Zoe:∀ (ss:List Stp) (τ σ:Nat→AV),(∀ s∈ss,∀ u∈s.ups,∀ j,T.kp u.1 j=Xb→cellAt u.2 j=cellAt (τ u.1) j)→(∀ d j,T.kp d j=Xb→cellAt (σ d) j=cellAt (τ d) j)→∀ d j,T.kp d j=Xb→cellAt (Zco σ ss d) j=cellAt (τ d) j
 | [], _, _, _, h => h
 | s :: ss, τ, σ, hu, h => by
  simp only [Zco];exact Zoe ss τ _ (fun s' hs'=>hu s' (by simp [hs'])) (Zgy _ _ (hu s (by simp)) h)
theorem ZgI:∀ (ss:List Stp) (i:Nat) (σ:Nat→AV),ZfY T P nt ops B i σ ss→∀ s∈ss,∀ u∈s.ups,∀ j,T.kp u.1 j=Xb→cellAt u.2 j=cellAt (σ u.1) j
 | [], _, _, _, s, hs => by simp at hs
 | s0 :: ss, i, σ, h, s, hs => by
  rcases Xq.1 hs with rfl | hs
  ·exact h.1.2.2.2.1
  ·intro u hu j hj;rw [ZgI ss (i+1) _ h.2 s hs u hu j hj];exact Zgy s0.ups σ (τ:=σ) h.1.2.2.2.1 (fun _ _ _=>rfl) u.1 j hj
theorem Zc0:∀ (ss:List Stp) (i:Nat) (σ:Nat→AV),ZfY T P nt ops B i σ ss→∀ (j:Nat) (s:Stp),ss[j]? = Xa s→ZsN T P nt ops B (i+j) (Zco σ (ss.take j)) s
 | [], _, _, _, j, s, h => by simp at h
 | s0 :: ss, i, σ, hc, 0, s, h => by
  simp only [XB,Xf] at h;subst h;exact hc.1
 | s0 :: ss, i, σ, hc, j + 1, s, h => by
  have:=Zc0 ss (i+1) _ hc.2 j s (by simpa using h);rw [show i+(j+1)=i+1+j by omega];exact this
theorem Zb3:∀ (us:List (Nat×AV)) (d:Nat) (x:AV),Ww us d=Xa x→(d,x)∈us
 | [], d, x, h => by simp [Ww] at h
 | (e, y) :: us, d, x, h => by
  simp only [Ww] at h
  cases hl:Ww us d with
  | some z =>
   rw [hl] at h
   cases h
   exact List.mem_cons_of_mem _ (Zb3 us d _ hl)
  | none =>
   rw [hl] at h;simp only at h;split at h
   ·rename_i hd
    cases h
    subst hd;exact List.mem_cons_self
   ·cases h
theorem Zdb (S:Nat→Bool) (d:Nat) (ss:List Stp):∀ (n:Nat),n≤ss.length→∃ m,m≤n∧(∀ (j:Nat) (s:Stp),ss[j]? = Xa s→d∈s.ups.map (·.1)→m≤j→j < n→S j=Xb→False)∧
  (m=0∨∃ m',m=m'+1∧S m'=Xb∧∃ s,ss[m']? = Xa s∧d∈s.ups.map (·.1))
 | 0, _ => ⟨0, Xy _, fun _ _ _ _ _ h => by omega, .inl rfl⟩
 | n + 1, hn => by
  obtain ⟨m,h1,h2,h3⟩:=Zdb S d ss n (by omega);obtain ⟨s,hs⟩:∃ s,ss[n]? = Xa s:=⟨_,Xp (by omega)⟩;by_cases hw:S n=Xb∧d∈s.ups.map (·.1)
  ·exact ⟨n+1,Xy _,fun j s' _ _ _ _=>by omega,.inr ⟨n,rfl,hw.1,s,hs,hw.2⟩⟩
  ·refine ⟨m,by omega,fun j s' hj hd hm hlt hS=>?_,h3⟩;rcases XG j n with hlt' | hge
   ·exact h2 j s' hj hd hm hlt' hS
   ·have:j=n:=by omega
    subst this;rw [hs] at hj
    cases hj
    exact hw ⟨hS,hd⟩
theorem Zlb:∀ (l:List Stp) (s:Stp) (τ:Nat→AV),Zco τ (l++[s])=JG (Zco τ l) s.ups
 | [], _, _ => rfl
 | _ :: l, s, _ => Zlb l s _
theorem Zdz {ss:List Stp} {σ:Nat→AV} (hch:ZfY T P nt ops B 0 σ ss) (d a:Nat):∀ (b:Nat),a≤b→(∀ (j:Nat) (s:Stp),a≤j→j < b→ss[j]? = Xa s→d∈s.ups.map (·.1)→vS d∉s.V)→
  (∀ rows,Zco σ (ss.take a) d = .store rows→∃ rows',Zco σ (ss.take b) d = .store rows'∧rows <+: rows')∧∀ rows,Zco σ (ss.take b) d = .store rows→∃ rows',Zco σ (ss.take a) d = .store rows'∧rows' <+: rows
 | 0, h, _ => by
  have:a=0:=by omega
  subst this;exact ⟨fun rows h=>⟨rows,h,Ti _⟩,fun rows h=>⟨rows,h,Ti _⟩⟩
 | b + 1, h, hg => by
  rcases XG b a with hlt | hge
  ·have:a=b+1:=by omega
   subst this;exact ⟨fun rows h=>⟨rows,h,Ti _⟩,fun rows h=>⟨rows,h,Ti _⟩⟩
  ·obtain ⟨i1,i2⟩:=Zdz hch d a b hge fun j s h1 h2=>hg j s h1 (by omega);rw [List.take_add_one]
   cases hs:ss[b]? with
   | none => simp only [Option.toList_none, XN]; exact ⟨i1, i2⟩
   | some s =>
    rw [Option.toList_some,Zlb,Jm];have hst:=(Zc0 ss 0 σ hch b s hs).1.2
    cases hl:Ww s.ups d with
    | none => exact ⟨i1, i2⟩
    | some x =>
     have hm:=Zb3 _ _ _ hl;obtain ⟨g1,g2⟩:=hst _ hm;have hnv:=hg b s hge (by omega) hs (Xj.2 ⟨_,hm,rfl⟩);refine ⟨fun rows hr=>?_,fun rows hr=>?_⟩
     ·obtain ⟨rows',k1,k2⟩:=i1 rows hr;simp only [UZ];dsimp only at g1 g2;rw [k1] at g1
      cases x<;>simp [AV.isSto] at g1
      exact ⟨_,rfl,k2.trans ((g2 rows' _ k1 rfl).resolve_left hnv)⟩
     ·simp only [UZ] at hr;dsimp only at g1 g2;rw [hr] at g1
      cases hp:Zco σ (ss.take b) d with
      | store rows' =>
       obtain ⟨rows2,k1,k2⟩:=i2 rows' hp;exact ⟨rows2,k1,k2.trans ((g2 rows' _ hp hr).resolve_left hnv)⟩
      | _ => rw [hp] at g1; cases g1
theorem ZpP (hc:c.P=P) (hn:c.nt=nt) {N:Nat→Bool} {M:Nat→Option Nat} {K:List (Nat×Nat)} {ss:List Stp} {σ:Nat→AV} (hch:ZfY (.any N M K) P nt ops B 0 σ ss) (hN:∀ d i k,(Odr.any N M K).nr d i=Xb→¬ JB (σ i) d k) (hpb:∀ d,B d→ZfA (σ d)) (hlen:ss.length=ops.size)
  (hlow:∀ (i:Nat) (o:Oper),ops[i]? = Xa o→∀ e∈o.after,Region.binds .any e=Xb→e.on < i)
  (hind:∀ (i j:Nat) (a b:Stp),ss[i]? = Xa a→ss[j]? = Xa b→j < i→(∃ S:Nat→Prop,(∀ k o,ops[k]? = Xa o→S k→∀ e∈o.after,Region.binds .any e=Xb→S e.on)∧S i∧¬ S j)→
   (∀ d∈b.D,d∉a.F)∧∀ d∈a.D,d∉b.F) (hfin:∀ tm' w' lim' X',Sim c (Zco σ ss) tm' w' lim' X'→Q .normal ⟨tm',[]⟩ w') :
  ∀ (fuel:Nat) (listed:Array Bool) (tm:Array Value) (w:World) (lim:Lm) (X:Nat→Nat→Option Nat),listed.size=ops.size→
   (∀ k o,ops[k]? = Xa o→listed.getD k Xe=Xb→∀ e∈o.after,Region.binds .any e=Xb→listed.getD e.on Xe=Xb)→
   ((Ua ops.size).countP (fun i=>!listed.getD i Xe)≤fuel)→
   Sim c (comp (fun i=>listed.getD i Xe) 0 σ ss) tm w lim X→wpAny P .any ops Q fuel listed ⟨tm,[]⟩ w:=by
 -- where nothing is ready, all is done
 have hdone:∀ (listed:Array Bool),listed.size=ops.size→Region.ready .any ops listed = []→∀ j,j < ops.size→listed.getD j Xe=Xb:=by
  intro listed hsz hr j
  induction j using Nat.strongRecOn with
  | _ j ih =>
   intro hj
   cases hl:listed.getD j Xe with
   | true => rfl
   | false =>
    have:j∈Region.ready .any ops listed:=by
     rw [mem_ready];refine ⟨?_,ops[j],XV hj,fun e he hb=>?_⟩
     ·simp only [Ub,hsz,hj,dite_true] at hl ⊢;exact hl
     ·have hlt:=hlow j _ (XV hj) e he hb;exact ih e.on hlt (by omega)
    rw [hr] at this
    cases this
 have hend:∀ (listed:Array Bool) (tm:Array Value) (w:World) (lim:Lm) (X:Nat→Nat→Option Nat),listed.size=ops.size→Region.ready .any ops listed = []→
   Sim c (comp (fun i=>listed.getD i Xe) 0 σ ss) tm w lim X→Q .normal ⟨tm,[]⟩ w:=by
  intro listed tm w lim X hsz hr hs;rw [ZkI _ ss 0 σ fun j _ h2=>hdone listed hsz hr j (by omega)] at hs;exact hfin tm w lim X hs
 intro fuel
 induction fuel with
 | zero =>
  intro listed tm w lim X hsz hcl hcnt hs
  have hall:∀ j,j < ops.size→listed.getD j Xe=Xb:=by
   intro j hj;have h0:(Ua ops.size).countP (fun i=>!listed.getD i Xe)=0:=by omega
   have:=(List.countP_eq_zero.1 h0) j (by simpa using hj);simpa using this
  have hr:Region.ready .any ops listed = []:=by
   refine List.eq_nil_iff_forall_not_mem.2 fun j hj=>?_;obtain ⟨h1,o,h2,_⟩:=mem_ready.1 hj;have hlt:=(Wk.1 h2).1;have:=hall j hlt;simp only [Ub,hsz,hlt,dite_true] at h1 this;rw [h1] at this
   cases this
  exact ⟨hr,hend listed tm w lim X hsz hr hs⟩
 | succ fuel ih =>
  intro listed tm w lim X hsz hcl hcnt hs;refine ⟨fun hr=>hend listed tm w lim X hsz hr hs,fun i hi=>?_⟩;obtain ⟨h1,o,h2,h3⟩:=mem_ready.1 hi;have hlt:=(Wk.1 h2).1
  have hun:listed.getD i Xe=Xe:=by
   simp only [Ub,hsz,hlt,dite_true] at h1 ⊢;exact h1
  obtain ⟨s,hsi⟩:∃ s,ss[i]? = Xa s:=⟨_,Xp (by omega)⟩;have hst:=Zc0 ss 0 σ hch i s hsi;rw [XH] at hst
  have hset:∀ j,(listed.setIfInBounds i Xb).getD j Xe=if j=i then Xb else listed.getD j Xe:=by
   intro j;by_cases hji:j=i
   ·subst hji;simp [Ub,hsz,hlt]
   ·rw [if_neg hji,getD_set_ne Xe (Ne.symm hji)]
  -- i is not before what is listed
  have hnot:∀ j,listed.getD j Xe=Xb→∃ S:Nat→Prop,(∀ k o,ops[k]? = Xa o→S k→∀ e∈o.after,Region.binds .any e=Xb→S e.on)∧S j∧¬ S i:=
   fun j hj=>⟨fun k=>listed.getD k Xe=Xb,hcl,hj,by simp [hun]⟩
  -- what is not listed is not before i
  have hnot':∀ j,j≠i→listed.getD j Xe=Xe→∃ S:Nat→Prop,(∀ k o,ops[k]? = Xa o→S k→∀ e∈o.after,Region.binds .any e=Xb→S e.on)∧S i∧¬ S j:=by
   intro j hji hj;refine ⟨fun k=>k=i∨listed.getD k Xe=Xb,fun k o' hk hS e he hb=>?_,.inl rfl,by simp [hji,hj]⟩;rcases hS with rfl | hS
   ·rw [h2] at hk
    cases hk
    exact .inr (h3 e he hb)
   ·exact .inr (hcl k o' hk hS e he hb)
  have hpre:∀ d∈s.F,comp (fun i=>listed.getD i Xe) 0 σ ss d=Zco σ (ss.take i) d:=by
   intro d hd;rw [← Zbu ss 0 σ i];refine Vf _ _ ss 0 σ σ rfl fun j s' hj hdj=>?_;simp only [XH];rcases Tn j i with hlt' | rfl | hgt
   ·simp only [hlt',decide_true]
    cases hl:listed.getD j Xe with
    | true => rfl
    | false => exact (((hind i j s s' hsi hj hlt' (hnot' j (by omega) hl)).1 d (UG _ hdj)) hd).elim
   ·simp [hun]
   ·have hf:decide (j < i)=Xe:=by simp;omega
    rw [hf]
    cases hl:listed.getD j Xe with
    | false => rfl
    | true => exact (((hind j i s' s hj hsi hgt (hnot j hl)).2 d (UG _ hdj)) hd).elim
  have hcmp:∀ d,vS d∈s.F→Zs9 (Zco σ (ss.take i) d) (comp (fun i=>listed.getD i Xe) 0 σ ss d):=by
   intro d hd;obtain ⟨m,hm1,hm2,hm3⟩:=Zdb (fun i=>listed.getD i Xe) d ss ss.length (Xy _)
   have hall:∀ (j:Nat) (s':Stp),ss[j]? = Xa s'→d∈s'.ups.map (·.1)→listed.getD j Xe=decide (j < m):=by
    intro j s' hj hdj;by_cases hjm:j < m
    ·rw [decide_eq_true hjm];rcases hm3 with rfl | ⟨m',rfl,hS,s2,hs2,hd2⟩
     ·omega
     ·cases hl:listed.getD j Xe with
      | true => rfl
      | false =>
       exfalso;have hne:j≠m':=fun e=>by rw [e,hS] at hl;cases hl
       have hF2:d∈s2.F:=by
        obtain ⟨u,hu,rfl⟩:=Xj.1 hd2;have:=Zc0 ss 0 σ hch m' s2 hs2;exact this.1.1 u hu
       exact ((hind m' j s2 s' hs2 hj (by omega) ⟨fun k=>listed.getD k Xe=Xb,hcl,hS,by simp [hl]⟩).1 d (UG _ hdj)) hF2
    ·rw [decide_eq_false hjm]
     cases hl:listed.getD j Xe with
     | false => rfl
     | true => exact (hm2 j s' hj hdj (by omega) (Xk.1 hj).1 hl).elim
   have hcomp:comp (fun i=>listed.getD i Xe) 0 σ ss d=Zco σ (ss.take m) d:=by
    rw [← Zbu ss 0 σ m];exact Vf _ _ ss 0 σ σ rfl fun j s' hj hdj=>by simp only [XH];exact hall j s' hj hdj
   rw [hcomp];rcases XG i m with hlt' | hge
   ·intro rows hr
    obtain ⟨rows',g1,g2⟩:=(Zdz hch d i m (Nat.le_of_lt hlt') fun j s' hj1 hj2 hj hdj hv=>by
     have hl:listed.getD j Xe=Xb:=by rw [hall j s' hj hdj];exact decide_eq_true hj2
     have hji:j≠i:=fun e=>by rw [e,hun] at hl;cases hl
     exact ((hind j i s' s hj hsi (by omega) (hnot j hl)).2 _ (Td _ hv)) hd).1 rows hr
    exact ⟨rows',g1,.inl g2⟩
   ·intro rows hr
    obtain ⟨rows',g1,g2⟩:=(Zdz hch d m i hge fun j s' hj1 hj2 hj hdj hv=>by
     have hl:listed.getD j Xe=Xe:=by rw [hall j s' hj hdj];exact decide_eq_false (by omega)
     exact ((hind i j s s' hsi hj hj2 (hnot' j (by omega) hl)).1 _ (Td _ hv)) hd).2 rows hr
    exact ⟨rows',g1,.inr g2⟩
  refine hst.2.2.2.2 c hc hn _ tm w lim X hpre (ZoV _ ss 0 σ (Zhh ss 0 σ hch) hpb) ⟨ZnD _ ss 0 σ (ZkD ss 0 σ hch) hN,fun d j hd=>(ZnG _ ss 0 σ σ (ZgI ss 0 σ hch) (fun _ _ _=>rfl) d j hd).trans (Zoe (ss.take i) σ σ (fun s' hs'=>ZgI ss 0 σ hch s' (XR hs')) (fun _ _ _=>rfl) d j hd).symm⟩ hcmp hs Q _ fun tm' w' lim' X' hs'=>?_;refine ih (listed.setIfInBounds i Xb) tm' w' lim' X' (by simpa using hsz) ?_ ?_ ?_
  ·intro k o' hk hl e he hb;rw [hset] at hl ⊢;by_cases hei:e.on=i
   ·simp [hei]
   ·rw [if_neg hei];by_cases hki:k=i
    ·subst hki;rw [h2] at hk
     cases hk
     exact h3 e he hb
    ·rw [if_neg hki] at hl;exact hcl k o' hk hl e he hb
  ·have hlt2:(Ua ops.size).countP (fun j=>!(listed.setIfInBounds i Xb).getD j Xe) < (Ua ops.size).countP (fun j=>!listed.getD j Xe):=by
    have key:∀ (l:List Nat),i∈l→l.countP (fun j=>!(listed.setIfInBounds i Xb).getD j Xe) < l.countP (fun j=>!listed.getD j Xe):=by
     have hle:∀ (l:List Nat),l.countP (fun j=>!(listed.setIfInBounds i Xb).getD j Xe)≤l.countP (fun j=>!listed.getD j Xe):=by
      intro l;refine List.countP_mono_left fun j _ hj=>?_;rw [hset] at hj;split at hj
      ·simp at hj
      ·exact hj
     intro l
     induction l with
     | nil => intro h; cases h
     | cons x l ihl =>
      intro h;rw [UU,UU];by_cases hx:x=i
      ·subst hx;have h1:(listed.setIfInBounds x Xb).getD x Xe=Xb:=by rw [hset,if_pos rfl]
       have:=hle l;rw [h1,hun];simp only [Bool.not_true,Bool.not_false,UF,if_false,if_true];omega
      ·have:=ihl (by rcases Xq.1 h with h | h;exact (hx h.symm).elim;exact h);rw [hset x,if_neg hx];omega
    exact key _ (by simpa using hlt)
   omega
  ·have he:comp (fun j=>(listed.setIfInBounds i Xb).getD j Xe) 0 σ ss=JG (comp (fun i=>listed.getD i Xe) 0 σ ss) s.ups:=by
    funext d;rw [Jm];by_cases hd:d∈s.ups.map (·.1)
    ·have hdF:d∈s.F:=by
      obtain ⟨u,hu,rfl⟩:=Xj.1 hd;exact hst.1.1 u hu
     -- nothing behind i that is listed writes d
     rw [Vf (d:=d) _ (fun j=>decide (j < i+1)) ss 0 σ σ rfl fun j s' hj hdj=>?_]
     ·have:=Zbu ss 0 σ (i+1);rw [XH] at this;rw [this,List.take_add_one,hsi]
      have happ:∀ (l:List Stp) (τ:Nat→AV),Zco τ (l++[s])=JG (Zco τ l) s.ups:=by
       intro l
       induction l with
       | nil => intro τ; rfl
       | cons x l ihl => intro τ; exact ihl _
      show Zco σ (ss.take i++[s]) d=_;rw [happ,Jm];obtain ⟨x,hx⟩:=Vl s.ups d hd;rw [hx];rfl
     ·rw [XH,hset];rcases Tn j i with hlt' | rfl | hgt
      ·have:decide (j < i+1)=Xb:=by simp;omega
       rw [this,if_neg (by omega)]
       cases hl:listed.getD j Xe with
       | true => rfl
       | false => exact (((hind i j s s' hsi hj hlt' (hnot' j (by omega) hl)).1 d (UG _ hdj)) hdF).elim
      ·simp
      ·have:decide (j < i+1)=Xe:=by simp;omega
       rw [this,if_neg (by omega)]
       cases hl:listed.getD j Xe with
       | false => rfl
       | true => exact (((hind j i s' s hj hsi hgt (hnot j hl)).2 d (UG _ hdj)) hdF).elim
    ·rw [Y3 s.ups d hd];refine Vf _ _ ss 0 σ σ rfl fun j s' hj hdj=>?_;rw [XH,hset];by_cases hji:j=i
     ·subst hji;rw [hsi] at hj
      cases hj
      exact (hd hdj).elim
     ·rw [if_neg hji]
   rw [he];exact hs'
end
theorem Zf2 {ops:Array Oper} {S:Nat→Prop} (hS:∀ k o,ops[k]? = Xa o→S k→∀ e∈o.after,Region.binds .any e=Xb→S e.on) (i j:Nat) (hi:S i)
  (hb:((Region.before ops).getD i 0).testBit j=Xb):S j:=by
 have inner:∀ (acc:Array Nat),(∀ i j,S i→(acc.getD i 0).testBit j=Xb→S j)→∀ (l:List Edge),(∀ e∈l,Region.binds .any e=Xb→S e.on)→∀ (s:Nat),(∀ j,s.testBit j=Xb→S j)→
   ∀ j,(l.foldl (fun s e=>if Region.binds .any e then s||| 2^e.on||| acc.getD e.on 0 else s) s).testBit j=Xb→S j:=by
  intro acc hacc l
  induction l with
  | nil => intro _ s hs j hj; exact hs j hj
  | cons e l ih =>
   intro hl s hs j hj;rw [List.foldl_cons] at hj;refine ih (fun e' he'=>hl e' (by simp [he'])) _ ?_ j hj;intro j' hj';split at hj'
   ·rename_i hbd;have hon:=hl e (by simp) hbd;rw [Nat.testBit_or,Nat.testBit_or,Nat.testBit_two_pow,UW,UW,decide_eq_true_eq] at hj';rcases hj' with (h | h) | h
    ·exact hs j' h
    ·rw [← h];exact hon
    ·exact hacc e.on j' hon h
   ·exact hs j' hj'
 have outer:∀ (l:List Oper) (acc:Array Nat),(∀ j,l[j]? = ops[acc.size+j]?)→(∀ i j,S i→(acc.getD i 0).testBit j=Xb→S j)→
   ∀ i j,S i→((l.foldl (fun acc o=>acc.push (o.after.foldl (fun s e=>if Region.binds .any e then s||| 2^e.on||| acc.getD e.on 0 else s) 0)) acc).getD i 0).testBit j=Xb→S j:=by
  intro l
  induction l with
  | nil => intro acc _ hacc i j hi hj; exact hacc i j hi hj
  | cons o l ih =>
   intro acc hl hacc i j hi hj;rw [List.foldl_cons] at hj;refine ih _ (fun j=>?_) ?_ i j hi hj
   ·have:=hl (j+1);simp only [XQ,Array.size_push] at this ⊢;rw [this];congr 1;omega
   ·intro i' j' hi' hj';have h0:ops[acc.size]? = Xa o:=by simpa using (hl 0).symm
    by_cases h:i' < acc.size
    ·refine hacc i' j' hi' ?_;simp only [Ub,Array.size_push,h,dite_true] at hj' ⊢;rw [dif_pos (by omega)] at hj';simp only [Array.getInternal_eq_getElem,Array.getElem_push,h,dite_true] at hj' ⊢;exact hj'
    ·by_cases h':i'=acc.size
     ·subst h'
      have:(acc.push (o.after.foldl (fun s e=>if Region.binds .any e then s||| 2^e.on||| acc.getD e.on 0 else s) 0)).getD acc.size 0=o.after.foldl (fun s e=>if Region.binds .any e then s||| 2^e.on||| acc.getD e.on 0 else s) 0:=by
       simp [Ub]
      rw [this,← Array.foldl_toList] at hj';exact inner acc hacc o.after.toList (fun e he hb=>hS acc.size o h0 hi' e (by simpa using he) hb) 0 (by simp) j' hj'
     ·have:(acc.push (o.after.foldl (fun s e=>if Region.binds .any e then s||| 2^e.on||| acc.getD e.on 0 else s) 0)).getD i' 0=0:=by
       simp only [Ub,Array.size_push];rw [dif_neg (by omega)]
      rw [this] at hj';simp at hj'
 have:=outer ops.toList #[] (fun j=>by simp) (fun i j _ h=>by simp at h) i j hi;apply this;rw [Array.foldl_toList];exact hb
theorem Sim.stoStep {c:Ctx} {σ:Nat→AV} {tm:Array Value} {w w':World} {lim lim':Lm} {X:Nat→Nat→Option Nat} (h:Sim c σ tm w lim X) {d:Nat} {rows rows':List (List AV)} {r:Nat→Option Nat} (hd:σ d = .store rows)
  (hw:K7 w lim w' lim' (fun b=>∃ k,X d k=Xa b) Xb) (hx:JC c.P w' lim' r rows') (hr1:∀ k b,r k=Xa b→b < w'.heap.size∧(c.A b∨c.w0.heap.size≤b)∧∀ i j,i≠d→X i j≠Xa b)
  (hr2:∀ k k' b,r k=Xa b→r k'=Xa b→k=k'):Sim c (upd σ d (.store rows')) tm w' lim' (ZcA X d r):=by
 have hds:(σ d).isSto=Xb:=by rw [hd];rfl
 have hone:∀ i,(σ i).isSto=Xb→i=d:=fun i hi=>h.stf.2 i d hi hds
 have hdN:d < ngN:=by
  rcases XG d ngN with hlt | hge
  ·exact hlt
  ·have:=h.far d hge;rw [hd] at this;cases this
 have hX0:X d 0=Xc:=by
  have:=h.rel d;rw [hd] at this;exact this.2.1
 have kept:∀ i k b,i≠d→X i k=Xa b→Zha w lim w' lim' b:=fun i k b hi hb=>hw.blk b (h.ours i k b hb).1 fun ⟨k',hk'⟩=>hi (h.dist i k d k' b hb hk').1
 have hnf:∀ i k,JB (σ i) d k→False:=fun i k hr=>by
  obtain ⟨p,hp⟩:=WK h hr;rw [hd] at hp
  cases k<;>cases hp
 refine ⟨fun i=>?_,h.size,fun i hi=>?_,fun i hi=>?_,fun i k i' k' b g g'=>?_,fun i k b g=>?_,h.frm.cstep hw (fun b ⟨k,hk⟩=>(h.ours d k b hk).2) (fun hc=>(by rw [h.stf.1 hc d] at hds;cases hds)),fun i v hv=>?_,fun i e xs he=>?_,fun i b hb=>?_,h.ntN,fun i hi=>?_,fun i k e xs b m1 m2 m3=>?_,fun b m b' hb=>?_,⟨fun hc=>(by rw [h.stf.1 hc d] at hds;cases hds),?_⟩⟩
 ·by_cases hi:i=d
  ·subst hi;rw [ZI];show JC c.P w' lim' (ZcA X i r i) rows';rw [Zv];exact hx
  ·rw [Ze σ _ hi];have h1:=(h.rel i).mono hw.ext (fun k b hb=>kept i k b hi hb) (fun d' k b he hb=>.of (kept d' k b (fun e=>by subst e;exact hnf i k (.inl he)) hb).1) fun rows0 hr0=>(hi (hone i (by rw [hr0];rfl))).elim;refine h1.chg (Zh X r hi) (fun d' cs hd'=>?_) (fun d' hg=>?_) fun d' k hr=>?_
   ·have hdd:d'≠d:=fun e=>by rw [e,hd] at hd';cases hd'
    exact ⟨⟨cs,by rw [Ze σ _ hdd,hd']⟩,by rw [Zh X r hdd]⟩
   ·by_cases hdd:d'=d
    ·subst hdd;refine ⟨by rw [ZI];rfl,?_⟩;rw [Zv,hx.2.1,hX0]
    ·exact ⟨by rw [Ze σ _ hdd];exact hg,by rw [Zh X r hdd]⟩
   ·have hdd:d'≠d:=fun e=>by subst e;exact hnf i k hr
    exact ⟨by rw [Ze σ _ hdd];exact Vm.refl _ _,by rw [Zh X r hdd]⟩
 ·by_cases hid:i=d
  ·subst hid;rw [ZI];exact .inr rfl
  ·rw [Ze σ _ hid];exact h.out i hi
 ·by_cases hid:i=d
  ·subst hid;exact h.ghost i (by rw [hd];rfl)
  ·rw [Ze σ _ hid] at hi;exact h.ghost i hi
 ·by_cases hi:i=d<;>by_cases hi':i'=d
  ·subst hi;subst hi';rw [Zv] at g g';exact ⟨rfl,hr2 k k' b g g'⟩
  ·subst hi;rw [Zv] at g;rw [Zh X r hi'] at g';exact ((hr1 k b g).2.2 i' k' hi' g').elim
  ·subst hi';rw [Zv] at g';rw [Zh X r hi] at g;exact ((hr1 k' b g').2.2 i k hi g).elim
  ·rw [Zh X r hi] at g;rw [Zh X r hi'] at g';exact h.dist i k i' k' b g g'
 ·by_cases hi:i=d
  ·subst hi;rw [Zv] at g;exact ⟨(hr1 k b g).1,(hr1 k b g).2.1⟩
  ·rw [Zh X r hi] at g;exact ⟨XS (h.ours i k b g).1 hw.size,(h.ours i k b g).2⟩
 ·obtain ⟨h1,cs,h2⟩:=h.pin i v hv;have hi:i≠d:=fun e=>by rw [e,hd] at h2;cases h2
  exact ⟨h1,cs,by rw [Ze σ _ hi,h2]⟩
 ·have hi:i≠d:=fun e=>by subst e;rw [ZI] at he;cases he
  rw [Ze σ _ hi] at he;rw [show ZcA X d r i=X i from Zh X r hi];exact (h.mp i e xs he).mono hw.ext fun k b hb=>kept i k b hi hb
 ·obtain ⟨h1,h2⟩:=h.gpin i b hb;have hi:i≠d:=fun e=>by subst e;rw [hX0] at h1;cases h1
  exact ⟨by rw [Zh X r hi];exact h1,by rw [Ze σ _ hi];exact h2⟩
 ·have hid:i≠d:=by omega
  rw [Ze σ _ hid];exact h.far i hi
 ·have hi:i≠d:=fun e=>by subst e;rw [ZI] at m1;cases k<;>cases m1
  rw [Ze σ _ hi] at m1;rw [Zh X r hi] at m3;rw [Zh X r (by omega)];exact (h.nst i k e xs b m1 m2 m3).mono hw.ext (kept i k b hi m3).1 fun j b' hb'=>kept _ j b' (by omega) hb'
 ·rw [Zh X r (by omega)] at hb;exact XS (h.yfr b m b' hb) hw.size
 ·have hall:∀ i,(upd σ d (.store rows') i).isSto=Xb→i=d:=fun i hi=>by
   by_cases hid:i=d
   ·exact hid
   ·rw [Ze σ _ hid] at hi;exact hone i hi
  exact fun i i' g g'=>(hall i g).trans (hall i' g').symm
theorem ZaJ {rows:List (List AV)} {j:Nat} (h:ZU (ZG rows (j+1))=Xb):rows[j]? = Xa (ZG rows (j+1)):=by
 simp only [ZG] at h ⊢
 cases hr:rows[j]? with
 | none => rw [hr] at h; cases h
 | some row => rfl
theorem Vq {c:Ctx} {σ:Nat→AV} {tm:Array Value} {w:World} {lim:Lm} {X:Nat→Nat→Option Nat} (h:Sim c σ tm w lim X) {d j:Nat} {rows:List (List AV)} (hd:σ d = .store rows) (hc:ZU (ZG rows (j+1))=Xb) :
  ∃ (b cap:Nat) (arr:Array Value) (t:TypeId),X d (j+1)=Xa b∧lim.t (j+1)=Xa (b,cap,t)∧w.heap[b]? = Xa (.cells arr t (0,0))∧lim b=0∧cap≤maxLen∧arr.size=cap*c.P.cellsOf t∧(ZG rows (j+1)).length≤arr.size∧
   (∀ x∈ZG rows (j+1),x.isCell=Xb)∧∀ (i:Nat) (x:AV) (u:Value),(ZG rows (j+1))[i]? = Xa x→arr[i]? = Xa u→Rep w lim x u:=by
 have hs:=h.rel d;rw [hd] at hs;have hr:=ZaJ hc;generalize ZG rows (j+1)=row at hc hr;rcases hs.2.2 j row hr with rfl | ⟨b,cap,ty,h1,h2,h3,h4⟩
 ·cases hc
 ·rcases h4 with ⟨arr,g0,g1,g2,g3,g4,g5⟩ | ⟨_,_,_,_,_,rfl,_⟩
  ·exact ⟨b,cap,arr,ty,h2,h1,g1,h3,g0,g2,g3,g4,g5⟩
  ·cases hc
theorem Kd {w:World} {lim:Lm} {j off:Nat} {v:Value} (h:Rep w lim (.oref (j+1) off) v):∃ b cap ty,lim.t (j+1)=Xa (b,cap,ty)∧v = .pointer (Xa ⟨b,off,Xc⟩):=by
 cases h with
 | oref _ ht => exact ⟨_, _, _, ht, rfl⟩
theorem Zdl {w:World} {lim:Lm} {e:TypeId} {j n:Nat} {v:Value} (h:Rep w lim (.osl e (j+1) n) v):∃ b cap,lim.t (j+1)=Xa (b,cap,e)∧v = .slice (Xa ⟨b,0,Xc⟩) n cap∧n≤cap:=by
 cases h with
 | osl _ ht hn => exact ⟨_, _, ht, rfl, hn⟩
theorem ZgN {w:World} {lim:Lm} {e:TypeId} {j n:Nat} {v:Value} (h:Rep w lim (.osl e j n) v):∃ a cap,v = .slice a n cap∧n≤cap:=by
 cases h with
 | osl0 => exact ⟨_, _, rfl, Xy _⟩
 | osl _ _ hn => exact ⟨_, _, rfl, hn⟩
theorem Zaa {w:World} {lim:Lm} {j:Nat} {v:Value} (h:Rep w lim (.omap (j+1)) v):∃ b cap ty,lim.t (j+1)=Xa (b,cap,ty)∧v = .map (Xa b):=by
 cases h with
 | omap _ ht => exact ⟨_, _, _, ht, rfl⟩
theorem Zp7 {c:Ctx} {σ':Nat→AV} {tm:Array Value} {w:World} {lim:Lm} {X:Nat→Nat→Option Nat} (h:Sim c σ' tm w lim X) {d j:Nat} {rows rows':List (List AV)} (hd:σ' d = .store rows') (hp:rows <+: rows'∨rows' <+: rows) (hc:ZU (ZG rows (j+1))=Xb) {p:Nat×Nat×TypeId} (ht:lim.t (j+1)=Xa p) :
  ZG rows' (j+1)=ZG rows (j+1):=by
 have hs:=h.rel d;rw [hd] at hs;have hr:=ZaJ hc
 have hlt:j < rows'.length:=by
  rcases XG j rows'.length with h | h
  ·exact h
  ·rw [hs.1 (j+1) (by omega)] at ht;cases ht
 have hlt':=(Xk.1 hr).1;simp only [ZG];rcases hp with ⟨l,rfl⟩ | ⟨l,rfl⟩
 ·rw [Xx hlt']
 ·rw [Xx hlt]
theorem Za0 {P:Program} {o:Oper} {σ:Nat→AV} {T:TypeId} {a:Operand} {d j off:Nat} {rows:List (List AV)} {x:AV} (ho:o.op = .load T a) (hT:Ji P T=Xa Xe)
  (ha:Zo P σ a = .oref (j+1) off) (hd:σ d = .store rows) (hr:ZU (ZG rows (j+1))=Xb) (hx:(ZG rows (j+1))[off]? = Xa x):Js P o σ x [] [d]:=by
 intro c hc σ' tm w lim X hid hag hsim next Q hn;have hg:Zo P σ' a=Zo P σ a:=ZJ fun t ht=>hid t (by simp [Zu (o:=o) (x:=a) (by rw [ho];simp [Op.operands]) ht]);have hv:=Yf hc hsim ha hg;have hd':σ' d = .store rows:=by rw [hag d (by simp),hd]
 obtain ⟨b,cap,arr,t,g1,g2,g4,g5,g0,g6,g7,g8,g9⟩:=Vq hsim hd' hr;obtain ⟨b2,cap2,ty2,k1,k2⟩:=Kd hv;rw [g2] at k1
 cases k1
 have hlt:off < (ZG rows (j+1)).length:=(Xk.1 hx).1;have hu:arr[off]? = Xa arr[off]:=XV (by omega)
 have hcell:w.cell? ⟨b,off,Xc⟩=Xa arr[off]:=by
  rw [ZR g4];simp
 obtain ⟨p1,p2⟩:=YT (P:=P) (X:=X) (σ:=σ') (k:=0) (g8 x (Xm hx)) (g9 off x _ hx hu);refine Zj (v:=arr[off]) ?_ (hn _ w (Zw hsim p1 (k:=0) (by rw [hc];exact p2)));simp [execOp,ho,k2,J7 hT hcell]
theorem ZbG {P:Program} {o:Oper} {σ:Nat→AV} {T:TypeId} {a:Operand} {d j off:Nat} {rows:List (List AV)} (ho:o.op = .load T a) (hT:Ji P T=Xa Xb)
  (ha:Zo P σ a = .oref (j+1) off) (hd:σ d = .store rows) (hr:ZU (ZG rows (j+1))=Xb) (hn:off+P.cellsOf T≤(ZG rows (j+1)).length):Js P o σ (.agg (((ZG rows (j+1)).drop off).take (P.cellsOf T))) [] [d]:=by
 refine Zq [d] rfl fun c hc σ' tm w lim X hg hfp hsim=>?_;rw [ho] at hg;have hv:=Yf hc hsim ha (hg a (by simp [Op.operands]));have hd':σ' d = .store rows:=by rw [hfp d (by simp),hd]
 obtain ⟨b,cap,arr,t,g1,g2,g4,g5,g0,g6,g7,g8,g9⟩:=Vq hsim hd' hr;obtain ⟨b2,cap2,ty2,k1,k2⟩:=Kd hv;rw [g2] at k1
 cases k1
 obtain ⟨us,hus⟩:∃ us,us=(arr.toList.drop off).take (P.cellsOf T):=⟨_,rfl⟩;have hul:us.length=P.cellsOf T:=by rw [hus];simp;omega
 have hat:∀ (i:Nat) (u:Value),us[i]? = Xa u→arr[off+i]? = Xa u:=fun i u hu=>by
  rw [hus,XC] at hu;split at hu
  ·rw [XP] at hu;simpa using hu
  ·cases hu
 refine ⟨.agg us.toArray,?_,?_⟩
 ·have:=V4 (w:=w) (b:=b) (off:=off) (us:=us) hT hul (fun i u hi=>by
   rw [ZR g4];simpa using hat i u hi)
  simp [execOp,ho,k2,this]
 ·refine .agg (by rw [hul];simp;omega) (fun x hx=>g8 x (XY (XR hx))) fun i x u hx hu=>?_;rw [XC] at hx;split at hx
  ·rw [XP] at hx;exact g9 (off+i) x u hx (hat i u hu)
  ·cases hx
theorem Zmg {T':Odr} {P:Program} {o:Oper} {σ:Nat→AV} {T:TypeId} {a:Operand} {d j off:Nat} {rows:List (List AV)} {agg:Bool} (ho:o.op = .load T a) (hT:Ji P T=Xa agg)
  (ha:Zo P σ a = .oref (j+1) off) (hd:σ d = .store rows) (hr:ZU (ZG rows (j+1))=Xb) (hn:off+P.cellsOf T≤(ZG rows (j+1)).length) (h1:agg=Xe→P.cellsOf T=1) :
  Zj1 T' P o σ (match agg with | true=>.agg (((ZG rows (j+1)).drop off).take (P.cellsOf T)) | false=>((ZG rows (j+1))[off]?).getD .dead) [] [vS d]:=by
 intro c hc σ' tm w lim X hid hag hTr hS hsim next Q hnx;obtain ⟨rows',hd',hp⟩:=hS d (by simp) rows hd;have hg:Zo P σ' a=Zo P σ a:=ZJ fun t ht=>hid t (by simp [Zu (o:=o) (x:=a) (by rw [ho];simp [Op.operands]) ht]);obtain ⟨b2,cap2,ty2,k1,k2⟩:=Kd (Yf hc hsim ha hg);have hsame:=Zp7 hsim hd' hp hr k1
 cases agg with
 | true =>
  have:=ZbG (σ:=σ') ho hT (hg.trans ha) hd' (by rw [hsame];exact hr) (by rw [hsame];exact hn);rw [hsame] at this;exact this c hc σ' tm w lim X (fun _ _=>.inl rfl) (fun _ _=>rfl) hsim next Q hnx
 | false =>
  have h1:=h1 rfl;have hlt:off < (ZG rows (j+1)).length:=by omega
  have hx:(ZG rows (j+1))[off]? = Xa ((ZG rows (j+1))[off]):=Xp hlt;have:=Za0 (σ:=σ') ho hT (hg.trans ha) hd' (by rw [hsame];exact hr) (by rw [hsame];exact hx);simp only [hx,UZ] at hnx ⊢;exact this c hc σ' tm w lim X (fun _ _=>.inl rfl) (fun _ _=>rfl) hsim next Q hnx
theorem Za3 {P:Program} {o:Oper} {σ:Nat→AV} {x:Operand} {j off:Nat} (ho:o.op = .nilCheck x) (hx:Zo P σ x = .oref (j+1) off):Js P o σ (.oref (j+1) off) [] []:=by
 refine Zq [] rfl fun c hc σ' tm w lim X hg hfp hsim=>?_;rw [ho] at hg;have hv:=Yf hc hsim hx (hg x (by simp [Op.operands]));refine ⟨Act.eval ⟨tm,[]⟩ x,?_,hv⟩;obtain ⟨b,cap,_,_,h3⟩:=Kd hv;simp [execOp,ho,h3]
theorem Zdo {P:Program} {o:Oper} {σ:Nat→AV} {T:TypeId} {x:Operand} {f off j p:Nat} (ho:o.op = .fieldAddr T x f) (hf:Yg P T f=Xa off)
  (hx:Zo P σ x = .oref (j+1) p):Js P o σ (.oref (j+1) (p+off)) [] []:=by
 refine Zq [] rfl fun c hc σ' tm w lim X hg hfp hsim=>?_;rw [ho] at hg;obtain ⟨b,cap,ty,h1,h3⟩:=Kd (Yf hc hsim hx (hg x (by simp [Op.operands])));exact ⟨.pointer (Xa ⟨b,p+off,Xc⟩),by simp [execOp,ho,h3,V1 hf],.oref (Uq j) h1⟩
theorem ZeR {P:Program} {o:Oper} {σ:Nat→AV} {T e e':TypeId} {x i:Operand} {j n:Nat} {k:IntKind} {z:Int} (ho:o.op = .indexAddr T x i) (hT:P.underlying T=Xa (.slice e)) (hs0:P.cellsOf e≠0)
  (hx:Zo P σ x = .osl e' j n) (hi:Zo P σ i = .val (.int k z)) (h0:0≤z) (h1:z.toNat < n):Js P o σ (.oref j (z.toNat*P.cellsOf e)) [] []:=by
 refine Zq [] rfl fun c hc σ' tm w lim X hg hfp hsim=>?_;rw [ho] at hg;have hv:=Yf hc hsim hx (hg x (by simp [Op.operands]));have hiv:=Z6 hc hsim hi (hg i (by simp [Op.operands]));obtain ⟨inf,hinf⟩:=Zx hs0
 cases j with
 | zero =>
  have hv':Rep w lim (.osl e' 0 n) (Act.eval ⟨tm,[]⟩ x):=hv;generalize Act.eval ⟨tm,[]⟩ x=v at hv'
  cases hv' with
  | osl0 => omega
  | osl h _ _ => omega
 | succ j =>
  obtain ⟨b,cap,h2,h3,h4⟩:=Zdl hv;refine ⟨.pointer (Xa ⟨b,z.toNat*P.cellsOf e,Xc⟩),?_,.oref (Uq j) h2⟩;have hb:(0:Int)≤z∧z < (n:Int):=by omega
  simp [execOp,ho,h3,hiv,Instr.indexAt,asIntOf,run_underlying hT,hb,Zs hinf,Jr]
theorem ZiD {P:Program} {o:Oper} {σ:Nat→AV} {cl:Call} {T e e':TypeId} {x:Operand} {j n:Nat} (ho:o.op = .call cl) (hcl:cl.callee = .builtin .len) (hargs:cl.args.toList = [x]) (hts:cl.argTypes.toList = [T]) (hT:P.underlying T=Xa (.slice e))
  (hx:Zo P σ x = .osl e' j n):Js P o σ (.val (.int .i64 n)) [] []:=by
 have hargs':cl.args = #[x]:=by apply XK.1;rw [hargs]
 have hts':cl.argTypes = #[T]:=by apply XK.1;rw [hts]
 refine Zq [] rfl fun c hc σ' tm w lim X hg hfp hsim=>?_;rw [ho] at hg;obtain ⟨a,cap,h1,_⟩:=ZgN (Yf hc hsim hx (hg x (by simp [Op.operands,Call.operands,hargs',hcl])));refine ⟨.int .i64 n,?_,.val rfl⟩;simp [execOp,ho,hcl,resolve,hargs',hts',invoke,builtin,Builtin.len_,h1,run_underlying hT,goInt]
theorem ZhM {P:Program} {o:Oper} {σ:Nat→AV} {T e e':TypeId} {x y:Operand} {j n:Nat} {k:IntKind} {h:Nat} (ho:o.op = .slice T x Xc (Xa y) Xc) (hT:P.underlying T=Xa (.slice e)) (hs0:P.cellsOf e≠0)
  (hx:Zo P σ x = .osl e' j n) (hy:Zo P σ y = .val (.int k h)) (hle:h≤n):Js P o σ (.osl e' j h) [] []:=by
 refine Zq [] rfl fun c hc σ' tm w lim X hg hfp hsim=>?_;rw [ho] at hg;have hv:=Yf hc hsim hx (hg x (by simp [Op.operands]));have hyv:=Z6 hc hsim hy (hg y (by simp [Op.operands]));obtain ⟨inf,hinf⟩:=Zx hs0;have hv':Rep w lim (.osl e' j n) (Act.eval ⟨tm,[]⟩ x):=hv;generalize hev:Act.eval ⟨tm,[]⟩ x=v at hv'
 cases hv' with
 | @osl0 _ a =>
  have h0:h=0:=by omega
  subst h0;refine ⟨.slice a 0 0,?_,.osl0⟩
  cases a<;>simp [execOp,ho,hev,hyv,Instr.sliceAt,Instr.slice,Instr.sliceBounds,Instr.sliceBound,asIntOf,run_underlying hT,Zs hinf]
 | @osl _ _ _ b cap hj ht hn =>
  refine ⟨.slice (Xa ⟨b,0,Xc⟩) h cap,?_,.osl hj ht (by omega)⟩;have b1:h≤cap:=by omega
  by_cases hc0:cap=0
  ·subst hc0;have hk0:h=0:=by omega
   subst hk0;simp [execOp,ho,hev,hyv,Instr.sliceAt,Instr.slice,Instr.sliceBounds,Instr.sliceBound,asIntOf,run_underlying hT,Zs hinf]
  ·simp [execOp,ho,hev,hyv,Instr.sliceAt,Instr.slice,Instr.sliceBounds,Instr.sliceBound,asIntOf,run_underlying hT,Zs hinf,b1,hc0,Jr]
theorem ZeQ {P:Program} {o:Oper} {σ:Nat→AV} {T e e':TypeId} {x y z:Operand} {j n s:Nat} {k k':IntKind} (ho:o.op = .slice T x Xc (Xa y) (Xa z)) (hT:P.underlying T=Xa (.slice e)) (hs0:P.cellsOf e≠0)
  (hx:Zo P σ x = .osl e' j n) (hy:Zo P σ y = .val (.int k 0)) (hz:Zo P σ z = .val (.int k' 0)):Js P o σ (.slice Xb s []) [] []:=by
 refine Zq [] rfl fun c hc σ' tm w lim X hg hfp hsim=>?_;rw [ho] at hg;have hv:=Yf hc hsim hx (hg x (by simp [Op.operands]));have hyv:=Z6 hc hsim hy (hg y (by simp [Op.operands]));have hzv:=Z6 hc hsim hz (hg z (by simp [Op.operands]));obtain ⟨inf,hinf⟩:=Zx hs0;obtain ⟨a,cap,h1,h2⟩:=ZgN hv
 cases a with
 | none => exact ⟨.slice Xc 0 0, by simp [execOp, ho, h1, hyv, hzv, Instr.sliceAt, Instr.slice, Instr.sliceBounds, Instr.sliceBound, asIntOf, run_underlying hT, Zs hinf], .sliceN⟩
 | some a => exact ⟨.slice (Xa a) 0 0, by simp [execOp, ho, h1, hyv, hzv, Instr.sliceAt, Instr.slice, Instr.sliceBounds, Instr.sliceBound, asIntOf, run_underlying hT, Zs hinf], .sliceE fun _ => rfl⟩
theorem Sim.stoSet {c:Ctx} {σ:Nat→AV} {tm:Array Value} {w:World} {lim:Lm} {X:Nat→Nat→Option Nat} (h:Sim c σ tm w lim X) {d j b cap:Nat} {t:TypeId} {rows:List (List AV)} {row':List AV} {arr arr':Array Value} (hd:σ d = .store rows) (hr:ZU (ZG rows (j+1))=Xb)
  (g1:X d (j+1)=Xa b) (g2:lim.t (j+1)=Xa (b,cap,t)) (g4:w.heap[b]? = Xa (.cells arr t (0,0))) (g5:lim b=0) (g0:cap≤maxLen) (hsz:arr'.size=cap*c.P.cellsOf t) (hl:row'.length≤arr'.size) (hc:∀ x∈row',x.isCell=Xb)
  (hrel:∀ (i:Nat) (x:AV) (u:Value),row'[i]? = Xa x→arr'[i]? = Xa u→Rep w lim x u):Sim c (upd σ d (.store (rows.set j row'))) tm (w.setRow b arr') lim (ZcA X d (X d)):=by
 have hw:=K1 (cs:=arr') g4 g5;have hcs:K7 w lim (w.setRow b arr') lim (fun b'=>∃ k,X d k=Xa b') Xb:=⟨hw.os,hw.tape,hw.output,hw.size,hw.frz,fun b' hb' hnn=>hw.blk b' hb' fun e=>hnn ⟨j+1,by rw [e];exact g1⟩,hw.ext,fun _=>rfl⟩;have hsr:=h.rel d;rw [hd] at hsr
 have hstore:JC c.P (w.setRow b arr') lim (X d) (rows.set j row'):=by
  refine ⟨fun i hi=>hsr.1 i (by simpa using hi),hsr.2.1,fun i row1 hr1=>?_⟩;rw [UH] at hr1;split at hr1
  ·rename_i hij;subst hij;split at hr1
   ·cases hr1
    refine .inr ⟨b,cap,t,g2,g1,g5,.inl ⟨arr',g0,setRow_heap w b arr arr' t _ g4,hsz,hl,hc,fun i x u hx hu=>(hrel i x u hx hu).mono hw.ext⟩⟩
   ·cases hr1
  ·rename_i hij;rcases hsr.2.2 i row1 hr1 with h0 | ⟨b1,cap1,t1,m1,m2,m3⟩
   ·exact .inl h0
   ·have hbb:b1≠b:=fun e=>by
     subst e;have:=(h.dist d (i+1) d (j+1) b1 m2 g1).2;omega
    exact .inr ⟨b1,cap1,t1,m1,m2,m3.mono hw.ext (hw.blk b1 (h.ours d (i+1) b1 m2).1 hbb)⟩
 exact h.stoStep hd hcs hstore (fun k b' hb'=>⟨XS (h.ours d k b' hb').1 hw.size,(h.ours d k b' hb').2,fun i k' hi hx'=>hi (h.dist i k' d k b' hx' hb').1⟩) (fun k k' b' hk hk'=>(h.dist d k d k' b' hk hk').2)
theorem ZdI {rows:List (List AV)} {j o:Nat} {vc:List AV} (h:ZU (ZG rows (j+1))=Xb):Jf rows j o vc=rows.set j (setCells (ZG rows (j+1)) o vc):=by
 have hr:=ZaJ h;unfold Jf;apply Wo;intro i;rw [Tm,UH];by_cases hij:j=i
 ·subst hij;rw [if_pos rfl,if_pos (Xk.1 hr).1,hr];simp
 ·rw [if_neg hij];simp [hij]
theorem Zdi {P:Program} {o:Oper} {σ:Nat→AV} {T:TypeId} {a x:Operand} {d j off:Nat} {rows:List (List AV)} {vc vc':List AV} {y:AV} (ho:o.op = .store T a x) (ha:Zo P σ a = .oref (j+1) off) (hd:σ d = .store rows) (hr:ZU (ZG rows (j+1))=Xb)
  (hx:Zo P σ x=y) (hy:y.cells? = Xa vc) (hn:vc.length=P.cellsOf T) (hn0:P.cellsOf T≠0) (hfit:off+P.cellsOf T≤(ZG rows (j+1)).length) (hw':vc'.length=vc.length∧∀ (w:World) (lim:Lm) (us:List Value),JI w lim vc us→JI w lim vc' us) :
  Js P o σ .dead [(d,.store (Jf rows j off vc'))] [d]:=by
 intro c hc σ' tm w lim X hid hag hsim next Q hnx;have hga:Zo P σ' a=Zo P σ a:=ZJ fun t ht=>hid t (by simp [Zu (o:=o) (x:=a) (by rw [ho];simp [Op.operands]) ht]);have hgx:Zo P σ' x=Zo P σ x:=ZJ fun t ht=>hid t (by simp [Zu (o:=o) (x:=x) (by rw [ho];simp [Op.operands]) ht]);have hd':σ' d = .store rows:=by rw [hag d (by simp),hd]
 have hva:=Yf hc hsim ha hga;obtain ⟨us,h4,h5⟩:=Vw hy (Yf hc hsim hx hgx);have h5:=hw'.2 _ _ _ h5;obtain ⟨b,cap,arr,t,g1,g2,g4,g5,g0,g6,g7,g8,g9⟩:=Vq hsim hd' hr;obtain ⟨b2,cap2,ty2,k1,k2⟩:=Kd hva;rw [g2] at k1
 cases k1
 obtain ⟨inf,hinf⟩:=Zx hn0;have hlen:us.length=P.cellsOf T:=by rw [← h5.1,hw'.1,hn]
 have hst:=YW (P:=P) (T:=T) (w:=w) (b:=b) (off:=off) (v:=Act.eval ⟨tm,[]⟩ x) hinf h4 hlen g4 (by rw [hlen];omega) (fun u hu=>by
  obtain ⟨i,hi⟩:=XO.1 hu;have hlt:i < vc'.length:=by rw [h5.1];exact (Xk.1 hi).1
  exact (h5.2.2 i _ u (Xp hlt) hi).oneCell (h5.2.1 _ (List.getElem_mem hlt)))
 have hset:=hsim.stoSet (row':=setCells (ZG rows (j+1)) off vc') (arr':=(arr.toList.take off++us++arr.toList.drop (off+us.length)).toArray) hd' hr g1 g2 g4 g5 g0 (by rw [← g6];simp;omega) (by
  have:=h5.1
  unfold setCells;simp;omega) (fun z hz=>by
  unfold setCells at hz;rcases Xv.1 hz with hz | hz
  ·rcases Xv.1 hz with hz | hz
   ·exact g8 z (XR hz)
   ·exact h5.2.1 z hz
  ·exact g8 z (XY hz)) (fun i z u hz hu=>by
  unfold setCells at hz;rw [VJ _ vc' off (by rw [h5.1];omega)] at hz;have hu':(arr.toList.take off++us++arr.toList.drop (off+us.length))[i]? = Xa u:=by simpa using hu
  rw [VJ arr.toList us off (by rw [hlen];simp;omega)] at hu';rw [h5.1] at hz;split at hz
  ·rename_i hcnd;rw [if_pos hcnd] at hu';exact h5.2.2 _ z u hz hu'
  ·rename_i hcnd;rw [if_neg hcnd] at hu';exact g9 i z u hz (by simpa using hu'))
 rw [← ZdI hr] at hset;refine Y2 (w':=w.setRow b (arr.toList.take off++us++arr.toList.drop (off+us.length)).toArray) ?_ (hnx undef _ ?_)
 ·simp only [execOp,ho,k2,Sem.run_bind,hst,Result.andThen_ok,Sem.run_pure]
 ·exact Zw hset rfl (k:=0) trivial
def Zet (rows:List (List AV)) (kj:Option Nat):List (List AV):=match kj with | some j=>rows.set j [] | none=>rows
theorem Zbv (rows:List (List AV)) (kj:Option Nat):(Zet rows kj).length=rows.length:=by cases kj<;>simp [Zet]
theorem Sim.stoApp {c:Ctx} {σ:Nat→AV} {tm:Array Value} {w w':World} {lim lim1:Lm} {X:Nat→Nat→Option Nat} (h:Sim c σ tm w lim X) {d nb cap:Nat} {ty:TypeId} {rows:List (List AV)} {row:List AV} {kj:Option Nat} (hd:σ d = .store rows)
  (hw:Jh w lim w' lim1 (fun b=>∃ j,kj=Xa j∧X d (j+1)=Xa b)) (hnb:nb < w'.heap.size∧(c.A nb∨c.w0.heap.size≤nb)∧∀ i k,X i k=Xa nb→i=d∧∃ j,kj=Xa j∧k=j+1)
  (ho:∀ lim2:Lm,lim2.f=lim1.f→Ext w' lim1 w' lim2→Zoc c.P w' lim2 row nb cap ty) :
  ∃ lim2 X2,Sim c (upd σ d (.store (Zet rows kj++[row]))) tm w' lim2 X2∧lim2.t (rows.length+1)=Xa (nb,cap,ty)∧lim2.f=lim1.f∧Ext w' lim1 w' lim2:=by
 have hs:=h.rel d;rw [hd] at hs;obtain ⟨lim2,hl2⟩:∃ lim2:Lm,lim2=⟨lim1.f,fun j=>if j=rows.length+1 then Xa (nb,cap,ty) else lim1.t j⟩:=⟨_,rfl⟩;have hlt:lim1.t=lim.t:=hw.t;have ht0:lim.t (rows.length+1)=Xc:=hs.1 _ (by omega);have hf:lim2.f=lim1.f:=by rw [hl2]
 have htn:lim2.t (rows.length+1)=Xa (nb,cap,ty):=by rw [hl2];exact if_pos rfl
 have hto:∀ j,j≠rows.length+1→lim2.t j=lim.t j:=fun j hj=>by rw [hl2];dsimp only;rw [if_neg hj,hlt]
 have hext1:Ext w' lim1 w' lim2:=⟨fun b _=>⟨by show lim1.f b≤lim2.f b;rw [hf];exact Xy _,fun _ _ _ h=>h⟩,fun j p hp=>by
  by_cases hj:j=rows.length+1
  ·subst hj;rw [hlt,ht0] at hp;cases hp
  ·rw [hto j hj,← hlt];exact hp⟩
 have hext:Ext w lim w' lim2:=hw.ext.trans hext1 hw.size
 have hcs:K7 w lim w' lim2 (fun b=>∃ k,X d k=Xa b) Xb:=⟨hw.os,hw.tape,hw.output,hw.size,hw.frz,fun b hb hn=>by
  obtain ⟨k1,k2⟩:=hw.blk b hb fun ⟨j,_,hj⟩=>hn ⟨_,hj⟩;exact ⟨k1,by show lim2.f b=lim.f b;rw [hf];exact k2⟩,hext,fun h=>by cases h⟩
 have hkd:∀ k:Nat,Decidable (∃ j,kj=Xa j∧k=j+1):=fun k=>Classical.propDecidable _;obtain ⟨r,hr⟩:∃ r:Nat→Option Nat,r=fun k=>if k=rows.length+1 then Xa nb else @ite _ (∃ j,kj=Xa j∧k=j+1) (hkd k) Xc (X d k):=⟨_,rfl⟩;have hrn:r (rows.length+1)=Xa nb:=by rw [hr];exact if_pos rfl
 have hrk:∀ k,k≠rows.length+1→(∃ j,kj=Xa j∧k=j+1)→r k=Xc:=fun k h1 h2=>by rw [hr];dsimp only;rw [if_neg h1,if_pos h2]
 have hro:∀ k,k≠rows.length+1→(¬ ∃ j,kj=Xa j∧k=j+1)→r k=X d k:=fun k h1 h2=>by rw [hr];dsimp only;rw [if_neg h1,if_neg h2]
 have hrc:∀ k b,r k=Xa b→(k=rows.length+1∧b=nb)∨(k≠rows.length+1∧(¬ ∃ j,kj=Xa j∧k=j+1)∧X d k=Xa b):=fun k b hb=>by
  by_cases h1:k=rows.length+1
  ·subst h1;rw [hrn] at hb;cases hb;exact .inl ⟨rfl,rfl⟩
  ·by_cases h2:∃ j,kj=Xa j∧k=j+1
   ·rw [hrk k h1 h2] at hb;cases hb
   ·rw [hro k h1 h2] at hb;exact .inr ⟨h1,h2,hb⟩
 have hlen:(Zet rows kj++[row]).length=rows.length+1:=by rw [Xu,Zbv];rfl
 have hstore:JC c.P w' lim2 r (Zet rows kj++[row]):=by
  refine ⟨fun j hj=>?_,?_,fun i row1 hr1=>?_⟩
  ·rw [hlen] at hj;rw [hto j (by omega)];exact hs.1 j (by omega)
  ·rw [hro 0 (by omega) fun ⟨j,_,hj⟩=>by omega];exact hs.2.1
  ·rcases Tn i rows.length with hi | hi | hi
   ·rw [Xx (by rw [Zbv];exact hi)] at hr1;by_cases hk:kj=Xa i
    ·subst hk;simp only [Zet,List.getElem?_set_self hi] at hr1
     cases hr1
     exact .inl rfl
    ·have hr2:rows[i]? = Xa row1:=by
      cases kj with
      | none => exact hr1
      | some j => simp only [Zet] at hr1; rw [List.getElem?_set_ne (fun e => hk (by rw [e]))] at hr1; exact hr1
     rcases hs.2.2 i row1 hr2 with h0 | ⟨b1,cap1,t1,m1,m2,m3⟩
     ·exact .inl h0
     ·have hnk:¬ ∃ j,kj=Xa j∧i+1=j+1:=fun ⟨j,h1,h2⟩=>hk (by rw [h1];congr 1;omega);refine .inr ⟨b1,cap1,t1,by rw [hto _ (by omega)];exact m1,by rw [hro _ (by omega) hnk];exact m2,m3.mono hext ?_⟩;obtain ⟨k1,k2⟩:=hw.blk b1 (h.ours d (i+1) b1 m2).1 fun ⟨j,h1,h2⟩=>hnk ⟨j,h1,(h.dist d (i+1) d (j+1) b1 m2 h2).2⟩;exact ⟨k1,by show lim2.f b1=lim.f b1;rw [hf];exact k2⟩
   ·subst hi;rw [Xz (by rw [Zbv];exact Xy _),Zbv,UE] at hr1;simp only [XB,Xf] at hr1;subst hr1;exact .inr ⟨nb,cap,ty,htn,hrn,ho lim2 hf hext1⟩
   ·have:=(Xk.1 hr1).1;rw [hlen] at this;omega
 refine ⟨lim2,_,h.stoStep hd hcs hstore (fun k b hb=>?_) (fun k k' b hk hk'=>?_),htn,hf,hext1⟩
 ·rcases hrc k b hb with ⟨_,rfl⟩ | ⟨_,_,h3⟩
  ·exact ⟨hnb.1,hnb.2.1,fun i j hi hx=>hi (hnb.2.2 i j hx).1⟩
  ·exact ⟨XS (h.ours d k b h3).1 hw.size,(h.ours d k b h3).2,fun i j hi hx=>hi (h.dist i j d k b hx h3).1⟩
 ·rcases hrc k b hk with ⟨h1,h2⟩ | ⟨h1,h2,h3⟩ <;> rcases hrc k' b hk' with ⟨h1',h2'⟩ | ⟨h1',h2',h3'⟩
  ·rw [h1,h1']
  ·subst h2;exact (h2' (hnb.2.2 d k' h3').2).elim
  ·subst h2';exact (h2 (hnb.2.2 d k h3).2).elim
  ·exact (h.dist d k d k' b h3 h3').2
theorem Sim.stoNew {c:Ctx} {σ:Nat→AV} {tm:Array Value} {w:World} {lim:Lm} {X:Nat→Nat→Option Nat} (h:Sim c σ tm w lim X) {d cap:Nat} {ty:TypeId} {rows:List (List AV)} {row:List AV} (ob:Obj) (hd:σ d = .store rows)
  (ho:∀ lim2:Lm,lim2 w.heap.size=0→Ext w lim (w.alloc ob) lim2→Zoc c.P (w.alloc ob) lim2 row w.heap.size cap ty) :
  ∃ lim2 X2,Sim c (upd σ d (.store (rows++[row]))) tm (w.alloc ob) lim2 X2∧lim2.t (rows.length+1)=Xa (w.heap.size,cap,ty):=by
 have hstep:=Zpn (w:=w) (lim:=lim) ob (fun b=>∃ j,(Xc:Option Nat)=Xa j∧X d (j+1)=Xa b);obtain ⟨lim2,X2,h1,h2,h3,h4⟩:=h.stoApp (kj:=Xc) (row:=row) (nb:=w.heap.size) (cap:=cap) (ty:=ty) hd hstep ⟨by simp,.inr h.frm.size,fun i k hx=>(YG h i k hx).elim⟩ (fun lim2 hf he=>ho lim2 (by show lim2.f _=0;rw [hf];exact if_pos rfl) (hstep.ext.trans he (by simp)));exact ⟨lim2,X2,h1,h2⟩
theorem Zb1 {P:Program} {w w':World} {lim lim2:Lm} {row:List AV} {us:List Value} {b cap:Nat} {ty:TypeId} (hl:lim2 b=0) (hc:cap≤maxLen) (hg:w'.heap[b]? = Xa (.cells us.toArray ty (0,0))) (hs:us.length=cap*P.cellsOf ty) (hr:JI w lim row us) (he:Ext w lim w' lim2):Zoc P w' lim2 row b cap ty:=
 ⟨hl,.inl ⟨us.toArray,hc,hg,by simpa using hs,by rw [hr.1];simp,hr.2.1,fun i x u hx hu=>(hr.2.2 i x u hx (by simpa using hu)).mono he⟩⟩
theorem Zhr {P:Program} {o:Oper} {σ:Nat→AV} {T:TypeId} {x:Operand} {y:AV} {d:Nat} {rows:List (List AV)} {cs cs':List AV} (ho:o.op = .box T x) (hx:Zo P σ x=y) (hcs:y.cells? = Xa cs) (hd:σ d = .store rows)
  (hn:cs.length=P.cellsOf T) (hw':cs'.length=cs.length∧∀ (w:World) (lim:Lm) (us:List Value),JI w lim cs us→JI w lim cs' us):Js P o σ (.oref (rows.length+1) 0) [(d,.store (rows++[cs']))] [d]:=by
 intro c hc σ' tm w lim X hid hag hsim next Q hnx;have hg:Zo P σ' x=Zo P σ x:=ZJ fun t ht=>hid t (by simp [Zu (o:=o) (x:=x) (by rw [ho];simp [Op.operands]) ht]);have hd':σ' d = .store rows:=by rw [hag d (by simp),hd]
 obtain ⟨us,h1,h2⟩:=Vw hcs (Yf hc hsim hx hg);have h3:=hw'.2 _ _ _ h2;obtain ⟨lim2,X2,k1,k2⟩:=hsim.stoNew (cap:=1) (ty:=T) (row:=cs') (.cells us.toArray T) hd' (fun lim2 hl he=>Zb1 hl (by decide) (Yh w _ T) (by rw [← h2.1,hn,hc,Nat.one_mul]) h3 he);refine Zj (v:=.pointer (Xa ⟨w.heap.size,0,Xc⟩)) (w':=w.alloc (.cells us.toArray T)) ?_ (hnx _ _ (Zw k1 rfl (k:=0) (Rep.oref (Uq _) k2)));simp [execOp,ho,Instr.box,newVar,newRow,h1]
theorem ZeK {P:Program} {o:Oper} {σ:Nat→AV} {T:TypeId} {i:TypeInfo} {z:Value} {d:Nat} {rows:List (List AV)} {cs cs':List AV} (ho:o.op = .alloc T) (hi:P.info? T=Xa i) (hz:i.zero=Xa z) (hcs:ZaL z.cells.toList=Xa cs) (hd:σ d = .store rows)
  (hn:cs.length=P.cellsOf T) (hw':cs'.length=cs.length∧∀ (w:World) (lim:Lm) (us:List Value),JI w lim cs us→JI w lim cs' us):Js P o σ (.oref (rows.length+1) 0) [(d,.store (rows++[cs']))] [d]:=by
 intro c hc σ' tm w lim X hid hag hsim next Q hnx;have hd':σ' d = .store rows:=by rw [hag d (by simp),hd]
 have h2:=JX (w:=w) (lim:=lim) hcs;have h3:=hw'.2 _ _ _ h2;obtain ⟨lim2,X2,k1,k2⟩:=hsim.stoNew (cap:=1) (ty:=T) (row:=cs') (.cells z.cells.toList.toArray T) hd' (fun lim2 hl he=>Zb1 hl (by decide) (Yh w _ T) (by rw [← h2.1,hn,hc,Nat.one_mul]) h3 he);refine Zj (v:=.pointer (Xa ⟨w.heap.size,0,Xc⟩)) (w':=w.alloc (.cells z.cells.toList.toArray T)) ?_ (hnx _ _ (Zw k1 rfl (k:=0) (Rep.oref (Uq _) k2)));simp [execOp,ho,Instr.alloc,zeroValue,typeInfo,hi,hz,newVar,newRow]
theorem Zij {P:Program} {o:Oper} {σ:Nat→AV} {T e:TypeId} {len:Nat} {parts:Array (Nat×Operand)} {i:TypeInfo} {z:Value} {d:Nat} {rows:List (List AV)} {zc cs cs':List AV} (ho:o.op = .buildSlice T len parts)
  (hT:P.underlying T=Xa (.slice e)) (hi:P.info? e=Xa i) (hz:i.zero=Xa z) (hzc:ZaL z.cells.toList=Xa zc) (hzs:z.cells.size=i.size) (hs0:0 < i.size) (hl0:0 < len) (hbig:len*i.size≤1048576) (hd:σ d = .store rows)
  (hf:ZaM (fun j=>Xa (j*i.size,i.size)) ((Xg len zc).flatten) (parts.toList.map fun p=>(p.1,Zo P σ p.2))=Xa cs)
  (hw:cs'.length=cs.length∧∀ (w:World) (lim:Lm) (us:List Value),JI w lim cs us→JI w lim cs' us):Js P o σ (.osl e (rows.length+1) len) [(d,.store (rows++[cs']))] [d]:=by
 intro c hc σ' tm w lim X hid hag hsim next Q hn
 have hg:∀ p∈parts.toList,Zo P σ' p.2=Zo P σ p.2:=fun p hp=>ZJ fun t ht=>hid t (by
  refine Zu (x:=p.2) ?_ ht;rw [ho];simp only [Op.operands,List.mem_toArray];exact Xj.2 ⟨p,hp,rfl⟩)
 have hd':σ' d = .store rows:=by rw [hag d (by simp),hd]
 obtain ⟨h1,h2⟩:=Zcj hc hsim parts hg;have hz0:=JY (JX (w:=w) (lim:=lim) hzc) len;obtain ⟨us',h3,h4⟩:=ZcQ (P:=P) (X:=X) (σ:=σ') (k:=0) _ _ _ _ _ hz0 h1 h2 hf;have hzl:z.cells.toList.length=i.size:=by rw [← hzs];simp
 have hcl:cs.length=len*i.size:=by
  have hinv:∀ (parts:List (Nat×AV)) (cells out:List AV),ZaM (fun j=>Xa (j*i.size,i.size)) cells parts=Xa out→out.length=cells.length:=by
   intro parts
   induction parts with
   | nil => intro cells out h; simp only [ZaM, Xf] at h; rw [h]
   | cons p parts ih =>
    intro cells out h;simp only [ZaM] at h;split at h
    ·split at h
     ·rename_i hcond;rw [ih _ _ h];simp;omega
     ·cases h
    ·cases h
  rw [hinv _ _ _ hf];have hzcl:zc.length=i.size:=by rw [(JX (w:=w) (lim:=lim) hzc).1,hzl]
  simp [hzcl]
 have h5:=hw.2 _ _ _ h4
 have hb:(Instr.buildSlice T len (parts.map fun p=>(p.1,Act.eval ⟨tm,[]⟩ p.2))).run P w = .ok (.slice (Xa ⟨w.heap.size,0,Xc⟩) len len) (w.alloc (.cells us'.toArray e)):=by
  have hnb:¬ (2^24 < len*i.size):=by omega
  have hnz:¬ len*i.size=0:=by
   intro h;rcases Nat.mul_eq_zero.1 h with h | h<;>omega
  have hrep:=replicate_zero z.cells.toList len;rw [hzl,Array.toArray_toList] at hrep;simp only [Instr.buildSlice,Sem.run_bind,run_underlying hT,Result.andThen_ok,sizeOf,typeInfo,run_program,hi,Sem.run_pure,gt_iff_lt,if_neg hnb,if_neg hnz,zeroValue,hz];rw [hrep,h3];simp [newRow]
 have hsz:P.cellsOf e=i.size:=ZO hi
 have hlm:len≤maxLen:=by
  have:len*1≤len*i.size:=Nat.mul_le_mul_left _ hs0;have:(1048576:Nat)≤maxLen:=by decide
  omega
 obtain ⟨lim2,X2,k1,k2⟩:=hsim.stoNew (cap:=len) (ty:=e) (row:=cs') (.cells us'.toArray e) hd' (fun lim2 hl he=>Zb1 hl hlm (Yh w _ e) (by rw [← h4.1,hcl,hc,hsz]) h5 he);refine Zj (v:=.slice (Xa ⟨w.heap.size,0,Xc⟩) len len) (w':=w.alloc (.cells us'.toArray e)) (by simp only [execOp,ho,Sem.run_bind,hb,Result.andThen_ok,Sem.run_pure]) (hn _ _ (Zw k1 rfl (k:=0) (Rep.osl (Uq _) k2 (Xy _))))
theorem Zna {c:Ctx} {σ:Nat→AV} {tm:Array Value} {w:World} {lim:Lm} {X:Nat→Nat→Option Nat} (h:Sim c σ tm w lim X) {d j n:Nat} {e:TypeId} {rows:List (List AV)} {v:Value} (hd:σ d = .store rows) (hv:Rep w lim (.osl e (j+1) n) v)
  (hc:ZU (ZG rows (j+1))=Xb) (hle:n*c.P.cellsOf e≤(ZG rows (j+1)).length) :
  ∃ b,X d (j+1)=Xa b∧Jv c.P w lim Xb e (YE (c.P.cellsOf e) (ZG rows (j+1)) n) v (Xa b):=by
 obtain ⟨b,cap,arr,t,g1,g2,g4,g5,g0,g6,g7,g8,g9⟩:=Vq h hd hc;obtain ⟨b2,cap2,k1,k2,k3⟩:=Zdl hv;rw [g2] at k1
 cases k1
 have hel:(YE (c.P.cellsOf e) (ZG rows (j+1)) n).length=n:=by simp [YE]
 have hfl:(YE (c.P.cellsOf e) (ZG rows (j+1)) n).flatten=(ZG rows (j+1)).take (n*c.P.cellsOf e):=by
  have h1:=VQ (c.P.cellsOf e) n ((ZG rows (j+1)).take (n*c.P.cellsOf e)) (by rw [XU];omega);rw [← h1];congr 1;unfold YE;refine Wr fun q hq=>?_;have hq':q < n:=UC.1 hq;have hm:q*c.P.cellsOf e+c.P.cellsOf e≤n*c.P.cellsOf e:=by rw [← Uk];exact XZ _ hq'
  rw [List.drop_take,List.take_take,Nat.min_eq_left (by omega)]
 have hal:(arr.toList.take (n*c.P.cellsOf e)).length=n*c.P.cellsOf e:=by rw [XU,UD];omega
 refine ⟨b,g1,.inl ⟨arr.toList.take (n*c.P.cellsOf e),⟨by rw [hel,hal],.inr ⟨b,cap,arr,by rw [hel,k2],X5 _,g4,by rw [hel];exact k3,g0,g6,by rw [hel]⟩⟩,by rw [k2];rfl,fun b' hb'=>?_,fun x hx=>?_,fun x hx y hy=>?_,fun q x u hx hu=>?_⟩⟩
 ·cases hb'
  rw [if_pos rfl];exact g5
 ·obtain ⟨q,hq,rfl⟩:=Xj.1 hx;have hq':q < n:=UC.1 hq;have hm:q*c.P.cellsOf e+c.P.cellsOf e≤n*c.P.cellsOf e:=by rw [← Uk];exact XZ _ hq'
  rw [XU,Ui];omega
 ·have:y∈(YE (c.P.cellsOf e) (ZG rows (j+1)) n).flatten:=UK.2 ⟨x,hx,hy⟩;rw [hfl] at this;exact g8 y (XR this)
 ·rw [hfl,XC] at hx;rw [XC] at hu;split at hx
  ·rename_i hlt;rw [if_pos hlt] at hu;exact g9 q x u hx (by simpa using hu)
  ·cases hx
theorem Zoi {P:Program} {w:World} {lim:Lm} {e:TypeId} {xs:List (List AV)} {v:Value} {ob:Option Nat} (h:Jv P w lim Xb e xs v ob) (hnm:Zm P e=Xe) (hne:xs≠[]) :
  ∃ b cap,ob=Xa b∧v = .slice (Xa ⟨b,0,Xc⟩) xs.length cap∧xs.length≤cap∧b < w.heap.size∧∀ lim2:Lm,lim2.f=lim.f→Ext w lim w lim2→Zoc P w lim2 xs.flatten b cap e:=by
 have hob:∃ b,ob=Xa b:=by
  rcases h.noMap hnm with ⟨us,hr,hb,_⟩ | ⟨h,_⟩
  ·rcases hr.2 with ⟨_,hn⟩ | ⟨g,cap,cur,hv,_⟩
   ·exact (hne (X7 hn)).elim
   ·exact ⟨g,by rw [← hb,hv];rfl⟩
  ·exact (hne h).elim
 obtain ⟨b,rfl⟩:=hob;obtain ⟨arr,cap,hv,hg,hl,hle,hcm,hcs,hxl,hxc,hxr⟩:=Va h (.inl hnm);have hxf:=Zz xs _ hxl;refine ⟨b,cap,rfl,hv,hle,h.lt,fun lim2 hf he=>⟨by show lim2.f b=0;rw [hf];exact hl,.inl ⟨arr,hcm,hg,hcs,?_,fun y hy=>?_,fun q x u hx hu=>?_⟩⟩⟩
 ·rw [hxf,hcs];exact XZ _ hle
 ·obtain ⟨x,hx,hy⟩:=UK.1 hy;exact hxc x hx y hy
 ·exact (hxr q x u hx hu).mono he
theorem Zdx {P:Program} {o:Oper} {σ:Nat→AV} {cl:Call} {T e e':TypeId} {i:TypeInfo} {z:Value} {x y:Operand} {ys:List (List AV)} {f:Bool} {d j n:Nat} {rows:List (List AV)} (ho:o.op = .call cl) (hcl:cl.callee = .builtin .append)
  (hargs:cl.args.toList = [x,y]) (hts:cl.argTypes.toList = [T,T]) (hT:P.underlying T=Xa (.slice e)) (hi:P.info? e=Xa i) (hz:i.zero=Xa z) (hzs:z.cells.size=i.size) (hnm:Zm P e=Xe)
  (hx:Zo P σ x = .osl e' j n) (hy:Zo P σ y = .slice f i.size ys) (hne:ys≠[]) (hd:σ d = .store rows) (hok:Zex e i.size rows (.osl e' j n)=Xb) (hroom:(n+ys.length)*(i.bytes+1)≤ZF) :
  Js P o σ (.osl e (rows.length+1) (n+ys.length)) [(d,.store (Zhp i.size rows (.osl e' j n) ys))] [d]:=by
 have hargs':cl.args = #[x,y]:=by apply XK.1;rw [hargs]
 have hts':cl.argTypes = #[T,T]:=by apply XK.1;rw [hts]
 intro c hc σ' tm w lim X hid hag hsim next Q hnx;subst hc;have hgx:Zo c.P σ' x=Zo c.P σ x:=ZJ fun t ht=>hid t (by simp [Zu (o:=o) (x:=x) (by rw [ho];simp [Op.operands,Call.operands,hargs',hcl]) ht]);have hgy:Zo c.P σ' y=Zo c.P σ y:=ZJ fun t ht=>hid t (by simp [Zu (o:=o) (x:=y) (by rw [ho];simp [Op.operands,Call.operands,hargs',hcl]) ht]);have hd':σ' d = .store rows:=by rw [hag d (by simp),hd]
 have hk:c.P.cellsOf e=i.size:=ZO hi;have hvx:Rep w lim (.osl e' j n) (Act.eval ⟨tm,[]⟩ x):=Yf rfl hsim hx hgx;have hvy:Rep w lim (.slice f i.size ys) (Act.eval ⟨tm,[]⟩ y):=Yf rfl hsim hy hgy
 -- the old slice, as one of one's own
 obtain ⟨xs,kj,ob,hown,hxl,hflat,hobk,hnone,hkill⟩:∃ (xs:List (List AV)) (kj ob:Option Nat),Jv c.P w lim Xb e xs (Act.eval ⟨tm,[]⟩ x) ob∧xs.length=n∧Zhp i.size rows (.osl e' j n) ys=Zet rows kj++[xs.flatten++ys.flatten]∧
   (∀ b,ob=Xa b→∃ q,kj=Xa q∧X d (q+1)=Xa b)∧(ob=Xc→kj=Xc)∧True:=by
  cases j with
  | zero =>
   have hn0:n=0:=by
    cases n with
    | zero => rfl
    | succ n => simp [Zex] at hok
   subst hn0;generalize Act.eval ⟨tm,[]⟩ x=v at hvx
   cases hvx with
   | @osl0 _ a =>
    refine ⟨[],Xc,Xc,?_,rfl,by simp [Zhp,Zet],fun b hb=>(by cases hb),fun _=>rfl,trivial⟩
    cases a with
    | none => exact .inl ⟨[], World.ownsRow_nil _ 0 _ _, rfl, by simp, by simp, by simp, by simp⟩
    | some a => exact .inr (.inl ⟨rfl, rfl, a, rfl⟩)
   | osl h _ _ => omega
  | succ j =>
   simp only [Zex,Xs,decide_eq_true_eq] at hok;obtain ⟨⟨rfl,h1⟩,h2⟩:=hok;obtain ⟨b,k1,k2⟩:=Zna hsim hd' hvx h1 (by rw [hk];exact h2);refine ⟨_,Xa j,Xa b,k2,by simp [YE],?_,fun b' hb'=>⟨j,rfl,(by cases hb';exact k1)⟩,fun h=>(by cases h),trivial⟩
   have hfl:(YE (c.P.cellsOf e') (ZG rows (j+1)) n).flatten=(ZG rows (j+1)).take (n*c.P.cellsOf e'):=by
    have h3:=VQ (c.P.cellsOf e') n ((ZG rows (j+1)).take (n*c.P.cellsOf e')) (by rw [XU,hk];omega);rw [← h3];congr 1;unfold YE;refine Wr fun q hq=>?_;have hq':q < n:=UC.1 hq;have hm:q*c.P.cellsOf e'+c.P.cellsOf e'≤n*c.P.cellsOf e':=by rw [← Uk];exact XZ _ hq'
    rw [List.drop_take,List.take_take,Nat.min_eq_left (by omega)]
   rw [hfl,hk];rfl
 obtain ⟨v',w',lim',ob',r1,r2,r3,r4⟩:=Y1 (ty:=o.type) hT hi hz hzs hown (RdS.of (by rw [hk];exact hvy)) (by rw [hxl];exact hroom) hnm
 obtain ⟨b',cap',hob',hv',hle',hlt',hobj⟩:=Zoi r2 hnm (by
  intro h;have:=congrArg List.length h;simp only [Xu,List.length_nil] at this;exact hne (X7 (by omega)))
 have hw2:Jh w lim w' lim' (fun b=>∃ q,kj=Xa q∧X d (q+1)=Xa b):=⟨r3.os,r3.tape,r3.output,r3.size,r3.frz,fun b hb hn=>r3.blk b hb fun h=>hn (hobk b h),r3.ext,r3.t⟩
 obtain ⟨lim2,X2,k1,k2,k3,k4⟩:=hsim.stoApp (kj:=kj) (row:=xs.flatten++ys.flatten) (nb:=b') (cap:=cap') (ty:=e) hd' hw2 (by
  rcases r4 with h | h
  ·rw [hob'] at h;obtain ⟨q,hq1,hq2⟩:=hobk b' h.symm;exact ⟨hlt',(hsim.ours d (q+1) b' hq2).2,fun i k hx=>⟨(hsim.dist i k d (q+1) b' hx hq2).1,q,hq1,(hsim.dist i k d (q+1) b' hx hq2).2⟩⟩
  ·rw [hob'] at h
   cases h
   exact ⟨hlt',.inr hsim.frm.size,fun i k hx=>(YG hsim i k hx).elim⟩) (fun lim2 hf he=>by
  have:=hobj lim2 hf he
  rwa [List.flatten_append] at this)
 rw [← hflat] at k1;refine Zj (v:=v') (w':=w') ?_ (hnx _ w' (Zw k1 rfl (k:=0) ?_))
 ·simp only [execOp,ho,resolve,hcl,hargs',hts',Ws,Xh,XF,Sem.run_bind,Sem.run_pure,Result.andThen_ok,invoke,builtin,r1]
 ·rw [hv',Xu,hxl];exact Rep.osl (Uq _) k2 (by rw [Xu,hxl] at hle';exact hle')
theorem Zr7 {c:Ctx} {σ:Nat→AV} {tm:Array Value} {w:World} {lim:Lm} {X:Nat→Nat→Option Nat} (h:Sim c σ tm w lim X) {d j n:Nat} {e e':TypeId} {rows:List (List AV)} {v:Value} (hd:σ d = .store rows) (hv:Rep w lim (.osl e' j n) v) (hok:Zex e (c.P.cellsOf e) rows (.osl e' j n)=Xb) (hnm:Zm c.P e=Xe) :
  RdS w lim (c.P.cellsOf e) (Zbs (c.P.cellsOf e) rows (.osl e' j n)) v:=by
 cases j with
 | zero =>
  have hn0:n=0:=by
   cases n with
   | zero => rfl
   | succ n => simp [Zex] at hok
  subst hn0
  cases hv with
  | osl0 => exact .inl ⟨rfl, _, _, rfl⟩
  | osl h _ _ => omega
 | succ j =>
  simp only [Zex,Xs,decide_eq_true_eq] at hok;obtain ⟨⟨rfl,h1⟩,h2⟩:=hok;obtain ⟨b,k1,k2⟩:=Zna h hd hv h1 h2;show RdS w lim (c.P.cellsOf e') (YE (c.P.cellsOf e') (ZG rows (j+1)) n) v;obtain ⟨arr,cap,hv',hg,hl,hle,hcm,hcs,hxl,hxc,hxr⟩:=Va k2 (.inl hnm);have hxf:=Zz _ _ hxl;have hln:(YE (c.P.cellsOf e') (ZG rows (j+1)) n).length=n:=by simp [YE]
  have hm:n*c.P.cellsOf e'≤cap*c.P.cellsOf e':=XZ _ (by rw [← hln];exact hle);refine .inr ⟨b,0,cap,arr.toList.take (n*c.P.cellsOf e'),hv',hxl,hxc,by rw [hln,XU,UD];omega,fun q u hu=>?_,fun q x u hx hu=>?_⟩
  ·rw [XC] at hu;split at hu
   ·rw [XH,ZR hg];simpa using hu
   ·cases hu
  ·rw [XC] at hu;split at hu
   ·exact hxr q x u hx (by simpa using hu)
   ·cases hu
theorem Zao {P:Program} {o:Oper} {σ:Nat→AV} (ex:Bool) {cl:Call} {T e e':TypeId} {i:TypeInfo} {z:Value} {x y:Operand} {d j n:Nat} {rows:List (List AV)} {s:Nat} (ho:o.op = .call cl) (hcl:cl.callee = .builtin .append)
  (hargs:cl.args.toList = [x,y]) (hts:cl.argTypes.toList = [T,T]) (hT:P.underlying T=Xa (.slice e)) (hi:P.info? e=Xa i) (hz:i.zero=Xa z) (hzs:z.cells.size=i.size)
  (hx:Zo P σ x = .slice Xb s []) (hy:Zo P σ y = .osl e' j n) (hd:σ d = .store rows) (hok:Zex e i.size rows (.osl e' j n)=Xb) (hroom:(([] : List (List AV)).length+(Zbs i.size rows (.osl e' j n)).length)*(i.bytes+1)≤ZF) (hnm:Zm P e=Xe) :
  Js P o σ (.own ex e (Zbs i.size rows (.osl e' j n))) [] [d]:=by
 have hargs':cl.args = #[x,y]:=by apply XK.1;rw [hargs]
 have hts':cl.argTypes = #[T,T]:=by apply XK.1;rw [hts]
 intro c hc σ' tm w lim X hid hag hsim next Q hn;have hgx:Zo P σ' x=Zo P σ x:=ZJ fun t ht=>hid t (by simp [Zu (o:=o) (x:=x) (by rw [ho];simp [Op.operands,Call.operands,hargs',hcl]) ht]);have hgy:Zo P σ' y=Zo P σ y:=ZJ fun t ht=>hid t (by simp [Zu (o:=o) (x:=y) (by rw [ho];simp [Op.operands,Call.operands,hargs',hcl]) ht]);have hxv:Jv P w lim ex e [] (Act.eval ⟨tm,[]⟩ x) Xc:=ZbC (s:=s) (Yf hc hsim hx hgx);have hd':σ' d = .store rows:=by rw [hag d (by simp),hd]
 have hk:P.cellsOf e=i.size:=ZO hi
 have hyv:RdS w lim (P.cellsOf e) (Zbs i.size rows (.osl e' j n)) (Act.eval ⟨tm,[]⟩ y):=by
  have hv:=Yf hc hsim hy hgy;have:=Zr7 (e:=e) hsim hd' hv (by rw [hc,hk];exact hok) (by rw [hc];exact hnm);rw [hc,hk] at this;rw [hk];exact this
 obtain ⟨v',w',lim',ob',r1,r2,r3,r4⟩:=Y1 (ty:=o.type) hT hi hz hzs hxv hyv hroom hnm;have hw:=hsim.world r3 fun b hb=>by cases hb
 refine Zj (v:=v') (w':=w') ?_ (hn _ w' ?_)
 ·simp only [execOp,ho,resolve,hcl,hargs',hts',Ws,Xh,XF,Sem.run_bind,Sem.run_pure,Result.andThen_ok,invoke,builtin,r1]
 ·rw [← hc,List.nil_append] at r2;refine Jn hw r2 (fun b hb=>?_) (fun _=>.noMap (by rw [hc];exact hnm)) fun _ hd=>by rw [hc,Jc hnm] at hd;cases hd
  rcases r4 with r4 | r4
  ·rw [r4] at hb;cases hb
  ·rw [r4] at hb;simp only [Xf] at hb;subst hb;exact ⟨.inr hsim.frm.size,fun i j=>YG hsim i j⟩
theorem ZaN {T':Odr} {P:Program} {o:Oper} {σ:Nat→AV} {cl:Call} {T e e':TypeId} {i:TypeInfo} {z:Value} {t:Nat} {y:Operand} {x:Bool} {xs:List (List AV)} {us:List (Nat×AV)} {d j n:Nat} {rows:List (List AV)} (ho:o.op = .call cl) (hcl:cl.callee = .builtin .append)
  (hargs:cl.args.toList = [.tmp t,y]) (hts:cl.argTypes.toList = [T,T]) (hT:P.underlying T=Xa (.slice e)) (hi:P.info? e=Xa i) (hz:i.zero=Xa z) (hzs:z.cells.size=i.size)
  (ht:σ t = .own x e xs) (hy:Zo P σ y = .osl e' j n) (hd:σ d = .store rows) (hok:Zex e i.size rows (.osl e' j n)=Xb) (hroom:(xs.length+(Zbs i.size rows (.osl e' j n)).length)*(i.bytes+1)≤ZF) (hus:(x=Xe∧us = [])∨Yr T' σ t us) (hnm:Zm P e=Xe) :
  Ku T' P o σ (.own x e (xs++Zbs i.size rows (.osl e' j n))) ((t,ZaW P x e xs)::us) [d]:=by
 have hargs':cl.args = #[.tmp t,y]:=by apply XK.1;rw [hargs]
 have hts':cl.argTypes = #[T,T]:=by apply XK.1;rw [hts]
 intro c hc σ' tm w lim X hid hag hTx hsim next Q hn;have hgy:Zo P σ' y=Zo P σ y:=ZJ fun t ht=>hid t (by simp [Zu (o:=o) (x:=y) (by rw [ho];simp [Op.operands,Call.operands,hargs',hcl]) ht]);have ht':σ' t = .own x e xs:=by rw [hag t (by simp),ht]
 obtain ⟨X1,h1,h2,h3,_⟩:=hsim.freeAll (us:=us) ht' (hus.imp id fun h=>h.all hTx);have hd':σ' d = .store rows:=by rw [hag d (by simp),hd]
 have hk:P.cellsOf e=i.size:=ZO hi
 have hyv:RdS w lim (P.cellsOf e) (Zbs i.size rows (.osl e' j n)) (Act.eval ⟨tm,[]⟩ y):=by
  have hv:=Yf hc hsim hy hgy;have:=Zr7 (e:=e) hsim hd' hv (by rw [hc,hk];exact hok) (by rw [hc];exact hnm);rw [hc,hk] at this;rw [hk];exact this
 rw [hc] at h2;obtain ⟨v',w',lim',ob',r1,r2,r3,r4⟩:=Y1 (ty:=o.type) hT hi hz hzs h2 hyv hroom hnm;have hw:=h1.world r3 h3;refine Zj (v:=v') (w':=w') ?_ (hn _ w' ?_)
 ·have hev:Act.eval ⟨tm,[]⟩ (.tmp t)=tm.getD t undef:=rfl;simp only [execOp,ho,resolve,hcl,hargs',hts',Ws,Xh,XF,Sem.run_bind,Sem.run_pure,Result.andThen_ok,invoke,builtin,hev,r1]
 ·rw [hc] at hw;rw [← hc] at r2;refine Jn hw r2 (fun b hb=>?_) (fun _=>.noMap (by rw [hc];exact hnm)) fun _ hd=>by rw [hc,Jc hnm] at hd;cases hd
  rcases r4 with r4 | r4
  ·rw [r4] at hb;exact h3 b hb
  ·rw [r4] at hb;simp only [Xf] at hb;subst hb;exact ⟨.inr hsim.frm.size,fun i j=>YG h1 i j⟩
theorem Zdp {T':Odr} {P:Program} {o:Oper} {σ:Nat→AV} {T e:TypeId} {a:Operand} {t d j off:Nat} {xs rows:List (List AV)} {us:List (Nat×AV)} (ho:o.op = .store T a (.tmp t)) (ha:Zo P σ a = .oref (j+1) off) (hd:σ d = .store rows) (hr:ZU (ZG rows (j+1))=Xb)
  (ht:σ t = .own Xb e xs) (hus:Yr T' σ t us) (hdt:d≠t) (hnm:Zm P e=Xe) (hne:xs≠[]) (h1:P.cellsOf T=1) (hfit:off+1≤(ZG rows (j+1)).length) :
  Ku T' P o σ .dead (((t,.dead)::us)++[(d,.store (Jf (rows++[xs.flatten]) j off [.osl e (rows.length+1) xs.length]))]) [d]:=by
 intro c hc σ' tm w lim X hid hag hTx hsim next Q hnx;have hga:Zo P σ' a=Zo P σ a:=ZJ fun t ht=>hid t (by simp [Zu (o:=o) (x:=a) (by rw [ho];simp [Op.operands]) ht]);have ht':σ' t = .own Xb e xs:=by rw [hag t (by simp),ht]
 have hd':σ' d = .store rows:=by rw [hag d (by simp),hd]
 have hva:=Yf hc hsim ha hga;obtain ⟨b2,cap2,ty2,k1,k2⟩:=Kd hva;obtain ⟨X1,m1,m2,m3,m4⟩:=hsim.freeAll (us:=us) ht' (.inr (hus.all hTx));have hleft:ZaW c.P Xb e xs = .dead:=rfl;rw [hleft] at m1
 have hd1:JG σ' ((t,.dead)::us) d = .store rows:=by
  obtain ⟨q1,_⟩:=hus.all hTx
  rw [WG _ _ _ (fun u hu=>by
   rcases Xq.1 hu with rfl | hu
   ·rfl
   ·exact (q1 u hu).2.1)]
  rw [if_neg ?_,hd'];intro hm;obtain ⟨u,hu,hud⟩:=Xj.1 hm;rcases Xq.1 hu with rfl | hu
  ·exact hdt hud.symm
  ·obtain ⟨_,_,q,hq⟩:=q1 u hu;rw [hud,hd'] at hq;rcases hq with hq | ⟨_,hq⟩ <;> cases hq
 obtain ⟨b',cap',hob',hv',hle',hlt',hobj⟩:=Zoi m2 (by rw [hc];exact hnm) hne;obtain ⟨lim2,X2,p1,p2,p3,p4⟩:=m1.stoApp (kj:=Xc) (row:=xs.flatten) (nb:=b') (cap:=cap') (ty:=e) hd1 (Jh.refl w lim _) ⟨hlt',(m3 b' hob').1,fun i k hx=>((m3 b' hob').2 i k hx).elim⟩ (fun lim2 hf he=>hobj lim2 hf he);have hσ1:upd (JG σ' ((t,.dead)::us)) d (.store (Zet rows Xc++[xs.flatten])) d = .store (rows++[xs.flatten]):=by rw [ZI];rfl
 have hsr:ZG (rows++[xs.flatten]) (j+1)=ZG rows (j+1):=by
  have hlt:=(Xk.1 (ZaJ hr)).1;simp only [ZG];rw [Xx hlt]
 obtain ⟨b,cap,arr,ty,g1,g2,g4,g5,g0,g6,g7,g8,g9⟩:=Vq p1 hσ1 (by rw [hsr];exact hr);rw [hsr] at g7 g8 g9;have k1':=p4.t _ _ k1;rw [g2] at k1'
 cases k1'
 obtain ⟨inf,hinf⟩:=Zx (P:=P) (T:=T) (by omega)
 have hrep:Rep w lim2 (.osl e (rows.length+1) xs.length) (tm.getD t undef):=by
  rw [hv'];exact Rep.osl (Uq _) p2 hle'
 have h5:JI w lim2 [.osl e (rows.length+1) xs.length] [tm.getD t undef]:=JI.one rfl hrep;have hcv:(tm.getD t undef).cells = [tm.getD t undef].toArray:=by rw [hv'];rfl
 have hst:=YW (P:=P) (T:=T) (w:=w) (b:=b2) (off:=off) (v:=tm.getD t undef) hinf hcv (by rw [h1];rfl) g4 (by simp;omega) (fun u hu=>by
  rw [XE] at hu;subst hu;rw [hv'];rfl)
 have hset:=p1.stoSet (row':=setCells (ZG rows (j+1)) off [.osl e (rows.length+1) xs.length]) (arr':=(arr.toList.take off++[tm.getD t undef]++arr.toList.drop (off+1)).toArray) hσ1 (by rw [hsr];exact hr) g1 g2 g4 g5 g0 (by rw [← g6];simp;omega) (by unfold setCells;simp;omega) (fun z hz=>by
  unfold setCells at hz;rcases Xv.1 hz with hz | hz
  ·rcases Xv.1 hz with hz | hz
   ·exact g8 z (XR hz)
   ·rw [XE] at hz;subst hz;rfl
  ·exact g8 z (XY hz)) (fun i z u hz hu=>by
  unfold setCells at hz;rw [VJ _ _ off (by simp;omega)] at hz;have hu':(arr.toList.take off++[tm.getD t undef]++arr.toList.drop (off + [tm.getD t undef].length))[i]? = Xa u:=by simpa using hu
  rw [VJ arr.toList _ off (by simp;omega)] at hu';rw [To] at hz hu';split at hz
  ·rename_i hcnd;rw [if_pos hcnd] at hu';exact h5.2.2 _ z u hz hu'
  ·rename_i hcnd;rw [if_neg hcnd] at hu';exact g9 i z u hz (by simpa using hu'))
 have hse:Jf (rows++[xs.flatten]) j off [.osl e (rows.length+1) xs.length]=(rows++[xs.flatten]).set j (setCells (ZG rows (j+1)) off [.osl e (rows.length+1) xs.length]):=by
  rw [ZdI (by rw [hsr];exact hr),hsr]
 rw [← hse] at hset;have hev:Act.eval ⟨tm,[]⟩ (.tmp t)=tm.getD t undef:=rfl;refine Y2 (w':=w.setRow b2 (arr.toList.take off++[tm.getD t undef]++arr.toList.drop (off+1)).toArray) ?_ (hnx undef _ ?_)
 ·simp only [execOp,ho,k2,hev,Sem.run_bind,hst,To,Result.andThen_ok,Sem.run_pure]
 ·rw [Zde]
  have hup:upd (upd (JG σ' ((t,.dead)::us)) d (.store (Zet rows Xc++[xs.flatten]))) d (.store (Jf (rows++[xs.flatten]) j off [.osl e (rows.length+1) xs.length]))=upd (JG σ' ((t,.dead)::us)) d (.store (Jf (rows++[xs.flatten]) j off [.osl e (rows.length+1) xs.length])):=by
   funext q;by_cases hq:q=d
   ·subst hq;rw [ZI,ZI]
   ·rw [Ze _ _ hq,Ze _ _ hq,Ze _ _ hq]
  rw [hup] at hset;exact Zw hset rfl (k:=0) trivial
theorem ZcB {P:Program} {o:Oper} {σ:Nat→AV} {op:BinOp} {T T' e:TypeId} {x:Operand} {j off:Nat} (ho:o.op = .binOp op T x (.const (.pointer Xc)) T') (hop:op = .eql∨op = .neq) (hT:P.underlying T=Xa (.pointer e)) (hj:j=0→off=0)
  (hx:Zo P σ x = .oref j off):Js P o σ (.val (.bool (match op with | .eql=>decide (j=0) | _=>decide (j≠0)))) [] []:=by
 refine Zq [] rfl fun c hc σ' tm w lim X hg hfp hsim=>?_;rw [ho] at hg;have hv:Rep w lim (.oref j off) (Act.eval ⟨tm,[]⟩ x):=Yf hc hsim hx (hg x (by simp [Op.operands]));have hec:Act.eval ⟨tm,[]⟩ (.const (.pointer Xc)) = .pointer Xc:=rfl;refine ⟨_,?_,.val rfl⟩;generalize hev:Act.eval ⟨tm,[]⟩ x=v at hv
 cases hv with
 | oref0 =>
  have he:(Op.equal T (.pointer Xc) (.pointer Xc)).run P w = .ok Xb w:=run_eqNil0 w 9999 hT;rcases hop with rfl | rfl<;>simp [execOp,ho,hev,hec,eqGuard,binOp,he]
 | @oref _ _ b cap ty h _ =>
  have he:(Op.equal T (.pointer (Xa ⟨b,off,Xc⟩)) (.pointer Xc)).run P w = .ok Xe w:=run_eqNilS w 9999 _ hT;have hj0:j≠0:=by omega
  rcases hop with rfl | rfl<;>simp [execOp,ho,hev,hec,eqGuard,binOp,he,hj0]
where
 run_eqNil0 {P:Program} (w:World) (d:Nat) {t e:TypeId} (h:P.underlying t=Xa (.pointer e)):(Op.equalIn (d+1) t (.pointer Xc) (.pointer Xc)).run P w = .ok Xb w:=by
  simp [Op.equalIn,run_underlying h]
 run_eqNilS {P:Program} (w:World) (d:Nat) {t e:TypeId} (a:Addr) (h:P.underlying t=Xa (.pointer e)):(Op.equalIn (d+1) t (.pointer (Xa a)) (.pointer Xc)).run P w = .ok Xe w:=by
  simp [Op.equalIn,run_underlying h]
theorem Zh0 {P:Program} {o:Oper} {σ:Nat→AV} {f:FuncId} {first captured:Array Operand} {js:List Nat} (ho:o.op = .makeFunc (.func f) first captured) (hf:first.toList = []) (hl:captured.toList.length=js.length)
  (hc:∀ (i:Nat) (x:Operand) (j:Nat),captured.toList[i]? = Xa x→js[i]? = Xa j→0 < j∧Zo P σ x = .oref j 0):Js P o σ (.fnc f js) [] []:=by
 refine Zq [] rfl fun c hcP σ' tm w lim X hg hfp hsim=>?_;rw [ho] at hg
 have key:∀ (xs:List Operand) (qs:List Nat),xs.length=qs.length→(∀ (i:Nat) (x:Operand) (j:Nat),xs[i]? = Xa x→qs[i]? = Xa j→∃ b,(∃ cap ty,lim.t j=Xa (b,cap,ty))∧Act.eval ⟨tm,[]⟩ x = .pointer (Xa ⟨b,0,Xc⟩))→
   ∃ bs:List Nat,bs.length=qs.length∧xs.map (Act.eval ⟨tm,[]⟩)=bs.map (fun b=>Value.pointer (Xa ⟨b,0,Xc⟩))∧∀ (i j b:Nat),qs[i]? = Xa j→bs[i]? = Xa b→∃ cap ty,lim.t j=Xa (b,cap,ty):=by
  intro xs
  induction xs with
  | nil =>
   intro qs h _;have:qs = []:=X7 h.symm;subst this;exact ⟨[],rfl,rfl,by simp⟩
  | cons x xs ih =>
   intro qs h hq
   cases qs with
   | nil => cases h
   | cons q qs =>
    obtain ⟨b,h1,h2⟩:=hq 0 x q rfl rfl;obtain ⟨bs,g1,g2,g3⟩:=ih qs (by simpa using h) fun i x j hx hj=>hq (i+1) x j (by simpa using hx) (by simpa using hj);refine ⟨b::bs,by simp [g1],by simp [h2,g2],fun i j b' hj hb=>?_⟩
    cases i with
    | zero => simp at hj hb; subst hj; subst hb; exact h1
    | succ i => exact g3 i j b' (by simpa using hj) (by simpa using hb)
 obtain ⟨bs,h1,h2,h3⟩:=key captured.toList js hl fun i x j hx hj=>by
  obtain ⟨g1,g2⟩:=hc i x j hx hj;obtain ⟨q,rfl⟩:∃ q,j=q+1:=⟨j-1,by omega⟩
  obtain ⟨b,cap,ty,k1,k2⟩:=Kd (Yf hcP hsim g2 (hg x (by
   have:=Xm hx;simp [Op.operands,Array.mem_toList_iff.1 this])))
  exact ⟨b,⟨cap,ty,k1⟩,k2⟩
 have hfa:first = #[]:=by apply XK.1;rw [hf]
 refine ⟨.func (.func f) #[] (bs.map fun b=>Value.pointer (Xa ⟨b,0,Xc⟩)).toArray,?_,.fnc h1 fun i j b hj hb=>⟨?_,h3 i j b hj hb⟩⟩
 ·have hmap:captured.map (Act.eval ⟨tm,[]⟩)=(bs.map fun b=>Value.pointer (Xa ⟨b,0,Xc⟩)).toArray:=by
   apply XK.1;rw [Array.toList_map,h2]
  simp [execOp,ho,hfa,hmap,Instr.makeFunc]
 ·obtain ⟨x,hx⟩:∃ x,captured.toList[i]? = Xa x:=⟨_,Xp (by rw [hl];exact (Xk.1 hj).1)⟩;exact (hc i x j hx hj).1
open Go.MapKept in
theorem Zgt {c:Ctx} {σ:Nat→AV} {tm:Array Value} {w:World} {lim:Lm} {X:Nat→Nat→Option Nat} (h:Sim c σ tm w lim X) {d j:Nat} {rows:List (List AV)} (hd:σ d = .store rows) (hc:JR (ZG rows (j+1))=Xb) :
  ∃ (b cap:Nat) (ty:TypeId) (es:Array MapEntry) (clock:Nat) (kvs1:List (List AV)),X d (j+1)=Xa b∧lim.t (j+1)=Xa (b,cap,ty)∧w.heap[b]? = Xa (.map es clock)∧lim b=0∧es.size=kvs1.length∧Stamped es clock∧rows[j]? = Xa (ZD (J5 (ZG rows (j+1))))∧
   (∀ (i:Nat) (en:MapEntry) (kv:List AV),es[i]? = Xa en→kvs1[i]? = Xa kv→∃ (k:Int) (q:Nat),kv = [.val (.int .i64 k),.oref q 0]∧en.key = .int .i64 k∧Rep w lim (.oref q 0) en.val)∧kvs1.Perm (J5 (ZG rows (j+1))):=by
 have hs:=h.rel d;rw [hd] at hs
 have hrow:∃ kvs,ZG rows (j+1)=ZD kvs:=by
  unfold JR at hc;split at hc
  ·rename_i kvs h1;exact ⟨kvs,h1⟩
  ·cases hc
 obtain ⟨kvs,hk⟩:=hrow
 have hr:rows[j]? = Xa (ZD kvs):=by
  simp only [ZG] at hk
  cases hr:rows[j]? with
  | none => rw [hr] at hk; cases hk
  | some row => rw [hr] at hk; exact congrArg Xa hk
 have hkv:J5 (ZG rows (j+1))=kvs:=by rw [hk];rfl
 rw [hkv];rcases hs.2.2 j _ hr with h0 | ⟨b,cap,ty,h1,h2,h3,h4⟩
 ·cases h0
 ·rcases h4 with ⟨arr,g0,g1,g2,g3,g4,g5⟩ | ⟨es,clock,kvs',kvs1,g1,g2,gp,g3,g4,g5⟩
  ·have:=g4 .dead (by simp [ZD])
   cases this
  ·have:kvs'=kvs:=by
    simp only [ZD,List.cons.injEq,AV.slice.injEq,and_true,true_and] at g2;exact g2.symm
   subst this;exact ⟨b,cap,ty,es,clock,kvs1,h2,h1,g1,h3,g3,g4,hr,g5,gp⟩
open Go.MapKept in
theorem Sim.stoMap {c:Ctx} {σ:Nat→AV} {tm:Array Value} {w:World} {lim:Lm} {X:Nat→Nat→Option Nat} (h:Sim c σ tm w lim X) {d j b cap:Nat} {ty:TypeId} {es es':Array MapEntry} {clock clock':Nat} {rows kvs' kvs2:List (List AV)} (hd:σ d = .store rows) (hlt:j < rows.length)
  (g1:X d (j+1)=Xa b) (g2:lim.t (j+1)=Xa (b,cap,ty)) (g4:w.heap[b]? = Xa (.map es clock)) (g5:lim b=0) (hp:kvs2.Perm kvs') (hl:es'.size=kvs2.length) (hs:Stamped es' clock')
  (hrel:∀ (i:Nat) (en:MapEntry) (kv:List AV),es'[i]? = Xa en→kvs2[i]? = Xa kv→∃ (k:Int) (q:Nat),kv = [.val (.int .i64 k),.oref q 0]∧en.key = .int .i64 k∧Rep w lim (.oref q 0) en.val) :
  Sim c (upd σ d (.store (rows.set j (ZD kvs')))) tm (JL w b (.map es' clock')) lim (ZcA X d (X d)):=by
 have hw:=Zhk (es':=es') (clock':=clock') g4 g5;have hcs:K7 w lim (JL w b (.map es' clock')) lim (fun b'=>∃ k,X d k=Xa b') Xb:=⟨hw.os,hw.tape,hw.output,hw.size,hw.frz,fun b' hb' hnn=>hw.blk b' hb' fun e=>hnn ⟨j+1,by rw [e];exact g1⟩,hw.ext,fun _=>rfl⟩;have hsr:=h.rel d;rw [hd] at hsr
 have hstore:JC c.P (JL w b (.map es' clock')) lim (X d) (rows.set j (ZD kvs')):=by
  refine ⟨fun i hi=>hsr.1 i (by simpa using hi),hsr.2.1,fun i row1 hr1=>?_⟩;rw [UH] at hr1;split at hr1
  ·rename_i hij;subst hij
   cases hr1
   exact .inr ⟨b,cap,ty,g2,g1,g5,.inr ⟨es',clock',kvs',kvs2,VZ g4,rfl,hp,hl,hs,fun i en kv m1 m2=>by
    obtain ⟨k,q,n1,n2,n3⟩:=hrel i en kv m1 m2;exact ⟨k,q,n1,n2,n3.mono hw.ext⟩⟩⟩
  ·rename_i hij;rcases hsr.2.2 i row1 hr1 with h0 | ⟨b1,cap1,t1,m1,m2,m3⟩
   ·exact .inl h0
   ·have hbb:b1≠b:=fun e=>by
     subst e;have:=(h.dist d (i+1) d (j+1) b1 m2 g1).2;omega
    exact .inr ⟨b1,cap1,t1,m1,m2,m3.mono hw.ext (hw.blk b1 (h.ours d (i+1) b1 m2).1 hbb)⟩
 exact h.stoStep hd hcs hstore (fun k b' hb'=>⟨XS (h.ours d k b' hb').1 hw.size,(h.ours d k b' hb').2,fun i k' hi hx'=>hi (h.dist i k' d k b' hx' hb').1⟩) (fun k k' b' hk hk'=>(h.dist d k d k' b' hk hk').2)
theorem Znj {kvs kvs1:List (List AV)} {k:Int} (hp:kvs1.Perm kvs) {j:Nat} {row:List AV} (h1:kvs1[j]? = Xa row) (h2:Zl row=Xa k) (hu:∀ i r,kvs1[i]? = Xa r→i≠j→Zl r≠Xa k):kvs.find? (fun r=>Zl r == Xa k)=Xa row:=by
 cases hf:kvs.find? (fun r=>Zl r == Xa k) with
 | none =>
  have:=Te.1 hf row (hp.mem_iff.1 (Xm h1));simp [h2] at this
 | some r =>
  have hm:=hp.mem_iff.2 (List.mem_of_find?_eq_some hf);have hk:Zl r=Xa k:=by simpa using List.find?_some hf
  obtain ⟨i,hi⟩:=XO.1 hm;by_cases hij:i=j
  ·subst hij;rw [h1] at hi;exact hi.symm
  ·exact absurd hk (hu i r hi hij)
theorem ZiY {kvs kvs1:List (List AV)} (hp:kvs1.Perm kvs) (k:Int) (c:AV):(Yz kvs1 k c).Perm (Yz kvs k c):=by
 unfold Yz
 have:(kvs1.any fun r=>Zl r == Xa k)=(kvs.any fun r=>Zl r == Xa k):=by
  rw [Bool.eq_iff_iff,Ud,Ud];exact ⟨fun ⟨r,h1,h2⟩=>⟨r,hp.mem_iff.1 h1,h2⟩,fun ⟨r,h1,h2⟩=>⟨r,hp.mem_iff.2 h1,h2⟩⟩
 rw [this];split
 ·exact hp.map _
 ·exact hp.append_right _
theorem ZbW {P:Program} {T:TypeId} (h:Zd5 P T=Xb):∃ kt vt e i,P.underlying T=Xa (.map kt vt)∧P.underlying kt=Xa (.int .i64)∧P.underlying vt=Xa (.pointer e)∧P.info? vt=Xa i∧i.zero=Xa (.pointer Xc):=by
 unfold Zd5 at h;split at h
 ·rename_i kt vt hT;split at h
  ·rename_i e h1 h2 h3
   cases hi:P.info? vt with
   | none => rw [hi] at h3; cases h3
   | some i => rw [hi] at h3; exact ⟨kt, vt, e, i, hT, h1, h2, hi, h3⟩
  ·cases h
 ·cases h
open Go.MapKept in
theorem ZfO {P:Program} {o:Oper} {σ:Nat→AV} {T:TypeId} {d:Nat} {rows:List (List AV)} (ho:o.op = .makeMap T Xc) (hd:σ d = .store rows):Js P o σ (.omap (rows.length+1)) [(d,.store (rows++[ZD []]))] [d]:=by
 intro c hc σ' tm w lim X hid hag hsim next Q hn;have hd':σ' d = .store rows:=by rw [hag d (by simp),hd]
 obtain ⟨lim2,X2,k1,k2⟩:=hsim.stoNew (cap:=0) (ty:=0) (row:=ZD []) (.map #[] 0) hd' (fun lim2 hl he=>⟨hl,.inr ⟨#[],0,[],[],heap_alloc_new w _,rfl,List.Perm.refl _,rfl,stamped_empty 0,fun i en kv h=>by simp at h⟩⟩);refine Zj (v:=.map (Xa w.heap.size)) (w':=w.alloc (.map #[] 0)) ?_ (hn _ _ (Zw k1 rfl (k:=0) (Rep.omap (Uq _) k2)));have hr:(Instr.makeMap T Xc).run P w = .ok (.map (Xa w.heap.size)) (w.alloc (.map #[] 0)):=rfl;simp only [execOp,ho,Option.map_none,hr,Sem.run_bind,Result.andThen_ok,Sem.run_pure]
theorem Ziz {P:Program} {o:Oper} {σ:Nat→AV} {T:TypeId} {m kx:Operand} {d j:Nat} {rows:List (List AV)} {k:Int} (ho:o.op = .lookup T m kx Xe) (hT:Zd5 P T=Xb) (hm:Zo P σ m = .omap (j+1)) (hkx:Zo P σ kx = .val (.int .i64 k)) (hd:σ d = .store rows) (hc:JR (ZG rows (j+1))=Xb) :
  Js P o σ (Zd (Zn3 rows (.omap (j+1)) k)) [] [d]:=by
 refine Zq [d] (K2 (Q:=fun z=>z.plain=Xb) _ (fun _ _=>rfl) (fun _ _ _=>rfl) (fun _=>rfl) (fun _ _=>rfl)) fun c hcP σ' tm w lim X hg hfp hsim=>?_;rw [ho] at hg;have hd':σ' d = .store rows:=by rw [hfp d (by simp),hd]
 obtain ⟨b2,cap2,ty2,k1,k2⟩:=Zaa (Yf hcP hsim hm (hg m (by simp [Op.operands])));have hkv:=Z6 hcP hsim hkx (hg kx (by simp [Op.operands]));obtain ⟨b,cap,ty,es,clock,kvs1,g1,g2,g4,g5,g6,g7,g8,g9,hpm⟩:=Zgt hsim hd' hc;rw [g2] at k1;obtain ⟨rfl,rfl,rfl⟩:b=b2∧cap=cap2∧ty=ty2:=by cases k1;exact ⟨rfl,rfl,rfl⟩
 obtain ⟨kt,vt,e,i,hTT,hkt,hvt,hi,hz⟩:=ZbW hT;obtain ⟨_,hfind⟩:=ZdH g6 g7 (fun i en row h1 h2=>by obtain ⟨k,q,n1,n2,_⟩:=g9 i en row h1 h2;exact ⟨k,_,n1,n2⟩) k;have hzr:(zeroValue vt).run P w = .ok (.pointer Xc) w:=by simp [zeroValue,typeInfo,run_program,hi,hz]
 have hsm:Zn3 rows (.omap (j+1)) k=match (J5 (ZG rows (j+1))).find? (fun r=>Zl r == Xa k) with | some (_::v::_)=>[[v]] | _=>[[.oref 0 0]]:=rfl;rcases hfind with ⟨h1,_,h2⟩ | ⟨q,en,row,h1,h2,h3,h4,h5,h6,h7⟩
 ·have hgn:(J5 (ZG rows (j+1))).find? (fun r=>Zl r == Xa k)=Xc:=Te.2 fun r hr=>by simpa using h2 r (hpm.mem_iff.2 hr)
  refine ⟨.pointer Xc,?_,by rw [hsm,hgn];exact Rep.oref0⟩;simp [execOp,ho,k2,hkv,Instr.lookup,run_underlying hTT,MapKept.run_getObj_map g4,MapKept.run_checkKey hkt (YK k),MapKept.run_findKey hkt h1,hzr,Result.andThen]
 ·obtain ⟨k3,q2,p1,p2,p3⟩:=g9 q en row h2 h3;refine ⟨en.val,?_,?_⟩
  ·simp [execOp,ho,k2,hkv,Instr.lookup,run_underlying hTT,MapKept.run_getObj_map g4,MapKept.run_checkKey hkt (YK k),MapKept.run_findKey hkt h1,Result.andThen]
  ·rw [hsm,Znj hpm h3 h5 h7,p1];exact p3
open Go.MapKept in
theorem ZiA {P:Program} {o:Oper} {σ:Nat→AV} {T:TypeId} {m kx vx:Operand} {d j q:Nat} {rows:List (List AV)} {k:Int} (ho:o.op = .insert T m kx vx∨o.op = .mapUpdate T m kx vx) (hT:Zd5 P T=Xb) (hm:Zo P σ m = .omap (j+1)) (hkx:Zo P σ kx = .val (.int .i64 k)) (hvx:Zo P σ vx = .oref q 0)
  (hd:σ d = .store rows) (hc:JR (ZG rows (j+1))=Xb):Js P o σ .dead [(d,.store (rows.set j (ZD (Yz (J5 (ZG rows (j+1))) k (.oref q 0)))))] [d]:=by
 intro c hcP σ' tm w lim X hid hag hsim next Q hn;have hg:∀ y∈o.op.operands,Zo P σ' y=Zo P σ y:=fun y hy=>ZJ fun t ht=>hid t (by simp [Zu hy ht]);have hgm:=hg m (by rcases ho with ho | ho<;>rw [ho]<;>simp [Op.operands]);have hgk:=hg kx (by rcases ho with ho | ho<;>rw [ho]<;>simp [Op.operands]);have hgv:=hg vx (by rcases ho with ho | ho<;>rw [ho]<;>simp [Op.operands]);have hd':σ' d = .store rows:=by rw [hag d (by simp),hd]
 obtain ⟨b2,cap2,ty2,k1,k2⟩:=Zaa (Yf hcP hsim hm hgm);have hkv:=Z6 hcP hsim hkx hgk;have hvv:Rep w lim (.oref q 0) (Act.eval ⟨tm,[]⟩ vx):=Yf hcP hsim hvx hgv;obtain ⟨b,cap,ty,es,clock,kvs,g1,g2,g4,g5,hl,hs,g8,hr,hpm⟩:=Zgt hsim hd' hc;rw [g2] at k1;obtain ⟨rfl,rfl,rfl⟩:b=b2∧cap=cap2∧ty=ty2:=by cases k1;exact ⟨rfl,rfl,rfl⟩
 obtain ⟨kt,vt,e,i,hTT,hkt,hvt,hi,hz⟩:=ZbW hT;obtain ⟨hkeys,hfind⟩:=ZdH hl hs (fun i en row h1 h2=>by obtain ⟨k,q,n1,n2,_⟩:=hr i en row h1 h2;exact ⟨k,_,n1,n2⟩) k;have hlt:=(Xk.1 g8).1
 have step:∃ es' clock',(Instr.mapUpdate T (.map (Xa b)) (.int .i64 k) (Act.eval ⟨tm,[]⟩ vx)).run P w = .ok () (JL w b (.map es' clock'))∧es'.size=(Yz kvs k (.oref q 0)).length∧Stamped es' clock'∧
   ∀ (i:Nat) (en:MapEntry) (kv:List AV),es'[i]? = Xa en→(Yz kvs k (.oref q 0))[i]? = Xa kv→∃ (k:Int) (q:Nat),kv = [.val (.int .i64 k),.oref q 0]∧en.key = .int .i64 k∧Rep w lim (.oref q 0) en.val:=by
  rcases hfind with ⟨h1,h2,h3⟩ | ⟨jj,en,row,h1,h2,h3,h4,h5,h6,h7⟩
  ·refine ⟨es.push ⟨.int .i64 k,Act.eval ⟨tm,[]⟩ vx,clock⟩,clock+1,?_,by rw [put_new h3];simp [hl],stamped_push hs h2,fun i en row m1 m2=>?_⟩
   ·simp [Instr.mapUpdate,run_underlying hTT,MapKept.run_getObj_map g4,MapKept.run_checkKey hkt (YK k),MapKept.run_findKey hkt h1,MapKept.run_setObj_map _ g4,Result.andThen,JL]
   ·rw [put_new h3] at m2;by_cases hij:i=es.size
    ·subst hij;rw [Array.getElem?_push,if_pos rfl] at m1;rw [Xz (by omega)] at m2;simp [hl] at m2
     cases m1
     exact ⟨k,q,m2.symm,rfl,hvv⟩
    ·have hlt:i < es.size:=by
      have:=(Wk.1 m1).1;simp at this;omega
     rw [Array.getElem?_push,if_neg (by omega)] at m1;rw [Xx (by omega)] at m2;exact hr i en row m1 m2
  ·have hj:es[jj]? = Xa en:=h2;have hjl:jj < es.size:=(Wk.1 h2).1;have hkeyf:∀ e',es[jj]? = Xa e'→({ e' with key:=.int .i64 k,val:=Act.eval ⟨tm,[]⟩ vx } : MapEntry).key=e'.key:=fun e' he'=>by rw [hj] at he';cases he';exact h4.symm
   have hlen:=Zth (cl:=.oref q 0) h3 h5;refine ⟨es.modify jj fun e'=>{ e' with key:=.int .i64 k,val:=Act.eval ⟨tm,[]⟩ vx },clock,?_,by rw [Array.size_modify,hl,hlen],stamped_modify hs _ _ (fun _ _=>rfl) (fun e' _ he'=>hkeyf e' he'),fun i en' row' m1 m2=>?_⟩
   ·simp [Instr.mapUpdate,run_underlying hTT,MapKept.run_getObj_map g4,MapKept.run_checkKey hkt (YK k),MapKept.run_findKey hkt h1,hj,h4,MapKept.run_keyThatStays (YK k),MapKept.run_setObj_map _ g4,Result.andThen,JL]
   ·have m3:=Zqy (cl:=.oref q 0) h3 h5 h7 i row' m2;by_cases hij:i=jj
    ·subst hij;rw [if_pos rfl] at m3;rw [Array.getElem?_modify,if_pos rfl,hj] at m1;simp only [Xw,Xf] at m1;subst m1;exact ⟨k,q,m3,rfl,hvv⟩
    ·rw [if_neg hij] at m3;rw [Array.getElem?_modify,if_neg (by omega)] at m1;exact hr i en' row' m1 m3.1
 obtain ⟨es',clock',r1,r2,r3,r4⟩:=step;have hset:=hsim.stoMap (kvs':=Yz (J5 (ZG rows (j+1))) k (.oref q 0)) hd' hlt g1 g2 g4 g5 (ZiY hpm k (.oref q 0)) r2 r3 r4;refine Y2 (w':=JL w b (.map es' clock')) ?_ (hn undef _ (Zw hset rfl (k:=0) trivial));rcases ho with ho | ho<;>simp only [execOp,ho,k2,hkv,r1,Sem.run_bind,Result.andThen_ok,Sem.run_pure]
theorem ZdO {k:Int} : ∀ {kvs:List (List AV)} {j:Nat} {row:List AV},kvs[j]? = Xa row→Zl row=Xa k→(∀ i r,kvs[i]? = Xa r→i≠j→Zl r≠Xa k)→Zbj kvs k=kvs.eraseIdx j
 | [], j, row, h, _, _ => by simp at h
 | r :: kvs, 0, row, h, hk, hu => by
  simp only [XB,Xf] at h;subst h
  have hrest:kvs.filter (fun r=>!(Zl r == Xa k))=kvs:=Uu.2 fun x hx=>by
   obtain ⟨i,hi⟩:=XO.1 hx;have:=hu (i+1) x (by simpa using hi) (by omega);simpa using this
  simp [Zbj,hk,hrest]
 | r :: kvs, j + 1, row, h, hk, hu => by
  have hr:=hu 0 r rfl (by omega);have ih:=ZdO (kvs:=kvs) (j:=j) (row:=row) (by simpa using h) hk fun i x hx hi=>hu (i+1) x (by simpa using hx) (by omega);simp only [Zbj] at ih;simp [Zbj,hr,ih]
theorem Ze1 {k:Int} {kvs:List (List AV)} (h:∀ r∈kvs,Zl r≠Xa k):Zbj kvs k=kvs:=Uu.2 fun x hx=>by simpa using h x hx
open Go.MapKept in
theorem Zhl {P:Program} {o:Oper} {σ:Nat→AV} {cl:Call} {T T':TypeId} {ts:List TypeId} {m kx:Operand} {d j:Nat} {rows:List (List AV)} {k:Int} (ho:o.op = .call cl) (hcl:cl.callee = .builtin .delete) (hargs:cl.args.toList = [m,kx]) (hts:cl.argTypes.toList=T::ts) (hT:Zd5 P T=Xb)
  (hm:Zo P σ m = .omap (j+1)) (hkx:Zo P σ kx = .val (.int .i64 k)) (hd:σ d = .store rows) (hc:JR (ZG rows (j+1))=Xb):Js P o σ .dead [(d,.store (rows.set j (ZD (Zbj (J5 (ZG rows (j+1))) k))))] [d]:=by
 have hargs':cl.args = #[m,kx]:=by apply XK.1;rw [hargs]
 have hts':cl.argTypes=(T::ts).toArray:=by apply XK.1;rw [hts]
 intro c hcP σ' tm w lim X hid hag hsim next Q hn;have hg:∀ y∈o.op.operands,Zo P σ' y=Zo P σ y:=fun y hy=>ZJ fun t ht=>hid t (by simp [Zu hy ht]);have hgm:=hg m (by rw [ho];simp [Op.operands,Call.operands,hargs',hcl]);have hgk:=hg kx (by rw [ho];simp [Op.operands,Call.operands,hargs',hcl]);have hd':σ' d = .store rows:=by rw [hag d (by simp),hd]
 obtain ⟨b2,cap2,ty2,k1,k2⟩:=Zaa (Yf hcP hsim hm hgm);have hkv:=Z6 hcP hsim hkx hgk;obtain ⟨b,cap,ty,es,clock,kvs,g1,g2,g4,g5,hl,hs,g8,hr,hpm⟩:=Zgt hsim hd' hc;rw [g2] at k1;obtain ⟨rfl,rfl,rfl⟩:b=b2∧cap=cap2∧ty=ty2:=by cases k1;exact ⟨rfl,rfl,rfl⟩
 obtain ⟨kt,vt,e,i,hTT,hkt,hvt,hi,hz⟩:=ZbW hT;obtain ⟨hkeys,hfind⟩:=ZdH hl hs (fun i en row h1 h2=>by obtain ⟨k,q,n1,n2,_⟩:=hr i en row h1 h2;exact ⟨k,_,n1,n2⟩) k;have hlt:=(Xk.1 g8).1
 have step:∃ es',(∀ ty,(Builtin.delete_ cl.argTypes ty #[.map (Xa b),.int .i64 k]).run P w = .ok (.tuple #[]) (JL w b (.map es' clock)))∧es'.size=(Zbj kvs k).length∧Stamped es' clock∧
   ∀ (i:Nat) (en:MapEntry) (kv:List AV),es'[i]? = Xa en→(Zbj kvs k)[i]? = Xa kv→∃ (k:Int) (q:Nat),kv = [.val (.int .i64 k),.oref q 0]∧en.key = .int .i64 k∧Rep w lim (.oref q 0) en.val:=by
  rcases hfind with ⟨h1,h2,h3⟩ | ⟨jj,en,row,h1,h2,h3,h4,h5,h6,h7⟩
  ·refine ⟨es,fun ty=>?_,by rw [Ze1 h3,hl],hs,by rw [Ze1 h3];exact hr⟩;simp [hts',Builtin.delete_,run_underlying hTT,MapKept.run_getObj_map g4,MapKept.run_checkKey hkt (YK k),MapKept.run_findKey hkt h1,MapKept.run_setObj_map _ g4,Result.andThen,JL]
  ·have hjs:jj < es.size:=(Wk.1 h2).1
   have hel:(es.eraseIdxIfInBounds jj).toList=es.toList.eraseIdx jj:=by
    unfold Array.eraseIdxIfInBounds;rw [dif_pos hjs];simp
   have hat:∀ i,(es.eraseIdxIfInBounds jj)[i]? = if i < jj then es[i]? else es[i+1]?:=fun i=>by
    rw [← Wg,hel,List.getElem?_eraseIdx];split<;>rw [Wg]
   have hsz:(es.eraseIdxIfInBounds jj).size=es.size-1:=by
    rw [← UD,hel,List.length_eraseIdx_of_lt (by simpa using hjs),UD]
   have hke:=ZdO h3 h5 h7;refine ⟨es.eraseIdxIfInBounds jj,fun ty=>?_,?_,stamped_erase hs jj,fun i en' row' m1 m2=>?_⟩
   ·simp [hts',Builtin.delete_,run_underlying hTT,MapKept.run_getObj_map g4,MapKept.run_checkKey hkt (YK k),MapKept.run_findKey hkt h1,MapKept.run_setObj_map _ g4,Result.andThen,JL]
   ·rw [hke,hsz,List.length_eraseIdx_of_lt (by omega),hl]
   ·rw [hke,List.getElem?_eraseIdx] at m2;rw [hat] at m1;split at m1
    ·rename_i hlt';rw [if_pos hlt'] at m2;exact hr i en' row' m1 m2
    ·rename_i hlt';rw [if_neg hlt'] at m2;exact hr (i+1) en' row' m1 m2
 obtain ⟨es',r1,r2,r3,r4⟩:=step;have hset:=hsim.stoMap (kvs':=Zbj (J5 (ZG rows (j+1))) k) hd' hlt g1 g2 g4 g5 (hpm.filter _) r2 r3 r4
 cases hdst:o.dst with
 | none =>
  refine Zj (v:=.tuple #[]) (w':=JL w b (.map es' clock)) ?_ (hn _ _ (Zw hset rfl (k:=0) trivial));simp only [execOp,ho,resolve,hcl,hargs',Ws,Xh,XF,Sem.run_bind,Sem.run_pure,Result.andThen_ok,invoke,builtin,k2,hkv,r1]
 | some dd =>
  refine Zj (v:=.tuple #[]) (w':=JL w b (.map es' clock)) ?_ (hn _ _ (Zw hset rfl (k:=0) trivial));simp only [execOp,ho,resolve,hcl,hargs',Ws,Xh,XF,Sem.run_bind,Sem.run_pure,Result.andThen_ok,invoke,builtin,k2,hkv,r1]
theorem ZoI {P:Program} {o:Oper} {σ:Nat→AV} {cl:Call} {T kt vt:TypeId} {x:Operand} {d j:Nat} {rows:List (List AV)} (ho:o.op = .call cl) (hcl:cl.callee = .builtin .len) (hargs:cl.args.toList = [x]) (hts:cl.argTypes.toList = [T]) (hT:P.underlying T=Xa (.map kt vt))
  (hx:Zo P σ x = .omap (j+1)) (hd:σ d = .store rows) (hc:JR (ZG rows (j+1))=Xb):Js P o σ (.val (.int .i64 (J5 (ZG rows (j+1))).length)) [] [d]:=by
 have hargs':cl.args = #[x]:=by apply XK.1;rw [hargs]
 have hts':cl.argTypes = #[T]:=by apply XK.1;rw [hts]
 refine Zq [d] rfl fun c hcP σ' tm w lim X hg hfp hsim=>?_;rw [ho] at hg;have hd':σ' d = .store rows:=by rw [hfp d (by simp),hd]
 obtain ⟨b2,cap2,ty2,k1,k2⟩:=Zaa (Yf hcP hsim hx (hg x (by simp [Op.operands,Call.operands,hargs',hcl])));obtain ⟨b,cap,ty,es,clock,kvs1,g1,g2,g4,g5,g6,g7,g8,g9,hpm⟩:=Zgt hsim hd' hc;rw [g2] at k1;obtain ⟨rfl,rfl,rfl⟩:b=b2∧cap=cap2∧ty=ty2:=by cases k1;exact ⟨rfl,rfl,rfl⟩
 refine ⟨.int .i64 (J5 (ZG rows (j+1))).length,?_,.val rfl⟩;simp [execOp,ho,hcl,resolve,hargs',hts',invoke,builtin,Builtin.len_,k2,run_underlying hT,goInt,MapKept.run_getObj_map g4,Result.andThen,g6,hpm.length_eq]
theorem modify_set {rows:List (List AV)} {j:Nat} {row:List AV} (f:List AV→List AV) (h:rows[j]? = Xa row):rows.modify j f=rows.set j (f row):=by
 apply Wo;intro i;rw [Tm,UH];by_cases hij:j=i
 ·subst hij;rw [if_pos rfl,if_pos (Xk.1 h).1,h];simp
 ·rw [if_neg hij];simp [hij]
theorem ZlF {σ:Nat→AV} {d:Nat} {v:AV} (h:σ d=v):upd σ d v=σ:=by
 funext i;by_cases hi:i=d
 ·subst hi;rw [ZI,h]
 ·rw [Ze σ _ hi]
theorem Zl4 {c:Ctx} {σ:Nat→AV} {tm:Array Value} {w:World} {lim:Lm} {X:Nat→Nat→Option Nat} (h:Sim c σ tm w lim X) {d x n:Nat} {T e:TypeId} {inf:TypeInfo} {z:Value} {zc:List AV} {rows:List (List AV)} {cc:AV} (hd:σ d = .store rows) (hx:Rep w lim cc (tm.getD x undef)) (hcc:ZP cc=Xb) (hok:Zex e inf.size rows cc=Xb)
  (hT:c.P.underlying T=Xa (.slice e)) (hi:c.P.info? e=Xa inf) (hz:inf.zero=Xa z) (hzs:z.cells.size=inf.size) (hzr:∀ (w:World) (lim:Lm),JI w lim zc z.cells.toList) (h1z:∀ v∈z.cells.toList,v.oneCell'=Xb) (hn:n≤pO cc) :
  ∃ v2 w' X',(Instr.sliceAt T (tm.getD x undef) (Xa (.int .i64 n)) Xc Xc).run c.P w = .ok v2 w∧(∀ ty,(Builtin.clear_ #[T] ty #[v2]).run c.P w = .ok (.tuple #[]) w')∧
   Sim c (upd σ d (.store (Zso inf.size rows cc n zc))) tm w' lim X':=by
 have hk:c.P.cellsOf e=inf.size:=ZO hi;have hsz:∀ w,(sizeOf e).run c.P w = .ok inf.size w:=fun w=>by rw [Zs hi,hk]
 rcases YB hcc with ⟨j,o,rfl⟩ | ⟨e',j,m,rfl⟩ | ⟨j,rfl⟩ | ⟨g,js,rfl⟩
 ·cases hok
 ·cases j with
  | zero =>
   have hm:m=0:=by
    cases m with
    | zero => rfl
    | succ m => cases hok
   subst hm;have hn0:n=0:=Nat.le_zero.1 hn;subst hn0
   obtain ⟨a,cap,hv,_⟩:∃ a cap,tm.getD x undef = .slice a 0 cap∧cap=0:=by
    generalize hg:tm.getD x undef=v at hx
    cases hx with
    | osl0 => exact ⟨_, _, rfl, rfl⟩
    | osl h => exact (Nat.lt_irrefl 0 h).elim
   subst cap;refine ⟨.slice a 0 0,w,X,?_,fun ty=>Kc hT,by rw [show Zso inf.size rows (.osl e' 0 0) 0 zc=rows from rfl,ZlF hd];exact h⟩;rw [hv]
   cases a<;>simp [Instr.sliceAt,Instr.slice,Instr.sliceBounds,Instr.sliceBound,asIntOf,run_underlying hT,hsz]
  | succ j =>
   simp only [Zex,Xs,decide_eq_true_eq] at hok;obtain ⟨⟨rfl,hc⟩,hfit⟩:=hok;obtain ⟨b,cap,arr,t,g1,g2,g4,g5,g0,g6,g7,g8,g9⟩:=Vq h hd hc;obtain ⟨b2,cap2,k1,k2,k3⟩:=Zdl hx;rw [g2] at k1
   cases k1
   rw [hk] at g6;have hrow:=ZaJ hc;have hn:n≤m:=hn;have hnc:n≤cap:=by omega
   have hzl:z.cells.toList.length=inf.size:=by rw [← hzs];simp
   have hslice:(Instr.sliceAt T (tm.getD x undef) (Xa (.int .i64 n)) Xc Xc).run c.P w = .ok (.slice (if cap=n then Xa ⟨b,0,Xc⟩ else Xa ⟨b,n*inf.size,Xc⟩) (m-n) (cap-n)) w:=by
    rw [k2];simp [Instr.sliceAt,Instr.slice,Instr.sliceBounds,Instr.sliceBound,asIntOf,run_underlying hT,hsz,hn,hnc,k3,Jr]
   have hsc:Zso inf.size rows (.osl e' (j+1) m) n zc=rows.set j ((ZG rows (j+1)).take (n*inf.size)++(Xg (m-n) zc).flatten++(ZG rows (j+1)).drop (m*inf.size)):=modify_set (fun row=>row.take (n*inf.size)++(Xg (m-n) zc).flatten++row.drop (m*inf.size)) hrow;by_cases hend:n=m
   ·subst hend;refine ⟨_,w,X,hslice,fun ty=>?_,?_⟩
    ·rw [UE];exact Kc hT
    ·have:rows.set j ((ZG rows (j+1)).take (n*inf.size)++(Xg (n-n) zc).flatten++(ZG rows (j+1)).drop (n*inf.size))=rows:=by
      rw [UE];simp only [List.replicate_zero,List.flatten_nil,XN,List.take_append_drop];apply Wo;intro i;rw [UH];by_cases hij:j=i
      ·subst hij;rw [if_pos rfl,if_pos (Xk.1 hrow).1,hrow]
      ·rw [if_neg hij]
     rw [hsc,this,ZlF hd];exact h
   ·obtain ⟨p,hp⟩:∃ p,m-n=p+1:=⟨m-n-1,by omega⟩;have hmn:n*inf.size+(p+1)*inf.size=m*inf.size:=by rw [← Nat.add_mul];congr 1;omega
    have hm1:m*inf.size≤cap*inf.size:=XZ _ k3;have hcn:¬ cap=n:=by omega
    rw [if_neg hcn,hp] at hslice;have hclr:=fun ty=>VW (P:=c.P) (w:=w) (ty:=ty) (o:=n*inf.size) (n:=p) (c:=cap-n) hT hi hz g4 (by rw [hzs,g6];omega) h1z;have hrl:=JY (hzr w lim) (p+1);have hfl:((Xg (p+1) z.cells.toList).flatten).length=(p+1)*inf.size:=by simp [hzl,← hzs]
    have hfz:((Xg (p+1) zc).flatten).length=(p+1)*inf.size:=by rw [hrl.1,hfl]
    have hal:arr.toList.length=cap*inf.size:=by simpa using g6
    have hrw:(ZG rows (j+1)).take (n*inf.size)++(Xg (m-n) zc).flatten++(ZG rows (j+1)).drop (m*inf.size)=setCells (ZG rows (j+1)) (n*inf.size) ((Xg (p+1) zc).flatten):=by
     unfold setCells;rw [hp,hfz,hmn]
    have hset:=h.stoSet (row':=setCells (ZG rows (j+1)) (n*inf.size) ((Xg (p+1) zc).flatten)) (arr':=(arr.toList.take (n*inf.size)++(Xg (p+1) z.cells.toList).flatten++arr.toList.drop (n*inf.size+(p+1)*z.cells.size)).toArray) hd hc g1 g2 g4 g5 g0
     (by rw [hk,UB,Xu,Xu,hfl,XU,Ui,hal,hzs];omega)
     (by unfold setCells;rw [UB];simp only [Xu,hfl,hfz,XU,Ui,hal,hzs];omega)
     (fun y hy=>by
      unfold setCells at hy;rcases Xv.1 hy with hy | hy
      ·rcases Xv.1 hy with hy | hy
       ·exact g8 y (XR hy)
       ·exact hrl.2.1 y hy
      ·exact g8 y (XY hy))
     (fun i y u hy hu=>by
      unfold setCells at hy;rw [VJ _ _ _ (by rw [hfz];omega)] at hy
      have hu':(arr.toList.take (n*inf.size)++(Xg (p+1) z.cells.toList).flatten++arr.toList.drop (n*inf.size+((Xg (p+1) z.cells.toList).flatten).length))[i]? = Xa u:=by
       rw [hfl,← hzs];rw [← hzs] at hu;simpa using hu
      rw [VJ arr.toList _ _ (by rw [hfl,hal];omega)] at hu';rw [hfz] at hy;rw [hfl] at hu';split at hy
      ·rename_i hcnd;rw [if_pos hcnd] at hu';exact hrl.2.2 _ y u hy hu'
      ·rename_i hcnd;rw [if_neg hcnd] at hu';exact g9 i y u hy (by simpa using hu'))
    rw [← hrw,← hsc] at hset;exact ⟨_,_,_,hslice,hclr,hset⟩
 ·cases hok
 ·cases hok
def Zbm (tx:Odr) (P:Program) (R:AV→List AV→Prop) (A:Nat→List V→Prop) (ρ:Nat→V) (g:Nat→SV) (o:Oper) (n:Nat) (k:KS):Prop:=
 ∃ ρ' n' gr x us fp,n≤n'∧(∀ m,m < n→ρ' m=ρ m)∧x.bd n'∧(∀ u∈us,u.2.bd n')∧(k gr x us fp n').wp P R A ρ'∧
  Zj1 tx P o (fun d=>(g d).den ρ) (x.den ρ') (us.map fun u=>(u.1,u.2.den ρ')) fp∧
  (gr=Xb→∀ u∈us,∀ rows rows',(g u.1).den ρ = .store rows→u.2.den ρ' = .store rows'→rows <+: rows')
theorem ZaE {E:Env} {g:Nat→SV} {d:Nat} {l:LE} (h:Zgj E g=Xa (d,l)):g d = .store l:=by
 unfold Zgj at h;split at h
 ·split at h
  ·simp only [Xf,Xt] at h;obtain ⟨rfl,rfl⟩:=h;assumption
  ·cases h
 ·cases h
theorem Zpd {P:Program} {g:Nat→SV} {x:Operand} {p:LE} (h:ZbP P g x=Xa p):Jk P g x = .c (.cel p):=by
 unfold ZbP at h;split at h
 ·simp only [Xf] at h;subst h;assumption
 ·cases h
theorem Zag {P:Program} {E:Env} {T:TypeId} {sh:List Sh} (h:ZaR P E T=Xa sh):sh.length=P.cellsOf T∧0 < sh.length:=by
 unfold ZaR at h;split at h
 ·split at h
  ·simp only [Xf] at h;subst h;assumption
  ·cases h
 ·cases h
theorem Zbg {b:Bool} (h:okL b≠[]):b=Xb:=by cases b with | true=>rfl | false=>exact (h rfl).elim
theorem ZoZ {w:World} {lim:Lm} {c:AV} {cs:List AV} {us:List Value} (h:JI w lim (c::cs) us):∃ u us',us=u::us'∧c.isCell=Xb∧Rep w lim c u∧JI w lim cs us':=by
 cases us with
 | nil => have := h.1; cases this
 | cons u us =>
  refine ⟨u,us,rfl,h.2.1 c (by simp),h.2.2 0 c u rfl rfl,by simpa using h.1,fun x hx=>h.2.1 x (by simp [hx]),fun i x v hx hv=>h.2.2 (i+1) x v (by simpa using hx) (by simpa using hv)⟩
theorem ZsM {w:World} {lim:Lm} {c:AV} {cs:List AV} {u:Value} {us:List Value} (hc:c.isCell=Xb) (hr:Rep w lim c u) (h:JI w lim cs us):JI w lim (c::cs) (u::us):=by
 have:=(JI.one hc hr).append h;exact this
theorem ZsX (ρ:Nat→V) {s:Sh} {c c':SC} (h:ZuY s c=Xa c'):∀ (w:World) (lim:Lm) (u:Value),Rep w lim (c.den ρ) u→Rep w lim (c'.den ρ) u:=by
 intro w lim u hr;unfold ZuY at h;split at h
 ·simp only [Xf] at h;subst h;exact hr
 ·simp only [Xf] at h;subst h;have h1:Rep w lim (.slice Xb _ []) u:=hr;have h2:(SC.cel (ptE (.pnil 1) .nil)).den ρ = .osl 0 0 0:=rfl;rw [h2]
  cases h1 with
  | sliceN => exact .osl0
  | sliceE hf => rw [hf rfl]; exact .osl0
  | sliceC _ _ hf => 
   have:=hf rfl;subst this;exact .osl0
 ·split at h
  ·simp only [Xf] at h;rename_i hk;subst hk;subst h;exact ZgU hr
  ·split at h
   ·simp only [Xf] at h;subst h;exact VT (fun h=>by cases h) hr
   ·cases h
 ·simp only [Xf] at h;subst h;exact hr
 ·simp only [Xf] at h;subst h;exact hr
 ·simp only [Xf] at h;subst h;exact hr
 ·cases h
theorem ZtQ {s:Sh} {c c':SC} {n:Nat} (h:ZuY s c=Xa c') (hb:c.bd n):c'.bd n:=by
 unfold ZuY at h;split at h
 ·simp only [Xf] at h;subst h;exact hb
 ·simp only [Xf] at h;subst h;exact ⟨trivial,trivial,trivial,trivial⟩
 ·split at h
  ·simp only [Xf] at h;subst h;exact hb
  ·split at h
   ·simp only [Xf] at h;subst h;trivial
   ·cases h
 ·simp only [Xf] at h;subst h;exact hb
 ·simp only [Xf] at h;subst h;exact hb
 ·simp only [Xf] at h;subst h;exact hb
 ·cases h
theorem Zab {n:Nat} : ∀ (l:List Sh) (cs cs':List SC),ZaG l cs=Xa cs'→(∀ c∈cs,c.bd n)→∀ c∈cs',c.bd n
 | [], [], cs', h, _ => by simp only [ZaG, Xf] at h; subst h; simp
 | [], _ :: _, _, h, _ => by cases h
 | _ :: _, [], _, h, _ => by cases h
 | s :: l, c :: cs, cs', h, hb => by
  simp only [ZaG] at h;split at h
  ·rename_i v vs h1 h2;simp only [Xf] at h;subst h;intro x hx;rcases Xq.1 hx with rfl | hx
   ·exact ZtQ h1 (hb c (by simp))
   ·exact Zab l cs vs h2 (fun y hy=>hb y (by simp [hy])) x hx
  ·cases h
theorem WN:∀ (l:List Sh) (cs cs':List SC),ZaG l cs=Xa cs'→cs.length=l.length∧cs'.length=cs.length
 | [], [], cs', h => by simp only [ZaG, Xf] at h; subst h; exact ⟨rfl, rfl⟩
 | [], _ :: _, _, h => by cases h
 | _ :: _, [], _, h => by cases h
 | s :: l, c :: cs, cs', h => by
  simp only [ZaG] at h;split at h
  ·rename_i v vs h1 h2;simp only [Xf] at h;subst h;obtain ⟨k1,k2⟩:=WN l cs vs h2;exact ⟨by simp [k1],by simp [k2]⟩
  ·cases h
theorem Zel (ρ:Nat→V):∀ (l:List Sh) (cs cs':List SC),ZaG l cs=Xa cs'→∀ (w:World) (lim:Lm) (us:List Value),JI w lim (cs.map (SC.den ρ)) us→JI w lim (cs'.map (SC.den ρ)) us
 | [], [], cs', h => by simp only [ZaG, Xf] at h; subst h; exact fun _ _ _ h => h
 | [], _ :: _, _, h => by cases h
 | _ :: _, [], _, h => by cases h
 | s :: l, c :: cs, cs', h => by
  simp only [ZaG] at h;split at h
  ·rename_i v vs h1 h2;simp only [Xf] at h;subst h;intro w lim us hr;obtain ⟨u,us',rfl,_,k2,k3⟩:=ZoZ hr;exact ZsM (Yd ρ v) (ZsX ρ h1 w lim u k2) (Zel ρ l cs vs h2 w lim us' k3)
  ·cases h
theorem ZcT (ρ:Nat→V) {l:List Sh} {cs cs':List SC} (h:ZaG l cs=Xa cs'):(cs'.map (SC.den ρ)).length=(cs.map (SC.den ρ)).length∧∀ (w:World) (lim:Lm) (us:List Value),JI w lim (cs.map (SC.den ρ)) us→JI w lim (cs'.map (SC.den ρ)) us:=
 ⟨by rw [Xr,Xr,(WN l cs cs' h).2],Zel ρ l cs cs' h⟩
theorem Zga {P:Program} {g:Nat→SV} {top:Nat} {txt:Odr} {x:Bool} {t:Nat} {e:TypeId} {l:LE} {us:Ups} (h:YX P txt g top t x e l=Xa us):∀ u∈us,∀ (ρ:Nat→V) rows,u.2.den ρ = .store rows→False:=by
 intro u hu ρ rows hs;unfold YX at h;split at h
 ·simp only [Xf] at h;subst h;rw [XE] at hu;subst hu
  cases hs
 ·split at h
  case isFalse=>cases h
  split at h
  ·simp only [Xf] at h;subst h;rcases Xq.1 hu with rfl | hu
   ·cases hs
   ·rw [((JS _ u).1 hu).1] at hs;cases hs
  ·split at h
   ·simp only [Xf] at h;subst h;simp only [XE] at hu;subst hu
    cases hs
   ·cases h
theorem ZoN {n:Nat} {l:List (List AV)} {c:AV} {r:List AV} (h:(Zol n l c)[0]? = Xa r):∃ j off,c = .oref (j+1) off∧ZU (ZG l (j+1))=Xb∧off+n≤(ZG l (j+1)).length∧r=((ZG l (j+1)).drop off).take n:=by
 unfold Zol at h;split at h
 ·rename_i j off;split at h
  ·rename_i hb;simp only [Xs,decide_eq_true_eq] at hb;simp only [XB,Xf] at h;exact ⟨j,off,rfl,hb.1,hb.2,h.symm⟩
  ·simp at h
 ·simp at h
theorem Zn2 {n:Nat} {l:List (List AV)} {c:AV} (h:Zol n l c≠[]):∃ j off,c = .oref (j+1) off∧ZU (ZG l (j+1))=Xb∧off+n≤(ZG l (j+1)).length:=by
 cases hl:Zol n l c with
 | nil => exact (h hl).elim
 | cons r rs =>
  obtain ⟨j,off,h1,h2,h3,_⟩:=ZoN (n:=n) (l:=l) (c:=c) (r:=r) (by rw [hl];rfl);exact ⟨j,off,h1,h2,h3⟩
section
variable {tx:Odr} {P:Program} {E:Env} {R:AV→List AV→Prop} {A:Nat→List V→Prop} {ρ:Nat→V} {g:Nat→SV} {o:Oper} {n:Nat} {k:KS}
theorem Zbx {x:SV} {us:Ups} {fp:List Nat} {gr:Bool} (hk:(k gr x us fp n).wp P R A ρ) (hx:x.bd n) (hus:∀ u∈us,u.2.bd n)
  (hex:Js P o (fun d=>(g d).den ρ) (x.den ρ) (us.map fun u=>(u.1,u.2.den ρ)) fp) (hgr:gr=Xb→∀ u∈us,∀ rows rows',(g u.1).den ρ = .store rows→u.2.den ρ = .store rows'→rows <+: rows'):Zbm tx P R A ρ g o n k:=
 ⟨ρ,n,gr,x,us,fp,Xy _,fun _ _=>rfl,hx,hus,hk,hex.t.s,hgr⟩
theorem V8 {x:SV} {fp:List Nat} {gr:Bool} (hk:(k gr x [] fp n).wp P R A ρ) (hx:x.bd n) (hex:Js P o (fun d=>(g d).den ρ) (x.den ρ) [] fp):Zbm tx P R A ρ g o n k:=
 Zbx hk hx (by simp) hex (fun _ u hu=>by cases hu)
theorem ZvL {K:K} (h:YV tx P R A ρ g o n K) {gr:Bool} (hK:∀ x us fp n',K x us fp n'=k gr x us fp n') (hgr:gr=Xe):Zbm tx P R A ρ g o n k:=by
 obtain ⟨ρ',n',x,us,fp,h1,h2,h3,h4,h5,h6⟩:=h;exact ⟨ρ',n',gr,x,us,fp,h1,h2,h3,h4,by rw [← hK];exact h5,h6,fun h=>by rw [hgr] at h;cases h⟩
theorem JP {x:Operand} {p:LE} (h:ZbP P g x=Xa p):Zo P (fun d=>(g d).den ρ) x=Zd (p.den ρ):=Zg ρ (Zpd h)
theorem Kq (hg:∀ d,(g d).bd n) {x:Operand} {p:LE} (h:ZbP P g x=Xa p):p.bd n:=by
 have:=ZA (P:=P) hg x;rw [Zpd h] at this;exact this
theorem Yt {d:Nat} {l:LE} (h:Zgj E g=Xa (d,l)):(fun d=>(g d).den ρ) d = .store (l.den ρ):=by show (g d).den ρ=_;rw [ZaE h];rfl
theorem WW (hg:∀ d,(g d).bd n) {d:Nat} {l:LE} (h:Zgj E g=Xa (d,l)):l.bd n:=by
 have:=hg d;rw [ZaE h] at this;exact this
theorem ZqH {T:TypeId} {a:Operand} {p:LE} (hg:∀ d,(g d).bd n) (ho:o.op = .load T a) (hp:ZbP P g a=Xa p) (h:(ZsK P E g T p n k).wp P R A ρ):Zbm tx P R A ρ g o n k:=by
 unfold ZsK at h;split at h
 ·rename_i d l sh agg hl hsh hT;split at h
  ·rename_i h1;obtain ⟨vs,-,h2,h3⟩:=h;obtain ⟨s1,s2⟩:=Zag hsh;have h2':(Zol sh.length (l.den ρ) (Zd (p.den ρ)))[0]? = Xa ((ZH sh n).map (SC.den (bind ρ n vs))):=h2;obtain ⟨j,off,e1,e2,e3,e4⟩:=ZoN h2';have hbd:=JQ sh n;have hlen:=Zcs sh n;refine ⟨bind ρ n vs,n+sh.length,Xb,_,[],[vS d],XX _ _,Zeq ρ n vs,?_,by simp,h3,?_,fun _ u hu=>by cases hu⟩
   ·cases agg with
    | true => exact hbd
    | false =>
     show SV.bd _ (match ZH sh n with | [x]=>.c x | _=>.dead);split
     ·rename_i x hx;exact hbd x (by rw [hx];simp)
     ·trivial
   ·have:=Zmg (T':=tx) (σ:=fun d=>(g d).den ρ) ho hT ((JP (ρ:=ρ) hp).trans e1) (Yt (ρ:=ρ) hl) e2 (by rw [← s1];exact e3) (fun ha=>by
     rcases h1 with h1 | h1
     ·rw [h1] at ha;cases ha
     ·rw [← s1,h1])
    cases agg with
    | true =>
     have he:(SV.agg (ZH sh n)).den (bind ρ n vs) = .agg (((ZG (l.den ρ) (j+1)).drop off).take (P.cellsOf T)):=by
      simp only [SV.den];rw [e4,s1]
     show Zj1 tx P o _ ((SV.agg (ZH sh n)).den (bind ρ n vs)) _ _;rw [he];exact this
    | false =>
     have h1:sh.length=1:=by
      rcases h1 with h1 | h1
      ·cases h1
      ·exact h1
     obtain ⟨x,hx⟩:∃ x,ZH sh n = [x]:=List.length_eq_one_iff.1 (by rw [hlen,h1])
     have he:(match ZH sh n with | [x]=>SV.c x | _=>.dead).den (bind ρ n vs)=((ZG (l.den ρ) (j+1))[off]?).getD .dead:=by
      rw [hx] at e4 ⊢;have h0:([x].map (SC.den (bind ρ n vs)))[0]? = (((ZG (l.den ρ) (j+1)).drop off).take sh.length)[0]?:=by rw [e4]
      rw [h1,XC,if_pos (by omega),XP] at h0;rw [show (ZG (l.den ρ) (j+1))[off]? = _ from h0.symm];rfl
     show Zj1 tx P o _ ((match ZH sh n with | [x]=>SV.c x | _=>.dead).den (bind ρ n vs)) _ _;rw [he];exact this
  ·exact h.elim
 ·exact h.elim
theorem Znw {T:TypeId} {a x:Operand} {p:LE} (hg:∀ d,(g d).bd n) (htop:∀ i,E.top≤i→g i = .dead) (ho:o.op = .store T a x) (hp:ZbP P g a=Xa p) (h:(ZpD P E tx g T p x n k).wp P R A ρ):Zbm tx P R A ρ g o n k:=by
 have bp:=Kq hg hp;unfold ZpD at h;split at h
 ·rename_i d l sh hl hsh;have bl:=WW hg hl;obtain ⟨s1,s2⟩:=Zag hsh;split at h
  ·rename_i t e xs how
   obtain ⟨rfl,hgt,rfl⟩:x = .tmp t∧g t = .own Xb e xs∧sh = [.cel]:=by
    unfold ZuE at how;split at how
    ·rename_i t' e' xs' h1 h2;simp only [Xf,Xt] at how;obtain ⟨rfl,rfl,rfl⟩:=how;have hx:x = .tmp t':=by cases x<;>simp [ZY] at h1;rw [h1]
     subst hx;simp only [ZY,Xw,Xf] at h2;exact ⟨rfl,h2,rfl⟩
    ·cases how
   split at h
   ·rename_i us hus;split at h
    ·rename_i hh;obtain ⟨hnm,hdt⟩:=hh;obtain ⟨r1,r2,h3⟩:=h;have r2':Zol 1 (l.den ρ) (Zd (p.den ρ))≠[]:=r2;obtain ⟨j,off,e1,e2,e3⟩:=Zn2 r2';obtain ⟨us',rfl,q1,q2,q3⟩:=Yb ρ htop hgt hus;have bx:=hg t;rw [hgt] at bx;refine ⟨ρ,n,Xe,.dead,_,[d],Xy _,fun _ _=>rfl,trivial,fun u hu=>?_,h3,?_,fun h=>by cases h⟩
     ·rcases Xv.1 hu with hu | hu
      ·exact Yi hus bx u hu
      ·rw [XE] at hu;subst hu;exact ⟨⟨bl,trivial,bx,trivial⟩,trivial,bp,⟨bl,bx,trivial,trivial⟩,trivial⟩
     ·have q2':Yr tx (fun d=>(g d).den ρ) t (us.tail.map fun u=>(u.1,u.2.den ρ)):=by
       rcases q2 with ⟨h0,_⟩ | h0
       ·cases h0
       ·exact h0
      have:=Zdp (T':=tx) (σ:=fun d=>(g d).den ρ) (t:=t) (xs:=xs.den ρ) ho ((JP (ρ:=ρ) hp).trans e1) (Yt (ρ:=ρ) hl) e2 (by show (g t).den ρ=_;rw [hgt];rfl) q2' hdt hnm r1 (by rw [← s1];rfl) e3;rw [XL,q1]
      have hsd:(SV.store (stE .set (stE .push l (.lit 0) xs .nil) (.lit 0) p (.cons (.cel (stE (.parr e) l (.len xs) .nil .nil)) .nil))).den ρ = .store (Jf (l.den ρ++[(xs.den ρ).flatten]) j off [.osl e ((l.den ρ).length+1) (xs.den ρ).length]):=by
       show AV.store (Zv8 (l.den ρ++[(xs.den ρ).flatten]) (Zd (p.den ρ)) [.osl e ((l.den ρ).length+1) (((xs.den ρ).length:Int)).toNat])=_;rw [e1,Wv];rfl
      simp only [Xh,XF];rw [hsd];exact this.s
    ·exact h.elim
   ·exact h.elim
  ·split at h
   ·rename_i vc hvc;split at h
    ·rename_i vc' hvc';obtain ⟨r1,h3⟩:=h;have r1':Zol sh.length (l.den ρ) (Zd (p.den ρ))≠[]:=r1;obtain ⟨j,off,e1,e2,e3⟩:=Zn2 r1';refine Zbx h3 trivial (us1 ⟨bl,trivial,bp,KG _ (Zab _ _ _ hvc' (WZ hvc (ZA hg x)))⟩) ?_ (fun h=>by cases h);have:=Zdi (σ:=fun d=>(g d).den ρ) ho ((JP (ρ:=ρ) hp).trans e1) (Yt (ρ:=ρ) hl) e2 (Yc P g ρ x).symm (Vn ρ hvc) (by rw [Xr,(WN _ _ _ hvc').1,s1]) (by rw [← s1];omega) (by rw [← s1];exact e3) (ZcT ρ hvc')
     have hsd:(SV.store (stE .set l (.lit 0) p (Zb5 vc'))).den ρ = .store (Jf (l.den ρ) j off (vc'.map (SC.den ρ))):=by
      show AV.store (Zv8 (l.den ρ) (Zd (p.den ρ)) ((Zb5 vc').den ρ))=_;rw [e1,YI];rfl
     simp only [Xh,XF];rw [hsd];exact this
    ·exact h.elim
   ·exact h.elim
 ·exact h.elim
theorem Zti {d:Nat} {l:LE} {c:CE} (hl:g d = .store l):∀ u∈[(d,SV.store (.snoc l c))],∀ rows rows',(g u.1).den ρ = .store rows→u.2.den ρ = .store rows'→rows <+: rows':=by
 intro u hu rows rows' h1 h2;rw [XE] at hu;subst hu;rw [show (g (d,SV.store (.snoc l c)).1) = .store l from hl] at h1;have h1':AV.store (l.den ρ) = .store rows:=h1;have h2':AV.store (l.den ρ++[c.den ρ]) = .store rows':=h2
 cases h1'
 cases h2'
 exact List.prefix_append _ _
theorem Zmz {T:TypeId} {x:Operand} (hg:∀ d,(g d).bd n) (ho:o.op = .box T x) (h:(Zug P E g T (Jk P g x).cells n k).wp P R A ρ):Zbm tx P R A ρ g o n k:=by
 unfold Zug at h;split at h
 ·rename_i d l sh vc hl hsh hvc;split at h
  ·rename_i vc' hvc';obtain ⟨s1,s2⟩:=Zag hsh;have bl:=WW hg hl;refine Zbx h ⟨bl,trivial,trivial,trivial⟩ (us1 ⟨bl,KG _ (Zab _ _ _ hvc' (WZ hvc (ZA hg x)))⟩) ?_ (fun _=>Zti (ZaE hl));have:=Zhr (σ:=fun d=>(g d).den ρ) ho (Yc P g ρ x).symm (Vn ρ hvc) (Yt (ρ:=ρ) hl) (by rw [Xr,(WN _ _ _ hvc').1,s1]) (ZcT ρ hvc');simp only [Xh,XF];show Js P o _ (.oref ((l.den ρ).length+1) 0) [(d,.store (l.den ρ++[(Zb5 vc').den ρ]))] [d];rw [YI];exact this
  ·exact h.elim
 ·exact h.elim
theorem Ziu {T:TypeId} (hg:∀ d,(g d).bd n) (ho:o.op = .alloc T) (h:(Zug P E g T (ZtW P T) n k).wp P R A ρ):Zbm tx P R A ρ g o n k:=by
 unfold Zug at h;split at h
 ·rename_i d l sh vc hl hsh hvc;split at h
  ·rename_i vc' hvc';obtain ⟨s1,s2⟩:=Zag hsh;have bl:=WW hg hl;unfold ZtW at hvc
   cases hi:P.info? T with
   | none => rw [hi] at hvc; cases hvc
   | some i =>
    cases hz:i.zero with
    | none => rw [hi] at hvc; simp only [Xi, hz, Option.bind_none] at hvc; cases hvc
    | some z =>
     rw [hi] at hvc;simp only [Xi,hz] at hvc;have hzd:=YF ρ z.cells.toList;rw [hvc] at hzd;refine Zbx h ⟨bl,trivial,trivial,trivial⟩ (us1 ⟨bl,KG _ (Zab _ _ _ hvc' (KO hvc))⟩) ?_ (fun _=>Zti (ZaE hl));have:=ZeK (σ:=fun d=>(g d).den ρ) ho hi hz hzd.symm (Yt (ρ:=ρ) hl) (by rw [Xr,(WN _ _ _ hvc').1,s1]) (ZcT ρ hvc');simp only [Xh,XF];show Js P o _ (.oref ((l.den ρ).length+1) 0) [(d,.store (l.den ρ++[(Zb5 vc').den ρ]))] [d];rw [YI];exact this
  ·exact h.elim
 ·exact h.elim
theorem ZtM {T:TypeId} {len:Nat} {parts:Array (Nat×Operand)} (hg:∀ d,(g d).bd n) (ho:o.op = .buildSlice T len parts) (h:(ZwF P E g T len parts.toList n k).wp P R A ρ):Zbm tx P R A ρ g o n k:=by
 unfold ZwF at h;split at h
 ·rename_i e hT;split at h
  ·rename_i i hi;split at h
   ·rename_i z d l sh hz hl hsh;split at h
    ·rename_i zc hzc;split at h
     ·rename_i hh;obtain ⟨h1,h2,h3,h4⟩:=hh;split at h
      ·rename_i cs hf;split at h
       ·rename_i cs' hcs';have bl:=WW hg hl;have hzd:=YF ρ z.cells.toList;rw [hzc] at hzd;have hfd:=Za5 ρ (fun j=>Xa (j*i.size,i.size)) (parts.toList.map fun p=>(p.1,Jk P g p.2)) _ _ hf
        have hbcs:∀ c∈cs,c.bd n:=Zc7 _ _ _ _ (fun c hc=>by
         obtain ⟨y,hy,hc⟩:=UK.1 hc;rw [(Wb.1 hy).2] at hc
         exact KO hzc c hc) (fun p hp=>by
         obtain ⟨q,_,rfl⟩:=Xj.1 hp;exact ZA hg q.2) hf
        refine Zbx h ⟨bl,trivial,trivial,trivial⟩ (us1 ⟨bl,KG _ (Zab _ _ _ hcs' hbcs)⟩) ?_ (fun _=>Zti (ZaE hl))
        have:=Zij (σ:=fun d=>(g d).den ρ) (zc:=zc.map (SC.den ρ)) (cs:=cs.map (SC.den ρ)) ho hT hi hz hzd.symm h1 h2 h3 h4 (Yt (ρ:=ρ) hl) (by
         rw [← hfd,Wf,List.map_flatten,List.map_replicate];congr 1;refine Wr fun p _=>?_;show _=(p.1,(Jk P g p.2).den ρ);rw [Yc]) (ZcT ρ hcs')
        simp only [Xh,XF];show Js P o _ (.osl e ((l.den ρ).length+1) ((len:Int)).toNat) [(d,.store (l.den ρ++[(Zb5 cs').den ρ]))] [d];rw [YI,Wv];exact this
       ·exact h.elim
      ·exact h.elim
     ·exact h.elim
    ·exact h.elim
   ·exact h.elim
  ·exact h.elim
 ·exact h.elim
theorem Zf5 {e:TypeId} {s:Nat} {l:List (List AV)} {c:AV} (h:Zex e s l c=Xb):∃ e' j m,c = .osl e' j m:=by
 unfold Zex at h;split at h
 ·exact ⟨_,_,_,rfl⟩
 ·exact ⟨_,_,_,rfl⟩
 ·cases h
theorem Zaf {p:LE} {e':TypeId} {j m:Nat} (h:Zd (p.den ρ) = .osl e' j m):((ptE .plen p).den ρ).length=m:=by
 show (match Zd (p.den ρ) with | .osl _ _ n=>Xg n [] | _=>[]).length=m;rw [h];simp
theorem Zt5 {c:Call} {T:TypeId} {x y:Operand} {p:LE} (hg:∀ d,(g d).bd n) (ho:o.op = .call c) (hc:c.callee = .builtin .append) (hargs:c.args.toList = [x,y]) (hts:c.argTypes.toList = [T,T]) (hp:ZbP P g x=Xa p)
  (h:(Zwu P E g T p y n k).wp P R A ρ):Zbm tx P R A ρ g o n k:=by
 have bp:=Kq hg hp;unfold Zwu at h;split at h
 ·rename_i e d l f s ys hT hl hy;split at h
  ·rename_i i hi;split at h
   ·rename_i z hz;split at h
    ·rename_i hh;obtain ⟨h1,h2,rfl,hnm⟩:=hh;obtain ⟨r1,r2,r3,h⟩:=h;have bl:=WW hg hl;have by':=ZA (P:=P) hg y
     rw [hy] at by'
     have r2':okL (Zex e i.size (l.den ρ) (Zd (p.den ρ)))≠[]:=r2;have hok:=Zbg r2';obtain ⟨e',j,m,hce⟩:=Zf5 hok;have r3':(((ptE .plen p).den ρ).length+(ys.den ρ).length)*(i.bytes+1)≤ZF:=r3;rw [Zaf hce] at r3';rw [hce] at hok;have:=Zdx (σ:=fun d=>(g d).den ρ) ho hc hargs hts hT hi hz h1 hnm ((JP (ρ:=ρ) hp).trans hce) (Zg ρ hy) r1 (Yt (ρ:=ρ) hl) hok r3';refine Zbx h ⟨bl,trivial,bp,by',trivial⟩ (us1 ⟨bl,trivial,bp,by',trivial⟩) ?_ (fun h=>by cases h);simp only [Xh,XF];show Js P o _ (.osl e ((l.den ρ).length+1) (pO (Zd (p.den ρ))+(ys.den ρ).length)) [(d,.store (Zhp i.size (l.den ρ) (Zd (p.den ρ)) (ys.den ρ)))] [d];rw [hce];exact this
    ·exact h.elim
   ·exact h.elim
  ·exact h.elim
 ·exact h.elim
theorem Zpw {c:Call} {T:TypeId} {x y:Operand} {p:LE} {ex:Bool} (hg:∀ d,(g d).bd n) (htop:∀ i,E.top≤i→g i = .dead) (ho:o.op = .call c) (hc:c.callee = .builtin .append) (hargs:c.args.toList = [x,y]) (hts:c.argTypes.toList = [T,T]) (hp:ZbP P g y=Xa p)
  (h:(Znz P E tx g ex T x p n k).wp P R A ρ):Zbm tx P R A ρ g o n k:=by
 have bp:=Kq hg hp;unfold Znz at h;split at h
 case h_2=>exact h.elim
 rename_i e d l hT hl;obtain ⟨r2,h⟩:=h;have bl:=WW hg hl;have r2':okL (Zex e (P.cellsOf e) (l.den ρ) (Zd (p.den ρ)))≠[]:=r2;have hok:=Zbg r2';obtain ⟨e',j,m,hce⟩:=Zf5 hok;have hyo:=(JP (ρ:=ρ) hp).trans hce;rw [hce] at hok
 have hxv:(match ZY x with | some t=>g t | none=>Jk P g x).bd n:=by
  split
  ·exact hg _
  ·exact ZA hg x
 have hsrc:∀ t,ZY x=Xa t→x = .tmp t:=fun t ht=>by cases x<;>simp [ZY] at ht;rw [ht]
 have hvd:(stE (.view (P.cellsOf e)) l (.lit 0) p .nil).den ρ=Zbs (P.cellsOf e) (l.den ρ) (.osl e' j m):=by
  show Zbs (P.cellsOf e) (l.den ρ) (Zd (p.den ρ))=_;rw [hce]
 have bv:(stE (.view (P.cellsOf e)) l (.lit 0) p .nil).bd n:=⟨bl,trivial,bp,trivial⟩;unfold Zad at h;rw [hT] at h;dsimp only at h;split at h
 ·rename_i i hi;have hk:P.cellsOf e=i.size:=ZO hi;split at h
  ·rename_i z hz;split at h
   ·rename_i hh;split at h
    ·rename_i b e2 xs f s ys hxs hys;simp only [SV.c.injEq,SC.slice.injEq] at hys;obtain ⟨rfl,rfl,rfl⟩:=hys;split at h
     ·rename_i t hst;have hx0:=hsrc t hst;subst hx0;simp only [ZY] at hxs;split at h
      ·rename_i us hus;split at h
       ·rename_i he;obtain ⟨rfl,_⟩:=he;obtain ⟨us',rfl,q1,q2,q3⟩:=Yb ρ htop (t:=t) hxs hus;have bx:=hg t;rw [hxs] at bx;refine ⟨ρ,n,Xb,.own b e2 (.app xs (stE (.view (P.cellsOf e2)) l (.lit 0) p .nil)),_,[d],Xy _,fun _ _=>rfl,⟨bx,bv⟩,Yi hus bx,h.2,?_,fun _ u hu rows rows' g1 g2=>?_⟩
        ·rw [q1];have hroom:((xs.den ρ).length+((stE (.view (P.cellsOf e2)) l (.lit 0) p .nil).den ρ).length)*(i.bytes+1)≤ZF:=h.1;rw [hvd,hk] at hroom;have:=ZaN (T':=tx) (σ:=fun d=>(g d).den ρ) ho hc hargs hts hT hi hz hh.1 (by show (g t).den ρ=_;rw [hxs];rfl) hyo (Yt (ρ:=ρ) hl) (by rw [← hk];exact hok) hroom q2 hh.2.2;show Zj1 tx P o _ (.own b e2 (xs.den ρ++(stE (.view (P.cellsOf e2)) l (.lit 0) p .nil).den ρ)) _ [d];rw [hvd,hk];exact this.s
        ·have hu':(u.1,u.2.den ρ)∈us.map fun u=>(u.1,u.2.den ρ):=Xj.2 ⟨u,hu,rfl⟩;exfalso;exact Zga hus u hu ρ rows' g2
       ·exact h.elim
      ·exact h.elim
     ·exact h.elim
    ·rename_i s0 f s ys hxs hys;simp only [SV.c.injEq,SC.slice.injEq] at hys;obtain ⟨rfl,rfl,rfl⟩:=hys
     ·rw [if_pos hk] at h;refine V8 h.2 bv ?_
      have hx:Zo P (fun d=>(g d).den ρ) x = .slice Xb s0 []:=by
       split at hxs
       ·rename_i t ht;rw [hsrc t ht];simp only [Zo,hxs];rfl
       ·exact Zg ρ hxs
      have hroom:((([] : List (List AV))).length+((stE (.view (P.cellsOf e)) l (.lit 0) p .nil).den ρ).length)*(i.bytes+1)≤ZF:=h.1;rw [hvd,hk] at hroom;have:=Zao (σ:=fun d=>(g d).den ρ) ex ho hc hargs hts hT hi hz hh.1 hx hyo (Yt (ρ:=ρ) hl) (by rw [← hk];exact hok) hroom hh.2.2;show Js P o _ (.own ex e ((stE (.view (P.cellsOf e)) l (.lit 0) p .nil).den ρ)) _ [d];rw [hvd,hk];exact this
    ·exact h.elim
   ·exact h.elim
  ·exact h.elim
 ·exact h.elim
theorem Zik {aZ bs:List AK} (h:Zon aZ) (hb:∀ b∈bs,∀ f ds gs,b≠.clo f ds gs):Zon (aZ++bs):=by
 intro i f ds gs hi;rcases XG i aZ.length with hlt | hge
 ·rw [Xx hlt] at hi;obtain ⟨h1,h2⟩:=h i f ds gs hi;refine ⟨h1,fun k d j hk hj=>?_⟩;obtain ⟨fr,cs,h3⟩:=h2 k d j hk hj;exact ⟨fr,cs,by rw [Xx (Xk.1 h3).1];exact h3⟩
 ·rw [Xz hge] at hi;exact (hb _ (Xm hi) f ds gs rfl).elim
theorem ZiG {aZ bs:List AK} (h:Zm3 aZ) (hb:∀ b∈bs,∀ t d q j,b≠.ref t d q j):Zm3 (aZ++bs):=by
 intro i t d q j hi;rcases XG i aZ.length with hlt | hge
 ·rw [Xx hlt] at hi;obtain ⟨fr,cs,h3⟩:=h i t d q j hi;exact ⟨fr,cs,by rw [Xx (Xk.1 h3).1];exact h3⟩
 ·rw [Xz hge] at hi;exact (hb _ (Xm hi) t d q j rfl).elim
theorem Zkc {c:Call} {f:FuncId} {cps:List KU} {as0:Option (List SAK)} (htop:∀ i,E.top≤i→g i = .dead) (ho:o.op = .call c)
  (hc:(c.callee = .value (.func f)∧cps = [])∨∃ t,c.callee = .value (.tmp t)∧((∃ ds,(g t).den ρ = .clo f ds∧cps=ds.map KU.cap)∨∃ js,(g t).den ρ = .fnc f js∧js≠[]∧cps=js.map KU.obj))
  (ha:∀ aZ,as0=Xa aZ→Kh P g ρ (c.args.toList.map KU.op++cps) aZ∧Raw aZ) (h:(ZqE P E tx g f c.args.toList as0 n k).wp P R A ρ):Zbm tx P R A ρ g o n k:=by
 unfold ZqE at h;split at h
 case h_2=>exact h.elim
 rename_i d l hl;split at h
 case isFalse=>exact h.elim
 rename_i hbor;rw [List.isEmpty_iff] at hbor
 cases as0 with
 | none => exact h.elim
 | some aZ =>
  obtain ⟨ha1,ha2⟩:=ha aZ rfl
  cases hs:VP g (E.pad P f) aZ with
  | none => simp only [Zjc, hs] at h; exact h.elim
  | some saks =>
   obtain ⟨tail,a1,a2,a3,a4,a5,a6⟩:=ZeX ρ ha1 ha2 hs;simp only [Zjc,hs,Xw] at h;refine ZvL (gr:=Xe) (K:=fun x us fp n'=>k Xe x us fp n') ?_ (fun _ _ _ _=>rfl) rfl
   have hpad:Kh P g ρ (Xg (E.pad P f-saks.length) KU.pad) (Xg (E.pad P f-saks.length) SAK.pad):=by
    refine ⟨by simp,fun i x a hx ha=>?_⟩;have h1:=Xm hx;have h2:=Xm ha;rw [(Wb.1 h1).2,(Wb.1 h2).2];trivial
   have hsto:Kh P g ρ [KU.ghost] [SAK.sto d l]:=by
    refine ⟨rfl,fun i x a hx ha=>?_⟩
    cases i with
    | zero =>
     simp only [XB,Xf] at hx ha;subst hx;subst ha;exact Yt (ρ:=ρ) hl
    | succ i => simp at hx
   refine ZkM (f:=f) (cps:=cps) (rf:=[]) (tail:=tail++Xg (E.pad P f-saks.length) KU.pad++[KU.ghost]) (saks:=saks++Xg (E.pad P f-saks.length) .pad++[.sto d l]) htop ho hc ?_ ?_ ?_ ?_ ?_ (fun i x _ h=>by simp at h) (by rw [hbor];exact h)
   ·have e1:c.args.toList.map KU.op++cps++(tail++Xg (E.pad P f-saks.length) KU.pad++[KU.ghost])=(c.args.toList.map KU.op++cps++tail++Xg (E.pad P f-saks.length) KU.pad)++[KU.ghost]:=by simp only [Xo]
    rw [e1];exact (a1.append hpad).append hsto
   ·intro x hx;rcases Xv.1 hx with hx | hx
    ·rcases Xv.1 hx with hx | hx
     ·exact a2 x hx
     ·exact .inl (Wb.1 hx).2
    ·rw [XE] at hx;exact .inr hx
   ·have hz:((((Xg (E.pad P f-saks.length) SAK.pad).map (SAK.den ρ)).map AK.av).countP AV.isG)=0:=KE ρ _ fun a ha=>by
     rw [(Wb.1 ha).2];rfl
    have h1:((([SAK.sto d l].map (SAK.den ρ)).map AK.av).countP AV.isG)=1:=rfl;rw [XL,XL,XL,XL,U9,U9,hz,h1,Xu,Xu];simp only [Xu,List.length_replicate,To,Xr] at a3 ⊢;omega
   ·rw [XL,XL];refine Zik (Zik a4 fun b hb f ds gs=>?_) fun b hb f ds gs=>?_
    ·obtain ⟨a,ha,rfl⟩:=Xj.1 hb;rw [(Wb.1 ha).2];intro h;cases h
    ·obtain ⟨a,ha,rfl⟩:=Xj.1 hb;rw [XE] at ha;subst ha;intro h;cases h
   ·rw [XL,XL];refine ZiG (ZiG a5 fun b hb f ds gs j=>?_) fun b hb f ds gs j=>?_
    ·obtain ⟨a,ha,rfl⟩:=Xj.1 hb;rw [(Wb.1 ha).2];intro h;cases h
    ·obtain ⟨a,ha,rfl⟩:=Xj.1 hb;rw [XE] at ha;subst ha;intro h;cases h
theorem Zps {p:LE} (h:(ptE .pnn p).den ρ≠[]):∃ j off,Zd (p.den ρ) = .oref (j+1) off:=by
 have h':okL (match Zd (p.den ρ) with | .oref (_+1) _=>Xb | _=>Xe)≠[]:=h;have:=Zbg h';split at this
 ·rename_i j off hc;exact ⟨j,off,hc⟩
 ·cases this
theorem ZoK {p:LE} {j off:Nat} (h:Zd (p.den ρ) = .oref j off):(((ptE .pnn p).den ρ).length:Int)=if j=0 then 0 else 1:=by
 show ((okL (match Zd (p.den ρ) with | .oref (_+1) _=>Xb | _=>Xe)).length:Int)=_;rw [h]
 cases j with
 | zero => rfl
 | succ j => rfl
theorem Znk {p:LE} (h:(ptE .pisr p).den ρ≠[]):∃ j off,Zd (p.den ρ) = .oref j off∧(j=0→off=0):=by
 have h':okL (match Zd (p.den ρ) with | .oref 0 0=>Xb | .oref (_+1) _=>Xb | _=>Xe)≠[]:=h;have:=Zbg h';split at this
 ·rename_i hc;exact ⟨0,0,hc,fun _=>rfl⟩
 ·rename_i j off hc;exact ⟨j+1,off,hc,fun h=>by omega⟩
 ·cases this
theorem ZpQ {p:LE} (h:(ptE .pis0 p).den ρ≠[]):∃ j,Zd (p.den ρ) = .oref j 0:=by
 have h':okL (match Zd (p.den ρ) with | .oref _ 0=>Xb | _=>Xe)≠[]:=h;have:=Zbg h';split at this
 ·rename_i j hc;exact ⟨j,hc⟩
 ·cases this
theorem Zgw {p:LE} (h:(ptE .pisl p).den ρ≠[]):∃ e j m,Zd (p.den ρ) = .osl e j m:=by
 have h':okL (match Zd (p.den ρ) with | .osl _ _ _=>Xb | _=>Xe)≠[]:=h;have:=Zbg h';split at this
 ·rename_i e j m hc;exact ⟨e,j,m,hc⟩
 ·cases this
theorem ZsY {p:LE} {f:FuncId} {m:Nat} (h:(ptE (.pisf f m) p).den ρ≠[]):∃ js,Zd (p.den ρ) = .fnc f js∧js.length=m:=by
 have h':okL (match Zd (p.den ρ) with | .fnc g' js=>decide (g'=f∧js.length=m) | _=>Xe)≠[]:=h;have:=Zbg h';split at this
 ·rename_i g' js hc;have:=of_decide_eq_true this;obtain ⟨rfl,h2⟩:=this;exact ⟨js,hc,h2⟩
 ·cases this
theorem ZgH {l p:LE} (h:(stE .mchk l (.lit 0) p .nil).den ρ≠[]):∃ j,Zd (p.den ρ) = .omap (j+1)∧JR (ZG (l.den ρ) (j+1))=Xb:=by
 have h':okL (Zvh (l.den ρ) (Zd (p.den ρ)))≠[]:=h;have:=Zbg h';unfold Zvh at this;split at this
 ·rename_i j hc;exact ⟨j,hc,this⟩
 ·cases this
theorem ZkS:∀ (xs:List Operand) (cs:List SC),Zn7 P g xs=Xa cs→cs.length=xs.length∧∀ (i:Nat) (x:Operand) (c:SC),xs[i]? = Xa x→cs[i]? = Xa c→∃ p,c = .cel p∧ZbP P g x=Xa p
 | [], cs, h => by simp only [Zn7, Xf] at h; subst h; exact ⟨rfl, by simp⟩
 | x :: xs, cs, h => by
  simp only [Zn7] at h;split at h
  ·rename_i p ps h1 h2;simp only [Xf] at h;subst h;obtain ⟨k1,k2⟩:=ZkS xs ps h2;refine ⟨by simp [k1],fun i y c hy hc=>?_⟩
   cases i with
   | zero =>
    simp only [XB,Xf] at hy hc;subst hy;subst hc;exact ⟨p,rfl,h1⟩
   | succ i => exact k2 i y c (by simpa using hy) (by simpa using hc)
  ·cases h
theorem Zcl {q:Zt9} {t:STree} : ∀ (cs:List SC),(Zgi q cs t).wp P R A ρ→t.wp P R A ρ∧∀ c∈cs,∃ p,c = .cel p∧(ptE q p).den ρ≠[]
 | [], h => ⟨h, by simp⟩
 | .cel p :: cs, h => by
  obtain ⟨h1,h2⟩:=h;obtain ⟨k1,k2⟩:=Zcl cs h2;refine ⟨k1,fun c hc=>?_⟩;rcases Xq.1 hc with rfl | hc
  ·exact ⟨p,rfl,h1⟩
  ·exact k2 c hc
 | .int _ _ :: _, h => h.elim
 | .bool _ :: _, h => h.elim
 | .str _ :: _, h => h.elim
 | .slice _ _ _ :: _, h => h.elim
theorem Zfk {p:LE} {f:FuncId} {js:List Nat} (hp:Zd (p.den ρ) = .fnc f js):∀ (m i:Nat),i+m=js.length→Kh P g ρ ((js.drop i).map KU.obj) (ZaY p i m)
 | 0, i, h => by
  rw [List.drop_of_length_le (by omega)];exact ⟨rfl,by simp⟩
 | m + 1, i, h => by
  have hlt:i < js.length:=by omega
  rw [List.drop_eq_getElem_cons hlt];obtain ⟨k1,k2⟩:=Zfk hp m (i+1) (by omega)
  refine ⟨by
   simp only [Xh,ZaY,XA];exact congrArg (· + 1) k1,fun q x a hx ha=>?_⟩
  cases q with
  | zero =>
   simp only [Xh,ZaY,XB,Xf] at hx ha;subst hx;subst ha;show Zd [[AV.oref (Zwv (Zd (p.den ρ)) i) 0]] = .oref js[i] 0;rw [hp];simp only [Zwv,Xp hlt,UZ];rfl
  | succ q => exact k2 q x a (by simpa only [Xh, XQ] using hx) (by simpa only [ZaY, XQ] using ha)
theorem ZdK {p:LE} : ∀ (m i:Nat),Raw (ZaY p i m)
 | 0, _ => by intro a ha; cases ha
 | m + 1, i => by
  intro a ha;rcases Xq.1 ha with rfl | ha
  ·exact ⟨rfl,fun _ _ _ h=>by cases h⟩
  ·exact ZdK m (i+1) a ha
theorem map_some {α β:Type} {f:α→β} {x:Option α} {y:β} (h:x.map f=Xa y):∃ a,x=Xa a∧f a=y:=by
 cases x with
 | none => cases h
 | some a => exact ⟨a, rfl, by simpa using h⟩
theorem ZpE {T:TypeId} {m kx v:Operand} {p:LE} (hg:∀ d,(g d).bd n) (ho:o.op = .insert T m kx v∨o.op = .mapUpdate T m kx v) (hp:ZbP P g m=Xa p)
  (h:(match Zgj E g,Jk P g kx,ZbP P g v with
   | some (d, l), .c (.int .i64 ke), Xa q => if Zd5 P T = Xb then STree.req (.cons (stE .mchk l (.lit 0) p .nil)) (.req (.cons (ptE .pis0 q)) (k Xe .dead [(d, .store (stE .mput l ke p (.cons (.cel q) .nil)))] [d] n)) else .stuck 328
   | _, _, _ => .stuck 329).wp P R A ρ) : Zbm tx P R A ρ g o n k := by
 have bp:=Kq hg hp;split at h
 ·rename_i d l ke q hl hk hq;split at h
  ·rename_i hT;obtain ⟨r1,r2,h⟩:=h;have bl:=WW hg hl;have bk:=ZA (P:=P) hg kx;rw [hk] at bk;obtain ⟨j,e1,e2⟩:=ZgH r1;obtain ⟨jq,e3⟩:=ZpQ r2;refine Zbx h trivial (us1 ⟨bl,bk,bp,Kq hg hq,trivial⟩) ?_ (fun h=>by cases h);have:=ZiA (σ:=fun d=>(g d).den ρ) ho hT ((JP (ρ:=ρ) hp).trans e1) (Zg ρ hk) ((JP (ρ:=ρ) hq).trans e3) (Yt (ρ:=ρ) hl) e2;simp only [Xh,XF];show Js P o _ .dead [(d,.store (Zma (l.den ρ) (Zd (p.den ρ)) fun kvs=>Yz kvs (ke.den ρ) (Zd (q.den ρ))))] [d];rw [e1,e3];exact this
  ·exact h.elim
 ·exact h.elim
theorem Zjk {t:STree} (hps:EnvSound P E) (hg:∀ d,(g d).bd n) (htop:∀ i,E.top≤i→g i = .dead) (hs:Zrf P E tx g o n k=Xa t) (h:t.wp P R A ρ):Zbm tx P R A ρ g o n k:=by
 unfold Zrf at hs;split at hs
 ·cases hs
 split at hs
 ·-- load
  rename_i T a ho;obtain ⟨p,hp,rfl⟩:=map_some hs;exact ZqH hg ho hp h
 ·-- store
  rename_i T a x ho;obtain ⟨p,hp,rfl⟩:=map_some hs;exact Znw hg htop ho hp h
 ·-- nilCheck
  rename_i x ho;obtain ⟨p,hp,rfl⟩:=map_some hs;obtain ⟨r1,h⟩:=h;obtain ⟨j,off,e⟩:=Zps r1;refine V8 h (Kq hg hp) ?_;show Js P o _ (Zd (p.den ρ)) _ _;rw [e];exact Za3 ho ((JP (ρ:=ρ) hp).trans e)
 ·-- fieldAddr
  rename_i T x f ho;obtain ⟨p,hp,rfl⟩:=map_some hs;split at h
  ·rename_i off hf;obtain ⟨r1,h⟩:=h;obtain ⟨j,q,e⟩:=Zps r1;refine V8 h ⟨Kq hg hp,trivial,trivial,trivial⟩ ?_;show Js P o _ (.oref (pJ (Zd (p.den ρ))) (pO (Zd (p.den ρ))+off)) _ _;rw [e];exact Zdo ho hf ((JP (ρ:=ρ) hp).trans e)
  ·exact h.elim
 ·-- indexAddr
  rename_i T x i ho;obtain ⟨p,hp,rfl⟩:=map_some hs;split at h
  ·rename_i e kd ix hT hi;split at h
   ·rename_i h0;obtain ⟨r1,r2,h⟩:=h;have r1':(0:Int)≤ix.den ρ:=r1;have r2':ix.den ρ < (((ptE .plen p).den ρ).length:Int):=r2;have bi:=ZA (P:=P) hg i;rw [hi] at bi
    obtain ⟨e',j,m,hce⟩:∃ e' j m,Zd (p.den ρ) = .osl e' j m:=by
     rcases Yx (p.den ρ) with ⟨a,b,hc⟩ | hc | ⟨a,hc⟩ | ⟨a,b,hc⟩
     ·have:((ptE .plen p).den ρ).length=0:=by
       show (match Zd (p.den ρ) with | .osl _ _ n=>Xg n [] | _=>[]).length=0;rw [hc];rfl
      omega
     ·exact hc
     ·have:((ptE .plen p).den ρ).length=0:=by
       show (match Zd (p.den ρ) with | .osl _ _ n=>Xg n [] | _=>[]).length=0;rw [hc];rfl
      omega
     ·have:((ptE .plen p).den ρ).length=0:=by
       show (match Zd (p.den ρ) with | .osl _ _ n=>Xg n [] | _=>[]).length=0;rw [hc];rfl
      omega
    rw [Zaf hce] at r2';refine V8 h ⟨Kq hg hp,bi,trivial,trivial⟩ ?_;show Js P o _ (.oref (pJ (Zd (p.den ρ))) ((ix.den ρ).toNat*P.cellsOf e)) _ _;rw [hce];exact ZeR ho hT (by omega) ((JP (ρ:=ρ) hp).trans hce) (Zg ρ hi) r1' (by omega)
   ·exact h.elim
  ·exact h.elim
 ·-- slice
  rename_i T x lo hi mx ho;obtain ⟨p,hp,rfl⟩:=map_some hs;split at h
  ·rename_i e k1 k2 hT hh hm;split at h
   ·rename_i h0;obtain ⟨r1,h⟩:=h;obtain ⟨y,rfl,hy⟩:=map_some hh;obtain ⟨z,rfl,hz⟩:=map_some hm;obtain ⟨e',j,m,hce⟩:=Zgw r1;refine V8 h trivial ?_;exact ZeQ ho hT (by omega) ((JP (ρ:=ρ) hp).trans hce) (Zg ρ hy) (Zg ρ hz)
   ·exact h.elim
  ·rename_i e k1 hx hT hh hm;split at h
   ·rename_i h0;obtain ⟨r1,r2,r3,h⟩:=h;obtain ⟨y,rfl,hy⟩:=map_some hh;obtain ⟨e',j,m,hce⟩:=Zgw r1;have hmx:mx=Xc:=by cases mx with | none=>rfl | some _=>cases hm
    subst hmx;have r2':(0:Int)≤hx.den ρ:=r2;have r3':hx.den ρ≤(((ptE .plen p).den ρ).length:Int):=r3;rw [Zaf hce] at r3';have bi:=ZA (P:=P) hg y;rw [hy] at bi;refine V8 h ⟨Kq hg hp,bi,trivial,trivial⟩ ?_;show Js P o _ (.osl (pE (Zd (p.den ρ))) (pJ (Zd (p.den ρ))) (hx.den ρ).toNat) _ _;rw [hce]
    have hyv:Zo P (fun d=>(g d).den ρ) y = .val (.int k1 ((hx.den ρ).toNat:Int)):=by
     rw [Tc r2'];exact Zg ρ hy
    exact ZhM ho hT (by omega) ((JP (ρ:=ρ) hp).trans hce) hyv (by omega)
   ·exact h.elim
  ·exact h.elim
 ·-- box
  rename_i T x ho;split at hs
  ·simp only [Xf] at hs;subst hs;exact Zmz hg ho h
  ·cases hs
 ·-- alloc
  rename_i T ho;split at hs
  ·simp only [Xf] at hs;subst hs;exact Ziu hg ho h
  ·cases hs
 ·-- buildSlice
  rename_i T len parts ho;split at hs
  ·simp only [Xf] at hs;subst hs;exact ZtM hg ho h
  ·cases hs
 ·-- makeMap
  rename_i T r ho;split at hs
  ·rename_i hT;simp only [Xf] at hs;subst hs;split at h
   ·rename_i d l hl;have bl:=WW hg hl;refine Zbx h ⟨bl,trivial,trivial,trivial⟩ (us1 ⟨bl,trivial,trivial,trivial⟩) ?_ (fun _ u hu rows rows' h1 h2=>?_)
    ·exact ZfO (σ:=fun d=>(g d).den ρ) ho (Yt (ρ:=ρ) hl)
    ·rw [XE] at hu;subst hu;rw [show (g (d,SV.store (ptE .newm l)).1) = .store l from ZaE hl] at h1;have h1':AV.store (l.den ρ) = .store rows:=h1;have h2':AV.store (l.den ρ++[ZD []]) = .store rows':=h2
     cases h1'
     cases h2'
     exact List.prefix_append _ _
   ·exact h.elim
  ·cases hs
 ·-- insert
  rename_i T m kx v ho;obtain ⟨p,hp,rfl⟩:=map_some hs;exact ZpE hg (.inl ho) hp h
 ·rename_i T m kx v ho;obtain ⟨p,hp,rfl⟩:=map_some hs;exact ZpE hg (.inr ho) hp h
 ·-- lookup
  rename_i T m kx ok ho;obtain ⟨p,hp,rfl⟩:=map_some hs;split at h
  ·rename_i d l ke hl hk;split at h
   ·rename_i hT;obtain ⟨r1,h⟩:=h;have bl:=WW hg hl;have bk:=ZA (P:=P) hg kx;rw [hk] at bk;obtain ⟨j,e1,e2⟩:=ZgH r1;refine V8 h ⟨bl,bk,Kq hg hp,trivial⟩ ?_;show Js P o _ (Zd (Zn3 (l.den ρ) (Zd (p.den ρ)) (ke.den ρ))) _ _;rw [e1];exact Ziz (σ:=fun d=>(g d).den ρ) ho hT ((JP (ρ:=ρ) hp).trans e1) (Zg ρ hk) (Yt (ρ:=ρ) hl) e2
   ·exact h.elim
  ·exact h.elim
 ·-- binOp
  rename_i op T x y T' ho;split at hs
  ·rename_i p e hp hT hy
   have hyk:y = .const (.pointer Xc):=by
    unfold Zsh at hy;split at hy
    ·rfl
    ·cases hy
   subst hyk;split at hs
   ·simp only [Xf] at hs;subst hs;obtain ⟨r1,h⟩:=h;obtain ⟨j,off,e1,e2⟩:=Znk r1;refine V8 h ⟨⟨Kq hg hp,trivial,trivial,trivial⟩,trivial⟩ ?_;have:=ZcB (σ:=fun d=>(g d).den ρ) ho (.inl rfl) hT e2 ((JP (ρ:=ρ) hp).trans e1)
    have hv:(SV.c (.bool (.cmp .eql (.len (ptE .pnn p)) (.lit 0)))).den ρ = .val (.bool (decide (j=0))):=by
     show AV.val (.bool (cop .eql (((ptE .pnn p).den ρ).length:Int) 0))=_;rw [ZoK e1]
     cases j<;>rfl
    rw [hv];exact this
   ·simp only [Xf] at hs;subst hs;obtain ⟨r1,h⟩:=h;obtain ⟨j,off,e1,e2⟩:=Znk r1;refine V8 h ⟨⟨Kq hg hp,trivial,trivial,trivial⟩,trivial⟩ ?_;have:=ZcB (σ:=fun d=>(g d).den ρ) ho (.inr rfl) hT e2 ((JP (ρ:=ρ) hp).trans e1)
    have hv:(SV.c (.bool (.cmp .neq (.len (ptE .pnn p)) (.lit 0)))).den ρ = .val (.bool (decide (j≠0))):=by
     show AV.val (.bool (cop .neq (((ptE .pnn p).den ρ).length:Int) 0))=_;rw [ZoK e1]
     cases j<;>rfl
    rw [hv];exact this
   ·cases hs
  ·cases hs
 ·-- makeFunc
  rename_i fn first captured ho;split at hs
  ·rename_i f c cs hf hcs;simp only [Xf] at hs;subst hs;obtain ⟨h,q1⟩:=Zcl _ h;obtain ⟨h,q2⟩:=Zcl _ h;obtain ⟨k1,k2⟩:=ZkS _ _ hcs
   have bc:∀ x∈c::cs,x.bd n:=fun x hx=>by
    obtain ⟨i,hi⟩:=XO.1 hx;have hlt:i < captured.toList.length:=by rw [← k1];exact (Xk.1 hi).1
    obtain ⟨p,rfl,hp⟩:=k2 i _ x (Xp hlt) hi;exact Kq hg hp
   refine V8 h ⟨trivial,trivial,trivial,KG _ bc⟩ ?_
   have:=Zh0 (σ:=fun d=>(g d).den ρ) (js:=((c::cs).map (SC.den ρ)).map pJ) ho hf (by rw [Xr,Xr,k1]) (fun i x j hx hj=>by
    rw [Xl,Xl] at hj
    cases hci:(c::cs)[i]? with
    | none => rw [hci] at hj; cases hj
    | some c0 =>
     rw [hci] at hj;simp only [Xw,Xf] at hj;obtain ⟨p,rfl,hp⟩:=k2 i x c0 hx hci;obtain ⟨p1,hp1,w1⟩:=q1 _ (Xm hci);obtain ⟨p2,hp2,w2⟩:=q2 _ (Xm hci)
     cases hp1
     cases hp2
     obtain ⟨j1,e1⟩:=ZpQ w1;obtain ⟨j2,off2,e2⟩:=Zps w2;have hcd:(SC.cel p).den ρ = .oref j1 0:=e1;rw [hcd] at hj;have hj:j1=j:=hj;subst hj;rw [e1] at e2
     cases e2
     exact ⟨Uq _,(JP (ρ:=ρ) hp).trans e1⟩)
   show Js P o _ (.fnc f (((Zb5 (c::cs)).den ρ).map pJ)) _ _;rw [YI];exact this
  ·cases hs
 ·-- call
  rename_i c ho;split at hs
  ·rename_i hc;split at hs
   ·rename_i x T hargs hts;obtain ⟨p,hp,rfl⟩:=map_some hs;split at h
    ·rename_i _ e hT;obtain ⟨r1,h⟩:=h;obtain ⟨e',j,m,hce⟩:=Zgw r1;refine V8 h ⟨Kq hg hp,trivial,trivial,trivial⟩ ?_;show Js P o _ (.val (.int .i64 (((ptE .plen p).den ρ).length:Int))) _ _;rw [Zaf hce];exact ZiD ho hc hargs hts hT ((JP (ρ:=ρ) hp).trans hce)
    ·rename_i kt vt d l hT hl;obtain ⟨r1,h⟩:=h;obtain ⟨j,e1,e2⟩:=ZgH r1;refine V8 h ⟨WW hg hl,trivial,Kq hg hp,trivial⟩ ?_;show Js P o _ (.val (.int .i64 ((ZsG (l.den ρ) (Zd (p.den ρ))).length:Int))) _ _;rw [e1];exact ZoI (σ:=fun d=>(g d).den ρ) ho hc hargs hts hT ((JP (ρ:=ρ) hp).trans e1) (Yt (ρ:=ρ) hl) e2
    ·exact h.elim
   ·cases hs
  ·rename_i hc;split at hs
   ·rename_i x y T T' hargs hts;split at hs
    ·rename_i p hp _;simp only [Xf] at hs;subst hs;split at h
     ·rename_i hTT;subst hTT;exact Zt5 hg ho hc hargs hts hp h
     ·exact h.elim
    ·rename_i q _ hq;simp only [Xf] at hs;subst hs;split at h
     ·rename_i hTT;subst hTT;exact Zpw hg htop ho hc hargs hts hq h
     ·exact h.elim
    ·simp only [Xf] at hs;subst hs;exact h.elim
    ·cases hs
   ·cases hs
  ·rename_i hc;split at hs
   ·rename_i m kx T ts hargs hts;obtain ⟨p,hp,rfl⟩:=map_some hs;split at h
    ·rename_i d l ke hl hk;split at h
     ·rename_i hT;obtain ⟨r1,h⟩:=h;have bl:=WW hg hl;have bk:=ZA (P:=P) hg kx;rw [hk] at bk;obtain ⟨j,e1,e2⟩:=ZgH r1;refine Zbx h trivial (us1 ⟨bl,bk,Kq hg hp,trivial⟩) ?_ (fun h=>by cases h);have:=Zhl (σ:=fun d=>(g d).den ρ) (T':=0) ho hc hargs hts hT ((JP (ρ:=ρ) hp).trans e1) (Zg ρ hk) (Yt (ρ:=ρ) hl) e2;simp only [Xh,XF];show Js P o _ .dead [(d,.store (Zma (l.den ρ) (Zd (p.den ρ)) fun kvs=>Zbj kvs (ke.den ρ)))] [d];rw [e1];exact this
     ·exact h.elim
    ·exact h.elim
   ·cases hs
  ·rename_i f hc;split at hs
   ·simp only [Xf] at hs;subst hs;refine Zkc htop ho (.inl ⟨hc,rfl⟩) (fun aZ has=>?_) h;obtain ⟨k1,k2,_⟩:=Vj ρ _ _ _ has;exact ⟨by rw [XN];exact k1,k2⟩
   ·cases hs
  ·rename_i t0 hc;split at hs
   ·rename_i f m p _ hgt;simp only [Xf] at hs;subst hs;obtain ⟨r1,h⟩:=h;obtain ⟨js,e1,e2⟩:=ZsY r1;refine Zkc (cps:=js.map KU.obj) htop ho (.inr ⟨t0,hc,.inr ⟨js,by rw [hgt];exact e1,fun e=>(by rw [e] at e2;cases e2),rfl⟩⟩) (fun aZ has=>?_) h;obtain ⟨as1,h1,rfl⟩:=map_some has;obtain ⟨k1,k2,_⟩:=Vj ρ _ _ _ h1;refine ⟨k1.append (by have:=Zfk (P:=P) (g:=g) e1 (m+1) 0 (by omega);rw [UY] at this;exact this),fun a ha=>?_⟩;rcases Xv.1 ha with ha | ha
    ·exact k2 a ha
    ·exact ZdK _ _ a ha
   ·cases hs
  ·cases hs
 ·cases hs
end
theorem Tr.get_set:∀ (k:Nat) (t:Tr) (d i:Nat) (x:SV),d < 2^k→i < 2^k→(Tr.set k t d x).get i=if i=d then x else t.get i
 | 0, t, d, i, x, hd, hi => by
  have h1:d=0:=by simpa using hd
  have h2:i=0:=by simpa using hi
  subst h1;subst h2;rfl
 | k + 1, .node l r, d, i, x, hd, hi => by
  have hd2:d / 2 < 2^k:=by rw [Nat.pow_succ] at hd;omega
  have hi2:i / 2 < 2^k:=by rw [Nat.pow_succ] at hi;omega
  have ihl:=Tr.get_set k l (d / 2) (i / 2) x hd2 hi2;have ihr:=Tr.get_set k r (d / 2) (i / 2) x hd2 hi2;rcases Tf d with h | h<;>rcases Tf i with h' | h'
  ·simp only [Tr.set,h,Tr.get,h',ihl];by_cases he:i=d
   ·simp [he]
   ·rw [if_neg he,if_neg (by omega)]
  ·simp only [Tr.set,h,Tr.get,h'];rw [if_neg (by omega)]
  ·simp only [Tr.set,h,Tr.get,h'];rw [if_neg (by omega)]
  ·simp only [Tr.set,h,Tr.get,h',ihr];by_cases he:i=d
   ·simp [he]
   ·rw [if_neg he,if_neg (by omega)]
 | k + 1, .leaf y, d, i, x, hd, hi => by
  have hd2:d / 2 < 2^k:=by rw [Nat.pow_succ] at hd;omega
  have hi2:i / 2 < 2^k:=by rw [Nat.pow_succ] at hi;omega
  have ih:=Tr.get_set k (.leaf y) (d / 2) (i / 2) x hd2 hi2;rcases Tf d with h | h<;>rcases Tf i with h' | h'
  ·simp only [Tr.set,h,Tr.get,h',ih];by_cases he:i=d
   ·simp [he]
   ·rw [if_neg he,if_neg (by omega)]
  ·simp only [Tr.set,h,Tr.get,h'];rw [if_neg (by omega)]
  ·simp only [Tr.set,h,Tr.get,h'];rw [if_neg (by omega)]
  ·simp only [Tr.set,h,Tr.get,h',ih];by_cases he:i=d
   ·simp [he]
   ·rw [if_neg he,if_neg (by omega)]
def Z2 (E:Env) (s:Tr) (ρ:Nat→V):Nat→AV:=fun d=>(gE E s d).den ρ
def Wx (E:Env) (s:Tr) (n:Nat):Prop:=∀ d,(gE E s d).bd n
section
variable {P:Program} {E:Env} {R:AV→List AV→Prop} {A:Nat→List V→Prop}
theorem J0 {d:Nat} (h:d < E.nt):d < E.top:=XS h (XX _ _)
theorem Zsw (hnt:E.top≤1024) {d:Nat} (hd:d < E.top) (s:Tr) (x:SV) (i:Nat):gE E (s.set depth d x) i=if i=d then x else gE E s i:=by
 unfold gE;by_cases hi:i < E.top
 ·rw [if_pos hi,if_pos hi];exact Tr.get_set 10 s d i x (by omega) (by omega)
 ·rw [if_neg hi,if_neg hi,if_neg (by omega)]
theorem J4 (hnt:E.top≤1024) {d:Nat} (hd:d < E.top) (s:Tr) (x:SV) (ρ:Nat→V):Z2 E (s.set depth d x) ρ=upd (Z2 E s ρ) d (x.den ρ):=by
 funext i;simp only [Z2,Zsw hnt hd,upd];split<;>rfl
theorem JJ (hnt:E.top≤1024) {d n:Nat} (hd:d < E.top) {s:Tr} {x:SV} (hs:Wx E s n) (hx:x.bd n):Wx E (s.set depth d x) n:=by
 intro i;rw [Zsw hnt hd];split
 ·exact hx
 ·exact hs i
def Zb0 (E:Env) (us:Ups):Prop:=us.all (fun u=>decide (u.1 < E.top))=Xb
theorem KK (hnt:E.top≤1024) (ρ:Nat→V):∀ (us:Ups) (s:Tr),Zb0 E us→Z2 E (JV us s) ρ=JG (Z2 E s ρ) (us.map fun u=>(u.1,u.2.den ρ))
 | [], _, _ => rfl
 | (d, x) :: us, s, h => by
  simp only [Zb0,Uz,Xs,decide_eq_true_eq] at h;simp only [JV,Xh,JG];rw [KK hnt ρ us _ h.2,J4 hnt h.1]
theorem Y7 (hnt:E.top≤1024) {n:Nat} : ∀ (us:Ups) (s:Tr),Zb0 E us→Wx E s n→(∀ u∈us,u.2.bd n)→Wx E (JV us s) n
 | [], _, _, hs, _ => hs
 | (d, x) :: us, s, h, hs, hu => by
  simp only [Zb0,Uz,Xs,decide_eq_true_eq] at h;exact Y7 hnt us _ h.2 (JJ hnt h.1 hs (hu (d,x) (by simp))) fun u h'=>hu u (by simp [h'])
theorem Zit {s:Tr} {n n':Nat} (h:Wx E s n) (hn:n≤n'):Wx E s n':=fun d=>SV.bd_mono hn _ (h d)
theorem Zfr {s:Tr} {n:Nat} {ρ ρ':Nat→V} (h:Wx E s n) (hρ:∀ m,m < n→ρ' m=ρ m):Z2 E s ρ'=Z2 E s ρ:=by
 funext d;exact SV.den_congr hρ _ (h d)
theorem ZfI {x:SV} (ρ:Nat→V) (h:∀ cs,x≠.box cs):∀ cs,x.den ρ≠.box cs:=by
 intro cs he
 cases x with
 | box ds => exact h ds rfl
 | c y => cases y <;> first | cases he | exact (Jb he rfl).elim
 | _ => cases he
theorem Zg2 {x:SV} (ρ:Nat→V) (h:∀ cs,x≠.gbox cs) (h':x.isSto=Xe):(x.den ρ).isG=Xe:=by
 cases x with
 | gbox cs => exact (h cs rfl).elim
 | store l => cases h'
 | c y => exact KD ρ y
 | _ => rfl
theorem Km (x:SV) (ρ:Nat→V):(x.den ρ).isSto=x.isSto:=by
 cases x with
 | c y => exact Zes (KD ρ y)
 | _ => rfl
theorem Zmd {a b:AV} (ga:a.isG=Xe) (gb:b.isG=Xe) (ha:V3 a) (hb:(∀ cs,b≠.box cs)∨a = .dead):Za2 a b=Xb:=by
 unfold Za2;split
 ·cases ga
 ·cases gb
 ·cases ga
 ·cases gb
 ·exact (ha.1 _ rfl).elim
 ·exact (ha.2.1 _ _ rfl).elim
 ·rfl
 ·rename_i h1 h2;rcases hb with hb | hb
  ·exact (hb _ rfl).elim
  ·exact (h2 hb).elim
 ·rfl
theorem Zpb {x:SV} (ρ:Nat→V) (h:∀ cs,x≠.box cs) (h':∀ e l,x≠.own Xb e l) (h3:∀ cs,x≠.gbox cs) (h4:x.isSto=Xe):V3 (x.den ρ):=by
 refine ⟨ZfI ρ h,fun e xs he=>?_,fun cs he=>by have:=Zg2 ρ h3 h4;rw [he] at this;cases this⟩
 cases x with
 | own b e' l =>
  cases b with
  | true => exact h' _ _ rfl
  | false => cases he
 | c y => cases y <;> first | cases he | exact (Jb he rfl).elim
 | _ => cases he
theorem Zcd {a b:SV} (h:Zbf a b=Xb):a.isSto=Xe∧b.isSto=Xe:=by
 cases a<;>cases b<;>first | exact ⟨rfl,rfl⟩ | cases h
theorem JW {a b:SV} (ρ:Nat→V) (h:Zbf a b=Xb):Za2 (a.den ρ) (b.den ρ)=Xb:=by
 have h1:∀ cs,a≠.box cs:=by
  rintro cs rfl
  cases b<;>first | cases h | exact (Jb h rfl).elim
 have h2:∀ e l,a≠.own Xb e l:=by
  rintro e l rfl
  cases b<;>first | cases h | exact (Jb h rfl).elim
 have h3:∀ cs,a≠.gbox cs:=by
  rintro cs rfl
  cases b<;>first | cases h | exact (Jb h rfl).elim
 have h4:∀ cs,b≠.gbox cs:=by
  rintro cs rfl
  cases a with
  | own x e l => cases x <;> first | cases h | exact (Jb h rfl).elim
  | _ => cases h
 obtain ⟨h5,h6⟩:=Zcd h;refine Zmd (Zg2 ρ h3 h5) (Zg2 ρ h4 h6) (Zpb ρ h1 h2 h3 h5) ?_;by_cases hd:a = .dead
 ·subst hd;exact .inr rfl
 ·refine .inl (ZfI ρ ?_);rintro cs rfl
  cases a with
  | dead => exact hd rfl
  | own x e l => cases x <;> first | cases h | exact (Jb h rfl).elim
  | _ => cases h
theorem ZlY {c:Ctx} {σ:Nat→AV} {tm:Array Value} {w:World} {lim:Lm} {X:Nat→Nat→Option Nat} (h:Sim c σ tm w lim X) {ops:Array Oper} {j gd:Nat} {b:Bool}
  (hd:(ops[j]?).bind (·.dst)=Xa gd) (hb:σ gd = .val (.bool b)):yielded ops tm j=Xa b:=by
 have hlt:gd < tm.size:=by
  rcases XG gd c.nt with h1 | h1
  ·rw [h.size];exact h1
  ·have:=h.out gd h1;rw [hb] at this;rcases this with h2 | h2<;>cases h2
 have hr:=h.rel gd;rw [hb] at hr;have hv:tm.getD gd undef = .bool b:=YU hr
 have h2:tm[gd]? = Xa (.bool b):=by
  simp only [Ub,hlt,dite_true] at hv;rw [XV hlt];exact congrArg Xa hv
 unfold yielded;simp only [hd,Xi,h2]
theorem Zho {c:Ctx} {σ:Nat→AV} {tm:Array Value} {w:World} {lim:Lm} {X:Nat→Nat→Option Nat} (h:Sim c σ tm w lim X) {ops:Array Oper} {j gd:Nat}
  (hd:(ops[j]?).bind (·.dst)=Xa gd) (hb:σ gd = .tuple []):yielded ops tm j=Xc:=by
 have hr:=h.rel gd;rw [hb] at hr;obtain ⟨us,h1,h2,_⟩:=hr;have:us = []:=X7 h2;subst this;unfold yielded;simp only [hd,Xi];by_cases hlt:gd < tm.size
 ·simp only [Ub,hlt,dite_true] at h1
  have h3:tm[gd]? = Xa (.tuple #[]):=by
   rw [XV hlt];exact congrArg Xa h1
  simp only [h3]
 ·simp only [Array.getElem?_eq_none (Nat.le_of_not_lt hlt)]
theorem Sim.putUndef {c:Ctx} {σ:Nat→AV} {tm:Array Value} {w:World} {lim:Lm} {X:Nat→Nat→Option Nat} (h:Sim c σ tm w lim X) {d:Nat} (hd:d < c.nt) (hb:V3 (σ d)) :
  ∃ X',Sim c (upd σ d (.tuple [])) (tm.setIfInBounds d undef) w lim X':=
 ⟨_,h.putRow YQ (Jh.refl w lim (fun _=>False)) (fun _ hs=>hs.elim) hd (by simp) (fun i hi=>Z3 tm d i undef hi) (.inl hb.1) (fun i q hi hr=>(h.noRefs hb.none i q hi hr).elim)
  ⟨[],by rw [J2 tm d undef (by rw [h.size];exact hd)];rfl,rfl,by simp⟩ (fun k b hk=>by simp [YQ] at hk) (fun k k' b hk=>by simp [YQ] at hk)⟩
def Zi8 (ops:Array Oper) (o:Oper) (σ:Nat→AV) (gs:List Nat) (v:Bool):Prop:=
 (o.guard=Xc∧v=Xb)∨(∃ j want gd b,o.guard=Xa (j,want)∧(ops[j]?).bind (·.dst)=Xa gd∧gd∈gs∧σ gd = .val (.bool b)∧(v=Xb↔want=b))∨
 ∃ j want gd,o.guard=Xa (j,want)∧(ops[j]?).bind (·.dst)=Xa gd∧gd∈gs∧σ gd = .tuple []∧v=Xe
theorem Zbc {ops:Array Oper} {o:Oper} {σ:Nat→AV} {gs:List Nat} {v:Bool} (hg:Zi8 ops o σ gs v) {c:Ctx} {σ':Nat→AV} {tm:Array Value} {w:World} {lim:Lm} {X:Nat→Nat→Option Nat}
  (h:Sim c σ' tm w lim X) (hag:∀ d∈gs,σ' d=σ d):Region.wanted o (yielded ops tm)=v:=by
 rcases hg with ⟨h1,h2⟩ | ⟨j,want,gd,b,h1,h2,h3,h4,h5⟩ | ⟨j,want,gd,h1,h2,h3,h4,h5⟩
 ·unfold Region.wanted;rw [h1,h2]
 ·have hy:=ZlY h h2 ((hag gd h3).trans h4);unfold Region.wanted;rw [h1];simp only [hy]
  cases v<;>cases want<;>cases b<;>simp_all
 ·have hy:=Zho h h2 ((hag gd h3).trans h4);unfold Region.wanted;rw [h1,h5];simp only [hy];rfl
theorem Zkg {x:SV} (ρ:Nat→V) (h:ZrK x=Xb):ZfA (x.den ρ):=by
 unfold ZrK at h;split at h
 ·rename_i cs;exact ⟨_,rfl⟩
 ·cases h
theorem Zen {T:Odr} {i:Nat} {x:SV} (ρ:Nat→V) (h:Zd6 T i x=Xb):∀ d k,T.nr d i=Xb→¬ JB (x.den ρ) d k:=by
 intro d k hd hr
 cases x with
 | mref d' k' =>
  rcases hr with hr | ⟨_,hr⟩ <;> cases hr;simp [Zd6,hd] at h
 | eref d' k' i s o =>
  rcases hr with hr | ⟨_,hr⟩ <;> cases hr;simp [Zd6,hd] at h
 | c y => rcases hr with hr | ⟨_, hr⟩ <;> cases y <;> first | cases hr | exact (Jb hr rfl).elim
 | _ => rcases hr with hr | ⟨_, hr⟩ <;> cases hr
def Zae (T:Odr) (P:Program) (E:Env) (R:AV→List AV→Prop) (A:Nat→List V→Prop) (B:Nat→Bool) (ops:Array Oper) (i:Nat) (s:Tr) (ρ:Nat→V) (cont:Tr→Nat→Log→STree):Prop:=
 ∃ (st:Stp) (ρ':Nat→V) (n':Nat) (s':Tr),Wx E s' n'∧(cont s' n' ⟨i,st.F,st.D⟩).wp P R A ρ'∧ZsN T P E.nt ops (fun d=>B d=Xb) i (Z2 E s ρ) st∧Z2 E s' ρ'=JG (Z2 E s ρ) st.ups
variable {ops:Array Oper} {o:Oper} {i:Nat} {s:Tr} {n:Nat} {ρ:Nat→V} {cont:Tr→Nat→Log→STree} {gs:List Nat} {tx:Odr} {tk:Bool} {B:Nat→Bool}
theorem Zih {P:Program} {R:AV→List AV→Prop} {A:Nat→List V→Prop} {ρ:Nat→V} : ∀ (q:List (IE×IE)) (t:STree),(Zpz q t).wp P R A ρ→(∀ p∈q,p.1.den ρ=p.2.den ρ)∧t.wp P R A ρ
 | [], t, h => ⟨by simp, h⟩
 | (a, b) :: q, t, h => by
  obtain ⟨h1,h2,h3⟩:=h;obtain ⟨h4,h5⟩:=Zih q t h3;refine ⟨fun p hp=>?_,h5⟩;rcases Xq.1 hp with rfl | hp
  ·exact Int.le_antisymm h1 h2
  ·exact h4 p hp
theorem ZcU (ρ:Nat→V) {kp:Nat→Bool} : ∀ {cs' cs:List BC} {j:Nat} {r:List BC} {q:List (IE×IE)},ZcD kp j cs' cs=Xa (r,q)→(∀ p∈q,p.1.den ρ=p.2.den ρ)→
  r.map (BC.den ρ)=cs'.map (BC.den ρ)∧∀ i,kp (j+i)=Xb→((r.map (BC.den ρ))[i]?).map Yl=((cs.map (BC.den ρ))[i]?).map Yl
 | [], [], j, r, q, h, _ => by
  simp only [ZcD,Xf,Xt] at h;obtain ⟨rfl,rfl⟩:=h;exact ⟨rfl,fun _ _=>rfl⟩
 | [], _ :: _, _, _, _, h, _ => by simp [ZcD] at h
 | _ :: _, [], _, _, _, h, _ => by simp [ZcD] at h
 | c' :: cs', c :: cs, j, r, q, h, hq => by
  simp only [ZcD] at h;split at h
  ·rename_i r1 q1 h1;split at h
   ·rename_i hk;split at h
    ·rename_i k' e' k e;split at h
     ·rename_i hkk;subst hkk;simp only [Xf,Xt] at h;obtain ⟨rfl,rfl⟩:=h;obtain ⟨g1,g2⟩:=ZcU ρ h1 fun p hp=>hq p (by simp [hp]);have he:e'.den ρ=e.den ρ:=hq (e',e) (by simp);refine ⟨?_,fun i hi=>?_⟩
      ·simp only [Xh,g1,BC.den,SC.den,he]
      ·cases i with
       | zero => rfl
       | succ i => simpa using g2 i (by rw [show j + 1 + i = j + (i + 1) by omega]; exact hi)
     ·cases h
    ·rename_i t' l' t l;split at h
     ·rename_i hkk;subst hkk;simp only [Xf,Xt] at h;obtain ⟨rfl,rfl⟩:=h;obtain ⟨g1,g2⟩:=ZcU ρ h1 hq;refine ⟨by simp only [Xh,g1],fun i hi=>?_⟩
      cases i with
      | zero => rfl
      | succ i => simpa using g2 i (by rw [show j + 1 + i = j + (i + 1) by omega]; exact hi)
     ·cases h
    ·cases h
   ·rename_i hk;simp only [Xf,Xt] at h;obtain ⟨rfl,rfl⟩:=h;obtain ⟨g1,g2⟩:=ZcU ρ h1 hq;refine ⟨by simp only [Xh,g1],fun i hi=>?_⟩
    cases i with
    | zero => rw [Uh, hk] at hi; cases hi
    | succ i => simpa using g2 i (by rw [show j + 1 + i = j + (i + 1) by omega]; exact hi)
  ·cases h
theorem Ziv {kp:Nat→Bool} : ∀ {cs' cs:List BC} {j:Nat} {r:List BC} {q:List (IE×IE)},ZcD kp j cs' cs=Xa (r,q)→∀ b∈r,b∈cs'∨b∈cs
 | [], [], j, r, q, h => by
  simp only [ZcD,Xf,Xt] at h;obtain ⟨rfl,rfl⟩:=h;simp
 | [], _ :: _, _, _, _, h => by simp [ZcD] at h
 | _ :: _, [], _, _, _, h => by simp [ZcD] at h
 | c' :: cs', c :: cs, j, r, q, h => by
  simp only [ZcD] at h;split at h
  ·rename_i r1 q1 h1;have ih:=Ziv h1
   have key:∀ b∈r1,b∈c'::cs'∨b∈c::cs:=fun b hb=>by
    rcases ih b hb with h2 | h2
    ·exact .inl (by simp [h2])
    ·exact .inr (by simp [h2])
   split at h
   ·split at h
    ·split at h
     ·simp only [Xf,Xt] at h;obtain ⟨rfl,rfl⟩:=h;intro b hb;rcases Xq.1 hb with rfl | hb
      ·exact .inr (by simp)
      ·exact key b hb
     ·cases h
    ·split at h
     ·simp only [Xf,Xt] at h;obtain ⟨rfl,rfl⟩:=h;intro b hb;rcases Xq.1 hb with rfl | hb
      ·exact .inl (by simp)
      ·exact key b hb
     ·cases h
    ·cases h
   ·simp only [Xf,Xt] at h;obtain ⟨rfl,rfl⟩:=h;intro b hb;rcases Xq.1 hb with rfl | hb
    ·exact .inl (by simp)
    ·exact key b hb
  ·cases h
theorem Zwm {T:Odr} {d j:Nat} (h:T.kp d j=Xb):T.kpAt d=Xb:=by
 cases T with
 | text => cases h
 | any N M K =>
  simp only [Odr.kp,Odr.kpAt,Tz,Ud] at h ⊢;exact ⟨_,h,by simp⟩
theorem ZnH (ρ:Nat→V) {T:Odr} {g:Nat→SV} {u u':Nat×SV} {q:List (IE×IE)} (h:Zo5 T g u=Xa (u',q)) (hq:∀ p∈q,p.1.den ρ=p.2.den ρ) :
  (u'.1,u'.2.den ρ)=(u.1,u.2.den ρ)∧(∀ j,T.kp u'.1 j=Xb→cellAt (u'.2.den ρ) j=cellAt ((g u'.1).den ρ) j)∧∀ n,u.2.bd n→(∀ i,(g i).bd n)→u'.2.bd n:=by
 unfold Zo5 at h;split at h
 ·split at h
  ·rename_i cs' cs hu hgu;split at h
   ·rename_i r q1 h1;simp only [Xf,Xt] at h;obtain ⟨rfl,rfl⟩:=h;obtain ⟨g1,g2⟩:=ZcU ρ h1 hq;refine ⟨?_,fun j hj=>?_,fun n hb hg=>?_⟩
    ·rw [hu];simp only [SV.den,g1]
    ·rw [hgu];exact g2 j (by rw [XH];exact hj)
    ·rw [hu] at hb;have hb2:=hg u.1;rw [hgu] at hb2;intro b hbr;rcases Ziv h1 b hbr with h2 | h2
     ·exact hb b h2
     ·exact hb2 b h2
   ·cases h
  ·cases h
 ·rename_i hk;simp only [Xf,Xt] at h;obtain ⟨rfl,rfl⟩:=h;exact ⟨rfl,fun j hj=>(by rw [Zwm hj] at hk;cases hk),fun n hb _=>hb⟩
theorem Zfy (ρ:Nat→V) {T:Odr} {g:Nat→SV} : ∀ {us us':Ups} {q:List (IE×IE)},Zb6 T g us=Xa (us',q)→(∀ p∈q,p.1.den ρ=p.2.den ρ)→
  (us'.map fun u=>(u.1,u.2.den ρ))=(us.map fun u=>(u.1,u.2.den ρ))∧(∀ u∈us',∀ j,T.kp u.1 j=Xb→cellAt (u.2.den ρ) j=cellAt ((g u.1).den ρ) j)∧∀ n,(∀ u∈us,u.2.bd n)→(∀ i,(g i).bd n)→∀ u∈us',u.2.bd n
 | [], us', q, h, _ => by
  simp only [Zb6,Xf,Xt] at h;obtain ⟨rfl,rfl⟩:=h;exact ⟨rfl,by simp,by simp⟩
 | u :: us, us', q, h, hq => by
  simp only [Zb6] at h;split at h
  ·rename_i u1 q1 us1 q2 h1 h2;simp only [Xf,Xt] at h;obtain ⟨rfl,rfl⟩:=h;obtain ⟨a1,a2,a3⟩:=ZnH ρ h1 fun p hp=>hq p (by simp [hp]);obtain ⟨b1,b2,b3⟩:=Zfy ρ h2 fun p hp=>hq p (by simp [hp]);refine ⟨by simp only [Xh,a1,b1],fun v hv=>?_,fun n hb hg v hv=>?_⟩
   ·rcases Xq.1 hv with rfl | hv
    ·exact a2
    ·exact b2 v hv
   ·rcases Xq.1 hv with rfl | hv
    ·exact a3 n (hb u (by simp)) hg
    ·exact b3 n (fun w hw=>hb w (by simp [hw])) hg v hv
  ·cases h
theorem ZaC (hps:EnvSound P E) (hnt:E.top≤1024) (hKB:∀ d j,tx.kp d j=Xb→B d=Xb) (hB:∀ d,B d=Xb→ZfA (Z2 E s ρ d)) (hi:ops[i]? = Xa o) (hs:Wx E s n) (hg:Zi8 ops o (Z2 E s ρ) gs Xb) (h:(Zja P E tx tk B o i s gs n cont).wp P R A ρ) :
  Zae tx P E R A B ops i s ρ cont:=by
 have htop0:∀ i,E.top≤i→gE E s i = .dead:=fun i hi=>by unfold gE;rw [if_neg (by omega)]
 obtain ⟨ρ',n',gr,x,us0,fp,h1,h2,h3,h40,h50,h60,hgr0⟩:Zbm tx P R A ρ (gE E s) o n (ZoW E tx B o i s gs cont):=by
  unfold Zja at h
  cases hso:Zrf P E tx (gE E s) o n (ZoW E tx B o i s gs cont) with
  | some t => rw [hso] at h; exact Zjk hps hs htop0 hso h
  | none =>
   rw [hso] at h;obtain ⟨ρ',n',x,us0,fp,h1,h2,h3,h40,h50,h60⟩:=Zmt hps hs htop0 h;exact ⟨ρ',n',Xe,x,us0,fp,h1,h2,h3,h40,h50,h60,fun h=>by cases h⟩
 have hσ:(fun d=>(gE E s d).den ρ)=Z2 E s ρ:=rfl;rw [hσ] at h60;have hs':Wx E s n':=Zit hs h1;have hc:=Zfr hs h2;unfold ZoW at h50
 cases hst:Zb6 tx (gE E s) us0 with
 | none => rw [hst] at h50; exact h50.elim
 | some rq =>
 obtain ⟨us,qs⟩:=rq;rw [hst] at h50;obtain ⟨hq,h5⟩:=Zih qs _ h50;obtain ⟨hus,hkp0,hbd⟩:=Zfy ρ' hst hq;have h4:=hbd n' h40 hs';have h6:=h60;rw [← hus] at h6
 have hgr:gr=Xb→∀ u∈(us.map fun u=>(u.1,u.2.den ρ')),∀ rows rows',Z2 E s ρ u.1 = .store rows→u.2 = .store rows'→rows <+: rows':=by
  intro hg u hu rows rows' k1 k2;rw [hus] at hu;obtain ⟨v,hv,rfl⟩:=Xj.1 hu;exact hgr0 hg v hv rows rows' k1 k2
 have hkp:∀ u∈(us.map fun u=>(u.1,u.2.den ρ')),∀ j,tx.kp u.1 j=Xb→cellAt u.2 j=cellAt (Z2 E s ρ u.1) j:=by
  intro u hu j hj;obtain ⟨v,hv,rfl⟩:=Xj.1 hu;rw [← hc];exact hkp0 v hv j hj
 clear h60 h50 h40 hus hkp0 hgr0;split at h5
 case isFalse=>exact h5.elim
 rename_i hall0;obtain ⟨hall,hnx⟩:=hall0;rw [XD] at hall
 have hlow:Zb0 E us:=by
  unfold Zb0;rw [XD];intro u hu;have:=hall u hu;rw [Xs,Xs,Xs] at this;exact this.1.1.1
 have hups:∀ u∈(us.map fun u=>(u.1,u.2.den ρ')),B u.1=Xb→ZfA u.2:=by
  intro u hu hb;obtain ⟨v,hv,rfl⟩:=Xj.1 hu;have:=hall v hv;simp only [Xs,UW,UM] at this;rcases this.1.1.2 with h0 | h0
  ·have hb':B v.1=Xb:=hb;rw [hb'] at h0;cases h0
  ·exact Zkg ρ' h0
 have hnr:∀ u∈(us.map fun u=>(u.1,u.2.den ρ')),∀ d k,tx.nr d u.1=Xb→¬ JB u.2 d k:=by
  intro u hu;obtain ⟨v,hv,rfl⟩:=Xj.1 hu;have:=hall v hv;rw [Xs,Xs] at this;exact Zen ρ' this.1.2
 have hsts:∀ u∈us,(gE E s u.1).isSto=u.2.isSto:=by
  intro u hu;have:=hall u hu;rw [Xs] at this;exact eq_of_beq this.2
 have hstp:Zw6 (Z2 E s ρ) ⟨[],us.map fun u=>(u.1,u.2.den ρ'),vOf gr (gE E s) us⟩:=by
  intro u hu;obtain ⟨v,hv,rfl⟩:=Xj.1 hu;refine ⟨by rw [Km,show Z2 E s ρ v.1=(gE E s v.1).den ρ from rfl,Km,hsts v hv],fun rows rows' k1 k2=>?_⟩
  cases hg0:gr with
  | true => exact .inr (hgr hg0 _ hu rows rows' k1 k2)
  | false =>
   refine .inl (U2.2 ⟨v,hv,?_⟩)
   have:(gE E s v.1).isSto=Xb:=by
    rw [← Km (gE E s v.1) ρ,show (gE E s v.1).den ρ=_ from k1];rfl
   rw [if_pos this]
 have hids:∀ (σ':Nat→AV),(∀ d∈(Vv o).filter (fun t=>!B t),σ' d=Z2 E s ρ d)→(∀ d,B d=Xb→ZfA (σ' d))→∀ d∈Vv o,ZdR (Z2 E s ρ d) (σ' d):=by
  intro σ' h0 h1 d hd
  cases hb:B d with
  | true => exact .inr ⟨hB d hb, h1 d hb⟩
  | false => exact .inl (h0 d (We.2 ⟨hd, by simp [hb]⟩))
 have hfst:(us.map fun u=>(u.1,u.2.den ρ')).map (·.1)=us.map (·.1):=by rw [Wf];rfl
 have hden:Z2 E (JV us s) ρ'=JG (Z2 E s ρ) (us.map fun u=>(u.1,u.2.den ρ')):=by rw [KK hnt ρ' us s hlow,hc]
 split at h5
 ·rename_i d hd;split at h5
  ·rename_i hh;refine ⟨⟨(Vv o).filter (fun t=>!B t)++gs++fp++us.map (·.1)++vOf gr (gE E s) us++[d],(us.map fun u=>(u.1,u.2.den ρ'))++[(d,x.den ρ')],vOf gr (gE E s) us⟩,ρ',n',(JV us s).set depth d x,JJ hnt (J0 hh.1) (Y7 hnt us s hlow hs' h4) h3,?_,⟨⟨?_,?_⟩,?_,?_,?_,?_⟩,?_⟩
   ·show (cont _ n' ⟨i,_,((us.map fun u=>(u.1,u.2.den ρ'))++[(d,x.den ρ')]).map (·.1)++vOf gr (gE E s) us⟩).wp P R A ρ';rw [XL,hfst];exact h5
   ·intro u hu;rcases Xv.1 hu with hu | hu
    ·refine Xv.2 (.inl (Xv.2 (.inl (Xv.2 (.inr ?_)))));rw [← hfst];exact Xj.2 ⟨u,hu,rfl⟩
    ·rw [XE] at hu;subst hu;simp
   ·intro u hu;rcases Xv.1 hu with hu | hu
    ·exact hstp u hu
    ·rw [XE] at hu;subst hu;obtain ⟨m1,m2⟩:=Zcd hh.2.1
     have hpre:(Z2 E s ρ d).isSto=Xe:=by
      by_cases hdu:d∈us.map (·.1)
      ·obtain ⟨u,hu,hud⟩:=Xj.1 hdu;have hx:=congrFun hden d;rw [Jm] at hx;obtain ⟨y,hy⟩:=Vl (us.map fun u=>(u.1,u.2.den ρ')) d (by rw [hfst];exact hdu);rw [hy] at hx;have hm:=Zb3 _ _ _ hy;have h8:=(hstp _ hm).1;dsimp only at h8;rw [← h8];have hx':(gE E (JV us s) d).den ρ'=y:=hx;rw [← hx',Km];exact m1
      ·have hx:=congrFun hden d;rw [Jm,Y3 _ d (by rw [hfst];exact hdu)] at hx;have hx':(gE E (JV us s) d).den ρ'=Z2 E s ρ d:=hx;rw [← hx',Km];exact m1
     exact ⟨by rw [Km];exact m2.trans hpre.symm,fun rows rows' k1 _=>by rw [k1] at hpre;cases hpre⟩
   ·intro u hu hb;rcases Xv.1 hu with hu | hu
    ·exact hups u hu hb
    ·rw [XE] at hu;subst hu;have hb':B d=Xb:=hb;rw [hh.2.2] at hb'
     cases hb'
   ·intro u hu;rcases Xv.1 hu with hu | hu
    ·exact hnr u hu
    ·rw [XE] at hu;subst hu;unfold Zlw at hnx;rw [hd] at hnx;exact Zen ρ' hnx
   ·intro u hu j hj;rcases Xv.1 hu with hu | hu
    ·exact hkp u hu j hj
    ·rw [XE] at hu;subst hu;have hb':=hKB _ j hj;rw [hh.2.2] at hb'
     cases hb'
   ·intro c hcP hcn σ' tm w lim X hag hpb hT hSt hsim Q K hK;unfold wpOp;simp only [hi];rw [Zbc hg hsim fun d' hd'=>hag d' (by simp [hd'])];rw [if_pos rfl]
    refine .inl (h6 c hcP σ' tm w lim X (hids σ' (fun d' hd'=>hag d' (by simp only [Xv];exact .inl (.inl (.inl (.inl (.inl hd')))))) hpb) (fun d' hd'=>hag d' (by
     rw [hfst] at hd';simp only [Xv] at hd' ⊢;rcases hd' with hd' | hd'
     ·exact .inl (.inl (.inl (.inr hd')))
     ·exact .inl (.inl (.inr hd')))) hT (fun d' hd'=>hSt d' (by simp only [Xv];exact .inl (.inl (.inl (.inr hd'))))) hsim K Q fun v w' ha=>?_)
    rw [hd] at ha ⊢
    obtain ⟨lim',X',hsim'⟩:=ha (by rw [hcn];exact hh.1) (by
     have:JG σ' (us.map fun u=>(u.1,u.2.den ρ')) d=(gE E (JV us s) d).den ρ':=by
      have h7:=congrFun hden d;rw [Jm] at h7 ⊢;rw [hag d (by simp)];exact h7.symm
     rw [this];exact JW ρ' hh.2.1)
    refine hK _ w' lim' X' ?_;rw [VR];exact hsim'
   ·rw [J4 hnt (J0 hh.1),hden,VR];rfl
  ·exact h5.elim
 ·rename_i hd;refine ⟨⟨(Vv o).filter (fun t=>!B t)++gs++fp++us.map (·.1)++vOf gr (gE E s) us,us.map fun u=>(u.1,u.2.den ρ'),vOf gr (gE E s) us⟩,ρ',n',JV us s,Y7 hnt us s hlow hs' h4,?_,⟨⟨?_,fun u hu=>hstp u hu⟩,hups,hnr,hkp,?_⟩,hden⟩
  ·show (cont _ n' ⟨i,_,(us.map fun u=>(u.1,u.2.den ρ')).map (·.1)++vOf gr (gE E s) us⟩).wp P R A ρ';rw [hfst];exact h5
  ·intro u hu;refine Xv.2 (.inl (Xv.2 (.inr ?_)));rw [← hfst];exact Xj.2 ⟨u,hu,rfl⟩
  ·intro c hcP hcn σ' tm w lim X hag hpb hT hSt hsim Q K hK;unfold wpOp;simp only [hi];rw [Zbc hg hsim fun d' hd'=>hag d' (by simp [hd'])];rw [if_pos rfl]
   refine .inl (h6 c hcP σ' tm w lim X (hids σ' (fun d' hd'=>hag d' (by simp only [Xv];exact .inl (.inl (.inl (.inl hd'))))) hpb) (fun d' hd'=>hag d' (by
    rw [hfst] at hd';simp only [Xv] at hd' ⊢;rcases hd' with hd' | hd'
    ·exact .inl (.inl (.inr hd'))
    ·exact .inl (.inr hd'))) hT (fun d' hd'=>hSt d' (by simp only [Xv];exact .inl (.inl (.inr hd')))) hsim K Q fun v w' ha=>?_)
   rw [hd] at ha ⊢;obtain ⟨lim',X',hsim'⟩:=ha;exact hK _ w' lim' X' hsim'
theorem WB (hnt:E.top≤1024) (hKB:∀ d j,tx.kp d j=Xb→B d=Xb) (hi:ops[i]? = Xa o) (hs:Wx E s n) (hg:Zi8 ops o (Z2 E s ρ) gs Xe) (h:(Zep E B o i s gs n cont).wp P R A ρ) :
  Zae tx P E R A B ops i s ρ cont:=by
 unfold Zep at h;split at h
 ·rename_i d hd;split at h
  ·rename_i hh;refine ⟨⟨gs++[d],[(d,.tuple [])],[]⟩,ρ,n,s.set depth d (.tuple []),JJ hnt (J0 hh.1) hs (by simp [SV.bd]),h,⟨⟨by simp,fun u hu=>?_⟩,fun u hu hb=>?_,fun u hu d k _ hr=>?_,fun u hu j hj=>?_,?_⟩,J4 hnt (J0 hh.1) _ _ _⟩
   ·rw [XE] at hu;subst hu;have hpre:(Z2 E s ρ d).isSto=Xe:=by rw [show Z2 E s ρ d=(gE E s d).den ρ from rfl,Km];exact (Zcd hh.2.1).1
    exact ⟨hpre.symm,fun rows rows' k1 _=>by rw [k1] at hpre;cases hpre⟩
   ·rw [XE] at hu;subst hu;have hb':B d=Xb:=hb;rw [hh.2.2] at hb'
    cases hb'
   ·rw [XE] at hu;subst hu;rcases hr with hr | ⟨_,hr⟩ <;> cases hr
   ·rw [XE] at hu;subst hu;have hb':=hKB _ j hj;rw [hh.2.2] at hb'
    cases hb'
   intro c hcP hcn σ' tm w lim X hag hpb hT _ hsim Q K hK;unfold wpOp;simp only [hi];rw [Zbc hg hsim fun d' hd'=>hag d' (by simp [hd'])];rw [if_neg (by simp),hd]
   obtain ⟨X',hs'⟩:=hsim.putUndef (d:=d) (by rw [hcn];exact hh.1) (by
    rw [hag d (by simp)];exact ZW (JW ρ hh.2.1))
   exact hK _ w lim X' hs'
  ·exact h.elim
 ·rename_i hd;refine ⟨⟨gs,[],[]⟩,ρ,n,s,hs,h,⟨⟨by simp,fun u hu=>by cases hu⟩,by simp,by simp,by simp,?_⟩,rfl⟩;intro c hcP hcn σ' tm w lim X hag hpb hT _ hsim Q K hK;unfold wpOp;simp only [hi];rw [Zbc hg hsim hag];rw [if_neg (by simp),hd];exact hK _ w lim X hsim
theorem ZaD (hnt:E.top≤1024) {t:Nat} {b:BE} {v:Bool} (hb:gE E s t = .c (.bool b)) (hv:b.den ρ=v):t < E.top∧Z2 E (s.set depth t (.c (.bool (.lit v)))) ρ=Z2 E s ρ:=by
 have hlt:t < E.top:=by
  unfold gE at hb;split at hb
  ·assumption
  ·cases hb
 refine ⟨hlt,?_⟩;rw [J4 hnt hlt];funext d;by_cases hd:d=t
 ·subst hd;rw [ZI];simp only [Z2,hb,SV.den,SC.den,hv,BE.den]
 ·rw [Ze _ _ hd]
theorem ZhP (hps:EnvSound P E) (hnt:E.top≤1024) (hKB:∀ d j,tx.kp d j=Xb→B d=Xb) (hB:∀ d,B d=Xb→ZfA (Z2 E s ρ d)) (hi:ops[i]? = Xa o) (hs:Wx E s n) (h:(Znc P E tx tk B ops o i s n cont).wp P R A ρ):Zae tx P E R A B ops i s ρ cont:=by
 unfold Znc at h;split at h
 ·rename_i hg;exact ZaC hps hnt hKB hB hi hs (.inl ⟨hg,rfl⟩) h
 ·rename_i j want hg;split at h
  ·exact h.elim
  ·rename_i gd hgd;split at h
   ·rename_i hb;have hv:Z2 E s ρ gd = .tuple []:=by simp only [Z2,hb];rfl
    exact WB hnt hKB hi hs (.inr (.inr ⟨j,want,gd,hg,hgd,by simp,hv,rfl⟩)) h
   ·rename_i b hb;have hv:Z2 E s ρ gd = .val (.bool b):=by simp only [Z2,hb];rfl
    split at h
    ·rename_i hw;exact ZaC hps hnt hKB hB hi hs (.inr (.inl ⟨j,want,gd,b,hg,hgd,by simp,hv,by simp [hw]⟩)) h
    ·rename_i hw;exact WB hnt hKB hi hs (.inr (.inl ⟨j,want,gd,b,hg,hgd,by simp,hv,by simp [hw]⟩)) h
   ·rename_i b _ hb;obtain ⟨ht,hf⟩:=h
    have hcase:∀ v,b.den ρ=v→(if want=v then Zja P E tx tk B o i (s.set depth gd (.c (.bool (.lit v)))) [gd] n cont else Zep E B o i (s.set depth gd (.c (.bool (.lit v)))) [gd] n cont).wp P R A ρ→Zae tx P E R A B ops i s ρ cont:=by
     intro v hv hw;obtain ⟨hlt,hsame⟩:=ZaD hnt hb hv;have hbd:Wx E (s.set depth gd (.c (.bool (.lit v)))) n:=JJ hnt hlt hs trivial;have hval:Z2 E (s.set depth gd (.c (.bool (.lit v)))) ρ gd = .val (.bool v):=by rw [hsame];simp only [Z2,hb,SV.den,SC.den,hv]
     have hgoal:Zae tx P E R A B ops i (s.set depth gd (.c (.bool (.lit v)))) ρ cont:=by
      split at hw
      ·rename_i hw';exact ZaC hps hnt hKB (by rw [hsame];exact hB) hi hbd (.inr (.inl ⟨j,want,gd,v,hg,hgd,by simp,hval,by simp [hw']⟩)) hw
      ·rename_i hw';exact WB hnt hKB hi hbd (.inr (.inl ⟨j,want,gd,v,hg,hgd,by simp,hval,by simp [hw']⟩)) hw
     unfold Zae at hgoal ⊢;rw [hsame] at hgoal;exact hgoal
    cases hv:b.den ρ with
    | true => exact hcase true hv (ht hv)
    | false => exact hcase false hv (hf hv)
   ·exact h.elim
def ZhU:Nat→List Stp→List Log
 | _, [] => []
 | i, s :: ss => ZhU (i + 1) ss ++ [⟨i, s.F, s.D⟩]
theorem Zcb:∀ (ss:List Stp) (i j:Nat) (s:Stp),ss[j]? = Xa s→(⟨i+j,s.F,s.D⟩:Log)∈ZhU i ss
 | [], i, j, s, h => by simp at h
 | s0 :: ss, i, 0, s, h => by
  simp only [XB,Xf] at h;subst h;simp [ZhU]
 | s0 :: ss, i, j + 1, s, h => by
  have:=Zcb ss (i+1) j s (by simpa using h);rw [show i+(j+1)=i+1+j by omega];exact Xv.2 (.inl this)
theorem Zeo (hps:EnvSound P E) (hnt:E.top≤1024) (hKB:∀ d j,tx.kp d j=Xb→B d=Xb) {tks:Nat→Bool} {k:Tr→Nat→List Log→STree} : ∀ (l:List Oper) (i:Nat) (s:Tr) (n:Nat) (logs:List Log) (ρ:Nat→V),(∀ j,l[j]? = ops[i+j]?)→(∀ d,B d=Xb→ZfA (Z2 E s ρ d))→Wx E s n→
  (Zq6 P E tx tks B ops l i s n logs k).wp P R A ρ→∃ (ss:List Stp) (ρ':Nat→V) (n':Nat) (s':Tr),ss.length=l.length∧Wx E s' n'∧(k s' n' (ZhU i ss++logs)).wp P R A ρ'∧
   ZfY tx P E.nt ops (fun d=>B d=Xb) i (Z2 E s ρ) ss∧Z2 E s' ρ'=Zco (Z2 E s ρ) ss
 | [], i, s, n, logs, ρ, _, _, hs, h => ⟨[], ρ, n, s, rfl, hs, h, trivial, rfl⟩
 | o :: l, i, s, n, logs, ρ, hl, hB, hs, h => by
  have h0:ops[i]? = Xa o:=by simpa using (hl 0).symm
  obtain ⟨st,ρ1,n1,s1,g1,g2,g3,g4⟩:=ZhP hps hnt hKB hB h0 hs h
  obtain ⟨ss,ρ2,n2,s2,k1,k2,k3,k4,k5⟩:=Zeo hps hnt hKB l (i+1) s1 n1 _ ρ1 (fun j=>by
   have:=hl (j+1);rw [show i+(j+1)=i+1+j by omega] at this;simpa using this) (by rw [g4];exact Zgx _ _ g3.2.1 hB) g1 g2
  refine ⟨st::ss,ρ2,n2,s2,by simp [k1],k2,?_,⟨g3,?_⟩,?_⟩
  ·simp only [ZhU,Xo,List.singleton_append];exact k3
  ·rw [← g4];exact k4
  ·simp only [Zco];rw [← g4];exact k5
theorem ZnO {a b:List Nat} (h:Zwg a b=Xb):∀ d∈a,d∉b:=by
 intro d hd;simp only [Zwg,XD] at h;simpa using h d hd
theorem Zfz {E:Env} (s:Tr):∀ i,E.top≤i→gE E s i = .dead:=fun i hi=>by unfold gE;rw [if_neg (by omega)]
theorem Zrx {c:Ctx} {σ:Nat→AV} {tm:Array Value} {w:World} {lim:Lm} {X:Nat→Nat→Option Nat} (h:Sim c σ tm w lim X) {i k:Nat} (hr:JB (σ i) i k):False:=by
 obtain ⟨p,hp⟩:=WK h hr;rcases hr with hr | ⟨_,hr⟩ <;> rw [hr] at hp<;>cases hp
theorem Zvf {draw:Bool} {d j:Nat} (h:(ZpK P E draw ops s).kp d j=Xb):ZrK (gE E s d)=Xb:=by
 cases draw with
 | false => cases h
 | true =>
  simp only [ZpK,Odr.kp,Tz,We] at h;exact h.2
theorem Ziq (hm:P.follows .mixedOrders=Xb) (hps:EnvSound P E) (hnt:E.top≤1024) {id:Nat} {draw:Bool} {k:Tr→Nat→STree} {tks:Nat→Bool} (hKB:∀ d j,(ZpK P E draw ops s).kp d j=Xb→B d=Xb) (hB:∀ d,B d=Xb→ZfA (Z2 E s ρ d)) (hs:Wx E s n)
  (h:(Zq6 P E (ZpK P E draw ops s) tks B ops ops.toList 0 s n [] fun s' n' logs=>if draw=Xb then (if Zi7 ops logs=Xb then k s' n' else .stuck 114) else k s' n').wp P R A ρ)
  {c:Ctx} (hcP:c.P=P) (hcn:c.nt=E.nt) {tm:Array Value} {w:World} {lim:Lm} {X:Nat→Nat→Option Nat} (hsim:Sim c (Z2 E s ρ) tm w lim X) {Q:Exit→Act→World→Prop}
  (hk:∀ s' n' ρ',Wx E s' n'→(k s' n').wp P R A ρ'→∀ tm' w' lim' X',Sim c (Z2 E s' ρ') tm' w' lim' X'→Q .normal ⟨tm',[]⟩ w'):(Code.region id ops draw).wp P Q ⟨tm,[]⟩ w:=by
 obtain ⟨ss,ρ',n',s',h1,h2,h3,h4,h5⟩:=Zeo hps hnt hKB ops.toList 0 s n [] ρ (by simp) hB hs h;have hlen:ss.length=ops.size:=by simpa using h1
 cases draw with
 | false =>
  refine wp_region ?_;rw [List.range_eq_range',← hlen];refine Zfl hcP hcn ss 0 _ tm w lim X h4 hB hsim fun tm' w' lim' X' hs'=>hk s' n' ρ' h2 (by simpa using h3) tm' w' lim' X' ?_;rw [h5];exact hs'
 | true =>
  simp only [if_true] at h3;split at h3
  ·rename_i hi;rw [XN] at hi;simp only [Zi7,Xs,CheckFast.beforeF_eq] at hi;obtain ⟨hlow,hind⟩:=hi;refine wp_region_any hm ?_;have hsd:Sim c (Z2 E s ρ) tm w.drew lim X:=hsim.world (Jh.refl w lim fun _=>False).drew fun b hb=>hb.elim;refine ZpP hcP hcn h4 (fun d i k hd hr=>?_) hB hlen ?_ ?_ (fun tm' w' lim' X' hs'=>hk s' n' ρ' h2 h3 tm' w' lim' X' (by rw [h5];exact hs')) ops.size _ tm w.drew lim X (by simp) ?_ ?_ ?_
   ·have hd':(Jz (gE E s) d E.top).isEmpty=Xb:=by
     rcases UV.1 hd with h0 | h0
     ·simp only [Xs] at h0;exact h0.1.2
     ·by_cases he:(Jz (gE E s) d E.top).isEmpty=Xb
      ·exact he
      ·dsimp only at h0;rw [if_neg he] at h0;cases h0
    rw [List.isEmpty_iff] at hd';have hda:=(Yu (g:=gE E s) ρ (Zfz s) (d:=d)).2 i k;by_cases hid:i=d
    ·subst hid;exact Zrx hsim hr
    ·have:=hda hid hr;rw [hd'] at this
     cases this
   ·intro i o hio e he hb;rw [XD] at hlow
    have:=hlow (o,i) (by
     rw [List.mem_zipIdx_iff_getElem?];simpa using hio)
    rw [Array.all_eq_true_iff_forall_mem] at this;have:=this e he;simpa [hb] using this
   ·rintro i j a b hia hjb hji ⟨S,hS,hSi,hSj⟩;rw [XD] at hind;have m1:=Zcb ss 0 i a hia;have m2:=Zcb ss 0 j b hjb;rw [XH] at m1 m2;have:=hind _ m1;rw [XD] at this;have:=this _ m2;simp only [UW,Xs,UM,decide_eq_false_iff_not] at this;rcases this with (this | this) | this
    ·exact (this hji).elim
    ·exact (hSj (Zf2 hS i j hSi this)).elim
    ·exact ⟨ZnO this.1,ZnO this.2⟩
   ·intro k o hk hl;have hlt:=(Wk.1 hk).1;simp [Ub,hlt] at hl
   ·have:=List.countP_le_length (p:=fun i=>!(Array.replicate ops.size Xe).getD i Xe) (l:=Ua ops.size);simpa using this
   ·rw [Zds]
    ·exact hsd
    ·intro j _ hj;simp [Ub]
  ·exact h3.elim
end
end Go.AM
