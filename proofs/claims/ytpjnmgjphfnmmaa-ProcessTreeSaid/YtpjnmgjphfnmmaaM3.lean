import Derived.Test.YtpjnmgjphfnmmaaM2
import Derived.Orders
open Option renaming some→Xa,none→Xe,bind_some→Xi,map_some→Xw,map_eq_some_iff→XY,getD_some→US
open Bool renaming true→Xb,false→Xc,and_eq_true→Xr,false_eq_true→UA,not_eq_true'→UJ,or_eq_true_iff→UP,or_eq_true→U5
open Option.some renaming injEq→Xf
open List renaming replicate→Xg,map_cons→Xh,mem_map→Xj,getElem?_eq_some_iff→Xk,getElem?_map→Xl,mem_of_getElem?→Xm,append_assoc→Xo,mem_cons→Xp,length_map→Xq,getElem?_eq_getElem→Xs,length_append→Xu,mem_append→Xv,getElem?_append_left→Xx,getElem?_append_right→Xy,length_cons→XA,getElem?_cons_zero→XB,getElem?_take→XC,mem_singleton→XD,all_eq_true→XE,map_nil→XG,append_nil→XJ,map_append→XN,getElem?_drop→XO,mem_iff_getElem?→XP,mem_of_mem_take→XQ,length_take→XS,mem_of_mem_drop→XV,eq_nil_of_length_eq_zero→XZ,mem_replicate→X6,getElem?_cons_succ→X7,map_map→Wg,map_toArray→Wk,mem_filter→Wl,map_congr_left→Wr,range→Wu,ext_getElem?→Ua,any_eq_true→Ub,length_drop→Ug,map_take→Up,mem_or_eq_of_mem_set→Uq,map_drop→Us,all_cons→Uu,size_toArray→Uw,mem_range→Ux,mem_append_left→UB,getElem?_set→UD,mem_flatten→UH,countP_cons→UO,map_set→UQ,drop_zero→UR,filter_eq_self→UU,mem_filterMap→UY,countP_append→U4,mem_append_right→U8,prefix_refl→Td,getElem?_modify→Th,take_length→Ti,length_singleton→Tk,contains_iff_mem→Tq
open Prod.mk renaming injEq→Xt
open Nat renaming le_refl→Xz,lt_or_ge→XF,zero_add→XH,lt_of_lt_of_le→XR,le_add_right→XU,mul_le_mul_right→XX,zero_le→X9,add_zero→Uf,succ_mul→Uk,sub_self→Uz,succ_pos→UC,lt_trichotomy→Tj,mod_two_eq_zero_or_one→Tt
open Array renaming toList_inj→XI,getElem?_eq_getElem→We,getD→Wv,getElem?_toList→Uc,getElem?_eq_some_iff→Uj,length_toList→Uy
open Int renaming toNat_natCast→Ws,toNat_of_nonneg→U7
set_option linter.unusedVariables false
set_option linter.unusedSimpArgs false
set_option linter.defProp false
namespace Go.AM
theorem us1 {t n:Nat} {x:SV} (h:x.bd n):∀ u∈[(t,x)],u.2.bd n:=by
 intro u hu
 rw [XD] at hu
 subst hu
 exact h
theorem us2 {t t' n:Nat} {x y:SV} (h:x.bd n) (h':y.bd n):∀ u∈[(t,x),(t',y)],u.2.bd n:=by
 intro u hu
 rcases Xp.1 hu with rfl | hu
 ·exact h
 ·exact us1 h' u hu
theorem JM {g:Nat→SV} {d:Nat} : ∀ (n:Nat) (u:Nat×SV),u∈Jz g d n↔u.2 = .dead∧u.1 < n∧u.1≠d∧ZeR d (g u.1)=Xb
 | 0, u => by simp [Jz]
 | n + 1, u => by
  have ih:=JM (g:=g) (d:=d) n u
  have key:∀ p:Prop,(u∈(if n≠d∧ZeR d (g n)=Xb then (n,SV.dead)::Jz g d n else Jz g d n)↔p)→(u∈Jz g d (n+1)↔p):=fun p h=>h
  apply key
  split
  ·rename_i h
   rw [Xp,ih]
   constructor
   ·rintro (rfl | ⟨h1,h2,h3⟩)
    ·exact ⟨rfl,Nat.lt_succ_self n,h.1,h.2⟩
    ·exact ⟨h1,by omega,h3⟩
   ·rintro ⟨h1,h2,h3⟩
    by_cases hn:u.1=n
    ·left
     obtain ⟨a,b⟩:=u
     simp only at h1 hn
     rw [h1,hn]
    ·exact .inr ⟨h1,by omega,h3⟩
  ·rename_i h
   rw [ih]
   constructor
   ·rintro ⟨h1,h2,h3⟩
    exact ⟨h1,by omega,h3⟩
   ·rintro ⟨h1,h2,h3,h4⟩
    refine ⟨h1,?_,h3,h4⟩
    by_cases hn:u.1=n
    ·subst hn;exact (h ⟨h3,h4⟩).elim
    ·omega
theorem ZbM (ρ:Nat→V) (d:Nat) (x:SV):ZeR d x=Xb↔∃ k,JB (x.den ρ) d k:=by
 cases x with
 | mref d' k' =>
  simp only [ZeR,beq_iff_eq]
  constructor
  ·rintro rfl;exact ⟨k',.inl rfl⟩
  ·rintro ⟨k,h | ⟨_,h⟩⟩ <;> cases h
   rfl
 | eref d' k' i s o =>
  simp only [ZeR,beq_iff_eq]
  constructor
  ·rintro rfl;exact ⟨k',.inr ⟨_,rfl⟩⟩
  ·rintro ⟨k,h | ⟨_,h⟩⟩ <;> cases h
   rfl
 | c y =>
  constructor
  ·intro h;cases h
  ·rintro ⟨k,h | ⟨_,h⟩⟩ <;> cases y<;>first | cases h | exact (Jb h rfl).elim
 | _ =>
  constructor
  ·intro h;cases h
  ·rintro ⟨k,h | ⟨_,h⟩⟩ <;> cases h
theorem Yq {g:Nat→SV} (ρ:Nat→V) {d top:Nat} (htop:∀ i,top≤i→g i = .dead):VW (fun d=>(g d).den ρ) d ((Jz g d top).map fun u=>(u.1,u.2.den ρ)):=by
 refine ⟨fun u hu=>?_,fun i k hi hr=>?_⟩
 ·obtain ⟨v,hv,rfl⟩:=Xj.1 hu
  obtain ⟨h1,h2,h3,h4⟩:=(JM top v).1 hv
  exact ⟨h3,by show v.2.den ρ=_;rw [h1];rfl,(ZbM ρ d _).1 h4⟩
 ·have hr':=(ZbM ρ d (g i)).2 ⟨k,hr⟩
  have hlt:i < top:=by
   rcases XF i top with h | h
   ·exact h
   ·rw [htop i h] at hr';cases hr'
  rw [Wg]
  exact Xj.2 ⟨(i,.dead),(JM top (i,.dead)).2 ⟨rfl,hlt,hi,hr'⟩,rfl⟩
theorem ZoU {g:Nat→SV} (ρ:Nat→V) {top:Nat} (htop:∀ i,top≤i→g i = .dead) {txt:Odr} {d:Nat} {us:Ups} (h:Zmh txt g top d=Xa us) :
  (∀ u∈us,u.2 = .dead)∧Yk txt (fun d=>(g d).den ρ) d (us.map fun u=>(u.1,u.2.den ρ)):=by
 unfold Zmh at h
 split at h
 ·simp only [Xf] at h
  subst h
  exact ⟨fun u hu=>((JM top u).1 hu).1,.inl ⟨rfl,Yq ρ htop⟩⟩
 ·split at h
  ·rename_i N M K hN
   simp only [Xf] at h
   subst h
   exact ⟨fun u hu=>by simp at hu,.inr ⟨N,M,_,rfl,hN,rfl⟩⟩
  ·cases h
theorem Zk7 {P:Program} {e:TypeId} {l:LE} (ρ:Nat→V) (h:mvB P e l=Xb):Mv P e (l.den ρ):=by
 unfold mvB at h
 rcases UP.1 h with h | h
 ·rcases UP.1 h with h | h
  ·rcases UP.1 h with h | h
   ·exact .inl (by simpa using h)
   ·exact .inr (.inl h)
  ·unfold ZkO at h
   split at h
   ·exact .inr (.inr (.inl rfl))
   ·cases h
 ·exact .inr (.inr (.inr (by simpa using h)))
theorem ZpF {P:Program} {res:SV} (ρ:Nat→V) (h:Zsr P res=Xb):∀ e xs,res.den ρ = .own Xb e xs→Mv P e xs:=by
 intro e xs he
 cases res with
 | own x e' l =>
  simp only [SV.den,AV.own.injEq] at he
  obtain ⟨rfl,rfl,_⟩:=he
  simp only [Zsr,U5,UJ,Option.isNone_iff_eq_none] at h
  exact h.imp id fun h=>.inr (.inr h)
 | c y => cases y <;> first | cases he | exact (Jb he rfl).elim
 | _ => cases he
theorem Ye {P:Program} {g:Nat→SV} (ρ:Nat→V) {top:Nat} (htop:∀ i,top≤i→g i = .dead) {txt:Odr} {x:Bool} {t:Nat} {e:TypeId} {l:LE} {us:Ups} (ht:g t = .own x e l) (h:YO P txt g top t x e l=Xa us) :
  ∃ us',us=us'∧(us'.map fun u=>(u.1,u.2.den ρ))=(t,ZaM P x e (l.den ρ))::(us'.tail.map fun u=>(u.1,u.2.den ρ))∧((x=Xc∧(us'.tail.map fun u=>(u.1,u.2.den ρ)) = [])∨Yk txt (fun d=>(g d).den ρ) t (us'.tail.map fun u=>(u.1,u.2.den ρ)))∧(x=Xb→Mv P e (l.den ρ)):=by
 unfold YO at h
 split at h
 ·simp only [Xf] at h
  subst h
  exact ⟨_,rfl,rfl,.inl ⟨rfl,rfl⟩,fun h=>by cases h⟩
 ·split at h
  case isFalse=>cases h
  rename_i hmv
  split at h
  ·simp only [Xf] at h
   subst h
   exact ⟨_,rfl,rfl,.inr (.inl ⟨rfl,Yq ρ htop⟩),fun _=>Zk7 ρ hmv⟩
  ·rename_i N M K
   split at h
   ·rename_i hN
    simp only [Xf] at h
    subst h
    exact ⟨_,rfl,rfl,.inr (.inr ⟨N,M,_,rfl,hN,rfl⟩),fun _=>Zk7 ρ hmv⟩
   ·cases h
theorem Yb {P:Program} {g:Nat→SV} {top n:Nat} {txt:Odr} {x:Bool} {t:Nat} {e:TypeId} {l:LE} {us:Ups} (h:YO P txt g top t x e l=Xa us) (hl:l.bd n):∀ u∈us,u.2.bd n:=by
 unfold YO at h
 split at h
 ·simp only [Xf] at h
  subst h
  exact us1 hl
 ·split at h
  case isFalse=>cases h
  split at h
  ·simp only [Xf] at h
   subst h
   intro u hu
   rcases Xp.1 hu with rfl | hu
   ·trivial
   ·rw [((JM top u).1 hu).1];trivial
  ·split at h
   ·simp only [Xf] at h
    subst h
    exact us1 trivial
   ·cases h
theorem W4 {cs:List BC} {off m:Nat} (h:WP ((cs.drop off).take m)=Xb) (ρ:Nat→V):Zd9 (((cs.map (BC.den ρ)).drop off).take m):=by
 rw [← Us,← Up]
 exact Zc2 h ρ
theorem Ze2 {cs:List BC} {off m:Nat} (h:Zaj ((cs.drop off).take m)=Xb) (ρ:Nat→V):Whole (((cs.map (BC.den ρ)).drop off).take m):=by
 rw [← Us,← Up]
 exact ZdF h ρ
theorem ZkS {g:Nat→SV} (ρ:Nat→V) {top:Nat} (htop:∀ i,top≤i→g i = .dead) {txt:Odr} {d:Nat} {cs:List BC} {off m:Nat} (h:(WP ((cs.drop off).take m)||ZfU txt g top d)=Xb) :
  Zd9 (((cs.map (BC.den ρ)).drop off).take m)∨Yk txt (fun d=>(g d).den ρ) d []:=by
 rcases UP.1 h with h | h
 ·exact .inl (W4 h ρ)
 ·right
  unfold ZfU at h
  split at h
  ·simp only [List.isEmpty_iff] at h
   refine .inl ⟨rfl,by simp,fun j q hj hr=>?_⟩
   have:=(Yq ρ htop (d:=d)).2 j q hj hr
   rw [h] at this
   exact this
  ·exact .inr ⟨_,_,_,rfl,h,rfl⟩
theorem Zoz {x:SV} (ρ:Nat→V) (h:x.isG=Xc):(x.den ρ).isG=Xc:=by
 cases x with
 | gbox cs => cases h
 | store l => cases h
 | c y => exact Kv ρ y
 | _ => rfl
theorem Jv {x:SV} {k:Nat} {e:TypeId} {l:LE} (ρ:Nat→V) (h:Jy x k=Xa (e,l)):Zx (x.den ρ) k=Xa (e,l.den ρ):=by
 unfold Jy at h
 split at h
 ·simp only [Xf,Xt] at h
  obtain ⟨rfl,rfl⟩:=h
  rfl
 ·rename_i cs q
  split at h
  ·rename_i e' l' hc
   simp only [Xf,Xt] at h
   obtain ⟨rfl,rfl⟩:=h
   simp only [SV.den,Zx,Xl,hc]
   rfl
  ·cases h
 ·rename_i cs q
  split at h
  ·rename_i e' l' hc
   simp only [Xf,Xt] at h
   obtain ⟨rfl,rfl⟩:=h
   simp only [SV.den,Zx,Xl,hc]
   rfl
  ·cases h
 ·cases h
theorem Vd {x:SV} {k n:Nat} {e:TypeId} {l:LE} (h:Jy x k=Xa (e,l)) (hb:x.bd n):l.bd n:=by
 unfold Jy at h
 split at h
 ·simp only [Xf,Xt] at h
  obtain ⟨rfl,rfl⟩:=h
  exact hb
 ·rename_i cs q
  split at h
  ·rename_i e' l' hc
   simp only [Xf,Xt] at h
   obtain ⟨rfl,rfl⟩:=h
   exact hb _ (Xm hc)
  ·cases h
 ·rename_i cs q
  split at h
  ·rename_i e' l' hc
   simp only [Xf,Xt] at h
   obtain ⟨rfl,rfl⟩:=h
   exact hb _ (Xm hc)
  ·cases h
 ·cases h
theorem Zcl (ρ:Nat→V) (x:SV) (k:Nat) (b:Bool) (e:TypeId) (l:LE):(Zaa x k b e l).den ρ=ZL (x.den ρ) k b e (l.den ρ):=by
 cases x with
 | own x e' l' => cases k <;> rfl
 | box cs =>
  cases k with
  | zero => rfl
  | succ k => simp only [Zaa, SV.den, ZL, UQ]; rfl
 | c y =>
  cases y with
  | cel p => exact VX (Q := fun z => z = ZL z k b e (l.den ρ)) _ (fun _ _ => rfl) (fun _ _ _ => rfl) (fun _ => rfl) (fun _ _ => rfl)
  | _ => rfl
 | _ => cases k <;> rfl
theorem Zdu {x:SV} {k n:Nat} {b:Bool} {e:TypeId} {l:LE} (hx:x.bd n) (hl:l.bd n):(Zaa x k b e l).bd n:=by
 unfold Zaa
 split
 ·exact hl
 ·intro c hc
  rcases Uq hc with hc | rfl
  ·exact hx c hc
  ·exact hl
 ·exact hx
section
variable {P:Program} {E:Env} {tx:Odr} {tk:Bool} {R:AV→List AV→Prop} {A:Nat→List V→Prop} {ρ:Nat→V} {g:Nat→SV} {o:Oper} {n:Nat} {k:K}
theorem ZsU {x:Operand} (hg:∀ d,(g d).bd n) (htop:∀ i,E.top≤i→g i = .dead) (ho:o.op = .move x) (h:(Yi P E tx tk g o n k).wp P R A ρ):YZ tx P R A ρ g o n k:=by
 have plain:(k (Jk P g x) [] [] n).wp P R A ρ→YZ tx P R A ρ g o n k:=fun hk=>Ja hk (Zy hg x) (by rw [Yd];exact Zh8 (.inl ho))
 simp only [Yi,ho] at h
 split at h
 ·rename_i t
  have ht:=hg t
  split at h
  ·rename_i vs hv
   rw [hv] at ht
   exact Zij h ht (us1 trivial) (Zlu ho (by rw [hv];rfl))
  ·rename_i b e xs hv
   rw [hv] at ht
   unfold Zfz at h
   split at h
   ·split at h
    ·rename_i hb
     obtain rfl:b=Xb:=by cases b<;>simp_all
     refine plain ?_
     have:Jk P g (.tmp t) = .mref t 0:=by simp only [Jk,hv]
     rw [this]
     exact h
    split at h
    ·rename_i us hus
     obtain ⟨us',rfl,q1,q2,q3⟩:=Ye ρ htop (t:=t) hv hus
     exact Zcv h ht (Yb hus ht) (by rw [q1];exact Zie (.inl ho) (by rw [hv];rfl) q2 q3)
    ·exact h.elim
   ·refine plain ?_
    have:Jk P g (.tmp t)=match b with | true=>.mref t 0 | false=>.c (.slice Xc (P.cellsOf e) xs):=by simp only [Jk,hv];cases b<;>rfl
    rw [this]
    cases b<;>exact h
  ·exact plain h
 ·exact plain h
theorem ZoA {x:Operand} (hg:∀ d,(g d).bd n) (htop:∀ i,E.top≤i→g i = .dead) (ho:o.op = .assign x) (h:(Yi P E tx tk g o n k).wp P R A ρ):YZ tx P R A ρ g o n k:=by
 have plain:(k (Jk P g x) [] [] n).wp P R A ρ→YZ tx P R A ρ g o n k:=fun hk=>Ja hk (Zy hg x) (by rw [Yd];exact Zh8 (.inr ho))
 simp only [Yi,ho] at h
 split at h
 ·rename_i t
  have ht:=hg t
  split at h
  ·exact h.elim
  ·rename_i b e xs hv
   rw [hv] at ht
   unfold Zfz at h
   split at h
   ·split at h
    ·rename_i hb
     obtain rfl:b=Xb:=by cases b<;>simp_all
     refine plain ?_
     have:Jk P g (.tmp t) = .mref t 0:=by simp only [Jk,hv]
     rw [this]
     exact h
    split at h
    ·rename_i us hus
     obtain ⟨us',rfl,q1,q2,q3⟩:=Ye ρ htop (t:=t) hv hus
     exact Zcv h ht (Yb hus ht) (by rw [q1];exact Zie (.inr ho) (by rw [hv];rfl) q2 q3)
    ·exact h.elim
   ·refine plain ?_
    have:Jk P g (.tmp t)=match b with | true=>.mref t 0 | false=>.c (.slice Xc (P.cellsOf e) xs):=by simp only [Jk,hv];cases b<;>rfl
    rw [this]
    cases b<;>exact h
  ·exact plain h
 ·split at h
  ·exact Ja h trivial (Zp4 ho)
  ·exact h.elim
 ·exact plain h
theorem ZrC {c a b:Operand} (hg:∀ d,(g d).bd n) (ho:o.op = .pick c a b) (h:(Yi P E tx tk g o n k).wp P R A ρ):YZ tx P R A ρ g o n k:=by
 simp only [Yi,ho] at h
 split at h
 ·rename_i v hv
  obtain ⟨h1,h2⟩:=Ziw h
  have hc:=Zg ρ hv
  have hex:=Zmn ho hc
  cases hb:v.den ρ with
  | true =>
   rw [hb,if_pos rfl] at hex
   exact Ja (h1 hb) (Zy hg a) (by rw [Yd];exact hex)
  | false =>
   rw [hb,if_neg (by simp)] at hex
   exact Ja (h2 hb) (Zy hg b) (by rw [Yd];exact hex)
 ·exact h.elim
theorem Zqt {T:TypeId} (ho:o.op = .alloc T) (h:(Yi P E tx tk g o n k).wp P R A ρ):YZ tx P R A ρ g o n k:=by
 simp only [Yi,ho] at h
 split at h
 ·rename_i cs hcs
  obtain ⟨i,z,h1,h2,h3,h4⟩:=ZqD ρ n hcs
  exact Ja h h4 (ZlJ ho h1 h2 h3)
 ·exact h.elim
theorem Zu3 {T:TypeId} {x:Operand} (hg:∀ d,(g d).bd n) (ho:o.op = .box T x) (h:(Yi P E tx tk g o n k).wp P R A ρ):YZ tx P R A ρ g o n k:=by
 simp only [Yi,ho] at h
 split at h
 ·rename_i cs hcs
  refine Ja h (fun c hc=>?_) ?_
  ·obtain ⟨y,hy,rfl⟩:=Xj.1 hc
   exact W8 hcs (Zy hg x) y hy
  ·have hd:=Vk ρ hcs
   have:=Zpq ho (Yd P g ρ x).symm hd
   have he:((SV.box (cs.map .c)).den ρ) = .box (cs.map (SC.den ρ)):=by simp only [SV.den,Wg];rfl
   rw [he]
   exact this
 ·exact h.elim
theorem Zhx (parts:Array (Nat×Operand)):(parts.toList.map fun p=>(p.1,Zn P (fun d=>(g d).den ρ) p.2))=(parts.toList.map fun p=>(p.1,Jk P g p.2)).map fun p=>(p.1,p.2.den ρ):=by
 rw [Wg]
 refine Wr fun p _=>?_
 simp only [Function.comp,Yd]
theorem ZjT (hg:∀ d,(g d).bd n) (parts:Array (Nat×Operand)):∀ p∈(parts.toList.map fun p=>(p.1,Jk P g p.2)),p.2.bd n:=by
 intro p hp
 obtain ⟨q,_,rfl⟩:=Xj.1 hp
 exact Zy hg q.2
theorem Zje {T:TypeId} {parts:Array (Nat×Operand)} {f t:Nat} {e:TypeId} {l:LE} (hg:∀ d,(g d).bd n) (htop:∀ i,E.top≤i→g i = .dead) (ho:o.op = .build T parts) (hp:Zio g parts.toList=Xa (f,t,e,l)) (h:(ZfW P E tx g T f t e l n k).wp P R A ρ):YZ tx P R A ρ g o n k:=by
 have hparts:parts.toList = [(f,.tmp t)]∧g t = .own Xb e l:=by
  unfold Zio at hp
  split at hp
  ·split at hp
   ·rename_i h1 _ _ _ h2
    simp only [Xf,Xt] at hp
    obtain ⟨rfl,rfl,rfl,rfl⟩:=hp
    exact ⟨h1,h2⟩
   ·cases hp
  ·cases hp
 obtain ⟨hp1,ht⟩:=hparts
 have hbl:=hg t
 rw [ht] at hbl
 unfold ZfW at h
 split at h
 ·rename_i fs i hT hi
  split at h
  ·rename_i hall
   split at h
   ·rename_i z fd hz hfd
    split at h
    ·rename_i zc us hzc hus
     split at h
     ·rename_i hh
      have h1:=Yx ρ z.cells.toList
      rw [hzc] at h1
      have hz1:Zat z.cells.toList=Xa (zc.map (SC.den ρ)):=h1.symm
      obtain ⟨us',rfl,q1,q2,q3⟩:=Ye ρ htop (t:=t) ht hus
      refine Zcv h (fun c hc=>?_) (Yb hus hbl) ?_
      ·rcases Uq hc with hc | rfl
       ·obtain ⟨y,hy,rfl⟩:=Xj.1 hc
        exact KE hzc y hy
       ·exact hbl
      ·have hod:Yk tx (fun d=>(g d).den ρ) t (us.tail.map fun u=>(u.1,u.2.den ρ)):=by
        rcases q2 with ⟨h0,_⟩ | q2
        ·cases h0
        ·exact q2
       have:=Zeq (zc:=zc.map (SC.den ρ)) ho hp1 hT hi hz hz1 hall hfd hh.1 (by simpa using hh.2) (show (fun d=>(g d).den ρ) t = .own Xb e (l.den ρ) by show (g t).den ρ=_;rw [ht];rfl) hod
       rw [q1]
       have he:(SV.aggo ((zc.map .c).set fd.offset (.own Xb e l))).den ρ = .aggo ((zc.map (SC.den ρ)).set fd.offset (.own Xb e (l.den ρ))):=by
        simp only [SV.den,UQ,Wg]
        rfl
       rw [he]
       exact this
     ·exact h.elim
    ·exact h.elim
   ·exact h.elim
  ·exact h.elim
 ·exact h.elim
theorem Zqy {T:TypeId} {parts:Array (Nat×Operand)} (hg:∀ d,(g d).bd n) (htop:∀ i,E.top≤i→g i = .dead) (ho:o.op = .build T parts) (h:(Yi P E tx tk g o n k).wp P R A ρ):YZ tx P R A ρ g o n k:=by
 simp only [Yi,ho] at h
 split at h
 ·rename_i f t e l hp
  exact Zje hg htop ho hp h
 split at h
 ·rename_i fs i hT hi
  split at h
  ·rename_i hall
   split at h
   ·rename_i z hz
    split at h
    ·rename_i zc hzc
     split at h
     ·rename_i cs hcs
      refine Ja h (ZcK _ _ _ _ (KE hzc) (ZjT hg parts) hcs) ?_
      have h1:=Yx ρ z.cells.toList
      rw [hzc] at h1
      refine Zln ho hT hi hz h1.symm hall ?_
      rw [Zhx]
      exact Zbt ρ _ _ _ _ hcs
     ·exact h.elim
    ·exact h.elim
   ·exact h.elim
  ·exact h.elim
 ·exact h.elim
theorem VU {w:World} {lim:Lm} {f g:Bool} {s s':Nat} {v:Value} (hg:g=Xb→f=Xb) (h:Rep w lim (.slice f s []) v):Rep w lim (.slice g s' []) v:=by
 have key:∀ (y:AV),Rep w lim y v→y = .slice f s []→Rep w lim (.slice g s' []) v:=by
  intro y hy hye
  cases hy with
  | sliceN => exact .sliceN
  | @sliceE f' s2 a cap hf =>
   injection hye with h1 h2 h3
   exact .sliceE fun h=>hf (h1.trans (hg h))
  | @sliceC f' s2 xs b o cap us hs hc hf hle hlim hus hcell hr =>
   injection hye with h1 h2 h3
   subst h3
   exact .sliceE fun h=>by have:=hf (h1.trans (hg h));simpa using this
  | val _ => cases hye
  | agg _ _ _ => cases hye
  | nest => cases hye
  | oref0 => cases hye
  | oref => cases hye
  | osl0 => cases hye
  | osl => cases hye
  | omap => cases hye
  | fnc => cases hye
  | omap0 => cases hye
  | fncN => cases hye
 exact key _ h rfl
theorem Zf2 {w:World} {lim:Lm} {f:Bool} {s:Nat} {xs:List (List AV)} {v:Value} (h:Rep w lim (.slice f s xs) v):Rep w lim (.slice Xc s xs) v:=by
 have key:∀ (y:AV),Rep w lim y v→y = .slice f s xs→Rep w lim (.slice Xc s xs) v:=by
  intro y hy hye
  cases hy with
  | sliceN => injection hye with h1 h2 h3; subst h3; exact .sliceN
  | @sliceE f' s2 a cap hf => injection hye with h1 h2 h3; subst h3; exact .sliceE fun h => by cases h
  | @sliceC f' s2 xs b o cap us hs hc hf hle hlim hus hcell hr =>
   injection hye with h1 h2 h3
   subst h2
   subst h3
   exact .sliceC hs hc (fun h=>by cases h) hle hlim hus hcell hr
  | val _ => cases hye
  | agg _ _ _ => cases hye
  | nest => cases hye
  | oref0 => cases hye
  | oref => cases hye
  | osl0 => cases hye
  | osl => cases hye
  | omap => cases hye
  | fnc => cases hye
  | omap0 => cases hye
  | fncN => cases hye
 exact key _ h rfl
theorem Zqi (ρ:Nat→V) {s:Sh} {c c':SC} (h:ZnP s c=Xa c'):∀ (w:World) (lim:Lm) (u:Value),Rep w lim (c.den ρ) u→Rep w lim (c'.den ρ) u:=by
 unfold ZnP at h
 split at h
 ·split at h
  ·simp only [Xf] at h
   subst h
   rename_i hk
   subst hk
   exact fun w lim u hr=>Zf2 hr
  ·split at h
   ·simp only [Xf] at h
    subst h
    exact fun w lim u hr=>VU (fun h=>by cases h) hr
   ·cases h
 ·simp only [Xf] at h
  subst h
  exact fun _ _ _ h=>h
theorem ZqF {n:Nat} {s:Sh} {c c':SC} (h:ZnP s c=Xa c') (hb:c.bd n):c'.bd n:=by
 unfold ZnP at h
 split at h
 ·split at h
  ·simp only [Xf] at h
   subst h
   exact hb
  ·split at h
   ·simp only [Xf] at h
    subst h
    trivial
   ·cases h
 ·simp only [Xf] at h
  subst h
  exact hb
theorem V8 {n:Nat} : ∀ (l:List Sh) (cs cs':List SC),Ki l cs=Xa cs'→(∀ c∈cs,c.bd n)→∀ c∈cs',c.bd n
 | [], [], _, h, _ => by simp only [Ki, Xf] at h; subst h; simp
 | [], _ :: _, _, h, _ => by simp [Ki] at h
 | _ :: _, [], _, h, _ => by simp [Ki] at h
 | s :: ss, c :: cs, r, h, hb => by
  simp only [Ki] at h
  split at h
  ·rename_i v vs hv hvs
   simp only [Xf] at h
   subst h
   intro x hx
   rcases Xp.1 hx with rfl | hx
   ·exact ZqF hv (hb c (by simp))
   ·exact V8 ss cs vs hvs (fun y hy=>hb y (by simp [hy])) x hx
  ·cases h
theorem ZhE (ρ:Nat→V):∀ (l:List Sh) (cs cs':List SC),Ki l cs=Xa cs'→cs'.length=cs.length∧∀ (i:Nat) (c:SC),cs'[i]? = Xa c→∃ c0,cs[i]? = Xa c0∧∀ (w:World) (lim:Lm) (u:Value),Rep w lim (c0.den ρ) u→Rep w lim (c.den ρ) u
 | [], [], _, h => by simp only [Ki, Xf] at h; subst h; exact ⟨rfl, by simp⟩
 | [], _ :: _, _, h => by simp [Ki] at h
 | _ :: _, [], _, h => by simp [Ki] at h
 | s :: ss, c :: cs, r, h => by
  simp only [Ki] at h
  split at h
  ·rename_i v vs hv hvs
   simp only [Xf] at h
   subst h
   obtain ⟨h1,h2⟩:=ZhE ρ ss cs vs hvs
   refine ⟨by simp [h1],fun i x hx=>?_⟩
   cases i with
   | zero =>
    simp only [XB,Xf] at hx
    subst hx
    exact ⟨c,rfl,Zqi ρ hv⟩
   | succ i => exact h2 i x (by simpa using hx)
  ·cases h
theorem Za0 (ρ:Nat→V) (l:List Sh) (cs cs':List SC) (h:Ki l cs=Xa cs'):(cs'.map (SC.den ρ)).length=(cs.map (SC.den ρ)).length∧
  ∀ (w:World) (lim:Lm) (us:List Value),JH w lim (cs.map (SC.den ρ)) us→JH w lim (cs'.map (SC.den ρ)) us:=by
 obtain ⟨h1,h2⟩:=ZhE ρ l cs cs' h
 refine ⟨by simp [h1],fun w lim us hr=>⟨by rw [← hr.1];simp [h1],fun x hx=>?_,fun i x u hx hu=>?_⟩⟩
 ·obtain ⟨y,_,rfl⟩:=Xj.1 hx
  exact Yc ρ y
 ·rw [Xl] at hx
  cases hc:cs'[i]? with
  | none => rw [hc] at hx; cases hx
  | some c =>
   rw [hc] at hx
   simp only [Xw,Xf] at hx
   subst hx
   obtain ⟨c0,g1,g2⟩:=h2 i c hc
   exact g2 w lim u (hr.2.2 i _ u (by rw [Xl,g1];rfl) hu)
theorem Zjm (ρ:Nat→V) (s:Sh) (c:SC):(∀ n,c.bd n→(Zta s c).bd n)∧((c.den ρ).isCell=Xb→((Zta s c).den ρ).isCell=Xb)∧∀ (w:World) (lim:Lm) (u:Value),Rep w lim (c.den ρ) u→Rep w lim ((Zta s c).den ρ) u:=by
 unfold Zta
 split
 ·exact ⟨fun _ h=>h,fun _=>rfl,fun w lim u h=>VU (fun h=>h) h⟩
 ·exact ⟨fun _ h=>h,fun h=>h,fun _ _ _ h=>h⟩
theorem ZiT (ρ:Nat→V):∀ (l:List Sh) (cs:List SC),(ZpE l cs).length=cs.length∧∀ (i:Nat) (c:SC),(ZpE l cs)[i]? = Xa c→∃ c0 s,cs[i]? = Xa c0∧(c=c0∨c=Zta s c0)
 | [], cs => by cases cs <;> exact ⟨rfl, fun i c h => ⟨c, .bool, h, .inl rfl⟩⟩
 | s :: ss, [] => ⟨rfl, fun i c h => by simp [ZpE] at h⟩
 | s :: ss, c :: cs => by
  obtain ⟨h1,h2⟩:=ZiT ρ ss cs
  refine ⟨by simp [ZpE,h1],fun i x hx=>?_⟩
  cases i with
  | zero =>
   simp only [ZpE,XB,Xf] at hx
   exact ⟨c,s,rfl,.inr hx.symm⟩
  | succ i => exact h2 i x (by simpa [ZpE] using hx)
theorem Zuo {n:Nat} (P:Program) (T:TypeId) {vc:List SC} (h:∀ c∈vc,c.bd n):∀ c∈nrm P T vc,c.bd n:=by
 unfold nrm
 split
 ·rename_i sh _
  intro c hc
  obtain ⟨i,hi⟩:=XP.1 hc
  obtain ⟨c0,s,h0,e | e⟩:=(ZiT (fun _=>.i 0) sh vc).2 i c hi
  ·rw [e];exact h c0 (Xm h0)
  ·rw [e];exact (Zjm (fun _=>.i 0) s c0).1 n (h c0 (Xm h0))
 ·exact h
theorem Ztt (ρ:Nat→V) (P:Program) (T:TypeId) (vc:List SC):((nrm P T vc).map (SC.den ρ)).length=(vc.map (SC.den ρ)).length∧
  ∀ (w:World) (lim:Lm) (us:List Value),JH w lim (vc.map (SC.den ρ)) us→JH w lim ((nrm P T vc).map (SC.den ρ)) us:=by
 unfold nrm
 split
 ·rename_i sh _
  obtain ⟨h1,h2⟩:=ZiT ρ sh vc
  have hat:∀ (i:Nat) (x:AV),((ZpE sh vc).map (SC.den ρ))[i]? = Xa x→∃ x0,(vc.map (SC.den ρ))[i]? = Xa x0∧(x0.isCell=Xb→x.isCell=Xb)∧∀ (w:World) (lim:Lm) (u:Value),Rep w lim x0 u→Rep w lim x u:=by
   intro i x hx
   rw [Xl] at hx
   obtain ⟨c,hc,rfl⟩:=XY.1 hx
   obtain ⟨c0,s,h0,e | e⟩:=h2 i c hc
   ·subst e
    exact ⟨_,by rw [Xl,h0];rfl,fun h=>h,fun _ _ _ h=>h⟩
   ·subst e
    exact ⟨_,by rw [Xl,h0];rfl,(Zjm ρ s c0).2.1,(Zjm ρ s c0).2.2⟩
  refine ⟨by simp [h1],fun w lim us hr=>⟨by rw [← hr.1];simp [h1],fun x hx=>?_,fun i x u hx hu=>?_⟩⟩
  ·obtain ⟨i,hi⟩:=XP.1 hx
   obtain ⟨x0,h0,h3,_⟩:=hat i x hi
   exact h3 (hr.2.1 x0 (Xm h0))
  ·obtain ⟨x0,h0,_,h4⟩:=hat i x hx
   exact h4 w lim u (hr.2.2 i x0 u h0 hu)
 ·exact ⟨rfl,fun _ _ _ h=>h⟩
theorem Zjp (o:BC) (x:SC):ZpS o x = .c x∨∃ e s,ZpS o x = .own Xb e .nil∧x = .slice Xb s .nil:=by
 unfold ZpS
 split
 ·exact .inr ⟨_,_,rfl,rfl⟩
 ·exact .inl rfl
theorem ZeN:∀ (os:List BC) (xs:List SC),(Y9 os xs).length=xs.length
 | [], xs => by simp [Y9]
 | _ :: _, [] => rfl
 | _ :: os, _ :: xs => by simp [Y9, ZeN os xs]
theorem Zbq:∀ (os:List BC) (xs:List SC) (i:Nat) (y:BC),(Y9 os xs)[i]? = Xa y→∃ x,xs[i]? = Xa x∧(y = .c x∨∃ e s,y = .own Xb e .nil∧x = .slice Xb s .nil)
 | [], xs, i, y, h => by
  simp only [Y9,Xl] at h
  obtain ⟨x,hx,rfl⟩:=XY.1 h
  exact ⟨x,hx,.inl rfl⟩
 | _ :: _, [], i, y, h => by simp [Y9] at h
 | o :: _, x :: _, 0, y, h => by
  simp only [Y9,XB,Xf] at h
  subst h
  exact ⟨x,rfl,Zjp o x⟩
 | o :: os, x :: xs, i + 1, y, h => by
  simp only [Y9,X7] at h
  obtain ⟨x',h1,h2⟩:=Zbq os xs i y h
  exact ⟨x',by simpa using h1,h2⟩
theorem Zoe {n:Nat} (os:List BC) (xs:List SC) (h:∀ c∈xs,c.bd n):∀ c∈Y9 os xs,c.bd n:=by
 intro c hc
 obtain ⟨i,hi⟩:=XP.1 hc
 obtain ⟨x,h1,rfl | ⟨e,s,rfl,rfl⟩⟩:=Zbq os xs i c hi
 ·exact h x (Xm h1)
 ·trivial
theorem ZsN {P:Program} (ρ:Nat→V) (os:List BC) {vc0:List AV} {xs:List SC}
  (h:(xs.map (SC.den ρ)).length=vc0.length∧∀ (w:World) (lim:Lm) (us:List Value),JH w lim vc0 us→JH w lim (xs.map (SC.den ρ)) us) :
  ((Y9 os xs).map (BC.den ρ)).length=vc0.length∧∀ (w:World) (lim:Lm) (us:List Value),JH w lim vc0 us→
   (∀ z∈(Y9 os xs).map (BC.den ρ),ZdL z)∧∀ (j:Nat) (z:AV) (u:Value),((Y9 os xs).map (BC.den ρ))[j]? = Xa z→us[j]? = Xa u→Yl P w lim Xe z u:=by
 refine ⟨by rw [Xq,ZeN,← h.1,Xq],fun w lim us hr=>?_⟩
 have hr:=h.2 w lim us hr
 refine ⟨fun z hz=>?_,fun j z u hz hu=>?_⟩
 ·obtain ⟨y,hy,rfl⟩:=Xj.1 hz
  obtain ⟨i,hi⟩:=XP.1 hy
  obtain ⟨x,h1,rfl | ⟨e,s,rfl,rfl⟩⟩:=Zbq os xs i y hi
  ·exact .inl (hr.2.1 _ (Xj.2 ⟨x,Xm h1,rfl⟩))
  ·exact .inr (.inl ⟨_,_,_,rfl⟩)
 ·rw [Xl] at hz
  obtain ⟨y,hy,rfl⟩:=XY.1 hz
  obtain ⟨x,h1,he⟩:=Zbq os xs j y hy
  have hx:(xs.map (SC.den ρ))[j]? = Xa (x.den ρ):=by rw [Xl,h1];rfl
  have hc:=hr.2.1 _ (Xm hx)
  have hrep:=hr.2.2 j _ u hx hu
  rcases he with rfl | ⟨e,s,rfl,rfl⟩
  ·show Yl P w lim Xe (x.den ρ) u
   cases hxd:x.den ρ<;>rw [hxd] at hc hrep<;>simp [AV.isCell] at hc<;>exact hrep
  ·exact Zbb (s:=s) hrep
theorem Zjl {g:Nat→SV} {len:Nat} {ps:List (Nat×Operand)} {t:Nat} {cs:List BC} (h:Zgf g len ps=Xa (t,cs)):len=1∧ps = [(0,.tmp t)]∧g t = .aggo cs:=by
 unfold Zgf at h
 split at h
 ·rename_i t'
  split at h
  ·rename_i cs' hc
   simp only [Xf,Xt] at h
   obtain ⟨rfl,rfl⟩:=h
   exact ⟨rfl,rfl,hc⟩
  ·cases h
 ·cases h
theorem Zf8 {T:TypeId} {len:Nat} {parts:Array (Nat×Operand)} (hg:∀ d,(g d).bd n) (ho:o.op = .buildSlice T len parts) (h:(Yi P E tx tk g o n k).wp P R A ρ):YZ tx P R A ρ g o n k:=by
 simp only [Yi,ho] at h
 split at h
 ·rename_i t cs hap
  obtain ⟨rfl,hps,hgt⟩:=Zjl hap
  unfold Zht at h
  exact h.elim
 split at h
 ·rename_i e hT
  split at h
  ·rename_i i hi
   split at h
   ·rename_i z hz
    split at h
    ·rename_i zc hzc
     split at h
     ·rename_i hh
      split at h
      ·rename_i cs sh hcs hsh
       split at h
       ·rename_i cs' hcs'
        have hb:∀ c∈cs,c.bd n:=ZcK _ _ _ _ (fun c hc=>by
         obtain ⟨l,hl,hc⟩:=UH.1 hc
         rw [(X6.1 hl).2] at hc
         exact KE hzc c hc) (ZjT hg parts) hcs
        refine Ja h (x:=.own _ e _) (Zrl _ _ (V8 _ _ _ hcs' hb) _) ?_
        have h1:=Yx ρ z.cells.toList
        rw [hzc] at h1
        have h2:=Zbt ρ _ _ _ _ hcs
        rw [← Zhx,List.map_flatten,List.map_replicate] at h2
        have:=ZdI (E.exO o) ho hT hi hz h1.symm hh.1 hh.2.1 hh.2.2.1 hh.2.2.2 h2 (Za0 ρ _ _ _ hcs')
        rw [← ZnF] at this
        exact this
       ·exact h.elim
      ·exact h.elim
     ·exact h.elim
    ·exact h.elim
   ·exact h.elim
  ·exact h.elim
 ·exact h.elim
theorem Zpu (ρ:Nat→V) (x:SC):Yv P (x.den ρ)=x.den ρ:=by
 cases x with
 | cel p => exact VX (Q := fun z => Yv P z = z) _ (fun _ _ => rfl) (fun _ _ _ => rfl) (fun _ => rfl) (fun _ _ => rfl)
 | _ => rfl
theorem Zcf:∀ (l:List Sh) (n:Nat),(ZH l n).length=l.length
 | [], _ => rfl
 | s :: l, n => by simp only [ZH, XA, Zcf l]
theorem Zi7 {T:TypeId} {a:Operand} {all:Bool} {p:Nat×Nat×TypeId×LE×IE×Nat×Nat} (hg:∀ d,(g d).bd n) (ho:o.op = .load T a) (hp:ZjX P g a=Xa p) (h:(Zf9 P all tk g T p n k).wp P R A ρ):YZ tx P R A ρ g o n k:=by
 unfold Zf9 at h
 exact h.elim
theorem Zha {T:TypeId} {a x:Operand} {p:Nat×Nat×TypeId×LE×IE×Nat×Nat} (hg:∀ d,(g d).bd n) (htop:∀ i,E.top≤i→g i = .dead) (ho:o.op = .store T a x) (hp:ZjX P g a=Xa p) (h:(ZdM P E tx g T x p n k).wp P R A ρ):YZ tx P R A ρ g o n k:=by
 unfold ZdM at h
 exact h.elim
theorem ZiP {T:TypeId} {a:Operand} {fgt:Bool} {d off:Nat} {cs:List BC} (hg:∀ d,(g d).bd n) (htop:∀ i,E.top≤i→g i = .dead) (ho:o.op = .load T a) (hT:Ji P T=Xa Xb) (ha:Jk P g a = .ptr d off) (hd:g d = .box cs) (h:(Zgk P E tx fgt g T d off cs n k).wp P R A ρ):YZ tx P R A ρ g o n k:=by
 unfold Zgk at h
 exact h.elim
theorem ZpO {T:TypeId} {a:Operand} {d off m:Nat} {i:IE} (hg:∀ d,(g d).bd n) (ho:o.op = .load T a) (hT:Ji P T=Xa Xc) (ha:Jk P g a = .vptr d off m i) (h:(ZsT g d off m i n k).wp P R A ρ):YZ tx P R A ρ g o n k:=by
 unfold ZsT at h
 exact h.elim
theorem ZsY {T:TypeId} {a:Operand} (hg:∀ d,(g d).bd n) (htop:∀ i,E.top≤i→g i = .dead) (ho:o.op = .load T a) (h:(Yi P E tx tk g o n k).wp P R A ρ):YZ tx P R A ρ g o n k:=by
 have ba:=Zy (P:=P) hg a
 simp only [Yi,ho] at h
 split at h
 ·rename_i p hp
  exact Zi7 hg ho hp h
 split at h
 ·rename_i d off hT ha
  split at h
  ·rename_i cs hcs
   split at h
   ·rename_i hle
    have hb:=hg d
    rw [hcs] at hb
    refine Zcv h (fun c hc=>?_) (by simp) ?_
    ·obtain ⟨y,hy,rfl⟩:=Xj.1 hc
     exact Zos (hb y (XV (XQ hy)))
    ·have:Ko tx P o (fun d=>(g d).den ρ) (.agg (((((cs.map (BC.den ρ)).drop off).take (P.cellsOf T))).map (Yv P))) [] (fpL tx d off (P.cellsOf T)):=by
      unfold fpL
      split
      ·rename_i hk
       simp only [Xr,decide_eq_true_eq,XE,Ux] at hk
       exact Zbk (cs:=cs.map (BC.den ρ)) ho hT (Zg ρ ha) (by rw [hcs];rfl) (by simpa using hle.1) (W4 hle.2.1 ρ) (Ze2 hle.2.2 ρ) hk.1 hk.2
      ·exact (ZaW (cs:=cs.map (BC.den ρ)) ho hT (Zg ρ ha) (by rw [hcs];rfl) (by simpa using hle.1) (W4 hle.2.1 ρ) (Ze2 hle.2.2 ρ)).t
     have he:(SV.agg (((cs.drop off).take (P.cellsOf T)).map (ZeY P))).den ρ = .agg (((((cs.map (BC.den ρ)).drop off).take (P.cellsOf T))).map (Yv P)):=by
      simp only [SV.den,Wg,← Up,← Us]
      congr 1
      exact Wr fun b _=>Zfa P ρ b
     rw [he]
     exact this
   ·exact ZiP hg htop ho hT ha hcs h
  ·exact h.elim
 ·rename_i d off hT ha
  split at h
  ·rename_i cs hcs
   have hb:=hg d
   rw [hcs] at hb
   have hd:(fun d=>(g d).den ρ) d = .box (cs.map (BC.den ρ)):=by show (g d).den ρ=_;rw [hcs];rfl
   split at h
   ·rename_i b e xs hx
    have hx':(cs.map (BC.den ρ))[off]? = Xa (.own b e (xs.den ρ)):=by rw [Xl,hx];rfl
    have hbx:=hb _ (Xm hx)
    split at h
    ·split at h
     ·rename_i us _ hus
      obtain ⟨q1,q2⟩:=ZoU ρ htop hus
      split at h
      case isFalse=>exact h.elim
      rename_i hmv
      refine Zcv h hbx (fun u hu=>?_) ?_
      ·rcases Xv.1 hu with hu | hu
       ·rw [q1 u hu];trivial
       ·rw [XD] at hu
        subst hu
        intro c hc
        rcases Uq hc with hc | rfl
        ·exact hb c hc
        ·trivial
      ·have:=Zex (T':=tx) ho hT (Zg ρ ha) hd hx' q2 (Zk7 ρ hmv)
       rw [XN]
       simp only [Xh,XG,SV.den,UQ]
       exact this
     ·have:Ko tx P o (fun d=>(g d).den ρ) (.mref d (off+1)) [] (fpL tx d off 1):=by
       unfold fpL
       split
       ·rename_i hk
        simp only [Xr,decide_eq_true_eq,XE,Ux] at hk
        exact Zbe ho hT (Zg ρ ha) hd hx' (by simpa using hk.2 0 (by omega))
       ·exact (Zbm ho hT (Zg ρ ha) hd hx').t
      exact Zcv h trivial (by simp) this
    ·split at h
     ·refine Zij h hbx (us1 (fun c hc=>?_)) ?_
      ·rcases Uq hc with hc | rfl
       ·exact hb c hc
       ·exact hbx
      ·have:=Zf6 ho hT (Zg ρ ha) hd hx'
       simp only [Xh,XG,SV.den,UQ]
       exact this
     ·exact Ja h hbx (K0 ho hT (Zg ρ ha) hd hx' (fun e xs h=>by cases h) (fun h=>by cases h))
   ·rename_i x hx
    have hx':(cs.map (BC.den ρ))[off]? = Xa (x.den ρ):=by rw [Xl,hx];rfl
    have:Ko tx P o (fun d=>(g d).den ρ) (Yv P (x.den ρ)) [] (fpL tx d off 1):=by
     unfold fpL
     split
     ·rename_i hk
      simp only [Xr,decide_eq_true_eq,XE,Ux] at hk
      exact ZaL ho hT (Zg ρ ha) hd hx' (fun e xs h=>by cases x<;>first | cases h | exact (Jb h rfl).elim) (fun h=>by cases x<;>first | cases h | exact (Jb h rfl).elim) (by simpa using hk.2 0 (by omega))
     ·exact (K0 ho hT (Zg ρ ha) hd hx' (fun e xs h=>by cases x<;>first | cases h | exact (Jb h rfl).elim) (fun h=>by cases x<;>first | cases h | exact (Jb h rfl).elim)).t
    rw [Zpu] at this
    exact Zcv h (hb _ (Xm hx)) (by simp) this
   ·exact h.elim
   ·exact h.elim
  ·exact h.elim
 ·rename_i agg d q i s off hT ha
  split at h
  ·rename_i e l hp
   split at h
   ·rename_i sh hsh
    split at h
    ·rename_i hh
     obtain ⟨rfl,h2,h3,h4,hnm⟩:=hh
     obtain ⟨vs,w1,w2,w3⟩:=h
     have hbd:=JK sh n
     have hat:=Jv ρ hp
     have hlen:(ZH sh n).length=P.cellsOf e:=by
      have hsl:∀ (l:List Sh) (n:Nat),(ZH l n).length=l.length:=by
       intro l
       induction l with
       | nil => intro n; rfl
       | cons s l ih => intro n; simp only [ZH, XA, ih]
      rw [hsl,h2]
     refine ⟨bind ρ n vs,n+sh.length,_,[],[d],XU _ _,ZdH ρ n vs,?_,by simp,w3,?_⟩
     ·cases agg with
      | true => exact fun c hc => hbd c (XV (XQ hc))
      | false =>
       show SV.bd _ (match (ZH sh n)[off]? with | some x=>.c x | none=>.dead)
       split
       ·rename_i x hx;exact hbd x (Xm hx)
       ·trivial
     ·cases agg with
      | true =>
       have:=ZaX ho hT (Zg ρ ha) (show Zx ((fun d=>(g d).den ρ) d) q=_ from hat) w2 h3 hnm
       rw [← Us,← Up] at this
       exact this.t.s
      | false =>
       have hon:P.cellsOf T=1∨off < (ZH sh n).length:=.inr (by omega)
       have hlt:off < (ZH sh n).length:=by omega
       refine Ko.s ?_
       show Ko tx P o _ ((match (ZH sh n)[off]? with | some x=>SV.c x | none=>.dead).den (bind ρ n vs)) _ _
       rw [Xs hlt]
       exact (ZaA ho hT (Zg ρ ha) (show Zx ((fun d=>(g d).den ρ) d) q=_ from hat) w2 (by omega) (by rw [Xl,Xs hlt];rfl) hnm).t
    ·exact h.elim
   ·exact h.elim
  ·exact h.elim
 ·rename_i cs hT ha
  rw [ha] at ba
  split at h
  ·rename_i hle
   refine Ja h (fun c hc=>ba c (XQ hc)) ?_
   have:=ZeF (cs:=cs.map (SC.den ρ)) ho hT (Zg ρ ha) (by simpa using hle)
   rw [← Up] at this
   exact this
  ·exact h.elim
 ·rename_i cs hT ha
  rw [ha] at ba
  split at h
  ·rename_i x rest
   exact Ja h (ba x (by simp)) (Zc7 (cs:=rest.map (SC.den ρ)) ho hT (Zg ρ ha))
  ·exact h.elim
 ·rename_i d off m i hT ha
  exact ZpO hg ho hT ha h
 ·exact h.elim
theorem Zop {T:TypeId} {a x:Operand} {d off m:Nat} {i:IE} (hg:∀ d,(g d).bd n) (ho:o.op = .store T a x) (ha:Jk P g a = .vptr d off m i) (h:(ZmQ P g T x d off m i n k).wp P R A ρ):YZ tx P R A ρ g o n k:=by
 unfold ZmQ at h
 exact h.elim
theorem Zpw {T:TypeId} {a x:Operand} (hg:∀ d,(g d).bd n) (htop:∀ i,E.top≤i→g i = .dead) (ho:o.op = .store T a x) (h:(Yi P E tx tk g o n k).wp P R A ρ):YZ tx P R A ρ g o n k:=by
 have bx:=Zy (P:=P) hg x
 simp only [Yi,ho] at h
 split at h
 ·rename_i p hp
  exact Zha hg htop ho hp h
 split at h
 ·rename_i d off ha
  split at h
  ·rename_i cs hcs
   have hb:=hg d
   rw [hcs] at hb
   have hd:(fun d=>(g d).den ρ) d = .box (cs.map (BC.den ρ)):=by show (g d).den ρ=_;rw [hcs];rfl
   split at h
   ·rename_i t b e xs h1 h2
    have hx:x = .tmp t:=by cases x<;>simp [ZT] at h1;rw [h1]
    subst hx
    simp only [ZT,Xw,Xf] at h2
    have ht:=hg t
    rw [h2] at ht
    split at h
    ·rename_i us hus
     split at h
     ·rename_i hh
      obtain ⟨us',rfl,q1,q2,q3⟩:=Ye ρ htop (t:=t) h2 hus
      refine Zcv h trivial (fun u hu=>?_) ?_
      ·rcases Xv.1 hu with hu | hu
       ·exact Yb hus ht u hu
       ·rw [XD] at hu
        subst hu
        intro c hc
        rcases Uq hc with hc | rfl
        ·exact hb c hc
        ·exact ht
      ·have:=ZeB (T':=tx) (e:=e) (xs:=xs.den ρ) ho (Zg ρ ha) hd (by show (g t).den ρ=_;rw [h2];rfl) hh.1 (by simpa using hh.2.1) (ZkS ρ htop hh.2.2) q2
       rw [XN,q1]
       simp only [Xh,XG,SV.den,UQ]
       exact this
     ·exact h.elim
    ·exact h.elim
   ·rename_i t vc h1 h2
    have hx:x = .tmp t:=by cases x<;>simp [ZT] at h1;rw [h1]
    subst hx
    simp only [ZT,Xw,Xf] at h2
    have ht:=hg t
    rw [h2] at ht
    split at h
    ·rename_i hh
     refine Zij h trivial (us2 trivial (fun c hc=>?_)) ?_
     ·rcases Xv.1 hc with hc | hc
      ·rcases Xv.1 hc with hc | hc
       ·exact hb c (XQ hc)
       ·exact ht c hc
      ·exact hb c (XV hc)
     ·have:=Zdi (vc:=vc.map (BC.den ρ)) ho (Zg ρ ha) hd (show (fun d=>(g d).den ρ) t = .aggo (vc.map (BC.den ρ)) by show (g t).den ρ=_;rw [h2];rfl) (by simpa using hh.1) (by omega) (by simpa using hh.2.2.1) (W4 hh.2.2.2 ρ)
      have he:(SV.box (cs.take off++vc++cs.drop (off+P.cellsOf T))).den ρ = .box ((cs.map (BC.den ρ)).take off++vc.map (BC.den ρ)++(cs.map (BC.den ρ)).drop (off+P.cellsOf T)):=by
       simp only [SV.den,XN,Up,Us]
      simp only [Xh,XG,he]
      exact this
    ·exact h.elim
   ·split at h
    ·rename_i vc hvc
     split at h
     ·rename_i hh
      refine Zcv h trivial (fun u hu=>?_) ?_
      ·rw [XD] at hu;subst hu;intro c hc
       rcases Xv.1 hc with hc | hc
       ·rcases Xv.1 hc with hc | hc
        ·exact hb c (XQ hc)
        ·exact Zoe _ _ (Zuo P T (W8 hvc bx)) c hc
       ·exact hb c (XV hc)
      ·have:=ZlV (vc:=(Y9 (cs.drop off) (nrm P T vc)).map (BC.den ρ)) ho (Zg ρ ha) hd (Yd P g ρ x).symm (Vk ρ hvc) (by simpa using hh.1) (by omega) (by simpa using hh.2.2.1) (ZkS ρ htop hh.2.2.2) (ZsN ρ (cs.drop off) (Ztt ρ P T vc))
       have he:(SV.box (cs.take off++Y9 (cs.drop off) (nrm P T vc)++cs.drop (off+P.cellsOf T))).den ρ = .box ((cs.map (BC.den ρ)).take off++(Y9 (cs.drop off) (nrm P T vc)).map (BC.den ρ)++(cs.map (BC.den ρ)).drop (off+P.cellsOf T)):=by
        simp only [SV.den,XN,Up,Us]
       simp only [Xh,XG,he]
       exact this
     ·exact h.elim
    ·exact h.elim
  ·exact h.elim
 ·rename_i d q i s off ha
  split at h
  ·rename_i e l vc hp hvc
   have hpt:=Zy (P:=P) hg a
   rw [ha] at hpt
   have hat:=Jv ρ hp
   split at h
   ·rename_i sh hsh
    split at h
    ·rename_i vc' hvc'
     split at h
     ·rename_i hh
      obtain ⟨r1,r2,h⟩:=h
      have r1':0≤i.den ρ:=r1
      have r2':i.den ρ < ((l.den ρ).length:Int):=r2
      have hbv:=V8 _ _ _ hvc' (W8 hvc bx)
      refine Zij h trivial (us1 (Zdu (hg d) ⟨Vd hp (hg d),hpt,KC _ hbv⟩)) ?_
      obtain ⟨h1,h2,h3,h4,h5,hnm⟩:=hh
      subst h1
      have:=Zdv (vc:=vc.map (SC.den ρ)) (vc':=vc'.map (SC.den ρ)) ho (Zg ρ ha) (show Zx ((fun d=>(g d).den ρ) d) q=_ from hat) (Zoz ρ h5) (Yd P g ρ x).symm (Vk ρ hvc) (by simpa using h2) (by omega) (by omega) h4 (Za0 ρ _ _ _ hvc') hnm
      rw [← YB] at this
      simp only [Xh,XG,Zcl]
      exact this
     ·exact h.elim
    ·exact h.elim
   ·exact h.elim
  ·exact h.elim
 ·rename_i d off m i ha
  exact Zop hg ho ha h
 ·exact h.elim
theorem ZiZ {x:Operand} (hg:∀ d,(g d).bd n) (ho:o.op = .nilCheck x) (h:(Yi P E tx tk g o n k).wp P R A ρ):YZ tx P R A ρ g o n k:=by
 have bx:=Zy (P:=P) hg x
 simp only [Yi,ho] at h
 split at h
 ·rename_i d off hx
  exact Ja h trivial (VS ho (Zg ρ hx) (.inl ⟨_,_,rfl⟩))
 ·rename_i cs hx
  rw [hx] at bx
  exact Ja h bx (VS ho (Zg ρ hx) (.inr (.inl ⟨_,rfl⟩)))
 ·rename_i d q i s off hx
  rw [hx] at bx
  split at h
  ·rename_i e l hpl
   split at h
   ·rename_i hm
    exact Ja h bx (VS ho (Zg ρ hx) (.inr (.inr ⟨_,_,_,_,_,rfl,Jv ρ hpl,hm,by simp⟩)))
   ·exact h.elim
  ·exact h.elim
 ·exact h.elim
theorem Zsy {op:UnOp} {T:TypeId} {x:Operand} (hg:∀ d,(g d).bd n) (ho:o.op = .unOp op T x) (h:(Yi P E tx tk g o n k).wp P R A ρ):YZ tx P R A ρ g o n k:=by
 have bx:=Zy (P:=P) hg x
 simp only [Yi,ho] at h
 split at h
 ·rename_i b hx
  rw [hx] at bx
  refine Ja h (Zqh bx) ?_
  have:=Zqq ho (Zg ρ hx)
  rw [← ZnU] at this
  exact this
 ·rename_i kd e hx
  rw [hx] at bx
  exact Ja h ⟨trivial,bx⟩ (Zqj ho (Zg ρ hx))
 ·rename_i kd e hx
  rw [hx] at bx
  exact Ja h ⟨trivial,bx⟩ (Zmc ho (Zg ρ hx))
 ·exact h.elim
theorem Zlz {S T:TypeId} {x:Operand} (hg:∀ d,(g d).bd n) (ho:o.op = .convert S T x) (h:(Yi P E tx tk g o n k).wp P R A ρ):YZ tx P R A ρ g o n k:=by
 have bx:=Zy (P:=P) hg x
 simp only [Yi,ho] at h
 split at h
 ·rename_i hS hT hx
  rw [hx] at bx
  exact Ja h bx (ZmU ho hS hT (Zg ρ hx))
 ·rename_i hS hT hx
  rw [hx] at bx
  split at h
  ·rename_i he
   split at h
   ·rename_i hs
    subst hs
    exact Ja h.2 bx (Zlj ho hS he hT (Zg ρ hx) h.1)
   ·exact h.elim
  ·exact h.elim
 ·exact h.elim
theorem ZgY {T:TypeId} {x:Operand} {f:Nat} (hg:∀ d,(g d).bd n) (ho:o.op = .fieldAddr T x f) (h:(Yi P E tx tk g o n k).wp P R A ρ):YZ tx P R A ρ g o n k:=by
 have bx:=Zy (P:=P) hg x
 simp only [Yi,ho] at h
 split at h
 ·rename_i hf hx
  exact Ja h trivial (ZeG ho hf (Zg ρ hx))
 ·rename_i off cs hf hx
  rw [hx] at bx
  refine Ja h (fun c hc=>bx c (XV hc)) ?_
  have:=ZdA (cs:=cs.map (SC.den ρ)) ho hf (Zg ρ hx)
  rw [← Us] at this
  exact this
 ·rename_i off d q i s off' hf hx
  rw [hx] at bx
  split at h
  ·rename_i e l hpl
   split at h
   ·rename_i hm
    refine Ja h bx ?_
    have:=Zdt ho hf (Zg ρ hx) (Jv ρ hpl) hm
    rw [Nat.add_assoc] at this
    exact this
   ·exact h.elim
  ·exact h.elim
 ·exact h.elim
theorem Zp8 {T:TypeId} {x:Operand} {f:Nat} (hg:∀ d,(g d).bd n) (ho:o.op = .field T x f) (h:(Yi P E tx tk g o n k).wp P R A ρ):YZ tx P R A ρ g o n k:=by
 have bx:=Zy (P:=P) hg x
 simp only [Yi,ho] at h
 split at h
 ·rename_i off agg sz cs hf hs hx
  rw [hx] at bx
  split at h
  ·rename_i hh
   have hx':Zn P (fun d=>(g d).den ρ) x = .agg (cs.map (SC.den ρ)):=Zg ρ hx
   cases agg with
   | true =>
    simp only at h
    refine Ja h (fun c hc=>bx c (XV (XQ hc))) ?_
    have:=Zeh (y:=.agg (((cs.map (SC.den ρ)).drop off).take sz)) ho hf hs hx' (by simpa using hh.1) hh.2 (.inl ⟨rfl,rfl⟩)
    rw [← Us,← Up] at this
    exact this
   | false =>
    simp only at h
    split at h
    ·rename_i c hc
     refine Ja h (bx c (Xm hc)) ?_
     exact Zeh (y:=c.den ρ) ho hf hs hx' (by simpa using hh.1) hh.2 (.inr ⟨rfl,by simp [hc],ZaH ρ c⟩)
    ·exact h.elim
  ·exact h.elim
 ·exact h.elim
theorem ZkL {ix:IE} {d off s m:Nat} {kk:SV→STree} : ∀ (j:Nat),j≤m→(ZrZ ix d off s m kk j).wp P R A ρ→∃ i:Nat,i < m∧ix.den ρ=(i:Int)∧(kk (.ptr d (off+i*s))).wp P R A ρ
 | 0, _, h => h.elim
 | 1, hj, h => by
  obtain ⟨h1,h2,h3⟩:=h
  have h1':((m-1:Nat):Int)≤ix.den ρ:=h1
  have h2':ix.den ρ≤((m-1:Nat):Int):=h2
  exact ⟨m-1,by omega,by omega,h3⟩
 | j + 2, hj, h => by
  obtain ⟨h1,h2⟩:=h
  by_cases he:ix.den ρ=((m-(j+2):Nat):Int)
  ·exact ⟨m-(j+2),by omega,he,h1 (by simp [BE.den,IE.den,cop,he])⟩
  ·exact ZkL (j+1) (by omega) (h2 (by simp [BE.den,IE.den,cop,he]))
theorem ZeC {P:Program} {o:Oper} {σ:Nat→AV} {T:TypeId} {x i:Operand} {k:IntKind} {z:Int} {s:ByteArray} (ho:o.op = .index T x i) (hT:P.underlying T=Xa .string) (hx:Zn P σ x = .val (.string s)) (hi:Zn P σ i = .val (.int k z)) (h0:0≤z) (h1:z < (s.size:Int)) :
  Jt P o σ (.val (.int .u8 ((s.data.toList.getD z.toNat 0).toNat:Int))) [] []:=by
 refine Zp [] rfl fun c hc σ' tm w lim X hg hfp hsim=>⟨.int .u8 ((s.data.toList.getD z.toNat 0).toNat:Int),?_,.val rfl⟩
 rw [ho] at hg
 have hv:=Z4 hc hsim hx (hg x (by simp [Op.operands]))
 have hw:=Z4 hc hsim hi (hg i (by simp [Op.operands]))
 have hlt:z.toNat < s.size:=by omega
 have hg1:s[z.toNat]? = Xa s[z.toNat]:=by simp [hlt]
 have hg2:s.data.toList.getD z.toNat 0=s[z.toNat]:=by
  rw [List.getD_eq_getElem?_getD,Xs (by simpa using hlt)]
  simp
  rfl
 simp only [execOp,ho,hv,hw,Instr.index,asIntOf,Sem.run_bind,Sem.run_pure,Result.andThen_ok,run_underlying hT,if_pos h0,hg1,hg2]
theorem Zql {T:TypeId} {x i:Operand} (hg:∀ d,(g d).bd n) (ho:o.op = .index T x i) (h:(Yi P E tx tk g o n k).wp P R A ρ):YZ tx P R A ρ g o n k:=by
 simp only [Yi,ho] at h
 split at h
 ·rename_i s kd ie hT hx hi
  obtain ⟨r1,r2,h⟩:=h
  have bx:=Zy (P:=P) hg x
  have bi:=Zy (P:=P) hg i
  rw [hx] at bx
  rw [hi] at bi
  exact Ja h ⟨bx,bi⟩ (ZeC ho hT (Zg ρ hx) (Zg ρ hi) r1 r2)
 ·exact h.elim
theorem Zhh {T:TypeId} {x i:Operand} (hg:∀ d,(g d).bd n) (ho:o.op = .indexAddr T x i) (h:(Yi P E tx tk g o n k).wp P R A ρ):YZ tx P R A ρ g o n k:=by
 simp only [Yi,ho] at h
 split at h
 ·rename_i hT hx hi
  split at h
  ·rename_i sh hsh
   split at h
   ·rename_i hh
    obtain ⟨vs,h1,h2,h3⟩:=h
    exact ⟨bind ρ n vs,n+sh.length,.eptr (ZH sh n),[],[],XU _ _,ZdH ρ n vs,JK sh n,by simp,h3,
     (ZlC ho hT hh.1 (by omega) (Zg ρ hx) (Zg ρ hi) h1 h2).t.s⟩
   ·exact h.elim
  ·exact h.elim
 ·rename_i m e d off kd ix hT hx hi
  split at h
  ·rename_i hh
   split at h
   ·rename_i z
    split at h
    ·rename_i hz
     exact Ja h trivial (K4 (kd:=kd) (z:=z) ho hT (by omega) (Zg ρ hx) (Zg ρ hi) hz.1 hz.2)
    ·exact h.elim
   ·split at h
    ·rename_i hv
     obtain ⟨r1,r2,h⟩:=h
     have r1':0≤ix.den ρ:=r1
     have r2':ix.den ρ < (m:Int):=r2
     have:=K4 (kd:=kd) (z:=ix.den ρ) ho hT (by omega) (Zg ρ hx) (Zg ρ hi) r1' r2'
     rw [hv.2,Nat.mul_one] at this
     have bi:=Zy (P:=P) hg i
     rw [hi] at bi
     exact Ja h bi this
    obtain ⟨i',h1,h2,h3⟩:=ZkL m (Xz _) h
    have:=K4 (kd:=kd) (z:=(i':Int)) ho hT (by omega) (Zg ρ hx) (by rw [← h2];exact Zg ρ hi) (by omega) (by omega)
    rw [Ws] at this
    exact Ja h3 trivial this
  ·exact h.elim
 ·rename_i e d q kd ix hT hx hi
  split at h
  ·rename_i e' l hp
   split at h
   ·rename_i hh
    obtain ⟨rfl,h0,hnm⟩:=hh
    obtain ⟨r1,r2,h⟩:=h
    have r1':0≤ix.den ρ:=r1
    have r2':ix.den ρ < ((l.den ρ).length:Int):=r2
    have bi:=Zy (P:=P) hg i
    rw [hi] at bi
    exact Ja h bi (Zc6 ho hT (by omega) (Zg ρ hx) (show Zx ((fun d=>(g d).den ρ) d) q=_ from Jv ρ hp) rfl (Zg ρ hi) r1' (by omega) hnm)
   ·exact h.elim
  ·exact h.elim
 ·exact h.elim
theorem ZsM {T:TypeId} {a b:Operand} (hg:∀ d,(g d).bd n) (ho:o.op = .makeSlice T a b) (h:(Yi P E tx tk g o n k).wp P R A ρ):YZ tx P R A ρ g o n k:=by
 simp only [Yi,ho] at h
 split at h
 ·rename_i m m' ha hb
  split at h
  ·rename_i e hT
   have bm:=Zy (P:=P) hg a
   rw [ha] at bm
   split at h
   ·rename_i i hi
    split at h
    ·rename_i z hz
     split at h
     ·rename_i zc sh hzc hsh
      split at h
      ·rename_i zc' hzc'
       split at h
       ·rename_i hzs
        have h1:=Yx ρ z.cells.toList
        rw [hzc] at h1
        obtain ⟨r1,r2,r3,h⟩:=h
        have r2':m.den ρ≤m'.den ρ:=r2
        have r3':m'.den ρ≤m.den ρ:=r3
        have hmm:m'.den ρ=m.den ρ:=by omega
        refine Ja h (x:=.own (!(E.exO o)) e _) ⟨bm,KC _ (V8 _ _ _ hzc' (KE hzc))⟩ ?_
        have hb':Zn P (fun d=>(g d).den ρ) b = .val (.int .i64 (m.den ρ)):=by rw [← hmm];exact Zg ρ hb
        have:=ZnL (!(E.exO o)) (zc:=zc.map (SC.den ρ)) (zc':=zc'.map (SC.den ρ)) ho hT hi hz hzs.1 h1.symm (Zg ρ ha) hb' r1.1 r1.2 hzs.2 (Za0 ρ _ _ _ hzc')
        rw [← YB] at this
        exact this
       ·exact h.elim
      ·exact h.elim
     ·exact h.elim
    ·exact h.elim
   ·exact h.elim
  ·exact h.elim
 ·exact h.elim
theorem ZqG {T:TypeId} {x:Operand} {lo hi mx:Option Operand} (hg:∀ d,(g d).bd n) (htop:∀ i,E.top≤i→g i = .dead) (ho:o.op = .slice T x lo hi mx) (h:(Yi P E tx tk g o n k).wp P R A ρ):YZ tx P R A ρ g o n k:=by
 have bx:=Zy (P:=P) hg x
 simp only [Yi,ho] at h
 split at h
 ·rename_i e full s xs hT hx
  rw [hx] at bx
  have sx:=Zg ρ hx
  split at h
  ·rename_i hh
   have hs0:P.cellsOf e≠0:=by omega
   unfold Zo3 at h
   split at h
   ·rename_i k1 k2 h1 h2 h3
    cases lo with
    | some y => simp at h1
    | none =>
     cases hi with
     | none => simp at h2
     | some y =>
      cases mx with
      | none => simp at h3
      | some z =>
       simp only [Xw,Xf] at h2 h3
       exact Ja h trivial (ZlE ho hT hs0 sx (Zg ρ h2) (Zg ρ h3))
   ·rename_i h1 h2 h3
    cases lo with
    | some y => simp at h1
    | none =>
     cases hi with
     | some y => simp at h2
     | none =>
      cases mx with
      | some z => simp at h3
      | none =>
       have:=ZcV (l:=0) (h:=(xs.den ρ).length) (f':=full) ho hT hh.1 hs0 sx (X9 _) (Xz _) (.inl ⟨rfl,rfl⟩) (.inl ⟨rfl,rfl⟩) (fun h=>⟨h,rfl⟩)
       rw [Ti,UR] at this
       exact Ja h bx this
   ·rename_i kl l h1 h2 h3
    cases lo with
    | none => simp at h1
    | some y =>
     cases hi with
     | some y => simp at h2
     | none =>
      cases mx with
      | some z => simp at h3
      | none =>
       simp only [Xw,Xf] at h1
       have by1:=Zy (P:=P) hg y
       rw [h1] at by1
       obtain ⟨r1,r2,h⟩:=h
       have r1':0≤l.den ρ:=r1
       have r2':l.den ρ≤((xs.den ρ).length:Int):=r2
       have sy:=Zg ρ h1
       have e1:((l.den ρ).toNat:Int)=l.den ρ:=U7 r1'
       have:=ZcV (l:=(l.den ρ).toNat) (h:=(xs.den ρ).length) (f':=full) ho hT hh.1 hs0 sx (by omega) (Xz _) (.inr ⟨y,kl,rfl,by rw [e1];exact sy⟩) (.inl ⟨rfl,rfl⟩) (fun h=>⟨h,rfl⟩)
       rw [Ti] at this
       exact Ja h ⟨bx,by1⟩ this
   ·rename_i kl l h1 h2 h3
    cases lo with
    | some y => simp at h1
    | none =>
     cases hi with
     | none => simp at h2
     | some y =>
      cases mx with
      | some z => simp at h3
      | none =>
       simp only [Xw,Xf] at h2
       have by1:=Zy (P:=P) hg y
       rw [h2] at by1
       obtain ⟨r1,r2,h⟩:=h
       have r1':0≤l.den ρ:=r1
       have r2':l.den ρ≤((xs.den ρ).length:Int):=r2
       have sy:=Zg ρ h2
       have e1:((l.den ρ).toNat:Int)=l.den ρ:=U7 r1'
       have:=ZcV (l:=0) (h:=(l.den ρ).toNat) (f':=Xc) ho hT hh.1 hs0 sx (X9 _) (by omega) (.inl ⟨rfl,rfl⟩) (.inr ⟨y,kl,rfl,by rw [e1];exact sy⟩) (fun h=>by simp at h)
       rw [UR] at this
       exact Ja h ⟨bx,by1⟩ this
   ·rename_i kl l kh hb h1 h2 h3
    cases lo with
    | none => simp at h1
    | some y =>
     cases hi with
     | none => simp at h2
     | some z =>
      cases mx with
      | some z => simp at h3
      | none =>
       simp only [Xw,Xf] at h1 h2
       have by1:=Zy (P:=P) hg y
       rw [h1] at by1
       have by2:=Zy (P:=P) hg z
       rw [h2] at by2
       obtain ⟨r1,r2,r3,h⟩:=h
       have r1':0≤l.den ρ:=r1
       have r2':l.den ρ≤hb.den ρ:=r2
       have r3':hb.den ρ≤((xs.den ρ).length:Int):=r3
       have sy:=Zg ρ h1
       have sz:=Zg ρ h2
       have e1:((l.den ρ).toNat:Int)=l.den ρ:=U7 r1'
       have e2:((hb.den ρ).toNat:Int)=hb.den ρ:=U7 (by omega)
       have:=ZcV (l:=(l.den ρ).toNat) (h:=(hb.den ρ).toNat) (f':=Xc) ho hT hh.1 hs0 sx (by omega) (by omega) (.inr ⟨y,kl,rfl,by rw [e1];exact sy⟩) (.inr ⟨z,kh,rfl,by rw [e2];exact sz⟩) (fun h=>by simp at h)
       exact Ja h ⟨⟨bx,by2⟩,by1⟩ this
   ·exact h.elim
  ·exact h.elim
 ·rename_i e d q hT hx
  split at h
  ·rename_i k1 k2 h2 h3
   split at h
   ·rename_i e' l' hp
    split at h
    ·rename_i h0
     cases hi with
     | none => simp at h2
     | some y =>
      cases mx with
      | none => simp at h3
      | some z =>
       simp only [Xw,Xf] at h2 h3
       exact Ja h trivial (Zdz ho hT (by omega) (Zg ρ hx) (Zg ρ h2) (Zg ρ h3) (show Zx ((fun d=>(g d).den ρ) d) q=_ from Jv ρ hp) h0.2)
    ·exact h.elim
   ·exact h.elim
  split at h
  case isFalse=>exact h.elim
  rename_i hq0
  subst hq0
  split at h
  ·rename_i kh hv e' l hhi hd _
   have hb:=hg d
   rw [hd] at hb
   split at h
   ·rename_i us hus
    split at h
    ·rename_i hh
     obtain ⟨rfl,h0,hnm⟩:=hh
     cases hi with
     | none => simp at hhi
     | some z =>
      simp only [Xw,Xf] at hhi
      have bz:=Zy (P:=P) hg z
      rw [hhi] at bz
      obtain ⟨r1,r2,h⟩:=h
      have r1':0≤hv.den ρ:=r1
      have r2':hv.den ρ≤((l.den ρ).length:Int):=r2
      have e1:((hv.den ρ).toNat:Int)=hv.den ρ:=U7 r1'
      obtain ⟨us',rfl,q1,q2,q3⟩:=Ye ρ htop (t:=d) hd hus
      have hod:Yk tx (fun d=>(g d).den ρ) d (us.tail.map fun u=>(u.1,u.2.den ρ)):=by
       rcases q2 with ⟨h0,_⟩ | q2
       ·cases h0
       ·exact q2
      refine Zcv h ⟨hb,bz⟩ (Yb hus hb) ?_
      rw [q1]
      exact Zi2 (h:=(hv.den ρ).toNat) ho hT (by omega) (Zg ρ hx) (show (fun d=>(g d).den ρ) d = .own Xb e' (l.den ρ) by show (g d).den ρ=_;rw [hd];rfl) (by rw [e1];exact Zg ρ hhi) (by omega) hod hnm
    ·exact h.elim
   ·exact h.elim
  ·exact h.elim
 ·exact h.elim
theorem ZlR {x:Operand} {i:Nat} (hg:∀ d,(g d).bd n) (ho:o.op = .extract x i) (h:(Yi P E tx tk g o n k).wp P R A ρ):YZ tx P R A ρ g o n k:=by
 simp only [Yi,ho] at h
 split at h
 ·rename_i t vs h1 h2
  have hx:x = .tmp t:=by cases x<;>simp [ZT] at h1;rw [h1]
  subst hx
  simp only [ZT,Xw,Xf] at h2
  have hb:=hg t
  rw [h2] at hb
  have ht:(fun d=>(g d).den ρ) t = .tuple (vs.map (TC.den ρ)):=by show (g t).den ρ=_;rw [h2];rfl
  split at h
  ·rename_i b e xs hv
   have hv':(vs.map (TC.den ρ))[i]? = Xa (.own b e (xs.den ρ)):=by rw [Xl,hv];rfl
   have hbx:=hb _ (Xm hv)
   split at h
   case isFalse=>exact h.elim
   rename_i hmv
   have hmv':b=Xb→Mv P e (xs.den ρ):=fun hb=>Zk7 ρ (by rw [hb] at hmv;simpa using hmv)
   refine Zij h hbx (us1 (fun c hc=>?_)) ?_
   ·rcases Uq hc with hc | rfl
    ·exact hb c hc
    ·cases b<;>first | exact hbx | trivial
   ·have:=ZcB (P:=P) (σ:=fun d=>(g d).den ρ) ho ht hv' hmv'
    simp only [Xh,XG,SV.den,UQ]
    cases b<;>exact this
  ·rename_i y hv
   have hv':(vs.map (TC.den ρ))[i]? = Xa (y.den ρ):=by rw [Xl,hv];rfl
   refine Ja h (hb _ (Xm hv)) (Zci (σ:=fun d=>(g d).den ρ) ho ht hv' ?_ ?_ ?_ ?_ ?_)
   ·cases y with
    | cel p => exact VX (Q := fun z => z.plain = Xb) _ (fun _ _ => rfl) (fun _ _ _ => rfl) (fun _ => rfl) (fun _ _ => rfl)
    | _ => rfl
   ·intro d p he
    have:=Yc ρ y
    rw [show (SV.c y).den ρ=y.den ρ from rfl] at he
    rw [he] at this;cases this
   ·intro d he
    have:=Yc ρ y
    rw [show (SV.c y).den ρ=y.den ρ from rfl] at he
    rw [he] at this;cases this
   ·intro he
    have:=Yc ρ y
    rw [show (SV.c y).den ρ=y.den ρ from rfl] at he
    rw [he] at this;cases this
   ·intro he
    have:=Yc ρ y
    rw [show (SV.c y).den ρ=y.den ρ from rfl] at he
    rw [he] at this;cases this
  ·rename_i cs hv
   have hv':(vs.map (TC.den ρ))[i]? = Xa (.agg (cs.map (SC.den ρ))):=by rw [Xl,hv];rfl
   exact Ja h (hb _ (Xm hv)) (Zci (σ:=fun d=>(g d).den ρ) ho ht hv' rfl (fun _ _ h=>by cases h) (fun _ h=>by cases h) (fun h=>by cases h) (fun h=>by cases h))
  ·exact h.elim
  ·exact h.elim
 ·exact h.elim
theorem Ztf {c:Call} (hg:∀ d,(g d).bd n) (ho:o.op = .call c) (hc:c.callee = .builtin .len) (h:(Yi P E tx tk g o n k).wp P R A ρ):YZ tx P R A ρ g o n k:=by
 simp only [Yi,ho,hc] at h
 split at h
 ·rename_i x T hargs hts
  have bx:=Zy (P:=P) hg x
  split at h
  ·rename_i d q hx
   split at h
   ·rename_i e e' l hT hp
    split at h
    ·rename_i hnm
     exact Ja h (Vd hp (hg d)) (Zgr ho hc hargs hts hT (Zg ρ hx) (show Zx ((fun d=>(g d).den ρ) d) q=_ from Jv ρ hp) hnm)
    ·exact h.elim
   ·exact h.elim
  ·unfold ZtF at h
   split at h
   ·rename_i hT hx
    rw [hx] at bx
    exact Ja h bx (Zew ho hc hargs hts hT (Zg ρ hx))
   ·rename_i hT hx
    rw [hx] at bx
    exact Ja h bx (Zhg ho hc hargs hts hT (Zg ρ hx))
   ·exact h.elim
 ·exact h.elim
theorem ZsA {c:Call} (hg:∀ d,(g d).bd n) (ho:o.op = .call c) (hc:c.callee = .builtin .copy) (h:(Yi P E tx tk g o n k).wp P R A ρ):YZ tx P R A ρ g o n k:=by
 simp only [Yi,ho,hc] at h
 split at h
 ·rename_i x y T T' hargs hts
  split at h
  ·rename_i e d q f s ys hT hx hy
   split at h
   ·rename_i e' l hp
    split at h
    ·rename_i hh
     obtain ⟨rfl,h1,rfl,h5,hnm⟩:=hh
     have by1:=Zy (P:=P) hg y
     rw [hy] at by1
     refine Zij h trivial (us1 (Zdu (hg d) ⟨Vd hp (hg d),by1⟩)) ?_
     simp only [Xh,XG,Zcl]
     exact ZeH (f:=f) ho hc hargs hts hT h1 (Zg ρ hx) (show Zx ((fun d=>(g d).den ρ) d) q=_ from Jv ρ hp) (Zoz ρ h5) (Zg ρ hy) hnm
    ·exact h.elim
   ·exact h.elim
  ·exact h.elim
 ·exact h.elim
theorem ZdD {c:Call} {T:TypeId} {x y:Operand} (src:Option Nat) {xv:SV} {ex:Bool} (hg:∀ d,(g d).bd n) (htop:∀ i,E.top≤i→g i = .dead) (ho:o.op = .call c) (hc:c.callee = .builtin .append) (hargs:c.args.toList = [x,y])
  (hts:c.argTypes.toList = [T,T]) (hsrc:∀ t,src=Xa t→x = .tmp t∧xv=g t) (hnone:src=Xe→xv=Jk P g x)
  (h:(Zad P T tx g E.top ex src xv (Jk P g y) fun v us=>k v us [] n).wp P R A ρ):YZ tx P R A ρ g o n k:=by
 have bY:=Zy (P:=P) hg y
 have hxv:xv.bd n:=by
  cases src with
  | none => rw [hnone rfl]; exact Zy hg x
  | some t => rw [(hsrc t rfl).2]; exact hg t
 unfold Zad at h
 split at h
 ·rename_i e hT
  split at h
  ·rename_i i hi
   split at h
   ·rename_i z hz
    split at h
    ·rename_i hh
     split at h
     ·rename_i b e' xs f s ys hy
      rw [hy] at bY
      split at h
      ·rename_i t
       obtain ⟨rfl,hx⟩:=hsrc t rfl
       split at h
       ·rename_i us hus
        split at h
        ·rename_i he
         obtain ⟨rfl,rfl⟩:=he
         obtain ⟨us',rfl,q1,q2,q3⟩:=Ye ρ htop (t:=t) hx.symm hus
         refine Zcv h.2 ⟨hxv,bY⟩ (Yb hus hxv) ?_
         rw [q1]
         exact Zc3 (σ:=fun d=>(g d).den ρ) ho hc hargs hts hT hi hz hh.1 (by show (g t).den ρ=_;rw [← hx];rfl) (Zg ρ hy) h.1 q2 hh.2.2
        ·exact h.elim
       ·exact h.elim
      ·exact h.elim
     ·rename_i s0 f s ys hy
      rw [hy] at bY
      split at h
      ·rename_i he
       subst he
       refine Zij h.2 bY (by simp) ?_
       have hx:Zn P (fun d=>(g d).den ρ) x = .slice Xb s0 []:=by
        cases src with
        | none => exact Zg ρ (hnone rfl).symm
        | some t =>
         obtain ⟨rfl,hx⟩:=hsrc t rfl
         simp only [Zn,← hx]
         rfl
       exact Zcx (σ:=fun d=>(g d).den ρ) ex ho hc hargs hts hT hi hz hh.1 hx (Zg ρ hy) h.1 hh.2.2
      ·exact h.elim
     ·exact h.elim
    ·exact h.elim
   ·exact h.elim
  ·exact h.elim
 ·exact h.elim
theorem WI {c:Call} {T:TypeId} {x y:Operand} (src:Option Nat) {xv:SV} {ex:Bool} {d q:Nat} (hg:∀ d,(g d).bd n) (htop:∀ i,E.top≤i→g i = .dead) (ho:o.op = .call c) (hc:c.callee = .builtin .append) (hargs:c.args.toList = [x,y])
  (hts:c.argTypes.toList = [T,T]) (hy:Jk P g y = .mref d q) (hsrc:∀ t,src=Xa t→x = .tmp t∧xv=g t) (hnone:src=Xe→xv=Jk P g x)
  (h:(WL P T tx g E.top ex src xv (Jy (g d) q) fun v us=>k v us [d] n).wp P R A ρ):YZ tx P R A ρ g o n k:=by
 have hxv:xv.bd n:=by
  cases src with
  | none => rw [hnone rfl]; exact Zy hg x
  | some t => rw [(hsrc t rfl).2]; exact hg t
 unfold WL at h
 split at h
 ·rename_i e hT
  split at h
  ·rename_i i hi
   split at h
   ·rename_i z hz
    split at h
    ·rename_i hh
     split at h
     ·rename_i b e' xs e2 ys hp
      split at h
      ·rename_i t
       obtain ⟨rfl,hx⟩:=hsrc t rfl
       split at h
       ·rename_i us hus
        split at h
        ·rename_i he
         obtain ⟨rfl,rfl⟩:=he
         obtain ⟨us',rfl,q1,q2,q3⟩:=Ye ρ htop (t:=t) hx.symm hus
         refine Zcv h.2 ⟨hxv,Vd hp (hg d)⟩ (Yb hus hxv) ?_
         rw [q1]
         exact Zag (σ:=fun d=>(g d).den ρ) ho hc hargs hts hT hi hz hh.1 (by show (g t).den ρ=_;rw [← hx];rfl) (Zg ρ hy) (show Zx ((fun d=>(g d).den ρ) d) q=_ from Jv ρ hp) h.1 q2 hh.2.2
        ·exact h.elim
       ·exact h.elim
      ·exact h.elim
     ·rename_i s0 e' ys hp
      split at h
      ·rename_i he
       subst he
       have hx':Zn P (fun d=>(g d).den ρ) x = .slice Xb s0 []:=by
        cases src with
        | none => exact Zg ρ (hnone rfl).symm
        | some t =>
         obtain ⟨rfl,hx⟩:=hsrc t rfl
         simp only [Zn,← hx]
         rfl
       refine Ja h.2 (Vd hp (hg d)) ?_
       exact WK (σ:=fun d=>(g d).den ρ) ex ho hc hargs hts hT hi hz hh.1 hx' (Zg ρ hy) (show Zx ((fun d=>(g d).den ρ) d) q=_ from Jv ρ hp) h.1 hh.2.2
      ·exact h.elim
     ·exact h.elim
    ·exact h.elim
   ·exact h.elim
  ·exact h.elim
 ·exact h.elim
theorem Zgd {c:Call} {T:TypeId} {t u:Nat} {D D':TypeId} {xs ys:LE} (hg:∀ d,(g d).bd n) (htop:∀ i,E.top≤i→g i = .dead) (ho:o.op = .call c) (hc:c.callee = .builtin .append) (hargs:c.args.toList = [.tmp t,.tmp u])
  (hts:c.argTypes.toList = [T,T]) (hgt:g t = .own Xb D xs) (hgu:g u = .own Xb D' ys)
  (h:(ZbO P T tx g E.top t u D D' xs ys fun v us=>k v us [] n).wp P R A ρ):YZ tx P R A ρ g o n k:=by
 unfold ZbO at h
 exact h.elim
theorem Zm6 {c:Call} (hg:∀ d,(g d).bd n) (htop:∀ i,E.top≤i→g i = .dead) (ho:o.op = .call c) (hc:c.callee = .builtin .append) (h:(Yi P E tx tk g o n k).wp P R A ρ):YZ tx P R A ρ g o n k:=by
 simp only [Yi,ho,hc] at h
 split at h
 ·rename_i x y T T' hargs hts
  split at h
  ·rename_i hTT
   subst hTT
   split at h
   ·rename_i d q hy
    split at h
    ·rename_i t D' ys u ht hgd
     have hx:x = .tmp t:=by cases x<;>simp [ZT] at ht;rw [ht]
     split at h
     ·rename_i D xs hgt hdp
      split at h
      case isFalse=>exact h.elim
      rename_i hud
      subst hud
      subst hx
      exact Zgd hg htop ho hc hargs hts hgt hgd h
     ·exact WI (Xa t) hg htop ho hc hargs hts hy (fun t' ht'=>by simp only [Xf] at ht';subst ht';exact ⟨hx,rfl⟩) (fun h=>by cases h) h
    split at h
    ·rename_i t ht
     have hx:x = .tmp t:=by cases x<;>simp [ZT] at ht;rw [ht]
     exact WI (Xa t) hg htop ho hc hargs hts hy (fun t' ht'=>by simp only [Xf] at ht';subst ht';exact ⟨hx,rfl⟩) (fun h=>by cases h) h
    ·exact WI Xe hg htop ho hc hargs hts hy (fun t' ht'=>by cases ht') (fun _=>rfl) h
   split at h
   ·rename_i t ht
    have hx:x = .tmp t:=by cases x<;>simp [ZT] at ht;rw [ht]
    exact ZdD (Xa t) hg htop ho hc hargs hts (fun t' ht'=>by simp only [Xf] at ht';subst ht';exact ⟨hx,rfl⟩) (fun h=>by cases h) h
   ·exact ZdD Xe hg htop ho hc hargs hts (fun t' ht'=>by cases ht') (fun _=>rfl) h
  ·exact h.elim
 ·exact h.elim
theorem ZqP {c:Call} {ka kb:IntKind} {a b:IE} (h:c.args.toList.map (Jk P g) = [.c (.int ka a),.c (.int kb b)]) :
  ∃ x y,c.args.toList = [x,y]∧Jk P g x = .c (.int ka a)∧Jk P g y = .c (.int kb b):=by
 cases hl:c.args.toList with
 | nil => simp [hl] at h
 | cons x l =>
  cases l with
  | nil => simp [hl] at h
  | cons y l =>
   cases l with
   | nil => simp only [hl, Xh, XG, List.cons.injEq, and_true] at h; exact ⟨x, y, rfl, h.1, h.2⟩
   | cons z l => simp [hl] at h
theorem ZuA {c:Call} (hg:∀ d,(g d).bd n) (ho:o.op = .call c) (hc:c.callee = .builtin .min) (h:(Yi P E tx tk g o n k).wp P R A ρ):YZ tx P R A ρ g o n k:=by
 simp only [Yi,ho,hc] at h
 split at h
 ·rename_i ka a kb b hl
  obtain ⟨x,y,h1,h2,h3⟩:=ZqP hl
  split at h
  ·rename_i he
   subst he
   have b1:=Zy (P:=P) hg x
   have b2:=Zy (P:=P) hg y
   rw [h2] at b1
   rw [h3] at b2
   exact Ja h ⟨b1,b2⟩ (Zc4 (mn:=Xb) ho hc h1 (Zg ρ h2) (Zg ρ h3))
  ·exact h.elim
 ·exact h.elim
theorem ZtS {c:Call} (hg:∀ d,(g d).bd n) (ho:o.op = .call c) (hc:c.callee = .builtin .max) (h:(Yi P E tx tk g o n k).wp P R A ρ):YZ tx P R A ρ g o n k:=by
 simp only [Yi,ho,hc] at h
 split at h
 ·rename_i ka a kb b hl
  obtain ⟨x,y,h1,h2,h3⟩:=ZqP hl
  split at h
  ·rename_i he
   subst he
   have b1:=Zy (P:=P) hg x
   have b2:=Zy (P:=P) hg y
   rw [h2] at b1
   rw [h3] at b2
   exact Ja h ⟨b1,b2⟩ (Zc4 (mn:=Xc) ho hc h1 (Zg ρ h2) (Zg ρ h3))
  ·exact h.elim
 ·exact h.elim
theorem Zhc (ρ:Nat→V) (l:List SAK):(l.map (SAK.den ρ)).filterMap AK.slot=l.filterMap SAK.slot:=by
 rw [List.filterMap_map]
 congr 1
 funext a
 exact ZcR ρ a
theorem ZjY {c:Call} {f:FuncId} {cps tail:List KM} {rf:List Nat} {saks:List SAK} (htop:∀ i,E.top≤i→g i = .dead) (ho:o.op = .call c)
  (hc:(c.callee = .value (.func f)∧cps = [])∨∃ t,c.callee = .value (.tmp t)∧((∃ ds,(g t).den ρ = .clo f ds∧cps=ds.map KM.cap)∨∃ js,(g t).den ρ = .fnc f js∧js≠[]∧cps=js.map KM.obj))
  (a1:Y6 P g ρ (c.args.toList.map KM.op++cps++tail) saks) (a2:∀ x∈tail,x = .pad∨x = .ghost) (a3:(c.args.toList.map KM.op++cps).length+((saks.map (SAK.den ρ)).map AK.av).countP AV.isG≤saks.length) (a4:Zn6 (saks.map (SAK.den ρ))) (a5:Znu (saks.map (SAK.den ρ)))
  (hrf:∀ (i:Nat) (x:Operand),c.args.toList[i]? = Xa x→(rf.contains i&&(Zcy g x).isSome)=Xb→∃ t d q j,saks[i]? = Xa (SAK.ref t d q j)) (h:(Zdq P E tx g f (Ww P g rf c.args.toList 0) (Xa saks) n k).wp P R A ρ):YZ tx P R A ρ g o n k:=by
 unfold Zdq at h
 split at h
 ·rename_i saks' Ts hs _
  cases hs
  split at h
  ·rename_i hnd0
   obtain ⟨hnd,hfree⟩:=hnd0
   split at h
   ·rename_i res sh n' hr
    obtain ⟨q1,q2,q3⟩:=ZlY hr
    dsimp only at h
    split at h
    case isFalse=>exact h.elim
    rename_i hbo0
    obtain ⟨hbo,hrnm⟩:=hbo0
    obtain ⟨vs,h1,h2⟩:=h
    have hlen:((Jd (saks.map SAK.sv) n').1).length=saks.length:=by rw [ZeT,Xq]
    refine ⟨bind ρ n vs,(Jd (saks.map SAK.sv) n').2.2,res,Za6 saks (Jd (saks.map SAK.sv) n').1,saks.filterMap SAK.slot++(Ww P g rf c.args.toList 0).map (·.1),Nat.le_trans q1 (YE _ _),ZdH ρ n vs,SV.bd_mono (YE _ _) _ q2,
     KQ _ _ (V7 _ _),h2,?_⟩
    have:=ZnB (T:=tx) (((Ww P g rf c.args.toList 0).head?.getD (0,0)).1) (((Ww P g rf c.args.toList 0).head?.getD (0,0)).2) ((Ww P g rf c.args.toList 0).map (·.1)) (P:=P) (σ:=fun d=>(g d).den ρ) (aks:=saks.map (SAK.den ρ)) (res:=res.den (bind ρ n vs)) (outs:=(Jd (saks.map SAK.sv) n').1.map (SV.den (bind ρ n vs))) (tail:=tail) ho hc (by simpa using a1.1)
     (fun i x a hx hi=>?_) a2 (by simpa using a3) a4 a5
     (by rw [Zhc];exact Zbr _ hnd) (by simp [hlen]) (fun i d fr to cs y hi hy=>?_) (fun i d rows y hi hy=>?_) (q3 _) (ZpF _ hrnm) (fun i t e xs hi=>?_) (fun i d fr to cs hi=>?_) (fun i x hx hz d q hxm hno=>?_) ?_
    ·rw [ZhU,Zhc] at this
     exact this.s
    ·rw [Xl] at hi
     cases hsi:saks[i]? with
     | none => simp [hsi] at hi
     | some a0 =>
      simp only [hsi,Xw,Xf] at hi
      subst hi
      exact a1.2 i x a0 hx hsi
    ·rw [Xl] at hi hy
     cases hsi:saks[i]? with
     | none => simp [hsi] at hi
     | some a =>
      cases hyi:(Jd (saks.map SAK.sv) n').1[i]? with
      | none => simp [hyi] at hy
      | some y0 =>
       simp only [hsi,hyi,Xw,Xf] at hi hy
       subst hy
       cases a with
       | box d0 fr0 to0 cs0 =>
        simp only [SAK.den,AK.box.injEq] at hi
        obtain ⟨rfl,rfl,rfl,rfl⟩:=hi
        obtain ⟨cs',rfl⟩:=Vo (saks.map SAK.sv) n' i to0 cs0 y0 (by rw [Xl,hsi];rfl) hyi
        exact ⟨_,ZcN _ _ _⟩
       | _ => cases hi
    ·obtain ⟨l,hl⟩:=ZrA hi
     rw [Xl] at hy
     cases hyi:(Jd (saks.map SAK.sv) n').1[i]? with
     | none => simp [hyi] at hy
     | some y0 =>
      simp only [hyi,Xw,Xf] at hy
      subst hy
      obtain ⟨l',rfl⟩:=Zfl (saks.map SAK.sv) n' i l y0 (by rw [Xl,hl];rfl) hyi
      rfl
    ·rw [Xl] at hi
     cases hsi:saks[i]? with
     | none => simp [hsi] at hi
     | some a =>
      simp only [hsi,Xw,Xf] at hi
      cases a with
      | own t0 x0 e0 l0 =>
       simp only [SAK.den,AK.own.injEq] at hi
       obtain ⟨rfl,rfl,rfl,_⟩:=hi
       unfold ZfX at hfree
       rw [XE] at hfree
       have hf:=hfree _ (Xm hsi)
       cases tx with
       | any N M K => exact .inr ⟨N, M, K, rfl, hf, rfl⟩
       | text =>
       simp only [List.isEmpty_iff] at hf
       refine .inl ⟨rfl,by simp,fun j q _ hr=>?_⟩
       have hda:=(Yq ρ htop (d:=t0)).2 j q
       by_cases hj:j=t0
       ·subst hj
        have hok:=a1.2 i
        have hlt:=(Xk.1 hsi).1
        obtain ⟨x,hx⟩:∃ x,(c.args.toList.map KM.op++cps++tail)[i]? = Xa x:=⟨_,Xs (by rw [a1.1];exact hlt)⟩
        have hk:=hok x _ hx hsi
        cases x with
        | op y =>
         have h1:(g j).den ρ = .own Xb e0 (l0.den ρ):=hk.2
         have hr':JB ((g j).den ρ) j q:=hr
         rw [h1] at hr'
         rcases hr' with h2 | ⟨_,h2⟩ <;> cases h2
        | _ => exact hk.elim
       ·have:=hda hj hr
        rw [hf] at this
        cases this
      | _ => cases hi
    ·rw [Xl] at hi
     cases hsi:saks[i]? with
     | none => simp [hsi] at hi
     | some a =>
      simp only [hsi,Xw,Xf] at hi
      cases a with
      | box t0 fr0 to0 cs0 =>
       simp only [SAK.den,AK.box.injEq] at hi
       obtain ⟨rfl,rfl,rfl,rfl⟩:=hi
       unfold ZfX at hfree
       rw [XE] at hfree
       have hf0:=hfree _ (Xm hsi)
       rcases UP.1 hf0 with hpl | hf
       ·exact .inl (Zc2 hpl ρ)
       ·right
        cases tx with
        | any N M K =>
         rcases UP.1 hf with hf | hf
         ·exact .inl (.inr ⟨N,M,K,rfl,hf,rfl⟩)
         ·refine .inr fun σ' hrl j q hr=>?_
          cases hM:M t0 with
          | none => rw [hM] at hf; cases hf
          | some t =>
           rw [hM] at hf
           simp only at hf
           by_cases hj:t=j
           ·subst hj
            rw [Ub] at hf
            obtain ⟨b,hb,hbt⟩:=hf
            cases b with
            | ref t1 _ _ _ =>
             have h4:t1=t:=by simpa using hbt
             exact ⟨_,Xj.2 ⟨_,hb,rfl⟩,by rw [ZcR];show Xa t1=Xa t;rw [h4]⟩
            | _ => cases hbt
           ·exact (hrl.1 t0 j q (by simp [Odr.nr,hM,hj]) hr).elim
        | text =>
        refine .inr fun σ' hrl j q hr=>?_
        have hrl':σ'=fun d=>(g d).den ρ:=hrl
        rw [hrl'] at hr
        have hda:=(Yq ρ htop (d:=t0)).2 j q
        by_cases hj:j=t0
        ·subst hj
         have hok:=a1.2 i
         have hlt:=(Xk.1 hsi).1
         obtain ⟨x,hx⟩:∃ x,(c.args.toList.map KM.op++cps++tail)[i]? = Xa x:=⟨_,Xs (by rw [a1.1];exact hlt)⟩
         have hk:=hok x _ hx hsi
         have hr':JB ((g j).den ρ) j q:=hr
         have hb0:∃ fr cs,(g j).den ρ=mkB fr cs:=by
          cases x with
          | op y => exact ⟨Xc, _, hk.2.1⟩
          | cap d' => exact ⟨_, _, hk.2.1⟩
          | obj _ => exact hk.elim
          | ghost => exact ⟨_, _, hk.1⟩
          | pad => exact hk.elim
         obtain ⟨fr,cs,hb0⟩:=hb0
         rw [hb0] at hr'
         cases fr<;>rcases hr' with h2 | ⟨_,h2⟩ <;> cases h2
        ·have hm:=hda hj hr
         rw [XE] at hf
         obtain ⟨u,hu,huj⟩:=Xj.1 hm
         obtain ⟨u0,hu0,rfl⟩:=Xj.1 hu
         have h3:=hf u0 hu0
         rw [Ub] at h3
         obtain ⟨b,hb,hbt⟩:=h3
         cases b with
         | ref t1 _ _ _ =>
          refine ⟨_,Xj.2 ⟨_,hb,rfl⟩,?_⟩
          have h4:t1=u0.1:=by simpa using hbt
          rw [ZcR]
          show Xa t1=Xa j
          rw [h4];exact congrArg Xa huj
         | _ => cases hbt
      | _ => cases hi
    ·have hnrf:(rf.contains (0+i)&&(Zcy g x).isSome)=Xc:=by
      rw [XH]
      cases hc':(rf.contains i&&(Zcy g x).isSome) with
      | false => rfl
      | true =>
       obtain ⟨t1,d1,q1,j2,h2'⟩:=hrf i x hx hc'
       obtain ⟨z,hz⟩:=hz
       rw [Xl,h2'] at hz
       cases hz
     have hm:=Zg7 (P:=P) (g:=g) ρ hx hnrf hxm hno
     generalize Ww P g rf c.args.toList 0=bs at hm hbo
     cases bs with
     | nil => cases hm
     | cons p r =>
      simp only [Zug,Xr,XE,decide_eq_true_eq,UJ,List.contains_eq_mem,decide_eq_false_iff_not] at hbo
      obtain ⟨⟨⟨b1,b2⟩,b3⟩,b4⟩:=hbo
      have hp:d=p.1∧q=p.2:=by
       rcases Xp.1 hm with h0 | h0
       ·rw [← h0];exact ⟨rfl,rfl⟩
       ·exact b1 _ h0
      refine ⟨hp.1,hp.2,by simp,fun a ha hs=>b2 ?_,fun i=>?_⟩
      ·obtain ⟨a0,ha0,rfl⟩:=Xj.1 ha
       rw [ZcR] at hs
       exact UY.2 ⟨a0,ha0,hs⟩
      ·simp only [ZE]
       rcases XF i ((Jd (saks.map SAK.sv) n').1.map (SV.den (bind ρ n vs))).length with hi | hi
       ·rw [Xx hi,Xl]
        cases hy:(Jd (saks.map SAK.sv) n').1[i]? with
        | none => rfl
        | some y => exact Zfo _ (b4 y (Xm hy))
       ·rw [Xy hi]
        cases hj:i-((Jd (saks.map SAK.sv) n').1.map (SV.den (bind ρ n vs))).length with
        | zero => exact Zfo _ b3
        | succ j => rfl
    ·have he:(saks.map (SAK.den ρ)).map AK.av=(saks.map SAK.sv).map (SV.den ρ):=by
      rw [Wg,Wg]
      exact Wr fun a _=>Zrr ρ a
     rw [he]
     exact h1
   ·exact h.elim
  ·exact h.elim
 ·exact h.elim
theorem Zi6 {c:Call} {f:FuncId} {cps:List KM} {rf:List Nat} {aZ:List SAK} (htop:∀ i,E.top≤i→g i = .dead) (ho:o.op = .call c)
  (hc:(c.callee = .value (.func f)∧cps = [])∨∃ t,c.callee = .value (.tmp t)∧((∃ ds,(g t).den ρ = .clo f ds∧cps=ds.map KM.cap)∨∃ js,(g t).den ρ = .fnc f js∧js≠[]∧cps=js.map KM.obj))
  (ha:Y6 P g ρ (c.args.toList.map KM.op++cps) aZ) (hraw:Raw aZ) (hrf:∀ (i:Nat) (x:Operand),c.args.toList[i]? = Xa x→(rf.contains i&&(Zcy g x).isSome)=Xb→∃ t d q j,aZ[i]? = Xa (SAK.ref t d q j)) (h:(Zdq P E tx g f (Ww P g rf c.args.toList 0) (VV g (Zs5 P f) aZ) n k).wp P R A ρ):YZ tx P R A ρ g o n k:=by
 cases hs:VV g (Zs5 P f) aZ with
 | none => rw [hs] at h; exact h.elim
 | some saks =>
  obtain ⟨tail,a1,a2,a3,a4,a5,a6⟩:=ZeP ρ ha hraw hs
  rw [hs] at h
  refine ZjY htop ho hc a1 a2 a3 a4 a5 (fun i x hx hr=>?_) h
  obtain ⟨t,d,q,j,hj⟩:=hrf i x hx hr
  obtain ⟨j',hj'⟩:=a6 i t d q j hj
  exact ⟨t,d,q,j',hj'⟩
theorem ZiR {d:Nat} {u:Nat×SV} {n:Nat} (ρ:Nat→V) (hu:u∈Jz g d n):u.2 = .dead∧∃ d k,JB ((g u.1).den ρ) d k:=by
 obtain ⟨h1,_,_,h4⟩:=(JM n u).1 hu
 obtain ⟨k,hk⟩:=(ZbM ρ d (g u.1)).1 h4
 exact ⟨h1,d,k,hk⟩
theorem Zjg {rf:List Nat} {args:List Operand} {u:Nat×SV} (ρ:Nat→V) (hu:u∈ZcP E tx g rf args):u.2 = .dead∧∃ d k,JB ((g u.1).den ρ) d k:=by
 unfold ZcP at hu
 split at hu
 ·obtain ⟨p,_,hp⟩:=List.mem_flatMap.1 (Wl.1 hu).1
  split at hp
  ·split at hp
   ·exact ZiR ρ hp
   ·cases hp
  ·cases hp
 ·cases hu
theorem ZgW (kl:Ups):(fun d=>(Zh7 kl g d).den ρ)=JE (fun d=>(g d).den ρ) ((kl.map fun u=>(u.1,SV.dead.den ρ))):=by
 funext d
 rw [WE _ _ _ (fun u hu=>by obtain ⟨v,_,rfl⟩:=Xj.1 hu;rfl)]
 unfold Zh7
 by_cases h:(kl.any fun u=>u.1 == d)=Xb
 ·rw [if_pos h,if_pos]
  ·rfl
  ·rw [Ub] at h
   obtain ⟨u,hu,he⟩:=h
   rw [Wg]
   exact Xj.2 ⟨u,hu,by simpa using he⟩
 ·rw [if_neg h,if_neg]
  rw [Wg]
  intro hm
  obtain ⟨u,hu,he⟩:=Xj.1 hm
  exact h (Ub.2 ⟨u,hu,by simpa using he⟩)
theorem Zmj (kl:Ups) (hkl:∀ u∈kl,u.2 = .dead∧(∃ d k,JB ((g u.1).den ρ) d k)∧u.1∉Vc o) (h:YZ .text P R A ρ (Zh7 kl g) o n (fun x us fp n'=>k x (kl++us) fp n')):YZ .text P R A ρ g o n k:=by
 obtain ⟨ρ',n',x,us,fp,h1,h2,h3,h4,h5,h6⟩:=h
 refine ⟨ρ',n',x,kl++us,fp,h1,h2,h3,fun u hu=>?_,h5,?_⟩
 ·rcases Xv.1 hu with hu | hu
  ·rw [(hkl u hu).1];trivial
  ·exact h4 u hu
 intro c hc σ' tm w lim X _ _ hT _ hsim next Q hn
 have hT':σ'=fun d=>(g d).den ρ:=hT
 subst hT'
 have hmap:(kl.map fun u=>(u.1,u.2.den ρ'))=kl.map fun u=>(u.1,SV.dead.den ρ):=Wr fun u hu=>by rw [(hkl u hu).1];rfl
 obtain ⟨X',hs,_⟩:=Sim.drops (kl.map fun u=>(u.1,SV.dead.den ρ)) hsim fun u hu=>by
  obtain ⟨v,hv,rfl⟩:=Xj.1 hu
  obtain ⟨_,⟨d,q,hr⟩,_⟩:=hkl v hv
  obtain ⟨g1,g2,g3⟩:=Ve hr
  refine ⟨rfl,g2,WB hsim (fun he=>?_) g3⟩
  rw [he] at hr
  rcases hr with hr | ⟨_,hr⟩ <;> cases hr
 rw [← ZgW] at hs
 refine h6 c hc _ tm w lim X' (fun _ _=>.inl rfl) (fun _ _=>rfl) rfl (fun _ _=>ZsG.refl _) hs next Q fun v w' ha=>hn v w' ?_
 rw [XN,hmap,VM,← ZgW]
 exact ha
theorem ZhH:∀ (l:List SV) (ds:List Nat),Ze0 l=Xa ds→l.length=ds.length∧∀ (i d:Nat),ds[i]? = Xa d→l[i]? = Xa (.ptr d 0)
 | [], ds, h => by simp only [Ze0, Xf] at h; subst h; exact ⟨rfl, by simp⟩
 | x :: l, ds, h => by
  unfold Ze0 at h
  split at h
  ·rename_i heq;cases heq
  ·rename_i d r heq
   simp only [List.cons.injEq] at heq
   obtain ⟨rfl,rfl⟩:=heq
   cases hr:Ze0 l with
   | none => rw [hr] at h; cases h
   | some es =>
    rw [hr] at h
    simp only [Xw,Xf] at h
    subst h
    obtain ⟨h1,h2⟩:=ZhH l es hr
    refine ⟨by simp [h1],fun i e he=>?_⟩
    cases i with
    | zero => simp only [XB, Xf] at he ⊢; rw [he]
    | succ i => simpa using h2 i e (by simpa using he)
  ·cases h
theorem Zjb {fn:Fn} {first captured:Array Operand} (ho:o.op = .makeFunc fn first captured) (h:(Yi P E tx tk g o n k).wp P R A ρ):YZ tx P R A ρ g o n k:=by
 simp only [Yi,ho] at h
 split at h
 ·rename_i f ds hf hds
  split at h
  ·rename_i hall
   obtain ⟨h1,h2⟩:=ZhH _ _ hds
   refine Ja h trivial (Zgx ho hf (by simpa using h1) fun i x d hx hd=>?_)
   have h3:=h2 i d hd
   rw [Xl,hx] at h3
   simp only [Xw,Xf] at h3
   rw [XE] at hall
   have h4:=hall d (Xm hd)
   refine ⟨Zg ρ h3,?_⟩
   show ∃ cs,(g d).den ρ = .box cs
   split at h4
   ·rename_i cs hcs;rw [hcs];exact ⟨_,rfl⟩
   ·cases h4
  ·exact h.elim
 ·exact h.elim
theorem ZmT {P:Program} (w:World) (d:Nat) {t e:TypeId} (a:Addr) (h:P.underlying t=Xa (.pointer e)):(Op.equalIn (d+1) t (.pointer (Xa a)) (.pointer Xe)).run P w = .ok Xc w:=by
 simp [Op.equalIn,run_underlying h]
theorem Zdl {P:Program} {o:Oper} {σ:Nat→AV} {op:BinOp} {T T' e:TypeId} {x:Operand} {d off:Nat} (ho:o.op = .binOp op T x (.const (.pointer Xe)) T') (hT:P.underlying T=Xa (.pointer e))
  (hop:op = .eql∨op = .neq) (hx:Zn P σ x = .ptr d off):Jt P o σ (.val (.bool (if op = .eql then Xc else Xb))) [] []:=by
 refine Zp [] rfl fun c hc σ' tm w lim X hg _ hsim=>⟨.bool (if op = .eql then Xc else Xb),?_,.val rfl⟩
 rw [ho] at hg
 obtain ⟨b,cs,_,_,hv⟩:=J8 hc hsim hx (hg x (by simp [Op.operands]))
 have hc0:Act.eval ⟨tm,[]⟩ (.const (.pointer Xe)) = .pointer Xe:=rfl
 have he:(Op.equal T (.pointer (Xa ⟨b,off,Xe⟩)) (.pointer Xe)).run P w = .ok Xc w:=ZmT w 9999 _ hT
 rcases hop with rfl | rfl<;>simp [execOp,ho,hv,hc0,eqGuard,binOp,he]
theorem Zqn {op:BinOp} {T T':TypeId} {x y:Operand} (hps:EnvSound P E) (hg:∀ d,(g d).bd n) (ho:o.op = .binOp op T x y T') (h:(Yi P E tx tk g o n k).wp P R A ρ):YZ tx P R A ρ g o n k:=by
 simp only [Yi,ho] at h
 split at h
 ·rename_i b hb
  unfold Zq6 at hb
  split at hb
  ·rename_i d off e hx hT
   split at hb
   ·simp only [Xf] at hb
    subst hb
    exact Ja h trivial (Zdl (op:=.eql) ho hT (.inl rfl) (Zg ρ hx))
   ·simp only [Xf] at hb
    subst hb
    exact Ja h trivial (Zdl (op:=.neq) ho hT (.inr rfl) (Zg ρ hx))
   ·cases hb
  ·cases hb
 ·exact ZmH hps.1 hg ho h
theorem ZlZ {T:TypeId} {x:Option Operand} (ho:o.op = .makeMap T x) (h:(Yi P E tx tk g o n k).wp P R A ρ):YZ tx P R A ρ g o n k:=by
 simp only [Yi,ho] at h
 exact h.elim
theorem Zoc {T:TypeId} {m kx:Operand} {ok:Bool} (hg:∀ d,(g d).bd n) (ho:o.op = .lookup T m kx ok) (h:(Yi P E tx tk g o n k).wp P R A ρ):YZ tx P R A ρ g o n k:=by
 simp only [Yi,ho] at h
 exact h.elim
theorem Zhd {T:TypeId} {m kx v:Operand} (hg:∀ d,(g d).bd n) (ho:o.op = .insert T m kx v∨o.op = .mapUpdate T m kx v) (h:(Yi P E tx tk g o n k).wp P R A ρ):YZ tx P R A ρ g o n k:=by
 rcases ho with ho | ho<;>simp only [Yi,ho] at h<;>exact h.elim
theorem Zsa {c:Call} {f:FuncId} {d:Nat} {gf:FuncId} {l:LE} (hps:EnvSound P E) (ho:o.op = .call c) (hc:c.callee = .value (.func f)) (hit:Zrp P E g f c.args.toList=Xa (d,gf,l))
  (h:(STree.req (.mq .any l (.lit 0)) (k (.eref d 0 (.lit 0) 0 gf) [] [d] n)).wp P R A ρ):YZ tx P R A ρ g o n k:=by
 cases hit
theorem Znv {c:Call} {f:FuncId} {d:Nat} {l:LE} (hps:EnvSound P E) (hg:∀ d,(g d).bd n) (ho:o.op = .call c) (hc:c.callee = .value (.func f)) (hit:Zj5 P E g f c.args.toList=Xa (d,l))
  (h:(STree.req (.mq .keys l (.lit 0)) (k (.c (.slice Xc 1 (.mkeys l))) [] [d] n)).wp P R A ρ):YZ tx P R A ρ g o n k:=by
 cases hit
theorem Zto {c:Call} {f:FuncId} {d:Nat} {e:TypeId} {l:LE} (hps:EnvSound P E) (hg:∀ d,(g d).bd n) (ho:o.op = .call c) (hc:c.callee = .value (.func f)) (hit:Zoq P E g f c.args.toList=Xa (d,e,l))
  (h:(STree.req (.lq .ints l (.lit 0)) (k .dead [(d,.own Xb e (.fn .dsort l (.lit 0) .nil .nil))] [d] n)).wp P R A ρ):YZ tx P R A ρ g o n k:=by
 cases hit
theorem ZlI (hps:EnvSound P E) (hg:∀ d,(g d).bd n) (htop:∀ i,E.top≤i→g i = .dead) (h:(Yi P E tx tk g o n k).wp P R A ρ):YZ tx P R A ρ g o n k:=by
 cases ho:o.op with
 | move x => exact ZsU hg htop ho h
 | assign x => exact ZoA hg htop ho h
 | pick c a b => exact ZrC hg ho h
 | alloc T => exact Zqt ho h
 | box T x => exact Zu3 hg ho h
 | build T parts => exact Zqy hg htop ho h
 | buildSlice T len parts => exact Zf8 hg ho h
 | load T a => exact ZsY hg htop ho h
 | store T a x => exact Zpw hg htop ho h
 | nilCheck x => exact ZiZ hg ho h
 | binOp op T x y T' => exact Zqn hps hg ho h
 | unOp op T x => exact Zsy hg ho h
 | convert S T x => exact Zlz hg ho h
 | fieldAddr T x f => exact ZgY hg ho h
 | field T x f => exact Zp8 hg ho h
 | index T x i => exact Zql hg ho h
 | indexAddr T x i => exact Zhh hg ho h
 | makeSlice T a b => exact ZsM hg ho h
 | makeFunc fn first captured => exact Zjb ho h
 | makeMap T x => exact ZlZ ho h
 | lookup T m kx ok => exact Zoc hg ho h
 | insert T m kx v => exact Zhd hg (.inl ho) h
 | mapUpdate T m kx v => exact Zhd hg (.inr ho) h
 | slice T x lo hi mx => exact ZqG hg htop ho h
 | extract x i => exact ZlR hg ho h
 | call c =>
  cases hc:c.callee with
  | builtin b =>
   cases b with
   | len => exact Ztf hg ho hc h
   | append => exact Zm6 hg htop ho hc h
   | copy => exact ZsA hg ho hc h
   | min => exact ZuA hg ho hc h
   | max => exact ZtS hg ho hc h
   | _ => simp only [Yi, ho, hc] at h; exact h.elim
  | value x =>
   cases x with
   | func f =>
    simp only [Yi,ho,hc] at h
    split at h
    ·rename_i hit
     exact Zsa hps ho hc hit h
    split at h
    ·rename_i hit
     exact Znv hps hg ho hc hit h
    split at h
    ·rename_i hit
     exact Zto hps hg ho hc hit h
    split at h
    case h_2=>
     rename_i hkl
     split at h
     case isFalse=>exact h.elim
     rename_i hall
     rw [XE] at hall
     cases htx:tx with
     | any N M => exact (hkl (by rw [htx]; rfl)).elim
     | text =>
     subst htx
     refine Zmj (ZcP E .text g (E.rfs f) c.args.toList) (fun u hu=>?_) ?_
     ·obtain ⟨k1,k2⟩:=Zjg ρ hu
      exact ⟨k1,k2,by simpa using hall u hu⟩
     ·split at h
      ·rename_i aZ has
       obtain ⟨h1,h2,h3⟩:=Vb ρ _ _ _ has
       refine Zi6 (cps:=[]) (fun i hi=>by unfold Zh7;split;rfl;exact htop i hi) ho (.inl ⟨hc,rfl⟩) (by simpa using h1) h2 (fun i x hx hci=>?_) h
       have hl:i < aZ.length:=by rw [← h1.1,Xq];exact (Xk.1 hx).1
       obtain ⟨t,d,q,j,e⟩:=h3 i _ x hx (Xs hl) (by rw [XH];exact hci)
       exact ⟨t,d,q,j,by rw [Xs hl,e]⟩
      ·exact h.elim
    split at h
    ·rename_i aZ has
     obtain ⟨h1,h2,h3⟩:=Vb ρ _ _ _ has
     refine Zi6 (cps:=[]) htop ho (.inl ⟨hc,rfl⟩) (by simpa using h1) h2 (fun i x hx hci=>?_) h
     have hl:i < aZ.length:=by rw [← h1.1,Xq];exact (Xk.1 hx).1
     obtain ⟨t,d,q,j,e⟩:=h3 i _ x hx (Xs hl) (by rw [XH];exact hci)
     exact ⟨t,d,q,j,by rw [Xs hl,e]⟩
    ·exact h.elim
   | tmp t =>
    simp only [Yi,ho,hc] at h
    split at h
    ·rename_i f ds aZ ht has
     obtain ⟨h1,h2,_⟩:=Vb ρ _ _ _ has
     split at h
     ·rename_i cs hcs
      obtain ⟨k1,k2⟩:=ZrN (P:=P) ρ hcs
      refine Zi6 (cps:=ds.map KM.cap) htop ho (.inr ⟨t,hc,.inl ⟨ds,by rw [ht];rfl,rfl⟩⟩) (h1.append k1) (fun a ha=>?_) (fun i _ _ hi=>by simp at hi) h
      rcases Xv.1 ha with ha | ha
      ·exact h2 a ha
      ·exact k2 a ha
     ·exact h.elim
    ·exact h.elim
   | _ => simp only [Yi, ho, hc] at h; exact h.elim
  | _ => simp only [Yi, ho, hc] at h; exact h.elim
 | _ => simp only [Yi, ho] at h; exact h.elim
end
structure Stp where
 F:List Nat
 ups:List (Nat×AV)
 V:List Nat
def Stp.D (s:Stp):List Nat:=s.ups.map (·.1)++s.V
def ZvY (pre:Nat→AV) (s:Stp):Prop:=
 ∀ u∈s.ups,u.2.isSto=(pre u.1).isSto∧∀ rows rows',pre u.1 = .store rows→u.2 = .store rows'→vS u.1∈s.V∨rows <+: rows'
def ZsO (T:Odr) (P:Program) (nt:Nat) (ops:Array Oper) (B:Nat→Prop) (i:Nat) (pre:Nat→AV) (s:Stp):Prop:=
 ((∀ u∈s.ups,u.1∈s.F)∧ZvY pre s)∧(∀ u∈s.ups,B u.1→Ze7 u.2)∧(∀ u∈s.ups,∀ d k,T.nr d u.1=Xb→¬ JB u.2 d k)∧(∀ u∈s.ups,∀ j,T.kp u.1 j=Xb→Js u.2 j=Js (pre u.1) j)∧
 ∀ (c:Ctx),c.P=P→c.nt=nt→∀ (σ':Nat→AV) (tm:Array Value) (w:World) (lim:Lm) (X:Nat→Nat→Option Nat),
  (∀ d∈s.F,σ' d=pre d)→(∀ d,B d→Ze7 (σ' d))→T.rel pre σ'→(∀ d,vS d∈s.F→ZsG (pre d) (σ' d))→Sim c σ' tm w lim X→∀ (Q:Exit→Act→World→Prop) (K:Act→World→Prop),
   (∀ tm' w' lim' X',Sim c (JE σ' s.ups) tm' w' lim' X'→K ⟨tm',[]⟩ w')→wpOp P ops Q i K ⟨tm,[]⟩ w
def ZfP (T:Odr) (P:Program) (nt:Nat) (ops:Array Oper) (B:Nat→Prop):Nat→(Nat→AV)→List Stp→Prop
 | _, _, [] => True
 | i, σ, s :: ss => ZsO T P nt ops B i σ s ∧ ZfP T P nt ops B (i + 1) (JE σ s.ups) ss
theorem Zgp {B:Nat→Prop} : ∀ (us:List (Nat×AV)) (σ:Nat→AV),(∀ u∈us,B u.1→Ze7 u.2)→(∀ d,B d→Ze7 (σ d))→∀ d,B d→Ze7 (JE σ us d)
 | [], _, _, h, d, hd => h d hd
 | (e, x) :: us, σ, hu, h, d, hd => by
  refine Zgp us (upd σ e x) (fun u h'=>hu u (by simp [h'])) (fun d hd=>?_) d hd
  by_cases he:d=e
  ·subst he;rw [ZF];exact hu (d,x) (by simp) hd
  ·rw [Ze _ _ he];exact h d hd
def Zcd (σ:Nat→AV):List Stp→(Nat→AV)
 | [] => σ
 | s :: ss => Zcd (JE σ s.ups) ss
section
variable {T:Odr} {P:Program} {nt:Nat} {ops:Array Oper} {B:Nat→Prop} {Q:Exit→Act→World→Prop} {c:Ctx}
theorem Zfm (hc:c.P=P) (hn:c.nt=nt):∀ (ss:List Stp) (i:Nat) (σ:Nat→AV) (tm:Array Value) (w:World) (lim:Lm) (X:Nat→Nat→Option Nat),
  ZfP .text P nt ops B i σ ss→(∀ d,B d→Ze7 (σ d))→Sim c σ tm w lim X→(∀ tm' w' lim' X',Sim c (Zcd σ ss) tm' w' lim' X'→Q .normal ⟨tm',[]⟩ w')→wpOps P ops Q (List.range' i ss.length) ⟨tm,[]⟩ w
 | [], i, σ, tm, w, lim, X, _, _, hs, hk => by
  show Q .normal ⟨tm,[]⟩ w
  exact hk tm w lim X hs
 | s :: ss, i, σ, tm, w, lim, X, h, hb, hs, hk => by
  rw [XA,List.range'_succ,wpOps_cons]
  exact h.1.2.2.2.2 c hc hn σ tm w lim X (fun _ _=>rfl) hb rfl (fun _ _=>ZsG.refl _) hs Q _ fun tm' w' lim' X' hs'=>Zfm hc hn ss (i+1) _ tm' w' lim' X' h.2 (Zgp _ _ h.1.2.1 hb) hs' hk
def V5:List (Nat×AV)→Nat→Option AV
 | [], _ => Xe
 | (e, x) :: us, d => match V5 us d with | some y => Xa y | none => if d = e then Xa x else Xe
theorem Jl:∀ (us:List (Nat×AV)) (σ:Nat→AV) (d:Nat),JE σ us d=(V5 us d).getD (σ d)
 | [], σ, d => rfl
 | (e, x) :: us, σ, d => by
  simp only [JE,V5,Jl us]
  cases V5 us d with
  | some y => rfl
  | none =>
   by_cases h:d=e
   ·subst h;simp [upd]
   ·simp [upd,h]
theorem YS:∀ (us:List (Nat×AV)) (d:Nat),d∉us.map (·.1)→V5 us d=Xe
 | [], d, _ => rfl
 | (e, x) :: us, d, h => by
  simp only [Xh,Xp,not_or] at h
  simp only [V5,YS us d h.2,if_neg h.1]
theorem K8:∀ (us:List (Nat×AV)) (d:Nat),d∈us.map (·.1)→∃ x,V5 us d=Xa x
 | [], d, h => by simp at h
 | (e, x) :: us, d, h => by
  simp only [V5]
  cases hl:V5 us d with
  | some y => exact ⟨y, rfl⟩
  | none =>
   simp only [Xh,Xp] at h
   rcases h with h | h
   ·subst h;exact ⟨x,by simp⟩
   ·obtain ⟨y,hy⟩:=K8 us d h;rw [hl] at hy;cases hy
def comp (S:Nat→Bool):Nat→(Nat→AV)→List Stp→(Nat→AV)
 | _, σ, [] => σ
 | i, σ, s :: ss => comp S (i + 1) (if S i = Xb then JE σ s.ups else σ) ss
theorem ZjD (S:Nat→Bool):∀ (ss:List Stp) (i:Nat) (σ:Nat→AV),(∀ j,i≤j→j < i+ss.length→S j=Xb)→comp S i σ ss=Zcd σ ss
 | [], _, _, _ => rfl
 | s :: ss, i, σ, h => by
  simp only [comp,Zcd,h i (Xz _) (by simp),if_true]
  exact ZjD S ss (i+1) _ fun j h1 h2=>h j (by omega) (by simp only [XA];omega)
theorem ZdY (S:Nat→Bool):∀ (ss:List Stp) (i:Nat) (σ:Nat→AV),(∀ j,i≤j→j < i+ss.length→S j=Xc)→comp S i σ ss=σ
 | [], _, _, _ => rfl
 | s :: ss, i, σ, h => by
  simp only [comp,h i (Xz _) (by simp),UA,if_false]
  exact ZdY S ss (i+1) _ fun j h1 h2=>h j (by omega) (by simp only [XA];omega)
theorem Vt {d:Nat} (S T:Nat→Bool):∀ (ss:List Stp) (i:Nat) (σ τ:Nat→AV),σ d=τ d→(∀ (j:Nat) (s:Stp),ss[j]? = Xa s→d∈s.ups.map (·.1)→S (i+j)=T (i+j))→comp S i σ ss d=comp T i τ ss d
 | [], _, _, _, h, _ => h
 | s :: ss, i, σ, τ, h, hS => by
  simp only [comp]
  refine Vt S T ss (i+1) _ _ ?_ fun j s' hs' hd=>by
   have:=hS (j+1) s' (by simpa using hs') hd
   rw [show i+1+j=i+(j+1) by omega]
   exact this
  by_cases hd:d∈s.ups.map (·.1)
  ·have h0:=hS 0 s rfl hd
   rw [Uf] at h0
   rw [h0]
   split
   ·rw [Jl,Jl,h]
   ·exact h
  ·have hl:=YS s.ups d hd
   split<;>split<;>first
    | (rw [Jl, Jl, hl]; exact h)
    | (rw [Jl, hl]; exact h)
    | exact h
theorem ZbD:∀ (ss:List Stp) (i:Nat) (σ:Nat→AV) (m:Nat),comp (fun j=>decide (j < i+m)) i σ ss=Zcd σ (ss.take m)
 | [], i, σ, m => by simp [comp, Zcd]
 | s :: ss, i, σ, 0 => by
  rw [List.take_zero]
  exact ZdY _ (s::ss) i σ fun j h1 _=>by simp;omega
 | s :: ss, i, σ, m + 1 => by
  simp only [comp,List.take_succ_cons,Zcd,decide_eq_true_eq]
  rw [if_pos (by omega),← ZbD ss (i+1)]
  congr 1
  funext j
  rw [show i+1+m=i+(m+1) by omega]
theorem Zov (S:Nat→Bool):∀ (ss:List Stp) (i:Nat) (σ:Nat→AV),(∀ s∈ss,∀ u∈s.ups,B u.1→Ze7 u.2)→(∀ d,B d→Ze7 (σ d))→∀ d,B d→Ze7 (comp S i σ ss d)
 | [], _, _, _, h, d, hd => h d hd
 | s :: ss, i, σ, hu, h, d, hd => by
  simp only [comp]
  refine Zov S ss (i+1) _ (fun s' hs'=>hu s' (by simp [hs'])) (fun d hd=>?_) d hd
  split
  ·exact Zgp _ _ (hu s (by simp)) h d hd
  ·exact h d hd
theorem Zhl:∀ (ss:List Stp) (i:Nat) (σ:Nat→AV),ZfP T P nt ops B i σ ss→∀ s∈ss,∀ u∈s.ups,B u.1→Ze7 u.2
 | [], _, _, _, s, hs => by simp at hs
 | s0 :: ss, i, σ, h, s, hs => by
  rcases Xp.1 hs with rfl | hs
  ·exact h.1.2.1
  ·exact Zhl ss (i+1) _ h.2 s hs
theorem Znr:∀ (us:List (Nat×AV)) (σ:Nat→AV),(∀ u∈us,∀ d k,T.nr d u.1=Xb→¬ JB u.2 d k)→(∀ d i k,T.nr d i=Xb→¬ JB (σ i) d k)→∀ d i k,T.nr d i=Xb→¬ JB (JE σ us i) d k
 | [], _, _, h => h
 | (e, x) :: us, σ, hu, h => by
  refine Znr us (upd σ e x) (fun u h'=>hu u (by simp [h'])) fun d i k hd=>?_
  by_cases he:i=e
  ·subst he;rw [ZF];exact hu (i,x) (by simp) d k hd
  ·rw [Ze _ _ he];exact h d i k hd
theorem Zoa (S:Nat→Bool):∀ (ss:List Stp) (i:Nat) (σ:Nat→AV),(∀ s∈ss,∀ u∈s.ups,∀ d k,T.nr d u.1=Xb→¬ JB u.2 d k)→(∀ d i k,T.nr d i=Xb→¬ JB (σ i) d k)→∀ d j k,T.nr d j=Xb→¬ JB (comp S i σ ss j) d k
 | [], _, _, _, h => h
 | s :: ss, i, σ, hu, h => by
  simp only [comp]
  refine Zoa S ss (i+1) _ (fun s' hs'=>hu s' (by simp [hs'])) ?_
  split
  ·exact Znr _ _ (hu s (by simp)) h
  ·exact h
theorem ZjP:∀ (ss:List Stp) (i:Nat) (σ:Nat→AV),ZfP T P nt ops B i σ ss→∀ s∈ss,∀ u∈s.ups,∀ d k,T.nr d u.1=Xb→¬ JB u.2 d k
 | [], _, _, _, s, hs => by simp at hs
 | s0 :: ss, i, σ, h, s, hs => by
  rcases Xp.1 hs with rfl | hs
  ·exact h.1.2.2.1
  ·exact ZjP ss (i+1) _ h.2 s hs
theorem ZgE {τ:Nat→AV} : ∀ (us:List (Nat×AV)) (σ:Nat→AV),(∀ u∈us,∀ j,T.kp u.1 j=Xb→Js u.2 j=Js (τ u.1) j)→(∀ d j,T.kp d j=Xb→Js (σ d) j=Js (τ d) j)→∀ d j,T.kp d j=Xb→Js (JE σ us d) j=Js (τ d) j
 | [], _, _, h => h
 | (e, x) :: us, σ, hu, h => by
  refine ZgE us (upd σ e x) (fun u h'=>hu u (by simp [h'])) fun d j hd=>?_
  by_cases he:d=e
  ·subst he;rw [ZF];exact hu (d,x) (by simp) j hd
  ·rw [Ze _ _ he];exact h d j hd
theorem Zmo (S:Nat→Bool):∀ (ss:List Stp) (i:Nat) (τ σ:Nat→AV),(∀ s∈ss,∀ u∈s.ups,∀ j,T.kp u.1 j=Xb→Js u.2 j=Js (τ u.1) j)→(∀ d j,T.kp d j=Xb→Js (σ d) j=Js (τ d) j)→∀ d j,T.kp d j=Xb→Js (comp S i σ ss d) j=Js (τ d) j
 | [], _, _, _, _, h => h
 | s :: ss, i, τ, σ, hu, h => by
  simp only [comp]
  refine Zmo S ss (i+1) τ _ (fun s' hs'=>hu s' (by simp [hs'])) ?_
  split
  ·exact ZgE _ _ (hu s (by simp)) h
  ·exact h
theorem Znt:∀ (ss:List Stp) (τ σ:Nat→AV),(∀ s∈ss,∀ u∈s.ups,∀ j,T.kp u.1 j=Xb→Js u.2 j=Js (τ u.1) j)→(∀ d j,T.kp d j=Xb→Js (σ d) j=Js (τ d) j)→∀ d j,T.kp d j=Xb→Js (Zcd σ ss d) j=Js (τ d) j
 | [], _, _, _, h => h
 | s :: ss, τ, σ, hu, h => by
  simp only [Zcd]
  exact Znt ss τ _ (fun s' hs'=>hu s' (by simp [hs'])) (ZgE _ _ (hu s (by simp)) h)
theorem ZgJ:∀ (ss:List Stp) (i:Nat) (σ:Nat→AV),ZfP T P nt ops B i σ ss→∀ s∈ss,∀ u∈s.ups,∀ j,T.kp u.1 j=Xb→Js u.2 j=Js (σ u.1) j
 | [], _, _, _, s, hs => by simp at hs
 | s0 :: ss, i, σ, h, s, hs => by
  rcases Xp.1 hs with rfl | hs
  ·exact h.1.2.2.2.1
  ·intro u hu j hj
   rw [ZgJ ss (i+1) _ h.2 s hs u hu j hj]
   exact ZgE s0.ups σ (τ:=σ) h.1.2.2.2.1 (fun _ _ _=>rfl) u.1 j hj
theorem ZcT:∀ (ss:List Stp) (i:Nat) (σ:Nat→AV),ZfP T P nt ops B i σ ss→∀ (j:Nat) (s:Stp),ss[j]? = Xa s→ZsO T P nt ops B (i+j) (Zcd σ (ss.take j)) s
 | [], _, _, _, j, s, h => by simp at h
 | s0 :: ss, i, σ, hc, 0, s, h => by
  simp only [XB,Xf] at h
  subst h
  exact hc.1
 | s0 :: ss, i, σ, hc, j + 1, s, h => by
  have:=ZcT ss (i+1) _ hc.2 j s (by simpa using h)
  rw [show i+(j+1)=i+1+j by omega]
  exact this
theorem ZbQ:∀ (us:List (Nat×AV)) (d:Nat) (x:AV),V5 us d=Xa x→(d,x)∈us
 | [], d, x, h => by simp [V5] at h
 | (e, y) :: us, d, x, h => by
  simp only [V5] at h
  cases hl:V5 us d with
  | some z =>
   rw [hl] at h
   cases h
   exact List.mem_cons_of_mem _ (ZbQ us d _ hl)
  | none =>
   rw [hl] at h
   simp only at h
   split at h
   ·rename_i hd
    cases h
    subst hd
    exact List.mem_cons_self
   ·cases h
theorem Zd6 (S:Nat→Bool) (d:Nat) (ss:List Stp):∀ (n:Nat),n≤ss.length→∃ m,m≤n∧(∀ (j:Nat) (s:Stp),ss[j]? = Xa s→d∈s.ups.map (·.1)→m≤j→j < n→S j=Xb→False)∧
  (m=0∨∃ m',m=m'+1∧S m'=Xb∧∃ s,ss[m']? = Xa s∧d∈s.ups.map (·.1))
 | 0, _ => ⟨0, Xz _, fun _ _ _ _ _ h => by omega, .inl rfl⟩
 | n + 1, hn => by
  obtain ⟨m,h1,h2,h3⟩:=Zd6 S d ss n (by omega)
  obtain ⟨s,hs⟩:∃ s,ss[n]? = Xa s:=⟨_,Xs (by omega)⟩
  by_cases hw:S n=Xb∧d∈s.ups.map (·.1)
  ·exact ⟨n+1,Xz _,fun j s' _ _ _ _=>by omega,.inr ⟨n,rfl,hw.1,s,hs,hw.2⟩⟩
  ·refine ⟨m,by omega,fun j s' hj hd hm hlt hS=>?_,h3⟩
   rcases XF j n with hlt' | hge
   ·exact h2 j s' hj hd hm hlt' hS
   ·have:j=n:=by omega
    subst this
    rw [hs] at hj
    cases hj
    exact hw ⟨hS,hd⟩
theorem ZkT:∀ (l:List Stp) (s:Stp) (τ:Nat→AV),Zcd τ (l++[s])=JE (Zcd τ l) s.ups
 | [], _, _ => rfl
 | _ :: l, s, _ => ZkT l s _
theorem Zec {ss:List Stp} {σ:Nat→AV} (hch:ZfP T P nt ops B 0 σ ss) (d a:Nat):∀ (b:Nat),a≤b→(∀ (j:Nat) (s:Stp),a≤j→j < b→ss[j]? = Xa s→d∈s.ups.map (·.1)→vS d∉s.V)→
  (∀ rows,Zcd σ (ss.take a) d = .store rows→∃ rows',Zcd σ (ss.take b) d = .store rows'∧rows <+: rows')∧∀ rows,Zcd σ (ss.take b) d = .store rows→∃ rows',Zcd σ (ss.take a) d = .store rows'∧rows' <+: rows
 | 0, h, _ => by
  have:a=0:=by omega
  subst this
  exact ⟨fun rows h=>⟨rows,h,Td _⟩,fun rows h=>⟨rows,h,Td _⟩⟩
 | b + 1, h, hg => by
  rcases XF b a with hlt | hge
  ·have:a=b+1:=by omega
   subst this
   exact ⟨fun rows h=>⟨rows,h,Td _⟩,fun rows h=>⟨rows,h,Td _⟩⟩
  ·obtain ⟨i1,i2⟩:=Zec hch d a b hge fun j s h1 h2=>hg j s h1 (by omega)
   rw [List.take_add_one]
   cases hs:ss[b]? with
   | none => simp only [Option.toList_none, XJ]; exact ⟨i1, i2⟩
   | some s =>
    rw [Option.toList_some,ZkT,Jl]
    have hst:=(ZcT ss 0 σ hch b s hs).1.2
    cases hl:V5 s.ups d with
    | none => exact ⟨i1, i2⟩
    | some x =>
     have hm:=ZbQ _ _ _ hl
     obtain ⟨g1,g2⟩:=hst _ hm
     have hnv:=hg b s hge (by omega) hs (Xj.2 ⟨_,hm,rfl⟩)
     refine ⟨fun rows hr=>?_,fun rows hr=>?_⟩
     ·obtain ⟨rows',k1,k2⟩:=i1 rows hr
      simp only [US]
      dsimp only at g1 g2
      rw [k1] at g1
      cases x<;>simp [AV.isSto] at g1
      exact ⟨_,rfl,k2.trans ((g2 rows' _ k1 rfl).resolve_left hnv)⟩
     ·simp only [US] at hr
      dsimp only at g1 g2
      rw [hr] at g1
      cases hp:Zcd σ (ss.take b) d with
      | store rows' =>
       obtain ⟨rows2,k1,k2⟩:=i2 rows' hp
       exact ⟨rows2,k1,k2.trans ((g2 rows' _ hp hr).resolve_left hnv)⟩
      | _ => rw [hp] at g1; cases g1
theorem Zof (hc:c.P=P) (hn:c.nt=nt) {N:Nat→Bool} {M:Nat→Option Nat} {K:List (Nat×Nat)} {ss:List Stp} {σ:Nat→AV} (hch:ZfP (.any N M K) P nt ops B 0 σ ss) (hN:∀ d i k,(Odr.any N M K).nr d i=Xb→¬ JB (σ i) d k) (hpb:∀ d,B d→Ze7 (σ d)) (hlen:ss.length=ops.size)
  (hlow:∀ (i:Nat) (o:Oper),ops[i]? = Xa o→∀ e∈o.after,Region.binds .any e=Xb→e.on < i)
  (hind:∀ (i j:Nat) (a b:Stp),ss[i]? = Xa a→ss[j]? = Xa b→j < i→(∃ S:Nat→Prop,(∀ k o,ops[k]? = Xa o→S k→∀ e∈o.after,Region.binds .any e=Xb→S e.on)∧S i∧¬ S j)→
   (∀ d∈b.D,d∉a.F)∧∀ d∈a.D,d∉b.F) (hfin:∀ tm' w' lim' X',Sim c (Zcd σ ss) tm' w' lim' X'→Q .normal ⟨tm',[]⟩ w') :
  ∀ (fuel:Nat) (listed:Array Bool) (tm:Array Value) (w:World) (lim:Lm) (X:Nat→Nat→Option Nat),listed.size=ops.size→
   (∀ k o,ops[k]? = Xa o→listed.getD k Xc=Xb→∀ e∈o.after,Region.binds .any e=Xb→listed.getD e.on Xc=Xb)→
   ((Wu ops.size).countP (fun i=>!listed.getD i Xc)≤fuel)→
   Sim c (comp (fun i=>listed.getD i Xc) 0 σ ss) tm w lim X→wpAny P .any ops Q fuel listed ⟨tm,[]⟩ w:=by
 -- where nothing is ready, all is done
 have hdone:∀ (listed:Array Bool),listed.size=ops.size→Region.ready .any ops listed = []→∀ j,j < ops.size→listed.getD j Xc=Xb:=by
  intro listed hsz hr j
  induction j using Nat.strongRecOn with
  | _ j ih =>
   intro hj
   cases hl:listed.getD j Xc with
   | true => rfl
   | false =>
    have:j∈Region.ready .any ops listed:=by
     rw [mem_ready]
     refine ⟨?_,ops[j],We hj,fun e he hb=>?_⟩
     ·simp only [Wv,hsz,hj,dite_true] at hl ⊢
      exact hl
     ·have hlt:=hlow j _ (We hj) e he hb
      exact ih e.on hlt (by omega)
    rw [hr] at this
    cases this
 have hend:∀ (listed:Array Bool) (tm:Array Value) (w:World) (lim:Lm) (X:Nat→Nat→Option Nat),listed.size=ops.size→Region.ready .any ops listed = []→
   Sim c (comp (fun i=>listed.getD i Xc) 0 σ ss) tm w lim X→Q .normal ⟨tm,[]⟩ w:=by
  intro listed tm w lim X hsz hr hs
  rw [ZjD _ ss 0 σ fun j _ h2=>hdone listed hsz hr j (by omega)] at hs
  exact hfin tm w lim X hs
 intro fuel
 induction fuel with
 | zero =>
  intro listed tm w lim X hsz hcl hcnt hs
  have hall:∀ j,j < ops.size→listed.getD j Xc=Xb:=by
   intro j hj
   have h0:(Wu ops.size).countP (fun i=>!listed.getD i Xc)=0:=by omega
   have:=(List.countP_eq_zero.1 h0) j (by simpa using hj)
   simpa using this
  have hr:Region.ready .any ops listed = []:=by
   refine List.eq_nil_iff_forall_not_mem.2 fun j hj=>?_
   obtain ⟨h1,o,h2,_⟩:=mem_ready.1 hj
   have hlt:=(Uj.1 h2).1
   have:=hall j hlt
   simp only [Wv,hsz,hlt,dite_true] at h1 this
   rw [h1] at this
   cases this
  exact ⟨hr,hend listed tm w lim X hsz hr hs⟩
 | succ fuel ih =>
  intro listed tm w lim X hsz hcl hcnt hs
  refine ⟨fun hr=>hend listed tm w lim X hsz hr hs,fun i hi=>?_⟩
  obtain ⟨h1,o,h2,h3⟩:=mem_ready.1 hi
  have hlt:=(Uj.1 h2).1
  have hun:listed.getD i Xc=Xc:=by
   simp only [Wv,hsz,hlt,dite_true] at h1 ⊢
   exact h1
  obtain ⟨s,hsi⟩:∃ s,ss[i]? = Xa s:=⟨_,Xs (by omega)⟩
  have hst:=ZcT ss 0 σ hch i s hsi
  rw [XH] at hst
  have hset:∀ j,(listed.setIfInBounds i Xb).getD j Xc=if j=i then Xb else listed.getD j Xc:=by
   intro j
   by_cases hji:j=i
   ·subst hji
    simp [Wv,hsz,hlt]
   ·rw [if_neg hji,getD_set_ne Xc (Ne.symm hji)]
  -- i is not before what is listed
  have hnot:∀ j,listed.getD j Xc=Xb→∃ S:Nat→Prop,(∀ k o,ops[k]? = Xa o→S k→∀ e∈o.after,Region.binds .any e=Xb→S e.on)∧S j∧¬ S i:=
   fun j hj=>⟨fun k=>listed.getD k Xc=Xb,hcl,hj,by simp [hun]⟩
  -- what is not listed is not before i
  have hnot':∀ j,j≠i→listed.getD j Xc=Xc→∃ S:Nat→Prop,(∀ k o,ops[k]? = Xa o→S k→∀ e∈o.after,Region.binds .any e=Xb→S e.on)∧S i∧¬ S j:=by
   intro j hji hj
   refine ⟨fun k=>k=i∨listed.getD k Xc=Xb,fun k o' hk hS e he hb=>?_,.inl rfl,by simp [hji,hj]⟩
   rcases hS with rfl | hS
   ·rw [h2] at hk
    cases hk
    exact .inr (h3 e he hb)
   ·exact .inr (hcl k o' hk hS e he hb)
  have hpre:∀ d∈s.F,comp (fun i=>listed.getD i Xc) 0 σ ss d=Zcd σ (ss.take i) d:=by
   intro d hd
   rw [← ZbD ss 0 σ i]
   refine Vt _ _ ss 0 σ σ rfl fun j s' hj hdj=>?_
   simp only [XH]
   rcases Tj j i with hlt' | rfl | hgt
   ·simp only [hlt',decide_true]
    cases hl:listed.getD j Xc with
    | true => rfl
    | false => exact (((hind i j s s' hsi hj hlt' (hnot' j (by omega) hl)).1 d (UB _ hdj)) hd).elim
   ·simp [hun]
   ·have hf:decide (j < i)=Xc:=by simp;omega
    rw [hf]
    cases hl:listed.getD j Xc with
    | false => rfl
    | true => exact (((hind j i s' s hj hsi hgt (hnot j hl)).2 d (UB _ hdj)) hd).elim
  have hcmp:∀ d,vS d∈s.F→ZsG (Zcd σ (ss.take i) d) (comp (fun i=>listed.getD i Xc) 0 σ ss d):=by
   intro d hd
   obtain ⟨m,hm1,hm2,hm3⟩:=Zd6 (fun i=>listed.getD i Xc) d ss ss.length (Xz _)
   have hall:∀ (j:Nat) (s':Stp),ss[j]? = Xa s'→d∈s'.ups.map (·.1)→listed.getD j Xc=decide (j < m):=by
    intro j s' hj hdj
    by_cases hjm:j < m
    ·rw [decide_eq_true hjm]
     rcases hm3 with rfl | ⟨m',rfl,hS,s2,hs2,hd2⟩
     ·omega
     ·cases hl:listed.getD j Xc with
      | true => rfl
      | false =>
       exfalso
       have hne:j≠m':=fun e=>by rw [e,hS] at hl;cases hl
       have hF2:d∈s2.F:=by
        obtain ⟨u,hu,rfl⟩:=Xj.1 hd2
        have:=ZcT ss 0 σ hch m' s2 hs2
        exact this.1.1 u hu
       exact ((hind m' j s2 s' hs2 hj (by omega) ⟨fun k=>listed.getD k Xc=Xb,hcl,hS,by simp [hl]⟩).1 d (UB _ hdj)) hF2
    ·rw [decide_eq_false hjm]
     cases hl:listed.getD j Xc with
     | false => rfl
     | true => exact (hm2 j s' hj hdj (by omega) (Xk.1 hj).1 hl).elim
   have hcomp:comp (fun i=>listed.getD i Xc) 0 σ ss d=Zcd σ (ss.take m) d:=by
    rw [← ZbD ss 0 σ m]
    exact Vt _ _ ss 0 σ σ rfl fun j s' hj hdj=>by simp only [XH];exact hall j s' hj hdj
   rw [hcomp]
   rcases XF i m with hlt' | hge
   ·intro rows hr
    obtain ⟨rows',g1,g2⟩:=(Zec hch d i m (Nat.le_of_lt hlt') fun j s' hj1 hj2 hj hdj hv=>by
     have hl:listed.getD j Xc=Xb:=by rw [hall j s' hj hdj];exact decide_eq_true hj2
     have hji:j≠i:=fun e=>by rw [e,hun] at hl;cases hl
     exact ((hind j i s' s hj hsi (by omega) (hnot j hl)).2 _ (U8 _ hv)) hd).1 rows hr
    exact ⟨rows',g1,.inl g2⟩
   ·intro rows hr
    obtain ⟨rows',g1,g2⟩:=(Zec hch d m i hge fun j s' hj1 hj2 hj hdj hv=>by
     have hl:listed.getD j Xc=Xc:=by rw [hall j s' hj hdj];exact decide_eq_false (by omega)
     exact ((hind i j s s' hsi hj hj2 (hnot' j (by omega) hl)).1 _ (U8 _ hv)) hd).2 rows hr
    exact ⟨rows',g1,.inr g2⟩
  refine hst.2.2.2.2 c hc hn _ tm w lim X hpre (Zov _ ss 0 σ (Zhl ss 0 σ hch) hpb) ⟨Zoa _ ss 0 σ (ZjP ss 0 σ hch) hN,fun d j hd=>(Zmo _ ss 0 σ σ (ZgJ ss 0 σ hch) (fun _ _ _=>rfl) d j hd).trans (Znt (ss.take i) σ σ (fun s' hs'=>ZgJ ss 0 σ hch s' (XQ hs')) (fun _ _ _=>rfl) d j hd).symm⟩ hcmp hs Q _ fun tm' w' lim' X' hs'=>?_
  refine ih (listed.setIfInBounds i Xb) tm' w' lim' X' (by simpa using hsz) ?_ ?_ ?_
  ·intro k o' hk hl e he hb
   rw [hset] at hl ⊢
   by_cases hei:e.on=i
   ·simp [hei]
   ·rw [if_neg hei]
    by_cases hki:k=i
    ·subst hki
     rw [h2] at hk
     cases hk
     exact h3 e he hb
    ·rw [if_neg hki] at hl
     exact hcl k o' hk hl e he hb
  ·have hlt2:(Wu ops.size).countP (fun j=>!(listed.setIfInBounds i Xb).getD j Xc) < (Wu ops.size).countP (fun j=>!listed.getD j Xc):=by
    have key:∀ (l:List Nat),i∈l→l.countP (fun j=>!(listed.setIfInBounds i Xb).getD j Xc) < l.countP (fun j=>!listed.getD j Xc):=by
     have hle:∀ (l:List Nat),l.countP (fun j=>!(listed.setIfInBounds i Xb).getD j Xc)≤l.countP (fun j=>!listed.getD j Xc):=by
      intro l
      refine List.countP_mono_left fun j _ hj=>?_
      rw [hset] at hj
      split at hj
      ·simp at hj
      ·exact hj
     intro l
     induction l with
     | nil => intro h; cases h
     | cons x l ihl =>
      intro h
      rw [UO,UO]
      by_cases hx:x=i
      ·subst hx
       have h1:(listed.setIfInBounds x Xb).getD x Xc=Xb:=by rw [hset,if_pos rfl]
       have:=hle l
       rw [h1,hun]
       simp only [Bool.not_true,Bool.not_false,UA,if_false,if_true]
       omega
      ·have:=ihl (by rcases Xp.1 h with h | h;exact (hx h.symm).elim;exact h)
       rw [hset x,if_neg hx]
       omega
    exact key _ (by simpa using hlt)
   omega
  ·have he:comp (fun j=>(listed.setIfInBounds i Xb).getD j Xc) 0 σ ss=JE (comp (fun i=>listed.getD i Xc) 0 σ ss) s.ups:=by
    funext d
    rw [Jl]
    by_cases hd:d∈s.ups.map (·.1)
    ·have hdF:d∈s.F:=by
      obtain ⟨u,hu,rfl⟩:=Xj.1 hd
      exact hst.1.1 u hu
     -- nothing behind i that is listed writes d
     rw [Vt (d:=d) _ (fun j=>decide (j < i+1)) ss 0 σ σ rfl fun j s' hj hdj=>?_]
     ·have:=ZbD ss 0 σ (i+1)
      rw [XH] at this
      rw [this,List.take_add_one,hsi]
      have happ:∀ (l:List Stp) (τ:Nat→AV),Zcd τ (l++[s])=JE (Zcd τ l) s.ups:=by
       intro l
       induction l with
       | nil => intro τ; rfl
       | cons x l ihl => intro τ; exact ihl _
      show Zcd σ (ss.take i++[s]) d=_
      rw [happ,Jl]
      obtain ⟨x,hx⟩:=K8 s.ups d hd
      rw [hx]
      rfl
     ·rw [XH,hset]
      rcases Tj j i with hlt' | rfl | hgt
      ·have:decide (j < i+1)=Xb:=by simp;omega
       rw [this,if_neg (by omega)]
       cases hl:listed.getD j Xc with
       | true => rfl
       | false => exact (((hind i j s s' hsi hj hlt' (hnot' j (by omega) hl)).1 d (UB _ hdj)) hdF).elim
      ·simp
      ·have:decide (j < i+1)=Xc:=by simp;omega
       rw [this,if_neg (by omega)]
       cases hl:listed.getD j Xc with
       | false => rfl
       | true => exact (((hind j i s' s hj hsi hgt (hnot j hl)).2 d (UB _ hdj)) hdF).elim
    ·rw [YS s.ups d hd]
     refine Vt _ _ ss 0 σ σ rfl fun j s' hj hdj=>?_
     rw [XH,hset]
     by_cases hji:j=i
     ·subst hji
      rw [hsi] at hj
      cases hj
      exact (hd hdj).elim
     ·rw [if_neg hji]
   rw [he]
   exact hs'
end
theorem ZfY {ops:Array Oper} {S:Nat→Prop} (hS:∀ k o,ops[k]? = Xa o→S k→∀ e∈o.after,Region.binds .any e=Xb→S e.on) (i j:Nat) (hi:S i)
  (hb:((Region.before ops).getD i 0).testBit j=Xb):S j:=by
 have inner:∀ (acc:Array Nat),(∀ i j,S i→(acc.getD i 0).testBit j=Xb→S j)→∀ (l:List Edge),(∀ e∈l,Region.binds .any e=Xb→S e.on)→∀ (s:Nat),(∀ j,s.testBit j=Xb→S j)→
   ∀ j,(l.foldl (fun s e=>if Region.binds .any e then s||| 2^e.on||| acc.getD e.on 0 else s) s).testBit j=Xb→S j:=by
  intro acc hacc l
  induction l with
  | nil => intro _ s hs j hj; exact hs j hj
  | cons e l ih =>
   intro hl s hs j hj
   rw [List.foldl_cons] at hj
   refine ih (fun e' he'=>hl e' (by simp [he'])) _ ?_ j hj
   intro j' hj'
   split at hj'
   ·rename_i hbd
    have hon:=hl e (by simp) hbd
    rw [Nat.testBit_or,Nat.testBit_or,Nat.testBit_two_pow,U5,U5,decide_eq_true_eq] at hj'
    rcases hj' with (h | h) | h
    ·exact hs j' h
    ·rw [← h];exact hon
    ·exact hacc e.on j' hon h
   ·exact hs j' hj'
 have outer:∀ (l:List Oper) (acc:Array Nat),(∀ j,l[j]? = ops[acc.size+j]?)→(∀ i j,S i→(acc.getD i 0).testBit j=Xb→S j)→
   ∀ i j,S i→((l.foldl (fun acc o=>acc.push (o.after.foldl (fun s e=>if Region.binds .any e then s||| 2^e.on||| acc.getD e.on 0 else s) 0)) acc).getD i 0).testBit j=Xb→S j:=by
  intro l
  induction l with
  | nil => intro acc _ hacc i j hi hj; exact hacc i j hi hj
  | cons o l ih =>
   intro acc hl hacc i j hi hj
   rw [List.foldl_cons] at hj
   refine ih _ (fun j=>?_) ?_ i j hi hj
   ·have:=hl (j+1)
    simp only [X7,Array.size_push] at this ⊢
    rw [this]
    congr 1
    omega
   ·intro i' j' hi' hj'
    have h0:ops[acc.size]? = Xa o:=by simpa using (hl 0).symm
    by_cases h:i' < acc.size
    ·refine hacc i' j' hi' ?_
     simp only [Wv,Array.size_push,h,dite_true] at hj' ⊢
     rw [dif_pos (by omega)] at hj'
     simp only [Array.getInternal_eq_getElem,Array.getElem_push,h,dite_true] at hj' ⊢
     exact hj'
    ·by_cases h':i'=acc.size
     ·subst h'
      have:(acc.push (o.after.foldl (fun s e=>if Region.binds .any e then s||| 2^e.on||| acc.getD e.on 0 else s) 0)).getD acc.size 0=o.after.foldl (fun s e=>if Region.binds .any e then s||| 2^e.on||| acc.getD e.on 0 else s) 0:=by
       simp [Wv]
      rw [this,← Array.foldl_toList] at hj'
      exact inner acc hacc o.after.toList (fun e he hb=>hS acc.size o h0 hi' e (by simpa using he) hb) 0 (by simp) j' hj'
     ·have:(acc.push (o.after.foldl (fun s e=>if Region.binds .any e then s||| 2^e.on||| acc.getD e.on 0 else s) 0)).getD i' 0=0:=by
       simp only [Wv,Array.size_push]
       rw [dif_neg (by omega)]
      rw [this] at hj'
      simp at hj'
 have:=outer ops.toList #[] (fun j=>by simp) (fun i j _ h=>by simp at h) i j hi
 apply this
 rw [Array.foldl_toList]
 exact hb
theorem Sim.stoStep {c:Ctx} {σ:Nat→AV} {tm:Array Value} {w w':World} {lim lim':Lm} {X:Nat→Nat→Option Nat} (h:Sim c σ tm w lim X) {d:Nat} {rows rows':List (List AV)} {r:Nat→Option Nat} (hd:σ d = .store rows)
  (hw:V3 w lim w' lim' (fun b=>∃ k,X d k=Xa b) Xb) (hx:J2 c.P w' lim' r rows') (hr1:∀ k b,r k=Xa b→b < w'.heap.size∧(c.A b∨c.w0.heap.size≤b)∧∀ i j,i≠d→X i j≠Xa b)
  (hr2:∀ k k' b,r k=Xa b→r k'=Xa b→k=k'):Sim c (upd σ d (.store rows')) tm w' lim' (Zcj X d r):=by
 have hds:(σ d).isSto=Xb:=by rw [hd];rfl
 have hone:∀ i,(σ i).isSto=Xb→i=d:=fun i hi=>h.stf.2 i d hi hds
 have hdN:d < ngN:=by
  rcases XF d ngN with hlt | hge
  ·exact hlt
  ·have:=h.far d hge;rw [hd] at this;cases this
 have hX0:X d 0=Xe:=by
  have:=h.rel d
  rw [hd] at this
  exact this.2.1
 have kept:∀ i k b,i≠d→X i k=Xa b→ZgZ w lim w' lim' b:=fun i k b hi hb=>hw.blk b (h.ours i k b hb).1 fun ⟨k',hk'⟩=>hi (h.dist i k d k' b hb hk').1
 have hnf:∀ i k,JB (σ i) d k→False:=fun i k hr=>by
  obtain ⟨p,hp⟩:=WO h hr
  rw [hd] at hp
  cases k<;>cases hp
 refine ⟨fun i=>?_,h.size,fun i hi=>?_,fun i hi=>?_,fun i k i' k' b g g'=>?_,fun i k b g=>?_,h.frm.cstep hw (fun b ⟨k,hk⟩=>(h.ours d k b hk).2) (fun hc=>(by rw [h.stf.1 hc d] at hds;cases hds)),fun i v hv=>?_,fun i e xs he=>?_,fun i b hb=>?_,h.ntN,fun i hi=>?_,fun i k e xs b m1 m2 m3=>?_,fun b m b' hb=>?_,⟨fun hc=>(by rw [h.stf.1 hc d] at hds;cases hds),?_⟩⟩
 ·by_cases hi:i=d
  ·subst hi
   rw [ZF]
   show J2 c.P w' lim' (Zcj X i r i) rows'
   rw [Zu]
   exact hx
  ·rw [Ze σ _ hi]
   have h1:=(h.rel i).mono hw.ext (fun k b hb=>kept i k b hi hb) (fun d' k b he hb=>.of (kept d' k b (fun e=>by subst e;exact hnf i k (.inl he)) hb).1) fun rows0 hr0=>(hi (hone i (by rw [hr0];rfl))).elim
   refine h1.chg (Zh X r hi) (fun d' cs hd'=>?_) (fun d' hg=>?_) fun d' k hr=>?_
   ·have hdd:d'≠d:=fun e=>by rw [e,hd] at hd';cases hd'
    exact ⟨⟨cs,by rw [Ze σ _ hdd,hd']⟩,by rw [Zh X r hdd]⟩
   ·by_cases hdd:d'=d
    ·subst hdd
     refine ⟨by rw [ZF];rfl,?_⟩
     rw [Zu,hx.2.1,hX0]
    ·exact ⟨by rw [Ze σ _ hdd];exact hg,by rw [Zh X r hdd]⟩
   ·have hdd:d'≠d:=fun e=>by subst e;exact hnf i k hr
    exact ⟨by rw [Ze σ _ hdd];exact K9.refl _ _,by rw [Zh X r hdd]⟩
 ·by_cases hid:i=d
  ·subst hid;rw [ZF];exact .inr rfl
  ·rw [Ze σ _ hid];exact h.out i hi
 ·by_cases hid:i=d
  ·subst hid;exact h.ghost i (by rw [hd];rfl)
  ·rw [Ze σ _ hid] at hi;exact h.ghost i hi
 ·by_cases hi:i=d<;>by_cases hi':i'=d
  ·subst hi;subst hi'
   rw [Zu] at g g'
   exact ⟨rfl,hr2 k k' b g g'⟩
  ·subst hi
   rw [Zu] at g
   rw [Zh X r hi'] at g'
   exact ((hr1 k b g).2.2 i' k' hi' g').elim
  ·subst hi'
   rw [Zu] at g'
   rw [Zh X r hi] at g
   exact ((hr1 k' b g').2.2 i k hi g).elim
  ·rw [Zh X r hi] at g
   rw [Zh X r hi'] at g'
   exact h.dist i k i' k' b g g'
 ·by_cases hi:i=d
  ·subst hi
   rw [Zu] at g
   exact ⟨(hr1 k b g).1,(hr1 k b g).2.1⟩
  ·rw [Zh X r hi] at g
   exact ⟨XR (h.ours i k b g).1 hw.size,(h.ours i k b g).2⟩
 ·obtain ⟨h1,cs,h2⟩:=h.pin i v hv
  have hi:i≠d:=fun e=>by rw [e,hd] at h2;cases h2
  exact ⟨h1,cs,by rw [Ze σ _ hi,h2]⟩
 ·have hi:i≠d:=fun e=>by subst e;rw [ZF] at he;cases he
  rw [Ze σ _ hi] at he
  rw [show Zcj X d r i=X i from Zh X r hi]
  exact (h.mp i e xs he).mono hw.ext fun k b hb=>kept i k b hi hb
 ·obtain ⟨h1,h2⟩:=h.gpin i b hb
  have hi:i≠d:=fun e=>by subst e;rw [hX0] at h1;cases h1
  exact ⟨by rw [Zh X r hi];exact h1,by rw [Ze σ _ hi];exact h2⟩
 ·have hid:i≠d:=by omega
  rw [Ze σ _ hid];exact h.far i hi
 ·have hi:i≠d:=fun e=>by subst e;rw [ZF] at m1;cases k<;>cases m1
  rw [Ze σ _ hi] at m1
  rw [Zh X r hi] at m3
  rw [Zh X r (by omega)]
  exact (h.nst i k e xs b m1 m2 m3).mono hw.ext (kept i k b hi m3).1 fun j b' hb'=>kept _ j b' (by omega) hb'
 ·rw [Zh X r (by omega)] at hb
  exact XR (h.yfr b m b' hb) hw.size
 ·have hall:∀ i,(upd σ d (.store rows') i).isSto=Xb→i=d:=fun i hi=>by
   by_cases hid:i=d
   ·exact hid
   ·rw [Ze σ _ hid] at hi;exact hone i hi
  exact fun i i' g g'=>(hall i g).trans (hall i' g').symm
theorem Zay {rows:List (List AV)} {j:Nat} (h:Z0 (Z5 rows (j+1))=Xb):rows[j]? = Xa (Z5 rows (j+1)):=by
 simp only [Z5] at h ⊢
 cases hr:rows[j]? with
 | none => rw [hr] at h; cases h
 | some row => rfl
theorem Vq {c:Ctx} {σ:Nat→AV} {tm:Array Value} {w:World} {lim:Lm} {X:Nat→Nat→Option Nat} (h:Sim c σ tm w lim X) {d j:Nat} {rows:List (List AV)} (hd:σ d = .store rows) (hc:Z0 (Z5 rows (j+1))=Xb) :
  ∃ (b cap:Nat) (arr:Array Value) (t:TypeId),X d (j+1)=Xa b∧lim.t (j+1)=Xa (b,cap,t)∧w.heap[b]? = Xa (.cells arr t (0,0))∧lim b=0∧cap≤maxLen∧arr.size=cap*c.P.cellsOf t∧(Z5 rows (j+1)).length≤arr.size∧
   (∀ x∈Z5 rows (j+1),x.isCell=Xb)∧∀ (i:Nat) (x:AV) (u:Value),(Z5 rows (j+1))[i]? = Xa x→arr[i]? = Xa u→Rep w lim x u:=by
 have hs:=h.rel d
 rw [hd] at hs
 have hr:=Zay hc
 generalize Z5 rows (j+1)=row at hc hr
 rcases hs.2.2 j row hr with rfl | ⟨b,cap,ty,h1,h2,h3,h4⟩
 ·cases hc
 ·rcases h4 with ⟨arr,g0,g1,g2,g3,g4,g5⟩ | ⟨_,_,_,_,rfl,_⟩
  ·exact ⟨b,cap,arr,ty,h2,h1,g1,h3,g0,g2,g3,g4,g5⟩
  ·cases hc
theorem KP {w:World} {lim:Lm} {j off:Nat} {v:Value} (h:Rep w lim (.oref (j+1) off) v):∃ b cap ty,lim.t (j+1)=Xa (b,cap,ty)∧v = .pointer (Xa ⟨b,off,Xe⟩):=by
 cases h with
 | oref _ ht => exact ⟨_, _, _, ht, rfl⟩
theorem Zgm {w:World} {lim:Lm} {e:TypeId} {j n:Nat} {v:Value} (h:Rep w lim (.osl e (j+1) n) v):∃ b cap,lim.t (j+1)=Xa (b,cap,e)∧v = .slice (Xa ⟨b,0,Xe⟩) n cap∧n≤cap:=by
 cases h with
 | osl _ ht hn => exact ⟨_, _, ht, rfl, hn⟩
theorem Zgu {w:World} {lim:Lm} {e:TypeId} {j n:Nat} {v:Value} (h:Rep w lim (.osl e j n) v):∃ a cap,v = .slice a n cap∧n≤cap:=by
 cases h with
 | osl0 => exact ⟨_, _, rfl, Xz _⟩
 | osl _ _ hn => exact ⟨_, _, rfl, hn⟩
theorem Zbw {w:World} {lim:Lm} {j:Nat} {v:Value} (h:Rep w lim (.omap (j+1)) v):∃ b cap ty,lim.t (j+1)=Xa (b,cap,ty)∧v = .map (Xa b):=by
 cases h with
 | omap _ ht => exact ⟨_, _, _, ht, rfl⟩
theorem Zqu {c:Ctx} {σ':Nat→AV} {tm:Array Value} {w:World} {lim:Lm} {X:Nat→Nat→Option Nat} (h:Sim c σ' tm w lim X) {d j:Nat} {rows rows':List (List AV)} (hd:σ' d = .store rows') (hp:rows <+: rows'∨rows' <+: rows) (hc:Z0 (Z5 rows (j+1))=Xb) {p:Nat×Nat×TypeId} (ht:lim.t (j+1)=Xa p) :
  Z5 rows' (j+1)=Z5 rows (j+1):=by
 have hs:=h.rel d
 rw [hd] at hs
 have hr:=Zay hc
 have hlt:j < rows'.length:=by
  rcases XF j rows'.length with h | h
  ·exact h
  ·rw [hs.1 (j+1) (by omega)] at ht;cases ht
 have hlt':=(Xk.1 hr).1
 simp only [Z5]
 rcases hp with ⟨l,rfl⟩ | ⟨l,rfl⟩
 ·rw [Xx hlt']
 ·rw [Xx hlt]
theorem ZaI {P:Program} {o:Oper} {σ:Nat→AV} {T:TypeId} {a:Operand} {d j off:Nat} {rows:List (List AV)} {x:AV} (ho:o.op = .load T a) (hT:Ji P T=Xa Xc)
  (ha:Zn P σ a = .oref (j+1) off) (hd:σ d = .store rows) (hr:Z0 (Z5 rows (j+1))=Xb) (hx:(Z5 rows (j+1))[off]? = Xa x):Jt P o σ x [] [d]:=by
 intro c hc σ' tm w lim X hid hag hsim next Q hn
 have hg:Zn P σ' a=Zn P σ a:=ZG fun t ht=>hid t (by simp [Zt (o:=o) (x:=a) (by rw [ho];simp [Op.operands]) ht])
 have hv:=J8 hc hsim ha hg
 have hd':σ' d = .store rows:=by rw [hag d (by simp),hd]
 obtain ⟨b,cap,arr,t,g1,g2,g4,g5,g0,g6,g7,g8,g9⟩:=Vq hsim hd' hr
 obtain ⟨b2,cap2,ty2,k1,k2⟩:=KP hv
 rw [g2] at k1
 cases k1
 have hlt:off < (Z5 rows (j+1)).length:=(Xk.1 hx).1
 have hu:arr[off]? = Xa arr[off]:=We (by omega)
 have hcell:w.cell? ⟨b,off,Xe⟩=Xa arr[off]:=by
  rw [ZP g4]
  simp
 obtain ⟨p1,p2⟩:=Ku (P:=P) (X:=X) (σ:=σ') (k:=0) (g8 x (Xm hx)) (g9 off x _ hx hu)
 refine Zj (v:=arr[off]) ?_ (hn _ w (Zv hsim p1 (k:=0) (by rw [hc];exact p2)))
 simp [execOp,ho,k2,J5 hT hcell]
theorem ZbE {P:Program} {o:Oper} {σ:Nat→AV} {T:TypeId} {a:Operand} {d j off:Nat} {rows:List (List AV)} (ho:o.op = .load T a) (hT:Ji P T=Xa Xb)
  (ha:Zn P σ a = .oref (j+1) off) (hd:σ d = .store rows) (hr:Z0 (Z5 rows (j+1))=Xb) (hn:off+P.cellsOf T≤(Z5 rows (j+1)).length):Jt P o σ (.agg (((Z5 rows (j+1)).drop off).take (P.cellsOf T))) [] [d]:=by
 refine Zp [d] rfl fun c hc σ' tm w lim X hg hfp hsim=>?_
 rw [ho] at hg
 have hv:=J8 hc hsim ha (hg a (by simp [Op.operands]))
 have hd':σ' d = .store rows:=by rw [hfp d (by simp),hd]
 obtain ⟨b,cap,arr,t,g1,g2,g4,g5,g0,g6,g7,g8,g9⟩:=Vq hsim hd' hr
 obtain ⟨b2,cap2,ty2,k1,k2⟩:=KP hv
 rw [g2] at k1
 cases k1
 obtain ⟨us,hus⟩:∃ us,us=(arr.toList.drop off).take (P.cellsOf T):=⟨_,rfl⟩
 have hul:us.length=P.cellsOf T:=by rw [hus];simp;omega
 have hat:∀ (i:Nat) (u:Value),us[i]? = Xa u→arr[off+i]? = Xa u:=fun i u hu=>by
  rw [hus,XC] at hu
  split at hu
  ·rw [XO] at hu;simpa using hu
  ·cases hu
 refine ⟨.agg us.toArray,?_,?_⟩
 ·have:=VQ (w:=w) (b:=b) (off:=off) (us:=us) hT hul (fun i u hi=>by
   rw [ZP g4]
   simpa using hat i u hi)
  simp [execOp,ho,k2,this]
 ·refine .agg (by rw [hul];simp;omega) (fun x hx=>g8 x (XV (XQ hx))) fun i x u hx hu=>?_
  rw [XC] at hx
  split at hx
  ·rw [XO] at hx
   exact g9 (off+i) x u hx (hat i u hu)
  ·cases hx
theorem ZlW {T':Odr} {P:Program} {o:Oper} {σ:Nat→AV} {T:TypeId} {a:Operand} {d j off:Nat} {rows:List (List AV)} {agg:Bool} (ho:o.op = .load T a) (hT:Ji P T=Xa agg)
  (ha:Zn P σ a = .oref (j+1) off) (hd:σ d = .store rows) (hr:Z0 (Z5 rows (j+1))=Xb) (hn:off+P.cellsOf T≤(Z5 rows (j+1)).length) (h1:agg=Xc→P.cellsOf T=1) :
  Zi8 T' P o σ (match agg with | true=>.agg (((Z5 rows (j+1)).drop off).take (P.cellsOf T)) | false=>((Z5 rows (j+1))[off]?).getD .dead) [] [vS d]:=by
 intro c hc σ' tm w lim X hid hag hTr hS hsim next Q hnx
 obtain ⟨rows',hd',hp⟩:=hS d (by simp) rows hd
 have hg:Zn P σ' a=Zn P σ a:=ZG fun t ht=>hid t (by simp [Zt (o:=o) (x:=a) (by rw [ho];simp [Op.operands]) ht])
 obtain ⟨b2,cap2,ty2,k1,k2⟩:=KP (J8 hc hsim ha hg)
 have hsame:=Zqu hsim hd' hp hr k1
 cases agg with
 | true =>
  have:=ZbE (σ:=σ') ho hT (hg.trans ha) hd' (by rw [hsame];exact hr) (by rw [hsame];exact hn)
  rw [hsame] at this
  exact this c hc σ' tm w lim X (fun _ _=>.inl rfl) (fun _ _=>rfl) hsim next Q hnx
 | false =>
  have h1:=h1 rfl
  have hlt:off < (Z5 rows (j+1)).length:=by omega
  have hx:(Z5 rows (j+1))[off]? = Xa ((Z5 rows (j+1))[off]):=Xs hlt
  have:=ZaI (σ:=σ') ho hT (hg.trans ha) hd' (by rw [hsame];exact hr) (by rw [hsame];exact hx)
  simp only [hx,US] at hnx ⊢
  exact this c hc σ' tm w lim X (fun _ _=>.inl rfl) (fun _ _=>rfl) hsim next Q hnx
theorem ZaU {P:Program} {o:Oper} {σ:Nat→AV} {x:Operand} {j off:Nat} (ho:o.op = .nilCheck x) (hx:Zn P σ x = .oref (j+1) off):Jt P o σ (.oref (j+1) off) [] []:=by
 refine Zp [] rfl fun c hc σ' tm w lim X hg hfp hsim=>?_
 rw [ho] at hg
 have hv:=J8 hc hsim hx (hg x (by simp [Op.operands]))
 refine ⟨Act.eval ⟨tm,[]⟩ x,?_,hv⟩
 obtain ⟨b,cap,_,_,h3⟩:=KP hv
 simp [execOp,ho,h3]
theorem Zd2 {P:Program} {o:Oper} {σ:Nat→AV} {T:TypeId} {x:Operand} {f off j p:Nat} (ho:o.op = .fieldAddr T x f) (hf:Ya P T f=Xa off)
  (hx:Zn P σ x = .oref (j+1) p):Jt P o σ (.oref (j+1) (p+off)) [] []:=by
 refine Zp [] rfl fun c hc σ' tm w lim X hg hfp hsim=>?_
 rw [ho] at hg
 obtain ⟨b,cap,ty,h1,h3⟩:=KP (J8 hc hsim hx (hg x (by simp [Op.operands])))
 exact ⟨.pointer (Xa ⟨b,p+off,Xe⟩),by simp [execOp,ho,h3,Vx hf],.oref (UC j) h1⟩
theorem Zez {P:Program} {o:Oper} {σ:Nat→AV} {T e e':TypeId} {x i:Operand} {j n:Nat} {k:IntKind} {z:Int} (ho:o.op = .indexAddr T x i) (hT:P.underlying T=Xa (.slice e)) (hs0:P.cellsOf e≠0)
  (hx:Zn P σ x = .osl e' j n) (hi:Zn P σ i = .val (.int k z)) (h0:0≤z) (h1:z.toNat < n):Jt P o σ (.oref j (z.toNat*P.cellsOf e)) [] []:=by
 refine Zp [] rfl fun c hc σ' tm w lim X hg hfp hsim=>?_
 rw [ho] at hg
 have hv:=J8 hc hsim hx (hg x (by simp [Op.operands]))
 have hiv:=Z4 hc hsim hi (hg i (by simp [Op.operands]))
 obtain ⟨inf,hinf⟩:=Zw hs0
 cases j with
 | zero =>
  have hv':Rep w lim (.osl e' 0 n) (Act.eval ⟨tm,[]⟩ x):=hv
  generalize Act.eval ⟨tm,[]⟩ x=v at hv'
  cases hv' with
  | osl0 => omega
  | osl h _ _ => omega
 | succ j =>
  obtain ⟨b,cap,h2,h3,h4⟩:=Zgm hv
  refine ⟨.pointer (Xa ⟨b,z.toNat*P.cellsOf e,Xe⟩),?_,.oref (UC j) h2⟩
  have hb:(0:Int)≤z∧z < (n:Int):=by omega
  simp [execOp,ho,h3,hiv,Instr.indexAt,asIntOf,run_underlying hT,hb,Zr hinf,Jn]
theorem ZhY {P:Program} {o:Oper} {σ:Nat→AV} {cl:Call} {T e e':TypeId} {x:Operand} {j n:Nat} (ho:o.op = .call cl) (hcl:cl.callee = .builtin .len) (hargs:cl.args.toList = [x]) (hts:cl.argTypes.toList = [T]) (hT:P.underlying T=Xa (.slice e))
  (hx:Zn P σ x = .osl e' j n):Jt P o σ (.val (.int .i64 n)) [] []:=by
 have hargs':cl.args = #[x]:=by apply XI.1;rw [hargs]
 have hts':cl.argTypes = #[T]:=by apply XI.1;rw [hts]
 refine Zp [] rfl fun c hc σ' tm w lim X hg hfp hsim=>?_
 rw [ho] at hg
 obtain ⟨a,cap,h1,_⟩:=Zgu (J8 hc hsim hx (hg x (by simp [Op.operands,Call.operands,hargs',hcl])))
 refine ⟨.int .i64 n,?_,.val rfl⟩
 simp [execOp,ho,hcl,resolve,hargs',hts',invoke,builtin,Builtin.len_,h1,run_underlying hT,goInt]
theorem ZhM {P:Program} {o:Oper} {σ:Nat→AV} {T e e':TypeId} {x y:Operand} {j n:Nat} {k:IntKind} {h:Nat} (ho:o.op = .slice T x Xe (Xa y) Xe) (hT:P.underlying T=Xa (.slice e)) (hs0:P.cellsOf e≠0)
  (hx:Zn P σ x = .osl e' j n) (hy:Zn P σ y = .val (.int k h)) (hle:h≤n):Jt P o σ (.osl e' j h) [] []:=by
 refine Zp [] rfl fun c hc σ' tm w lim X hg hfp hsim=>?_
 rw [ho] at hg
 have hv:=J8 hc hsim hx (hg x (by simp [Op.operands]))
 have hyv:=Z4 hc hsim hy (hg y (by simp [Op.operands]))
 obtain ⟨inf,hinf⟩:=Zw hs0
 have hv':Rep w lim (.osl e' j n) (Act.eval ⟨tm,[]⟩ x):=hv
 generalize hev:Act.eval ⟨tm,[]⟩ x=v at hv'
 cases hv' with
 | @osl0 _ a =>
  have h0:h=0:=by omega
  subst h0
  refine ⟨.slice a 0 0,?_,.osl0⟩
  cases a<;>simp [execOp,ho,hev,hyv,Instr.sliceAt,Instr.slice,Instr.sliceBounds,Instr.sliceBound,asIntOf,run_underlying hT,Zr hinf]
 | @osl _ _ _ b cap hj ht hn =>
  refine ⟨.slice (Xa ⟨b,0,Xe⟩) h cap,?_,.osl hj ht (by omega)⟩
  have b1:h≤cap:=by omega
  by_cases hc0:cap=0
  ·subst hc0
   have hk0:h=0:=by omega
   subst hk0
   simp [execOp,ho,hev,hyv,Instr.sliceAt,Instr.slice,Instr.sliceBounds,Instr.sliceBound,asIntOf,run_underlying hT,Zr hinf]
  ·simp [execOp,ho,hev,hyv,Instr.sliceAt,Instr.slice,Instr.sliceBounds,Instr.sliceBound,asIntOf,run_underlying hT,Zr hinf,b1,hc0,Jn]
theorem Zey {P:Program} {o:Oper} {σ:Nat→AV} {T e e':TypeId} {x y z:Operand} {j n s:Nat} {k k':IntKind} (ho:o.op = .slice T x Xe (Xa y) (Xa z)) (hT:P.underlying T=Xa (.slice e)) (hs0:P.cellsOf e≠0)
  (hx:Zn P σ x = .osl e' j n) (hy:Zn P σ y = .val (.int k 0)) (hz:Zn P σ z = .val (.int k' 0)):Jt P o σ (.slice Xb s []) [] []:=by
 refine Zp [] rfl fun c hc σ' tm w lim X hg hfp hsim=>?_
 rw [ho] at hg
 have hv:=J8 hc hsim hx (hg x (by simp [Op.operands]))
 have hyv:=Z4 hc hsim hy (hg y (by simp [Op.operands]))
 have hzv:=Z4 hc hsim hz (hg z (by simp [Op.operands]))
 obtain ⟨inf,hinf⟩:=Zw hs0
 obtain ⟨a,cap,h1,h2⟩:=Zgu hv
 cases a with
 | none => exact ⟨.slice Xe 0 0, by simp [execOp, ho, h1, hyv, hzv, Instr.sliceAt, Instr.slice, Instr.sliceBounds, Instr.sliceBound, asIntOf, run_underlying hT, Zr hinf], .sliceN⟩
 | some a => exact ⟨.slice (Xa a) 0 0, by simp [execOp, ho, h1, hyv, hzv, Instr.sliceAt, Instr.slice, Instr.sliceBounds, Instr.sliceBound, asIntOf, run_underlying hT, Zr hinf], .sliceE fun _ => rfl⟩
theorem Sim.stoSet {c:Ctx} {σ:Nat→AV} {tm:Array Value} {w:World} {lim:Lm} {X:Nat→Nat→Option Nat} (h:Sim c σ tm w lim X) {d j b cap:Nat} {t:TypeId} {rows:List (List AV)} {row':List AV} {arr arr':Array Value} (hd:σ d = .store rows) (hr:Z0 (Z5 rows (j+1))=Xb)
  (g1:X d (j+1)=Xa b) (g2:lim.t (j+1)=Xa (b,cap,t)) (g4:w.heap[b]? = Xa (.cells arr t (0,0))) (g5:lim b=0) (g0:cap≤maxLen) (hsz:arr'.size=cap*c.P.cellsOf t) (hl:row'.length≤arr'.size) (hc:∀ x∈row',x.isCell=Xb)
  (hrel:∀ (i:Nat) (x:AV) (u:Value),row'[i]? = Xa x→arr'[i]? = Xa u→Rep w lim x u):Sim c (upd σ d (.store (rows.set j row'))) tm (w.setRow b arr') lim (Zcj X d (X d)):=by
 have hw:=KT (cs:=arr') g4 g5
 have hcs:V3 w lim (w.setRow b arr') lim (fun b'=>∃ k,X d k=Xa b') Xb:=⟨hw.os,hw.tape,hw.output,hw.size,hw.frz,fun b' hb' hnn=>hw.blk b' hb' fun e=>hnn ⟨j+1,by rw [e];exact g1⟩,hw.ext,fun _=>rfl⟩
 have hsr:=h.rel d
 rw [hd] at hsr
 have hstore:J2 c.P (w.setRow b arr') lim (X d) (rows.set j row'):=by
  refine ⟨fun i hi=>hsr.1 i (by simpa using hi),hsr.2.1,fun i row1 hr1=>?_⟩
  rw [UD] at hr1
  split at hr1
  ·rename_i hij
   subst hij
   split at hr1
   ·cases hr1
    refine .inr ⟨b,cap,t,g2,g1,g5,.inl ⟨arr',g0,setRow_heap w b arr arr' t _ g4,hsz,hl,hc,fun i x u hx hu=>(hrel i x u hx hu).mono hw.ext⟩⟩
   ·cases hr1
  ·rename_i hij
   rcases hsr.2.2 i row1 hr1 with h0 | ⟨b1,cap1,t1,m1,m2,m3⟩
   ·exact .inl h0
   ·have hbb:b1≠b:=fun e=>by
     subst e
     have:=(h.dist d (i+1) d (j+1) b1 m2 g1).2
     omega
    exact .inr ⟨b1,cap1,t1,m1,m2,m3.mono hw.ext (hw.blk b1 (h.ours d (i+1) b1 m2).1 hbb)⟩
 exact h.stoStep hd hcs hstore (fun k b' hb'=>⟨XR (h.ours d k b' hb').1 hw.size,(h.ours d k b' hb').2,fun i k' hi hx'=>hi (h.dist i k' d k b' hx' hb').1⟩) (fun k k' b' hk hk'=>(h.dist d k d k' b' hk hk').2)
theorem Zdp {rows:List (List AV)} {j o:Nat} {vc:List AV} (h:Z0 (Z5 rows (j+1))=Xb):Je rows j o vc=rows.set j (setCells (Z5 rows (j+1)) o vc):=by
 have hr:=Zay h
 unfold Je
 apply Ua
 intro i
 rw [Th,UD]
 by_cases hij:j=i
 ·subst hij
  rw [if_pos rfl,if_pos (Xk.1 hr).1,hr]
  simp
 ·rw [if_neg hij]
  simp [hij]
theorem ZdS {P:Program} {o:Oper} {σ:Nat→AV} {T:TypeId} {a x:Operand} {d j off:Nat} {rows:List (List AV)} {vc vc':List AV} {y:AV} (ho:o.op = .store T a x) (ha:Zn P σ a = .oref (j+1) off) (hd:σ d = .store rows) (hr:Z0 (Z5 rows (j+1))=Xb)
  (hx:Zn P σ x=y) (hy:y.cells? = Xa vc) (hn:vc.length=P.cellsOf T) (hn0:P.cellsOf T≠0) (hfit:off+P.cellsOf T≤(Z5 rows (j+1)).length) (hw':vc'.length=vc.length∧∀ (w:World) (lim:Lm) (us:List Value),JH w lim vc us→JH w lim vc' us) :
  Jt P o σ .dead [(d,.store (Je rows j off vc'))] [d]:=by
 intro c hc σ' tm w lim X hid hag hsim next Q hnx
 have hga:Zn P σ' a=Zn P σ a:=ZG fun t ht=>hid t (by simp [Zt (o:=o) (x:=a) (by rw [ho];simp [Op.operands]) ht])
 have hgx:Zn P σ' x=Zn P σ x:=ZG fun t ht=>hid t (by simp [Zt (o:=o) (x:=x) (by rw [ho];simp [Op.operands]) ht])
 have hd':σ' d = .store rows:=by rw [hag d (by simp),hd]
 have hva:=J8 hc hsim ha hga
 obtain ⟨us,h4,h5⟩:=Vi hy (J8 hc hsim hx hgx)
 have h5:=hw'.2 _ _ _ h5
 obtain ⟨b,cap,arr,t,g1,g2,g4,g5,g0,g6,g7,g8,g9⟩:=Vq hsim hd' hr
 obtain ⟨b2,cap2,ty2,k1,k2⟩:=KP hva
 rw [g2] at k1
 cases k1
 obtain ⟨inf,hinf⟩:=Zw hn0
 have hlen:us.length=P.cellsOf T:=by rw [← h5.1,hw'.1,hn]
 have hst:=YV (P:=P) (T:=T) (w:=w) (b:=b) (off:=off) (v:=Act.eval ⟨tm,[]⟩ x) hinf h4 hlen g4 (by rw [hlen];omega) (fun u hu=>by
  obtain ⟨i,hi⟩:=XP.1 hu
  have hlt:i < vc'.length:=by rw [h5.1];exact (Xk.1 hi).1
  exact (h5.2.2 i _ u (Xs hlt) hi).oneCell (h5.2.1 _ (List.getElem_mem hlt)))
 have hset:=hsim.stoSet (row':=setCells (Z5 rows (j+1)) off vc') (arr':=(arr.toList.take off++us++arr.toList.drop (off+us.length)).toArray) hd' hr g1 g2 g4 g5 g0 (by rw [← g6];simp;omega) (by
  have:=h5.1
  unfold setCells;simp;omega) (fun z hz=>by
  unfold setCells at hz
  rcases Xv.1 hz with hz | hz
  ·rcases Xv.1 hz with hz | hz
   ·exact g8 z (XQ hz)
   ·exact h5.2.1 z hz
  ·exact g8 z (XV hz)) (fun i z u hz hu=>by
  unfold setCells at hz
  rw [VF _ vc' off (by rw [h5.1];omega)] at hz
  have hu':(arr.toList.take off++us++arr.toList.drop (off+us.length))[i]? = Xa u:=by simpa using hu
  rw [VF arr.toList us off (by rw [hlen];simp;omega)] at hu'
  rw [h5.1] at hz
  split at hz
  ·rename_i hcnd
   rw [if_pos hcnd] at hu'
   exact h5.2.2 _ z u hz hu'
  ·rename_i hcnd
   rw [if_neg hcnd] at hu'
   exact g9 i z u hz (by simpa using hu'))
 rw [← Zdp hr] at hset
 refine YN (w':=w.setRow b (arr.toList.take off++us++arr.toList.drop (off+us.length)).toArray) ?_ (hnx undef _ ?_)
 ·simp only [execOp,ho,k2,Sem.run_bind,hst,Result.andThen_ok,Sem.run_pure]
 ·exact Zv hset rfl (k:=0) trivial
def Zd0 (rows:List (List AV)) (kj:Option Nat):List (List AV):=match kj with | some j=>rows.set j [] | none=>rows
theorem Za5 (rows:List (List AV)) (kj:Option Nat):(Zd0 rows kj).length=rows.length:=by cases kj<;>simp [Zd0]
theorem Sim.stoApp {c:Ctx} {σ:Nat→AV} {tm:Array Value} {w w':World} {lim lim1:Lm} {X:Nat→Nat→Option Nat} (h:Sim c σ tm w lim X) {d nb cap:Nat} {ty:TypeId} {rows:List (List AV)} {row:List AV} {kj:Option Nat} (hd:σ d = .store rows)
  (hw:Jf w lim w' lim1 (fun b=>∃ j,kj=Xa j∧X d (j+1)=Xa b)) (hnb:nb < w'.heap.size∧(c.A nb∨c.w0.heap.size≤nb)∧∀ i k,X i k=Xa nb→i=d∧∃ j,kj=Xa j∧k=j+1)
  (ho:∀ lim2:Lm,lim2.f=lim1.f→Ext w' lim1 w' lim2→ZqB c.P w' lim2 row nb cap ty) :
  ∃ lim2 X2,Sim c (upd σ d (.store (Zd0 rows kj++[row]))) tm w' lim2 X2∧lim2.t (rows.length+1)=Xa (nb,cap,ty)∧lim2.f=lim1.f∧Ext w' lim1 w' lim2:=by
 have hs:=h.rel d
 rw [hd] at hs
 obtain ⟨lim2,hl2⟩:∃ lim2:Lm,lim2=⟨lim1.f,fun j=>if j=rows.length+1 then Xa (nb,cap,ty) else lim1.t j⟩:=⟨_,rfl⟩
 have hlt:lim1.t=lim.t:=hw.t
 have ht0:lim.t (rows.length+1)=Xe:=hs.1 _ (by omega)
 have hf:lim2.f=lim1.f:=by rw [hl2]
 have htn:lim2.t (rows.length+1)=Xa (nb,cap,ty):=by rw [hl2];exact if_pos rfl
 have hto:∀ j,j≠rows.length+1→lim2.t j=lim.t j:=fun j hj=>by rw [hl2];dsimp only;rw [if_neg hj,hlt]
 have hext1:Ext w' lim1 w' lim2:=⟨fun b _=>⟨by show lim1.f b≤lim2.f b;rw [hf];exact Xz _,fun _ _ _ h=>h⟩,fun j p hp=>by
  by_cases hj:j=rows.length+1
  ·subst hj;rw [hlt,ht0] at hp;cases hp
  ·rw [hto j hj,← hlt];exact hp⟩
 have hext:Ext w lim w' lim2:=hw.ext.trans hext1 hw.size
 have hcs:V3 w lim w' lim2 (fun b=>∃ k,X d k=Xa b) Xb:=⟨hw.os,hw.tape,hw.output,hw.size,hw.frz,fun b hb hn=>by
  obtain ⟨k1,k2⟩:=hw.blk b hb fun ⟨j,_,hj⟩=>hn ⟨_,hj⟩
  exact ⟨k1,by show lim2.f b=lim.f b;rw [hf];exact k2⟩,hext,fun h=>by cases h⟩
 have hkd:∀ k:Nat,Decidable (∃ j,kj=Xa j∧k=j+1):=fun k=>Classical.propDecidable _
 obtain ⟨r,hr⟩:∃ r:Nat→Option Nat,r=fun k=>if k=rows.length+1 then Xa nb else @ite _ (∃ j,kj=Xa j∧k=j+1) (hkd k) Xe (X d k):=⟨_,rfl⟩
 have hrn:r (rows.length+1)=Xa nb:=by rw [hr];exact if_pos rfl
 have hrk:∀ k,k≠rows.length+1→(∃ j,kj=Xa j∧k=j+1)→r k=Xe:=fun k h1 h2=>by rw [hr];dsimp only;rw [if_neg h1,if_pos h2]
 have hro:∀ k,k≠rows.length+1→(¬ ∃ j,kj=Xa j∧k=j+1)→r k=X d k:=fun k h1 h2=>by rw [hr];dsimp only;rw [if_neg h1,if_neg h2]
 have hrc:∀ k b,r k=Xa b→(k=rows.length+1∧b=nb)∨(k≠rows.length+1∧(¬ ∃ j,kj=Xa j∧k=j+1)∧X d k=Xa b):=fun k b hb=>by
  by_cases h1:k=rows.length+1
  ·subst h1;rw [hrn] at hb;cases hb;exact .inl ⟨rfl,rfl⟩
  ·by_cases h2:∃ j,kj=Xa j∧k=j+1
   ·rw [hrk k h1 h2] at hb;cases hb
   ·rw [hro k h1 h2] at hb;exact .inr ⟨h1,h2,hb⟩
 have hlen:(Zd0 rows kj++[row]).length=rows.length+1:=by rw [Xu,Za5];rfl
 have hstore:J2 c.P w' lim2 r (Zd0 rows kj++[row]):=by
  refine ⟨fun j hj=>?_,?_,fun i row1 hr1=>?_⟩
  ·rw [hlen] at hj
   rw [hto j (by omega)];exact hs.1 j (by omega)
  ·rw [hro 0 (by omega) fun ⟨j,_,hj⟩=>by omega];exact hs.2.1
  ·rcases Tj i rows.length with hi | hi | hi
   ·rw [Xx (by rw [Za5];exact hi)] at hr1
    by_cases hk:kj=Xa i
    ·subst hk
     simp only [Zd0,List.getElem?_set_self hi] at hr1
     cases hr1
     exact .inl rfl
    ·have hr2:rows[i]? = Xa row1:=by
      cases kj with
      | none => exact hr1
      | some j => simp only [Zd0] at hr1; rw [List.getElem?_set_ne (fun e => hk (by rw [e]))] at hr1; exact hr1
     rcases hs.2.2 i row1 hr2 with h0 | ⟨b1,cap1,t1,m1,m2,m3⟩
     ·exact .inl h0
     ·have hnk:¬ ∃ j,kj=Xa j∧i+1=j+1:=fun ⟨j,h1,h2⟩=>hk (by rw [h1];congr 1;omega)
      refine .inr ⟨b1,cap1,t1,by rw [hto _ (by omega)];exact m1,by rw [hro _ (by omega) hnk];exact m2,m3.mono hext ?_⟩
      obtain ⟨k1,k2⟩:=hw.blk b1 (h.ours d (i+1) b1 m2).1 fun ⟨j,h1,h2⟩=>hnk ⟨j,h1,(h.dist d (i+1) d (j+1) b1 m2 h2).2⟩
      exact ⟨k1,by show lim2.f b1=lim.f b1;rw [hf];exact k2⟩
   ·subst hi
    rw [Xy (by rw [Za5];exact Xz _),Za5,Uz] at hr1
    simp only [XB,Xf] at hr1
    subst hr1
    exact .inr ⟨nb,cap,ty,htn,hrn,ho lim2 hf hext1⟩
   ·have:=(Xk.1 hr1).1
    rw [hlen] at this;omega
 refine ⟨lim2,_,h.stoStep hd hcs hstore (fun k b hb=>?_) (fun k k' b hk hk'=>?_),htn,hf,hext1⟩
 ·rcases hrc k b hb with ⟨_,rfl⟩ | ⟨_,_,h3⟩
  ·exact ⟨hnb.1,hnb.2.1,fun i j hi hx=>hi (hnb.2.2 i j hx).1⟩
  ·exact ⟨XR (h.ours d k b h3).1 hw.size,(h.ours d k b h3).2,fun i j hi hx=>hi (h.dist i j d k b hx h3).1⟩
 ·rcases hrc k b hk with ⟨h1,h2⟩ | ⟨h1,h2,h3⟩ <;> rcases hrc k' b hk' with ⟨h1',h2'⟩ | ⟨h1',h2',h3'⟩
  ·rw [h1,h1']
  ·subst h2;exact (h2' (hnb.2.2 d k' h3').2).elim
  ·subst h2';exact (h2 (hnb.2.2 d k h3).2).elim
  ·exact (h.dist d k d k' b h3 h3').2
theorem Sim.stoNew {c:Ctx} {σ:Nat→AV} {tm:Array Value} {w:World} {lim:Lm} {X:Nat→Nat→Option Nat} (h:Sim c σ tm w lim X) {d cap:Nat} {ty:TypeId} {rows:List (List AV)} {row:List AV} (ob:Obj) (hd:σ d = .store rows)
  (ho:∀ lim2:Lm,lim2 w.heap.size=0→Ext w lim (w.alloc ob) lim2→ZqB c.P (w.alloc ob) lim2 row w.heap.size cap ty) :
  ∃ lim2 X2,Sim c (upd σ d (.store (rows++[row]))) tm (w.alloc ob) lim2 X2∧lim2.t (rows.length+1)=Xa (w.heap.size,cap,ty):=by
 have hstep:=ZnO (w:=w) (lim:=lim) ob (fun b=>∃ j,(Xe:Option Nat)=Xa j∧X d (j+1)=Xa b)
 obtain ⟨lim2,X2,h1,h2,h3,h4⟩:=h.stoApp (kj:=Xe) (row:=row) (nb:=w.heap.size) (cap:=cap) (ty:=ty) hd hstep ⟨by simp,.inr h.frm.size,fun i k hx=>(Yy h i k hx).elim⟩ (fun lim2 hf he=>ho lim2 (by show lim2.f _=0;rw [hf];exact if_pos rfl) (hstep.ext.trans he (by simp)))
 exact ⟨lim2,X2,h1,h2⟩
theorem Zb1 {P:Program} {w w':World} {lim lim2:Lm} {row:List AV} {us:List Value} {b cap:Nat} {ty:TypeId} (hl:lim2 b=0) (hc:cap≤maxLen) (hg:w'.heap[b]? = Xa (.cells us.toArray ty (0,0))) (hs:us.length=cap*P.cellsOf ty) (hr:JH w lim row us) (he:Ext w lim w' lim2):ZqB P w' lim2 row b cap ty:=
 ⟨hl,.inl ⟨us.toArray,hc,hg,by simpa using hs,by rw [hr.1];simp,hr.2.1,fun i x u hx hu=>(hr.2.2 i x u hx (by simpa using hu)).mono he⟩⟩
theorem Zii {P:Program} {o:Oper} {σ:Nat→AV} {T:TypeId} {x:Operand} {y:AV} {d:Nat} {rows:List (List AV)} {cs cs':List AV} (ho:o.op = .box T x) (hx:Zn P σ x=y) (hcs:y.cells? = Xa cs) (hd:σ d = .store rows)
  (hn:cs.length=P.cellsOf T) (hw':cs'.length=cs.length∧∀ (w:World) (lim:Lm) (us:List Value),JH w lim cs us→JH w lim cs' us):Jt P o σ (.oref (rows.length+1) 0) [(d,.store (rows++[cs']))] [d]:=by
 intro c hc σ' tm w lim X hid hag hsim next Q hnx
 have hg:Zn P σ' x=Zn P σ x:=ZG fun t ht=>hid t (by simp [Zt (o:=o) (x:=x) (by rw [ho];simp [Op.operands]) ht])
 have hd':σ' d = .store rows:=by rw [hag d (by simp),hd]
 obtain ⟨us,h1,h2⟩:=Vi hcs (J8 hc hsim hx hg)
 have h3:=hw'.2 _ _ _ h2
 obtain ⟨lim2,X2,k1,k2⟩:=hsim.stoNew (cap:=1) (ty:=T) (row:=cs') (.cells us.toArray T) hd' (fun lim2 hl he=>Zb1 hl (by decide) (Yf w _ T) (by rw [← h2.1,hn,hc,Nat.one_mul]) h3 he)
 refine Zj (v:=.pointer (Xa ⟨w.heap.size,0,Xe⟩)) (w':=w.alloc (.cells us.toArray T)) ?_ (hnx _ _ (Zv k1 rfl (k:=0) (Rep.oref (UC _) k2)))
 simp [execOp,ho,Instr.box,newVar,newRow,h1]
theorem Zeu {P:Program} {o:Oper} {σ:Nat→AV} {T:TypeId} {i:TypeInfo} {z:Value} {d:Nat} {rows:List (List AV)} {cs cs':List AV} (ho:o.op = .alloc T) (hi:P.info? T=Xa i) (hz:i.zero=Xa z) (hcs:Zat z.cells.toList=Xa cs) (hd:σ d = .store rows)
  (hn:cs.length=P.cellsOf T) (hw':cs'.length=cs.length∧∀ (w:World) (lim:Lm) (us:List Value),JH w lim cs us→JH w lim cs' us):Jt P o σ (.oref (rows.length+1) 0) [(d,.store (rows++[cs']))] [d]:=by
 intro c hc σ' tm w lim X hid hag hsim next Q hnx
 have hd':σ' d = .store rows:=by rw [hag d (by simp),hd]
 have h2:=JU (w:=w) (lim:=lim) hcs
 have h3:=hw'.2 _ _ _ h2
 obtain ⟨lim2,X2,k1,k2⟩:=hsim.stoNew (cap:=1) (ty:=T) (row:=cs') (.cells z.cells.toList.toArray T) hd' (fun lim2 hl he=>Zb1 hl (by decide) (Yf w _ T) (by rw [← h2.1,hn,hc,Nat.one_mul]) h3 he)
 refine Zj (v:=.pointer (Xa ⟨w.heap.size,0,Xe⟩)) (w':=w.alloc (.cells z.cells.toList.toArray T)) ?_ (hnx _ _ (Zv k1 rfl (k:=0) (Rep.oref (UC _) k2)))
 simp [execOp,ho,Instr.alloc,zeroValue,typeInfo,hi,hz,newVar,newRow]
theorem ZhC {P:Program} {o:Oper} {σ:Nat→AV} {T e:TypeId} {len:Nat} {parts:Array (Nat×Operand)} {i:TypeInfo} {z:Value} {d:Nat} {rows:List (List AV)} {zc cs cs':List AV} (ho:o.op = .buildSlice T len parts)
  (hT:P.underlying T=Xa (.slice e)) (hi:P.info? e=Xa i) (hz:i.zero=Xa z) (hzc:Zat z.cells.toList=Xa zc) (hzs:z.cells.size=i.size) (hs0:0 < i.size) (hl0:0 < len) (hbig:len*i.size≤1048576) (hd:σ d = .store rows)
  (hf:Zax (fun j=>Xa (j*i.size,i.size)) ((Xg len zc).flatten) (parts.toList.map fun p=>(p.1,Zn P σ p.2))=Xa cs)
  (hw:cs'.length=cs.length∧∀ (w:World) (lim:Lm) (us:List Value),JH w lim cs us→JH w lim cs' us):Jt P o σ (.osl e (rows.length+1) len) [(d,.store (rows++[cs']))] [d]:=by
 intro c hc σ' tm w lim X hid hag hsim next Q hn
 have hg:∀ p∈parts.toList,Zn P σ' p.2=Zn P σ p.2:=fun p hp=>ZG fun t ht=>hid t (by
  refine Zt (x:=p.2) ?_ ht
  rw [ho]
  simp only [Op.operands,List.mem_toArray]
  exact Xj.2 ⟨p,hp,rfl⟩)
 have hd':σ' d = .store rows:=by rw [hag d (by simp),hd]
 obtain ⟨h1,h2⟩:=ZbL hc hsim parts hg
 have hz0:=JS (JU (w:=w) (lim:=lim) hzc) len
 obtain ⟨us',h3,h4⟩:=ZcI (P:=P) (X:=X) (σ:=σ') (k:=0) _ _ _ _ _ hz0 h1 h2 hf
 have hzl:z.cells.toList.length=i.size:=by rw [← hzs];simp
 have hcl:cs.length=len*i.size:=by
  have hinv:∀ (parts:List (Nat×AV)) (cells out:List AV),Zax (fun j=>Xa (j*i.size,i.size)) cells parts=Xa out→out.length=cells.length:=by
   intro parts
   induction parts with
   | nil => intro cells out h; simp only [Zax, Xf] at h; rw [h]
   | cons p parts ih =>
    intro cells out h
    simp only [Zax] at h
    split at h
    ·split at h
     ·rename_i hcond
      rw [ih _ _ h]
      simp
      omega
     ·cases h
    ·cases h
  rw [hinv _ _ _ hf]
  have hzcl:zc.length=i.size:=by rw [(JU (w:=w) (lim:=lim) hzc).1,hzl]
  simp [hzcl]
 have h5:=hw.2 _ _ _ h4
 have hb:(Instr.buildSlice T len (parts.map fun p=>(p.1,Act.eval ⟨tm,[]⟩ p.2))).run P w = .ok (.slice (Xa ⟨w.heap.size,0,Xe⟩) len len) (w.alloc (.cells us'.toArray e)):=by
  have hnb:¬ (2^24 < len*i.size):=by omega
  have hnz:¬ len*i.size=0:=by
   intro h
   rcases Nat.mul_eq_zero.1 h with h | h<;>omega
  have hrep:=replicate_zero z.cells.toList len
  rw [hzl,Array.toArray_toList] at hrep
  simp only [Instr.buildSlice,Sem.run_bind,run_underlying hT,Result.andThen_ok,sizeOf,typeInfo,run_program,hi,Sem.run_pure,gt_iff_lt,if_neg hnb,if_neg hnz,zeroValue,hz]
  rw [hrep,h3]
  simp [newRow]
 have hsz:P.cellsOf e=i.size:=ZM hi
 have hlm:len≤maxLen:=by
  have:len*1≤len*i.size:=Nat.mul_le_mul_left _ hs0
  have:(1048576:Nat)≤maxLen:=by decide
  omega
 obtain ⟨lim2,X2,k1,k2⟩:=hsim.stoNew (cap:=len) (ty:=e) (row:=cs') (.cells us'.toArray e) hd' (fun lim2 hl he=>Zb1 hl hlm (Yf w _ e) (by rw [← h4.1,hcl,hc,hsz]) h5 he)
 refine Zj (v:=.slice (Xa ⟨w.heap.size,0,Xe⟩) len len) (w':=w.alloc (.cells us'.toArray e)) (by simp only [execOp,ho,Sem.run_bind,hb,Result.andThen_ok,Sem.run_pure]) (hn _ _ (Zv k1 rfl (k:=0) (Rep.osl (UC _) k2 (Xz _))))
theorem ZmY {c:Ctx} {σ:Nat→AV} {tm:Array Value} {w:World} {lim:Lm} {X:Nat→Nat→Option Nat} (h:Sim c σ tm w lim X) {d j n:Nat} {e:TypeId} {rows:List (List AV)} {v:Value} (hd:σ d = .store rows) (hv:Rep w lim (.osl e (j+1) n) v)
  (hc:Z0 (Z5 rows (j+1))=Xb) (hle:n*c.P.cellsOf e≤(Z5 rows (j+1)).length) :
  ∃ b,X d (j+1)=Xa b∧Jw c.P w lim Xb e (Yw (c.P.cellsOf e) (Z5 rows (j+1)) n) v (Xa b):=by
 obtain ⟨b,cap,arr,t,g1,g2,g4,g5,g0,g6,g7,g8,g9⟩:=Vq h hd hc
 obtain ⟨b2,cap2,k1,k2,k3⟩:=Zgm hv
 rw [g2] at k1
 cases k1
 have hel:(Yw (c.P.cellsOf e) (Z5 rows (j+1)) n).length=n:=by simp [Yw]
 have hfl:(Yw (c.P.cellsOf e) (Z5 rows (j+1)) n).flatten=(Z5 rows (j+1)).take (n*c.P.cellsOf e):=by
  have h1:=VT (c.P.cellsOf e) n ((Z5 rows (j+1)).take (n*c.P.cellsOf e)) (by rw [XS];omega)
  rw [← h1]
  congr 1
  unfold Yw
  refine Wr fun q hq=>?_
  have hq':q < n:=Ux.1 hq
  have hm:q*c.P.cellsOf e+c.P.cellsOf e≤n*c.P.cellsOf e:=by rw [← Uk];exact XX _ hq'
  rw [List.drop_take,List.take_take,Nat.min_eq_left (by omega)]
 have hal:(arr.toList.take (n*c.P.cellsOf e)).length=n*c.P.cellsOf e:=by rw [XS,Uy];omega
 refine ⟨b,g1,.inl ⟨arr.toList.take (n*c.P.cellsOf e),⟨by rw [hel,hal],.inr ⟨b,cap,arr,by rw [hel,k2],X9 _,g4,by rw [hel];exact k3,g0,g6,by rw [hel]⟩⟩,by rw [k2];rfl,fun b' hb'=>?_,fun x hx=>?_,fun x hx y hy=>?_,fun q x u hx hu=>?_⟩⟩
 ·cases hb'
  rw [if_pos rfl];exact g5
 ·obtain ⟨q,hq,rfl⟩:=Xj.1 hx
  have hq':q < n:=Ux.1 hq
  have hm:q*c.P.cellsOf e+c.P.cellsOf e≤n*c.P.cellsOf e:=by rw [← Uk];exact XX _ hq'
  rw [XS,Ug];omega
 ·have:y∈(Yw (c.P.cellsOf e) (Z5 rows (j+1)) n).flatten:=UH.2 ⟨x,hx,hy⟩
  rw [hfl] at this
  exact g8 y (XQ this)
 ·rw [hfl,XC] at hx
  rw [XC] at hu
  split at hx
  ·rename_i hlt
   rw [if_pos hlt] at hu
   exact g9 q x u hx (by simpa using hu)
  ·cases hx
theorem ZoX {P:Program} {w:World} {lim:Lm} {e:TypeId} {xs:List (List AV)} {v:Value} {ob:Option Nat} (h:Jw P w lim Xb e xs v ob) (hnm:Zl P e=Xc) (hne:xs≠[]) :
  ∃ b cap,ob=Xa b∧v = .slice (Xa ⟨b,0,Xe⟩) xs.length cap∧xs.length≤cap∧b < w.heap.size∧∀ lim2:Lm,lim2.f=lim.f→Ext w lim w lim2→ZqB P w lim2 xs.flatten b cap e:=by
 have hob:∃ b,ob=Xa b:=by
  rcases h.noMap hnm with ⟨us,hr,hb,_⟩ | ⟨h,_⟩
  ·rcases hr.2 with ⟨_,hn⟩ | ⟨g,cap,cur,hv,_⟩
   ·exact (hne (XZ hn)).elim
   ·exact ⟨g,by rw [← hb,hv];rfl⟩
  ·exact (hne h).elim
 obtain ⟨b,rfl⟩:=hob
 obtain ⟨arr,cap,hv,hg,hl,hle,hcm,hcs,hxl,hxc,hxr⟩:=K7 h (.inl hnm)
 have hxf:=Zz xs _ hxl
 refine ⟨b,cap,rfl,hv,hle,h.lt,fun lim2 hf he=>⟨by show lim2.f b=0;rw [hf];exact hl,.inl ⟨arr,hcm,hg,hcs,?_,fun y hy=>?_,fun q x u hx hu=>?_⟩⟩⟩
 ·rw [hxf,hcs];exact XX _ hle
 ·obtain ⟨x,hx,hy⟩:=UH.1 hy
  exact hxc x hx y hy
 ·exact (hxr q x u hx hu).mono he
theorem Zdk {P:Program} {o:Oper} {σ:Nat→AV} {cl:Call} {T e e':TypeId} {i:TypeInfo} {z:Value} {x y:Operand} {ys:List (List AV)} {f:Bool} {d j n:Nat} {rows:List (List AV)} (ho:o.op = .call cl) (hcl:cl.callee = .builtin .append)
  (hargs:cl.args.toList = [x,y]) (hts:cl.argTypes.toList = [T,T]) (hT:P.underlying T=Xa (.slice e)) (hi:P.info? e=Xa i) (hz:i.zero=Xa z) (hzs:z.cells.size=i.size) (hnm:Zl P e=Xc)
  (hx:Zn P σ x = .osl e' j n) (hy:Zn P σ y = .slice f i.size ys) (hne:ys≠[]) (hd:σ d = .store rows) (hok:Zdh e i.size rows (.osl e' j n)=Xb) (hroom:(n+ys.length)*(i.bytes+1)≤ZB) :
  Jt P o σ (.osl e (rows.length+1) (n+ys.length)) [(d,.store (ZhK i.size rows (.osl e' j n) ys))] [d]:=by
 have hargs':cl.args = #[x,y]:=by apply XI.1;rw [hargs]
 have hts':cl.argTypes = #[T,T]:=by apply XI.1;rw [hts]
 intro c hc σ' tm w lim X hid hag hsim next Q hnx
 subst hc
 have hgx:Zn c.P σ' x=Zn c.P σ x:=ZG fun t ht=>hid t (by simp [Zt (o:=o) (x:=x) (by rw [ho];simp [Op.operands,Call.operands,hargs',hcl]) ht])
 have hgy:Zn c.P σ' y=Zn c.P σ y:=ZG fun t ht=>hid t (by simp [Zt (o:=o) (x:=y) (by rw [ho];simp [Op.operands,Call.operands,hargs',hcl]) ht])
 have hd':σ' d = .store rows:=by rw [hag d (by simp),hd]
 have hk:c.P.cellsOf e=i.size:=ZM hi
 have hvx:Rep w lim (.osl e' j n) (Act.eval ⟨tm,[]⟩ x):=J8 rfl hsim hx hgx
 have hvy:Rep w lim (.slice f i.size ys) (Act.eval ⟨tm,[]⟩ y):=J8 rfl hsim hy hgy
 -- the old slice, as one of one's own
 obtain ⟨xs,kj,ob,hown,hxl,hflat,hobk,hnone,hkill⟩:∃ (xs:List (List AV)) (kj ob:Option Nat),Jw c.P w lim Xb e xs (Act.eval ⟨tm,[]⟩ x) ob∧xs.length=n∧ZhK i.size rows (.osl e' j n) ys=Zd0 rows kj++[xs.flatten++ys.flatten]∧
   (∀ b,ob=Xa b→∃ q,kj=Xa q∧X d (q+1)=Xa b)∧(ob=Xe→kj=Xe)∧True:=by
  cases j with
  | zero =>
   have hn0:n=0:=by
    cases n with
    | zero => rfl
    | succ n => simp [Zdh] at hok
   subst hn0
   generalize Act.eval ⟨tm,[]⟩ x=v at hvx
   cases hvx with
   | @osl0 _ a =>
    refine ⟨[],Xe,Xe,?_,rfl,by simp [ZhK,Zd0],fun b hb=>(by cases hb),fun _=>rfl,trivial⟩
    cases a with
    | none => exact .inl ⟨[], World.ownsRow_nil _ 0 _ _, rfl, by simp, by simp, by simp, by simp⟩
    | some a => exact .inr (.inl ⟨rfl, rfl, a, rfl⟩)
   | osl h _ _ => omega
  | succ j =>
   simp only [Zdh,Xr,decide_eq_true_eq] at hok
   obtain ⟨⟨rfl,h1⟩,h2⟩:=hok
   obtain ⟨b,k1,k2⟩:=ZmY hsim hd' hvx h1 (by rw [hk];exact h2)
   refine ⟨_,Xa j,Xa b,k2,by simp [Yw],?_,fun b' hb'=>⟨j,rfl,(by cases hb';exact k1)⟩,fun h=>(by cases h),trivial⟩
   have hfl:(Yw (c.P.cellsOf e') (Z5 rows (j+1)) n).flatten=(Z5 rows (j+1)).take (n*c.P.cellsOf e'):=by
    have h3:=VT (c.P.cellsOf e') n ((Z5 rows (j+1)).take (n*c.P.cellsOf e')) (by rw [XS,hk];omega)
    rw [← h3]
    congr 1
    unfold Yw
    refine Wr fun q hq=>?_
    have hq':q < n:=Ux.1 hq
    have hm:q*c.P.cellsOf e'+c.P.cellsOf e'≤n*c.P.cellsOf e':=by rw [← Uk];exact XX _ hq'
    rw [List.drop_take,List.take_take,Nat.min_eq_left (by omega)]
   rw [hfl,hk]
   rfl
 obtain ⟨v',w',lim',ob',r1,r2,r3,r4⟩:=YX (ty:=o.type) hT hi hz hzs hown (RdS.of (by rw [hk];exact hvy)) (by rw [hxl];exact hroom) hnm
 obtain ⟨b',cap',hob',hv',hle',hlt',hobj⟩:=ZoX r2 hnm (by
  intro h
  have:=congrArg List.length h
  simp only [Xu,List.length_nil] at this
  exact hne (XZ (by omega)))
 have hw2:Jf w lim w' lim' (fun b=>∃ q,kj=Xa q∧X d (q+1)=Xa b):=⟨r3.os,r3.tape,r3.output,r3.size,r3.frz,fun b hb hn=>r3.blk b hb fun h=>hn (hobk b h),r3.ext,r3.t⟩
 obtain ⟨lim2,X2,k1,k2,k3,k4⟩:=hsim.stoApp (kj:=kj) (row:=xs.flatten++ys.flatten) (nb:=b') (cap:=cap') (ty:=e) hd' hw2 (by
  rcases r4 with h | h
  ·rw [hob'] at h
   obtain ⟨q,hq1,hq2⟩:=hobk b' h.symm
   exact ⟨hlt',(hsim.ours d (q+1) b' hq2).2,fun i k hx=>⟨(hsim.dist i k d (q+1) b' hx hq2).1,q,hq1,(hsim.dist i k d (q+1) b' hx hq2).2⟩⟩
  ·rw [hob'] at h
   cases h
   exact ⟨hlt',.inr hsim.frm.size,fun i k hx=>(Yy hsim i k hx).elim⟩) (fun lim2 hf he=>by
  have:=hobj lim2 hf he
  rwa [List.flatten_append] at this)
 rw [← hflat] at k1
 refine Zj (v:=v') (w':=w') ?_ (hnx _ w' (Zv k1 rfl (k:=0) ?_))
 ·simp only [execOp,ho,resolve,hcl,hargs',hts',Wk,Xh,XG,Sem.run_bind,Sem.run_pure,Result.andThen_ok,invoke,builtin,r1]
 ·rw [hv',Xu,hxl]
  exact Rep.osl (UC _) k2 (by rw [Xu,hxl] at hle';exact hle')
theorem ZqS {c:Ctx} {σ:Nat→AV} {tm:Array Value} {w:World} {lim:Lm} {X:Nat→Nat→Option Nat} (h:Sim c σ tm w lim X) {d j n:Nat} {e e':TypeId} {rows:List (List AV)} {v:Value} (hd:σ d = .store rows) (hv:Rep w lim (.osl e' j n) v) (hok:Zdh e (c.P.cellsOf e) rows (.osl e' j n)=Xb) (hnm:Zl c.P e=Xc) :
  RdS w lim (c.P.cellsOf e) (Za7 (c.P.cellsOf e) rows (.osl e' j n)) v:=by
 cases j with
 | zero =>
  have hn0:n=0:=by
   cases n with
   | zero => rfl
   | succ n => simp [Zdh] at hok
  subst hn0
  cases hv with
  | osl0 => exact .inl ⟨rfl, _, _, rfl⟩
  | osl h _ _ => omega
 | succ j =>
  simp only [Zdh,Xr,decide_eq_true_eq] at hok
  obtain ⟨⟨rfl,h1⟩,h2⟩:=hok
  obtain ⟨b,k1,k2⟩:=ZmY h hd hv h1 h2
  show RdS w lim (c.P.cellsOf e') (Yw (c.P.cellsOf e') (Z5 rows (j+1)) n) v
  obtain ⟨arr,cap,hv',hg,hl,hle,hcm,hcs,hxl,hxc,hxr⟩:=K7 k2 (.inl hnm)
  have hxf:=Zz _ _ hxl
  have hln:(Yw (c.P.cellsOf e') (Z5 rows (j+1)) n).length=n:=by simp [Yw]
  have hm:n*c.P.cellsOf e'≤cap*c.P.cellsOf e':=XX _ (by rw [← hln];exact hle)
  refine .inr ⟨b,0,cap,arr.toList.take (n*c.P.cellsOf e'),hv',hxl,hxc,by rw [hln,XS,Uy];omega,fun q u hu=>?_,fun q x u hx hu=>?_⟩
  ·rw [XC] at hu
   split at hu
   ·rw [XH,ZP hg];simpa using hu
   ·cases hu
  ·rw [XC] at hu
   split at hu
   ·exact hxr q x u hx (by simpa using hu)
   ·cases hu
theorem Zaf {P:Program} {o:Oper} {σ:Nat→AV} (ex:Bool) {cl:Call} {T e e':TypeId} {i:TypeInfo} {z:Value} {x y:Operand} {d j n:Nat} {rows:List (List AV)} {s:Nat} (ho:o.op = .call cl) (hcl:cl.callee = .builtin .append)
  (hargs:cl.args.toList = [x,y]) (hts:cl.argTypes.toList = [T,T]) (hT:P.underlying T=Xa (.slice e)) (hi:P.info? e=Xa i) (hz:i.zero=Xa z) (hzs:z.cells.size=i.size)
  (hx:Zn P σ x = .slice Xb s []) (hy:Zn P σ y = .osl e' j n) (hd:σ d = .store rows) (hok:Zdh e i.size rows (.osl e' j n)=Xb) (hroom:(([] : List (List AV)).length+(Za7 i.size rows (.osl e' j n)).length)*(i.bytes+1)≤ZB) (hnm:Zl P e=Xc) :
  Jt P o σ (.own ex e (Za7 i.size rows (.osl e' j n))) [] [d]:=by
 have hargs':cl.args = #[x,y]:=by apply XI.1;rw [hargs]
 have hts':cl.argTypes = #[T,T]:=by apply XI.1;rw [hts]
 intro c hc σ' tm w lim X hid hag hsim next Q hn
 have hgx:Zn P σ' x=Zn P σ x:=ZG fun t ht=>hid t (by simp [Zt (o:=o) (x:=x) (by rw [ho];simp [Op.operands,Call.operands,hargs',hcl]) ht])
 have hgy:Zn P σ' y=Zn P σ y:=ZG fun t ht=>hid t (by simp [Zt (o:=o) (x:=y) (by rw [ho];simp [Op.operands,Call.operands,hargs',hcl]) ht])
 have hxv:Jw P w lim ex e [] (Act.eval ⟨tm,[]⟩ x) Xe:=Zbb (s:=s) (J8 hc hsim hx hgx)
 have hd':σ' d = .store rows:=by rw [hag d (by simp),hd]
 have hk:P.cellsOf e=i.size:=ZM hi
 have hyv:RdS w lim (P.cellsOf e) (Za7 i.size rows (.osl e' j n)) (Act.eval ⟨tm,[]⟩ y):=by
  have hv:=J8 hc hsim hy hgy
  have:=ZqS (e:=e) hsim hd' hv (by rw [hc,hk];exact hok) (by rw [hc];exact hnm)
  rw [hc,hk] at this
  rw [hk];exact this
 obtain ⟨v',w',lim',ob',r1,r2,r3,r4⟩:=YX (ty:=o.type) hT hi hz hzs hxv hyv hroom hnm
 have hw:=hsim.world r3 fun b hb=>by cases hb
 refine Zj (v:=v') (w':=w') ?_ (hn _ w' ?_)
 ·simp only [execOp,ho,resolve,hcl,hargs',hts',Wk,Xh,XG,Sem.run_bind,Sem.run_pure,Result.andThen_ok,invoke,builtin,r1]
 ·rw [← hc,List.nil_append] at r2
  refine Jm hw r2 (fun b hb=>?_) (fun _=>.noMap (by rw [hc];exact hnm)) fun _ hd=>by rw [hc,Jc hnm] at hd;cases hd
  rcases r4 with r4 | r4
  ·rw [r4] at hb;cases hb
  ·rw [r4] at hb
   simp only [Xf] at hb
   subst hb
   exact ⟨.inr hsim.frm.size,fun i j=>Yy hsim i j⟩
theorem Zaz {T':Odr} {P:Program} {o:Oper} {σ:Nat→AV} {cl:Call} {T e e':TypeId} {i:TypeInfo} {z:Value} {t:Nat} {y:Operand} {x:Bool} {xs:List (List AV)} {us:List (Nat×AV)} {d j n:Nat} {rows:List (List AV)} (ho:o.op = .call cl) (hcl:cl.callee = .builtin .append)
  (hargs:cl.args.toList = [.tmp t,y]) (hts:cl.argTypes.toList = [T,T]) (hT:P.underlying T=Xa (.slice e)) (hi:P.info? e=Xa i) (hz:i.zero=Xa z) (hzs:z.cells.size=i.size)
  (ht:σ t = .own x e xs) (hy:Zn P σ y = .osl e' j n) (hd:σ d = .store rows) (hok:Zdh e i.size rows (.osl e' j n)=Xb) (hroom:(xs.length+(Za7 i.size rows (.osl e' j n)).length)*(i.bytes+1)≤ZB) (hus:(x=Xc∧us = [])∨Yk T' σ t us) (hnm:Zl P e=Xc) :
  Ko T' P o σ (.own x e (xs++Za7 i.size rows (.osl e' j n))) ((t,ZaM P x e xs)::us) [d]:=by
 have hargs':cl.args = #[.tmp t,y]:=by apply XI.1;rw [hargs]
 have hts':cl.argTypes = #[T,T]:=by apply XI.1;rw [hts]
 intro c hc σ' tm w lim X hid hag hTx hsim next Q hn
 have hgy:Zn P σ' y=Zn P σ y:=ZG fun t ht=>hid t (by simp [Zt (o:=o) (x:=y) (by rw [ho];simp [Op.operands,Call.operands,hargs',hcl]) ht])
 have ht':σ' t = .own x e xs:=by rw [hag t (by simp),ht]
 obtain ⟨X1,h1,h2,h3,_⟩:=hsim.freeAll (us:=us) ht' (hus.imp id fun h=>h.all hTx)
 have hd':σ' d = .store rows:=by rw [hag d (by simp),hd]
 have hk:P.cellsOf e=i.size:=ZM hi
 have hyv:RdS w lim (P.cellsOf e) (Za7 i.size rows (.osl e' j n)) (Act.eval ⟨tm,[]⟩ y):=by
  have hv:=J8 hc hsim hy hgy
  have:=ZqS (e:=e) hsim hd' hv (by rw [hc,hk];exact hok) (by rw [hc];exact hnm)
  rw [hc,hk] at this
  rw [hk];exact this
 rw [hc] at h2
 obtain ⟨v',w',lim',ob',r1,r2,r3,r4⟩:=YX (ty:=o.type) hT hi hz hzs h2 hyv hroom hnm
 have hw:=h1.world r3 h3
 refine Zj (v:=v') (w':=w') ?_ (hn _ w' ?_)
 ·have hev:Act.eval ⟨tm,[]⟩ (.tmp t)=tm.getD t undef:=rfl
  simp only [execOp,ho,resolve,hcl,hargs',hts',Wk,Xh,XG,Sem.run_bind,Sem.run_pure,Result.andThen_ok,invoke,builtin,hev,r1]
 ·rw [hc] at hw
  rw [← hc] at r2
  refine Jm hw r2 (fun b hb=>?_) (fun _=>.noMap (by rw [hc];exact hnm)) fun _ hd=>by rw [hc,Jc hnm] at hd;cases hd
  rcases r4 with r4 | r4
  ·rw [r4] at hb;exact h3 b hb
  ·rw [r4] at hb
   simp only [Xf] at hb
   subst hb
   exact ⟨.inr hsim.frm.size,fun i j=>Yy h1 i j⟩
theorem Zc8 {T':Odr} {P:Program} {o:Oper} {σ:Nat→AV} {T e:TypeId} {a:Operand} {t d j off:Nat} {xs rows:List (List AV)} {us:List (Nat×AV)} (ho:o.op = .store T a (.tmp t)) (ha:Zn P σ a = .oref (j+1) off) (hd:σ d = .store rows) (hr:Z0 (Z5 rows (j+1))=Xb)
  (ht:σ t = .own Xb e xs) (hus:Yk T' σ t us) (hdt:d≠t) (hnm:Zl P e=Xc) (hne:xs≠[]) (h1:P.cellsOf T=1) (hfit:off+1≤(Z5 rows (j+1)).length) :
  Ko T' P o σ .dead (((t,.dead)::us)++[(d,.store (Je (rows++[xs.flatten]) j off [.osl e (rows.length+1) xs.length]))]) [d]:=by
 intro c hc σ' tm w lim X hid hag hTx hsim next Q hnx
 have hga:Zn P σ' a=Zn P σ a:=ZG fun t ht=>hid t (by simp [Zt (o:=o) (x:=a) (by rw [ho];simp [Op.operands]) ht])
 have ht':σ' t = .own Xb e xs:=by rw [hag t (by simp),ht]
 have hd':σ' d = .store rows:=by rw [hag d (by simp),hd]
 have hva:=J8 hc hsim ha hga
 obtain ⟨b2,cap2,ty2,k1,k2⟩:=KP hva
 obtain ⟨X1,m1,m2,m3,m4⟩:=hsim.freeAll (us:=us) ht' (.inr (hus.all hTx))
 have hleft:ZaM c.P Xb e xs = .dead:=rfl
 rw [hleft] at m1
 have hd1:JE σ' ((t,.dead)::us) d = .store rows:=by
  obtain ⟨q1,_⟩:=hus.all hTx
  rw [WE _ _ _ (fun u hu=>by
   rcases Xp.1 hu with rfl | hu
   ·rfl
   ·exact (q1 u hu).2.1)]
  rw [if_neg ?_,hd']
  intro hm
  obtain ⟨u,hu,hud⟩:=Xj.1 hm
  rcases Xp.1 hu with rfl | hu
  ·exact hdt hud.symm
  ·obtain ⟨_,_,q,hq⟩:=q1 u hu
   rw [hud,hd'] at hq
   rcases hq with hq | ⟨_,hq⟩ <;> cases hq
 obtain ⟨b',cap',hob',hv',hle',hlt',hobj⟩:=ZoX m2 (by rw [hc];exact hnm) hne
 obtain ⟨lim2,X2,p1,p2,p3,p4⟩:=m1.stoApp (kj:=Xe) (row:=xs.flatten) (nb:=b') (cap:=cap') (ty:=e) hd1 (Jf.refl w lim _) ⟨hlt',(m3 b' hob').1,fun i k hx=>((m3 b' hob').2 i k hx).elim⟩ (fun lim2 hf he=>hobj lim2 hf he)
 have hσ1:upd (JE σ' ((t,.dead)::us)) d (.store (Zd0 rows Xe++[xs.flatten])) d = .store (rows++[xs.flatten]):=by rw [ZF];rfl
 have hsr:Z5 (rows++[xs.flatten]) (j+1)=Z5 rows (j+1):=by
  have hlt:=(Xk.1 (Zay hr)).1
  simp only [Z5]
  rw [Xx hlt]
 obtain ⟨b,cap,arr,ty,g1,g2,g4,g5,g0,g6,g7,g8,g9⟩:=Vq p1 hσ1 (by rw [hsr];exact hr)
 rw [hsr] at g7 g8 g9
 have k1':=p4.t _ _ k1
 rw [g2] at k1'
 cases k1'
 obtain ⟨inf,hinf⟩:=Zw (P:=P) (T:=T) (by omega)
 have hrep:Rep w lim2 (.osl e (rows.length+1) xs.length) (tm.getD t undef):=by
  rw [hv'];exact Rep.osl (UC _) p2 hle'
 have h5:JH w lim2 [.osl e (rows.length+1) xs.length] [tm.getD t undef]:=JH.one rfl hrep
 have hcv:(tm.getD t undef).cells = [tm.getD t undef].toArray:=by rw [hv'];rfl
 have hst:=YV (P:=P) (T:=T) (w:=w) (b:=b2) (off:=off) (v:=tm.getD t undef) hinf hcv (by rw [h1];rfl) g4 (by simp;omega) (fun u hu=>by
  rw [XD] at hu
  subst hu
  rw [hv'];rfl)
 have hset:=p1.stoSet (row':=setCells (Z5 rows (j+1)) off [.osl e (rows.length+1) xs.length]) (arr':=(arr.toList.take off++[tm.getD t undef]++arr.toList.drop (off+1)).toArray) hσ1 (by rw [hsr];exact hr) g1 g2 g4 g5 g0 (by rw [← g6];simp;omega) (by unfold setCells;simp;omega) (fun z hz=>by
  unfold setCells at hz
  rcases Xv.1 hz with hz | hz
  ·rcases Xv.1 hz with hz | hz
   ·exact g8 z (XQ hz)
   ·rw [XD] at hz;subst hz;rfl
  ·exact g8 z (XV hz)) (fun i z u hz hu=>by
  unfold setCells at hz
  rw [VF _ _ off (by simp;omega)] at hz
  have hu':(arr.toList.take off++[tm.getD t undef]++arr.toList.drop (off + [tm.getD t undef].length))[i]? = Xa u:=by simpa using hu
  rw [VF arr.toList _ off (by simp;omega)] at hu'
  rw [Tk] at hz hu'
  split at hz
  ·rename_i hcnd
   rw [if_pos hcnd] at hu'
   exact h5.2.2 _ z u hz hu'
  ·rename_i hcnd
   rw [if_neg hcnd] at hu'
   exact g9 i z u hz (by simpa using hu'))
 have hse:Je (rows++[xs.flatten]) j off [.osl e (rows.length+1) xs.length]=(rows++[xs.flatten]).set j (setCells (Z5 rows (j+1)) off [.osl e (rows.length+1) xs.length]):=by
  rw [Zdp (by rw [hsr];exact hr),hsr]
 rw [← hse] at hset
 have hev:Act.eval ⟨tm,[]⟩ (.tmp t)=tm.getD t undef:=rfl
 refine YN (w':=w.setRow b2 (arr.toList.take off++[tm.getD t undef]++arr.toList.drop (off+1)).toArray) ?_ (hnx undef _ ?_)
 ·simp only [execOp,ho,k2,hev,Sem.run_bind,hst,Tk,Result.andThen_ok,Sem.run_pure]
 ·rw [Zd1]
  have hup:upd (upd (JE σ' ((t,.dead)::us)) d (.store (Zd0 rows Xe++[xs.flatten]))) d (.store (Je (rows++[xs.flatten]) j off [.osl e (rows.length+1) xs.length]))=upd (JE σ' ((t,.dead)::us)) d (.store (Je (rows++[xs.flatten]) j off [.osl e (rows.length+1) xs.length])):=by
   funext q
   by_cases hq:q=d
   ·subst hq;rw [ZF,ZF]
   ·rw [Ze _ _ hq,Ze _ _ hq,Ze _ _ hq]
  rw [hup] at hset
  exact Zv hset rfl (k:=0) trivial
theorem Zch {P:Program} {o:Oper} {σ:Nat→AV} {op:BinOp} {T T' e:TypeId} {x:Operand} {j off:Nat} (ho:o.op = .binOp op T x (.const (.pointer Xe)) T') (hop:op = .eql∨op = .neq) (hT:P.underlying T=Xa (.pointer e)) (hj:j=0→off=0)
  (hx:Zn P σ x = .oref j off):Jt P o σ (.val (.bool (match op with | .eql=>decide (j=0) | _=>decide (j≠0)))) [] []:=by
 refine Zp [] rfl fun c hc σ' tm w lim X hg hfp hsim=>?_
 rw [ho] at hg
 have hv:Rep w lim (.oref j off) (Act.eval ⟨tm,[]⟩ x):=J8 hc hsim hx (hg x (by simp [Op.operands]))
 have hec:Act.eval ⟨tm,[]⟩ (.const (.pointer Xe)) = .pointer Xe:=rfl
 refine ⟨_,?_,.val rfl⟩
 generalize hev:Act.eval ⟨tm,[]⟩ x=v at hv
 cases hv with
 | oref0 =>
  have he:(Op.equal T (.pointer Xe) (.pointer Xe)).run P w = .ok Xb w:=run_eqNil0 w 9999 hT
  rcases hop with rfl | rfl<;>simp [execOp,ho,hev,hec,eqGuard,binOp,he]
 | @oref _ _ b cap ty h _ =>
  have he:(Op.equal T (.pointer (Xa ⟨b,off,Xe⟩)) (.pointer Xe)).run P w = .ok Xc w:=run_eqNilS w 9999 _ hT
  have hj0:j≠0:=by omega
  rcases hop with rfl | rfl<;>simp [execOp,ho,hev,hec,eqGuard,binOp,he,hj0]
where
 run_eqNil0 {P:Program} (w:World) (d:Nat) {t e:TypeId} (h:P.underlying t=Xa (.pointer e)):(Op.equalIn (d+1) t (.pointer Xe) (.pointer Xe)).run P w = .ok Xb w:=by
  simp [Op.equalIn,run_underlying h]
 run_eqNilS {P:Program} (w:World) (d:Nat) {t e:TypeId} (a:Addr) (h:P.underlying t=Xa (.pointer e)):(Op.equalIn (d+1) t (.pointer (Xa a)) (.pointer Xe)).run P w = .ok Xc w:=by
  simp [Op.equalIn,run_underlying h]
theorem Zia {P:Program} {o:Oper} {σ:Nat→AV} {f:FuncId} {first captured:Array Operand} {js:List Nat} (ho:o.op = .makeFunc (.func f) first captured) (hf:first.toList = []) (hl:captured.toList.length=js.length)
  (hc:∀ (i:Nat) (x:Operand) (j:Nat),captured.toList[i]? = Xa x→js[i]? = Xa j→0 < j∧Zn P σ x = .oref j 0):Jt P o σ (.fnc f js) [] []:=by
 refine Zp [] rfl fun c hcP σ' tm w lim X hg hfp hsim=>?_
 rw [ho] at hg
 have key:∀ (xs:List Operand) (qs:List Nat),xs.length=qs.length→(∀ (i:Nat) (x:Operand) (j:Nat),xs[i]? = Xa x→qs[i]? = Xa j→∃ b,(∃ cap ty,lim.t j=Xa (b,cap,ty))∧Act.eval ⟨tm,[]⟩ x = .pointer (Xa ⟨b,0,Xe⟩))→
   ∃ bs:List Nat,bs.length=qs.length∧xs.map (Act.eval ⟨tm,[]⟩)=bs.map (fun b=>Value.pointer (Xa ⟨b,0,Xe⟩))∧∀ (i j b:Nat),qs[i]? = Xa j→bs[i]? = Xa b→∃ cap ty,lim.t j=Xa (b,cap,ty):=by
  intro xs
  induction xs with
  | nil =>
   intro qs h _
   have:qs = []:=XZ h.symm
   subst this
   exact ⟨[],rfl,rfl,by simp⟩
  | cons x xs ih =>
   intro qs h hq
   cases qs with
   | nil => cases h
   | cons q qs =>
    obtain ⟨b,h1,h2⟩:=hq 0 x q rfl rfl
    obtain ⟨bs,g1,g2,g3⟩:=ih qs (by simpa using h) fun i x j hx hj=>hq (i+1) x j (by simpa using hx) (by simpa using hj)
    refine ⟨b::bs,by simp [g1],by simp [h2,g2],fun i j b' hj hb=>?_⟩
    cases i with
    | zero => simp at hj hb; subst hj; subst hb; exact h1
    | succ i => exact g3 i j b' (by simpa using hj) (by simpa using hb)
 obtain ⟨bs,h1,h2,h3⟩:=key captured.toList js hl fun i x j hx hj=>by
  obtain ⟨g1,g2⟩:=hc i x j hx hj
  obtain ⟨q,rfl⟩:∃ q,j=q+1:=⟨j-1,by omega⟩
  obtain ⟨b,cap,ty,k1,k2⟩:=KP (J8 hcP hsim g2 (hg x (by
   have:=Xm hx
   simp [Op.operands,Array.mem_toList_iff.1 this])))
  exact ⟨b,⟨cap,ty,k1⟩,k2⟩
 have hfa:first = #[]:=by apply XI.1;rw [hf]
 refine ⟨.func (.func f) #[] (bs.map fun b=>Value.pointer (Xa ⟨b,0,Xe⟩)).toArray,?_,.fnc h1 fun i j b hj hb=>⟨?_,h3 i j b hj hb⟩⟩
 ·have hmap:captured.map (Act.eval ⟨tm,[]⟩)=(bs.map fun b=>Value.pointer (Xa ⟨b,0,Xe⟩)).toArray:=by
   apply XI.1
   rw [Array.toList_map,h2]
  simp [execOp,ho,hfa,hmap,Instr.makeFunc]
 ·obtain ⟨x,hx⟩:∃ x,captured.toList[i]? = Xa x:=⟨_,Xs (by rw [hl];exact (Xk.1 hj).1)⟩
  exact (hc i x j hx hj).1
open Go.MapKept in
theorem ZfF {c:Ctx} {σ:Nat→AV} {tm:Array Value} {w:World} {lim:Lm} {X:Nat→Nat→Option Nat} (h:Sim c σ tm w lim X) {d j:Nat} {rows:List (List AV)} (hd:σ d = .store rows) (hc:Yn (Z5 rows (j+1))=Xb) :
  ∃ (b cap:Nat) (ty:TypeId) (es:Array MapEntry) (clock:Nat),X d (j+1)=Xa b∧lim.t (j+1)=Xa (b,cap,ty)∧w.heap[b]? = Xa (.map es clock)∧lim b=0∧es.size=(Ke (Z5 rows (j+1))).length∧Stamped es clock∧rows[j]? = Xa (ZX (Ke (Z5 rows (j+1))))∧
   ∀ (i:Nat) (en:MapEntry) (kv:List AV),es[i]? = Xa en→(Ke (Z5 rows (j+1)))[i]? = Xa kv→∃ (k:Int) (q:Nat),kv = [.val (.int .i64 k),.oref q 0]∧en.key = .int .i64 k∧Rep w lim (.oref q 0) en.val:=by
 have hs:=h.rel d
 rw [hd] at hs
 have hrow:∃ kvs,Z5 rows (j+1)=ZX kvs:=by
  unfold Yn at hc
  split at hc
  ·rename_i kvs h1;exact ⟨kvs,h1⟩
  ·cases hc
 obtain ⟨kvs,hk⟩:=hrow
 have hr:rows[j]? = Xa (ZX kvs):=by
  simp only [Z5] at hk
  cases hr:rows[j]? with
  | none => rw [hr] at hk; cases hk
  | some row => rw [hr] at hk; exact congrArg Xa hk
 have hkv:Ke (Z5 rows (j+1))=kvs:=by rw [hk];rfl
 rw [hkv]
 rcases hs.2.2 j _ hr with h0 | ⟨b,cap,ty,h1,h2,h3,h4⟩
 ·cases h0
 ·rcases h4 with ⟨arr,g0,g1,g2,g3,g4,g5⟩ | ⟨es,clock,kvs',g1,g2,g3,g4,g5⟩
  ·have:=g4 .dead (by simp [ZX])
   cases this
  ·have:kvs'=kvs:=by
    simp only [ZX,List.cons.injEq,AV.slice.injEq,and_true,true_and] at g2
    exact g2.symm
   subst this
   exact ⟨b,cap,ty,es,clock,h2,h1,g1,h3,g3,g4,hr,g5⟩
open Go.MapKept in
theorem Sim.stoMap {c:Ctx} {σ:Nat→AV} {tm:Array Value} {w:World} {lim:Lm} {X:Nat→Nat→Option Nat} (h:Sim c σ tm w lim X) {d j b cap:Nat} {ty:TypeId} {es es':Array MapEntry} {clock clock':Nat} {rows kvs':List (List AV)} (hd:σ d = .store rows) (hlt:j < rows.length)
  (g1:X d (j+1)=Xa b) (g2:lim.t (j+1)=Xa (b,cap,ty)) (g4:w.heap[b]? = Xa (.map es clock)) (g5:lim b=0) (hl:es'.size=kvs'.length) (hs:Stamped es' clock')
  (hrel:∀ (i:Nat) (en:MapEntry) (kv:List AV),es'[i]? = Xa en→kvs'[i]? = Xa kv→∃ (k:Int) (q:Nat),kv = [.val (.int .i64 k),.oref q 0]∧en.key = .int .i64 k∧Rep w lim (.oref q 0) en.val) :
  Sim c (upd σ d (.store (rows.set j (ZX kvs')))) tm (Y5 w b (.map es' clock')) lim (Zcj X d (X d)):=by
 have hw:=ZhF (es':=es') (clock':=clock') g4 g5
 have hcs:V3 w lim (Y5 w b (.map es' clock')) lim (fun b'=>∃ k,X d k=Xa b') Xb:=⟨hw.os,hw.tape,hw.output,hw.size,hw.frz,fun b' hb' hnn=>hw.blk b' hb' fun e=>hnn ⟨j+1,by rw [e];exact g1⟩,hw.ext,fun _=>rfl⟩
 have hsr:=h.rel d
 rw [hd] at hsr
 have hstore:J2 c.P (Y5 w b (.map es' clock')) lim (X d) (rows.set j (ZX kvs')):=by
  refine ⟨fun i hi=>hsr.1 i (by simpa using hi),hsr.2.1,fun i row1 hr1=>?_⟩
  rw [UD] at hr1
  split at hr1
  ·rename_i hij
   subst hij
   cases hr1
   exact .inr ⟨b,cap,ty,g2,g1,g5,.inr ⟨es',clock',kvs',Zel g4,rfl,hl,hs,fun i en kv m1 m2=>by
    obtain ⟨k,q,n1,n2,n3⟩:=hrel i en kv m1 m2
    exact ⟨k,q,n1,n2,n3.mono hw.ext⟩⟩⟩
  ·rename_i hij
   rcases hsr.2.2 i row1 hr1 with h0 | ⟨b1,cap1,t1,m1,m2,m3⟩
   ·exact .inl h0
   ·have hbb:b1≠b:=fun e=>by
     subst e
     have:=(h.dist d (i+1) d (j+1) b1 m2 g1).2
     omega
    exact .inr ⟨b1,cap1,t1,m1,m2,m3.mono hw.ext (hw.blk b1 (h.ours d (i+1) b1 m2).1 hbb)⟩
 exact h.stoStep hd hcs hstore (fun k b' hb'=>⟨XR (h.ours d k b' hb').1 hw.size,(h.ours d k b' hb').2,fun i k' hi hx'=>hi (h.dist i k' d k b' hx' hb').1⟩) (fun k k' b' hk hk'=>(h.dist d k d k' b' hk hk').2)
theorem ZbI {P:Program} {T:TypeId} (h:Zde P T=Xb):∃ kt vt e i,P.underlying T=Xa (.map kt vt)∧P.underlying kt=Xa (.int .i64)∧P.underlying vt=Xa (.pointer e)∧P.info? vt=Xa i∧i.zero=Xa (.pointer Xe):=by
 unfold Zde at h
 split at h
 ·rename_i kt vt hT
  split at h
  ·rename_i e h1 h2 h3
   cases hi:P.info? vt with
   | none => rw [hi] at h3; cases h3
   | some i => rw [hi] at h3; exact ⟨kt, vt, e, i, hT, h1, h2, hi, h3⟩
  ·cases h
 ·cases h
open Go.MapKept in
theorem Zgt {P:Program} {o:Oper} {σ:Nat→AV} {T:TypeId} {d:Nat} {rows:List (List AV)} (ho:o.op = .makeMap T Xe) (hd:σ d = .store rows):Jt P o σ (.omap (rows.length+1)) [(d,.store (rows++[ZX []]))] [d]:=by
 intro c hc σ' tm w lim X hid hag hsim next Q hn
 have hd':σ' d = .store rows:=by rw [hag d (by simp),hd]
 obtain ⟨lim2,X2,k1,k2⟩:=hsim.stoNew (cap:=0) (ty:=0) (row:=ZX []) (.map #[] 0) hd' (fun lim2 hl he=>⟨hl,.inr ⟨#[],0,[],heap_alloc_new w _,rfl,rfl,stamped_empty 0,fun i en kv h=>by simp at h⟩⟩)
 refine Zj (v:=.map (Xa w.heap.size)) (w':=w.alloc (.map #[] 0)) ?_ (hn _ _ (Zv k1 rfl (k:=0) (Rep.omap (UC _) k2)))
 have hr:(Instr.makeMap T Xe).run P w = .ok (.map (Xa w.heap.size)) (w.alloc (.map #[] 0)):=rfl
 simp only [execOp,ho,Option.map_none,hr,Sem.run_bind,Result.andThen_ok,Sem.run_pure]
theorem Zhk {P:Program} {o:Oper} {σ:Nat→AV} {T:TypeId} {m kx:Operand} {d j:Nat} {rows:List (List AV)} {k:Int} (ho:o.op = .lookup T m kx Xc) (hT:Zde P T=Xb) (hm:Zn P σ m = .omap (j+1)) (hkx:Zn P σ kx = .val (.int .i64 k)) (hd:σ d = .store rows) (hc:Yn (Z5 rows (j+1))=Xb) :
  Jt P o σ (Zd (Znq rows (.omap (j+1)) k)) [] [d]:=by
 refine Zp [d] (VX (Q:=fun z=>z.plain=Xb) _ (fun _ _=>rfl) (fun _ _ _=>rfl) (fun _=>rfl) (fun _ _=>rfl)) fun c hcP σ' tm w lim X hg hfp hsim=>?_
 rw [ho] at hg
 have hd':σ' d = .store rows:=by rw [hfp d (by simp),hd]
 obtain ⟨b2,cap2,ty2,k1,k2⟩:=Zbw (J8 hcP hsim hm (hg m (by simp [Op.operands])))
 have hkv:=Z4 hcP hsim hkx (hg kx (by simp [Op.operands]))
 obtain ⟨b,cap,ty,es,clock,g1,g2,g4,g5,g6,g7,g8,g9⟩:=ZfF hsim hd' hc
 rw [g2] at k1
 obtain ⟨rfl,rfl,rfl⟩:b=b2∧cap=cap2∧ty=ty2:=by cases k1;exact ⟨rfl,rfl,rfl⟩
 obtain ⟨kt,vt,e,i,hTT,hkt,hvt,hi,hz⟩:=ZbI hT
 obtain ⟨_,hfind⟩:=Zdo g6 g7 (fun i en row h1 h2=>by obtain ⟨k,q,n1,n2,_⟩:=g9 i en row h1 h2;exact ⟨k,_,n1,n2⟩) k
 have hzr:(zeroValue vt).run P w = .ok (.pointer Xe) w:=by simp [zeroValue,typeInfo,run_program,hi,hz]
 have hsm:Znq rows (.omap (j+1)) k=match (Ke (Z5 rows (j+1))).find? (fun r=>ZW r == Xa k) with | some (_::v::_)=>[[v]] | _=>[[.oref 0 0]]:=rfl
 rcases hfind with ⟨h1,_,h2⟩ | ⟨q,en,row,h1,h2,h3,h4,h5,h6,h7⟩
 ·have hgn:(Ke (Z5 rows (j+1))).find? (fun r=>ZW r == Xa k)=Xe:=List.find?_eq_none.2 fun r hr=>by simpa using h2 r hr
  refine ⟨.pointer Xe,?_,by rw [hsm,hgn];exact Rep.oref0⟩
  simp [execOp,ho,k2,hkv,Instr.lookup,run_underlying hTT,MapKept.run_getObj_map g4,MapKept.run_checkKey hkt (KX k),MapKept.run_findKey hkt h1,hzr,Result.andThen]
 ·obtain ⟨k3,q2,p1,p2,p3⟩:=g9 q en row h2 h3
  refine ⟨en.val,?_,?_⟩
  ·simp [execOp,ho,k2,hkv,Instr.lookup,run_underlying hTT,MapKept.run_getObj_map g4,MapKept.run_checkKey hkt (KX k),MapKept.run_findKey hkt h1,Result.andThen]
  ·rw [hsm,h6,p1]
   exact p3
open Go.MapKept in
theorem Zhm {P:Program} {o:Oper} {σ:Nat→AV} {T:TypeId} {m kx vx:Operand} {d j q:Nat} {rows:List (List AV)} {k:Int} (ho:o.op = .insert T m kx vx∨o.op = .mapUpdate T m kx vx) (hT:Zde P T=Xb) (hm:Zn P σ m = .omap (j+1)) (hkx:Zn P σ kx = .val (.int .i64 k)) (hvx:Zn P σ vx = .oref q 0)
  (hd:σ d = .store rows) (hc:Yn (Z5 rows (j+1))=Xb):Jt P o σ .dead [(d,.store (rows.set j (ZX (Y8 (Ke (Z5 rows (j+1))) k (.oref q 0)))))] [d]:=by
 intro c hcP σ' tm w lim X hid hag hsim next Q hn
 have hg:∀ y∈o.op.operands,Zn P σ' y=Zn P σ y:=fun y hy=>ZG fun t ht=>hid t (by simp [Zt hy ht])
 have hgm:=hg m (by rcases ho with ho | ho<;>rw [ho]<;>simp [Op.operands])
 have hgk:=hg kx (by rcases ho with ho | ho<;>rw [ho]<;>simp [Op.operands])
 have hgv:=hg vx (by rcases ho with ho | ho<;>rw [ho]<;>simp [Op.operands])
 have hd':σ' d = .store rows:=by rw [hag d (by simp),hd]
 obtain ⟨b2,cap2,ty2,k1,k2⟩:=Zbw (J8 hcP hsim hm hgm)
 have hkv:=Z4 hcP hsim hkx hgk
 have hvv:Rep w lim (.oref q 0) (Act.eval ⟨tm,[]⟩ vx):=J8 hcP hsim hvx hgv
 obtain ⟨b,cap,ty,es,clock,g1,g2,g4,g5,hl,hs,g8,hr⟩:=ZfF hsim hd' hc
 rw [g2] at k1
 obtain ⟨rfl,rfl,rfl⟩:b=b2∧cap=cap2∧ty=ty2:=by cases k1;exact ⟨rfl,rfl,rfl⟩
 generalize hkvs:Ke (Z5 rows (j+1))=kvs at *
 obtain ⟨kt,vt,e,i,hTT,hkt,hvt,hi,hz⟩:=ZbI hT
 obtain ⟨hkeys,hfind⟩:=Zdo hl hs (fun i en row h1 h2=>by obtain ⟨k,q,n1,n2,_⟩:=hr i en row h1 h2;exact ⟨k,_,n1,n2⟩) k
 have hlt:=(Xk.1 g8).1
 have step:∃ es' clock',(Instr.mapUpdate T (.map (Xa b)) (.int .i64 k) (Act.eval ⟨tm,[]⟩ vx)).run P w = .ok () (Y5 w b (.map es' clock'))∧es'.size=(Y8 kvs k (.oref q 0)).length∧Stamped es' clock'∧
   ∀ (i:Nat) (en:MapEntry) (kv:List AV),es'[i]? = Xa en→(Y8 kvs k (.oref q 0))[i]? = Xa kv→∃ (k:Int) (q:Nat),kv = [.val (.int .i64 k),.oref q 0]∧en.key = .int .i64 k∧Rep w lim (.oref q 0) en.val:=by
  rcases hfind with ⟨h1,h2,h3⟩ | ⟨jj,en,row,h1,h2,h3,h4,h5,h6,h7⟩
  ·refine ⟨es.push ⟨.int .i64 k,Act.eval ⟨tm,[]⟩ vx,clock⟩,clock+1,?_,by rw [put_new h3];simp [hl],stamped_push hs h2,fun i en row m1 m2=>?_⟩
   ·simp [Instr.mapUpdate,run_underlying hTT,MapKept.run_getObj_map g4,MapKept.run_checkKey hkt (KX k),MapKept.run_findKey hkt h1,MapKept.run_setObj_map _ g4,Result.andThen,Y5]
   ·rw [put_new h3] at m2
    by_cases hij:i=es.size
    ·subst hij
     rw [Array.getElem?_push,if_pos rfl] at m1
     rw [Xy (by omega)] at m2
     simp [hl] at m2
     cases m1
     exact ⟨k,q,m2.symm,rfl,hvv⟩
    ·have hlt:i < es.size:=by
      have:=(Uj.1 m1).1
      simp at this
      omega
     rw [Array.getElem?_push,if_neg (by omega)] at m1
     rw [Xx (by omega)] at m2
     exact hr i en row m1 m2
  ·have hj:es[jj]? = Xa en:=h2
   have hjl:jj < es.size:=(Uj.1 h2).1
   have hkeyf:∀ e',es[jj]? = Xa e'→({ e' with key:=.int .i64 k,val:=Act.eval ⟨tm,[]⟩ vx } : MapEntry).key=e'.key:=fun e' he'=>by rw [hj] at he';cases he';exact h4.symm
   have hlen:=Zs1 (cl:=.oref q 0) h3 h5
   refine ⟨es.modify jj fun e'=>{ e' with key:=.int .i64 k,val:=Act.eval ⟨tm,[]⟩ vx },clock,?_,by rw [Array.size_modify,hl,hlen],stamped_modify hs _ _ (fun _ _=>rfl) (fun e' _ he'=>hkeyf e' he'),fun i en' row' m1 m2=>?_⟩
   ·simp [Instr.mapUpdate,run_underlying hTT,MapKept.run_getObj_map g4,MapKept.run_checkKey hkt (KX k),MapKept.run_findKey hkt h1,hj,h4,MapKept.run_keyThatStays (KX k),MapKept.run_setObj_map _ g4,Result.andThen,Y5]
   ·have m3:=Zqg (cl:=.oref q 0) h3 h5 h7 i row' m2
    by_cases hij:i=jj
    ·subst hij
     rw [if_pos rfl] at m3
     rw [Array.getElem?_modify,if_pos rfl,hj] at m1
     simp only [Xw,Xf] at m1
     subst m1
     exact ⟨k,q,m3,rfl,hvv⟩
    ·rw [if_neg hij] at m3
     rw [Array.getElem?_modify,if_neg (by omega)] at m1
     exact hr i en' row' m1 m3.1
 obtain ⟨es',clock',r1,r2,r3,r4⟩:=step
 have hset:=hsim.stoMap (kvs':=Y8 kvs k (.oref q 0)) hd' hlt g1 g2 g4 g5 r2 r3 r4
 refine YN (w':=Y5 w b (.map es' clock')) ?_ (hn undef _ (Zv hset rfl (k:=0) trivial))
 rcases ho with ho | ho<;>simp only [execOp,ho,k2,hkv,r1,Sem.run_bind,Result.andThen_ok,Sem.run_pure]
theorem Zc1 {k:Int} : ∀ {kvs:List (List AV)} {j:Nat} {row:List AV},kvs[j]? = Xa row→ZW row=Xa k→(∀ i r,kvs[i]? = Xa r→i≠j→ZW r≠Xa k)→Za9 kvs k=kvs.eraseIdx j
 | [], j, row, h, _, _ => by simp at h
 | r :: kvs, 0, row, h, hk, hu => by
  simp only [XB,Xf] at h
  subst h
  have hrest:kvs.filter (fun r=>!(ZW r == Xa k))=kvs:=UU.2 fun x hx=>by
   obtain ⟨i,hi⟩:=XP.1 hx
   have:=hu (i+1) x (by simpa using hi) (by omega)
   simpa using this
  simp [Za9,hk,hrest]
 | r :: kvs, j + 1, row, h, hk, hu => by
  have hr:=hu 0 r rfl (by omega)
  have ih:=Zc1 (kvs:=kvs) (j:=j) (row:=row) (by simpa using h) hk fun i x hx hi=>hu (i+1) x (by simpa using hx) (by omega)
  simp only [Za9] at ih
  simp [Za9,hr,ih]
theorem ZeI {k:Int} {kvs:List (List AV)} (h:∀ r∈kvs,ZW r≠Xa k):Za9 kvs k=kvs:=UU.2 fun x hx=>by simpa using h x hx
open Go.MapKept in
theorem Zg4 {P:Program} {o:Oper} {σ:Nat→AV} {cl:Call} {T T':TypeId} {ts:List TypeId} {m kx:Operand} {d j:Nat} {rows:List (List AV)} {k:Int} (ho:o.op = .call cl) (hcl:cl.callee = .builtin .delete) (hargs:cl.args.toList = [m,kx]) (hts:cl.argTypes.toList=T::ts) (hT:Zde P T=Xb)
  (hm:Zn P σ m = .omap (j+1)) (hkx:Zn P σ kx = .val (.int .i64 k)) (hd:σ d = .store rows) (hc:Yn (Z5 rows (j+1))=Xb):Jt P o σ .dead [(d,.store (rows.set j (ZX (Za9 (Ke (Z5 rows (j+1))) k))))] [d]:=by
 have hargs':cl.args = #[m,kx]:=by apply XI.1;rw [hargs]
 have hts':cl.argTypes=(T::ts).toArray:=by apply XI.1;rw [hts]
 intro c hcP σ' tm w lim X hid hag hsim next Q hn
 have hg:∀ y∈o.op.operands,Zn P σ' y=Zn P σ y:=fun y hy=>ZG fun t ht=>hid t (by simp [Zt hy ht])
 have hgm:=hg m (by rw [ho];simp [Op.operands,Call.operands,hargs',hcl])
 have hgk:=hg kx (by rw [ho];simp [Op.operands,Call.operands,hargs',hcl])
 have hd':σ' d = .store rows:=by rw [hag d (by simp),hd]
 obtain ⟨b2,cap2,ty2,k1,k2⟩:=Zbw (J8 hcP hsim hm hgm)
 have hkv:=Z4 hcP hsim hkx hgk
 obtain ⟨b,cap,ty,es,clock,g1,g2,g4,g5,hl,hs,g8,hr⟩:=ZfF hsim hd' hc
 rw [g2] at k1
 obtain ⟨rfl,rfl,rfl⟩:b=b2∧cap=cap2∧ty=ty2:=by cases k1;exact ⟨rfl,rfl,rfl⟩
 generalize hkvs:Ke (Z5 rows (j+1))=kvs at *
 obtain ⟨kt,vt,e,i,hTT,hkt,hvt,hi,hz⟩:=ZbI hT
 obtain ⟨hkeys,hfind⟩:=Zdo hl hs (fun i en row h1 h2=>by obtain ⟨k,q,n1,n2,_⟩:=hr i en row h1 h2;exact ⟨k,_,n1,n2⟩) k
 have hlt:=(Xk.1 g8).1
 have step:∃ es',(∀ ty,(Builtin.delete_ cl.argTypes ty #[.map (Xa b),.int .i64 k]).run P w = .ok (.tuple #[]) (Y5 w b (.map es' clock)))∧es'.size=(Za9 kvs k).length∧Stamped es' clock∧
   ∀ (i:Nat) (en:MapEntry) (kv:List AV),es'[i]? = Xa en→(Za9 kvs k)[i]? = Xa kv→∃ (k:Int) (q:Nat),kv = [.val (.int .i64 k),.oref q 0]∧en.key = .int .i64 k∧Rep w lim (.oref q 0) en.val:=by
  rcases hfind with ⟨h1,h2,h3⟩ | ⟨jj,en,row,h1,h2,h3,h4,h5,h6,h7⟩
  ·refine ⟨es,fun ty=>?_,by rw [ZeI h3,hl],hs,by rw [ZeI h3];exact hr⟩
   simp [hts',Builtin.delete_,run_underlying hTT,MapKept.run_getObj_map g4,MapKept.run_checkKey hkt (KX k),MapKept.run_findKey hkt h1,MapKept.run_setObj_map _ g4,Result.andThen,Y5]
  ·have hjs:jj < es.size:=(Uj.1 h2).1
   have hel:(es.eraseIdxIfInBounds jj).toList=es.toList.eraseIdx jj:=by
    unfold Array.eraseIdxIfInBounds
    rw [dif_pos hjs]
    simp
   have hat:∀ i,(es.eraseIdxIfInBounds jj)[i]? = if i < jj then es[i]? else es[i+1]?:=fun i=>by
    rw [← Uc,hel,List.getElem?_eraseIdx]
    split<;>rw [Uc]
   have hsz:(es.eraseIdxIfInBounds jj).size=es.size-1:=by
    rw [← Uy,hel,List.length_eraseIdx_of_lt (by simpa using hjs),Uy]
   have hke:=Zc1 h3 h5 h7
   refine ⟨es.eraseIdxIfInBounds jj,fun ty=>?_,?_,stamped_erase hs jj,fun i en' row' m1 m2=>?_⟩
   ·simp [hts',Builtin.delete_,run_underlying hTT,MapKept.run_getObj_map g4,MapKept.run_checkKey hkt (KX k),MapKept.run_findKey hkt h1,MapKept.run_setObj_map _ g4,Result.andThen,Y5]
   ·rw [hke,hsz,List.length_eraseIdx_of_lt (by omega),hl]
   ·rw [hke,List.getElem?_eraseIdx] at m2
    rw [hat] at m1
    split at m1
    ·rename_i hlt'
     rw [if_pos hlt'] at m2
     exact hr i en' row' m1 m2
    ·rename_i hlt'
     rw [if_neg hlt'] at m2
     exact hr (i+1) en' row' m1 m2
 obtain ⟨es',r1,r2,r3,r4⟩:=step
 have hset:=hsim.stoMap (kvs':=Za9 kvs k) hd' hlt g1 g2 g4 g5 r2 r3 r4
 cases hdst:o.dst with
 | none =>
  refine Zj (v:=.tuple #[]) (w':=Y5 w b (.map es' clock)) ?_ (hn _ _ (Zv hset rfl (k:=0) trivial))
  simp only [execOp,ho,resolve,hcl,hargs',Wk,Xh,XG,Sem.run_bind,Sem.run_pure,Result.andThen_ok,invoke,builtin,k2,hkv,r1]
 | some dd =>
  refine Zj (v:=.tuple #[]) (w':=Y5 w b (.map es' clock)) ?_ (hn _ _ (Zv hset rfl (k:=0) trivial))
  simp only [execOp,ho,resolve,hcl,hargs',Wk,Xh,XG,Sem.run_bind,Sem.run_pure,Result.andThen_ok,invoke,builtin,k2,hkv,r1]
theorem Zmv {P:Program} {o:Oper} {σ:Nat→AV} {cl:Call} {T kt vt:TypeId} {x:Operand} {d j:Nat} {rows:List (List AV)} (ho:o.op = .call cl) (hcl:cl.callee = .builtin .len) (hargs:cl.args.toList = [x]) (hts:cl.argTypes.toList = [T]) (hT:P.underlying T=Xa (.map kt vt))
  (hx:Zn P σ x = .omap (j+1)) (hd:σ d = .store rows) (hc:Yn (Z5 rows (j+1))=Xb):Jt P o σ (.val (.int .i64 (Ke (Z5 rows (j+1))).length)) [] [d]:=by
 have hargs':cl.args = #[x]:=by apply XI.1;rw [hargs]
 have hts':cl.argTypes = #[T]:=by apply XI.1;rw [hts]
 refine Zp [d] rfl fun c hcP σ' tm w lim X hg hfp hsim=>?_
 rw [ho] at hg
 have hd':σ' d = .store rows:=by rw [hfp d (by simp),hd]
 obtain ⟨b2,cap2,ty2,k1,k2⟩:=Zbw (J8 hcP hsim hx (hg x (by simp [Op.operands,Call.operands,hargs',hcl])))
 obtain ⟨b,cap,ty,es,clock,g1,g2,g4,g5,g6,g7,g8,g9⟩:=ZfF hsim hd' hc
 rw [g2] at k1
 obtain ⟨rfl,rfl,rfl⟩:b=b2∧cap=cap2∧ty=ty2:=by cases k1;exact ⟨rfl,rfl,rfl⟩
 refine ⟨.int .i64 (Ke (Z5 rows (j+1))).length,?_,.val rfl⟩
 simp [execOp,ho,hcl,resolve,hargs',hts',invoke,builtin,Builtin.len_,k2,run_underlying hT,goInt,MapKept.run_getObj_map g4,Result.andThen,g6]
theorem modify_set {rows:List (List AV)} {j:Nat} {row:List AV} (f:List AV→List AV) (h:rows[j]? = Xa row):rows.modify j f=rows.set j (f row):=by
 apply Ua
 intro i
 rw [Th,UD]
 by_cases hij:j=i
 ·subst hij
  rw [if_pos rfl,if_pos (Xk.1 h).1,h]
  simp
 ·rw [if_neg hij]
  simp [hij]
theorem ZjH {σ:Nat→AV} {d:Nat} {v:AV} (h:σ d=v):upd σ d v=σ:=by
 funext i
 by_cases hi:i=d
 ·subst hi;rw [ZF,h]
 ·rw [Ze σ _ hi]
theorem ZlG {c:Ctx} {σ:Nat→AV} {tm:Array Value} {w:World} {lim:Lm} {X:Nat→Nat→Option Nat} (h:Sim c σ tm w lim X) {d x n:Nat} {T e:TypeId} {inf:TypeInfo} {z:Value} {zc:List AV} {rows:List (List AV)} {cc:AV} (hd:σ d = .store rows) (hx:Rep w lim cc (tm.getD x undef)) (hcc:ZO cc=Xb) (hok:Zdh e inf.size rows cc=Xb)
  (hT:c.P.underlying T=Xa (.slice e)) (hi:c.P.info? e=Xa inf) (hz:inf.zero=Xa z) (hzs:z.cells.size=inf.size) (hzr:∀ (w:World) (lim:Lm),JH w lim zc z.cells.toList) (h1z:∀ v∈z.cells.toList,v.oneCell'=Xb) (hn:n≤pO cc) :
  ∃ v2 w' X',(Instr.sliceAt T (tm.getD x undef) (Xa (.int .i64 n)) Xe Xe).run c.P w = .ok v2 w∧(∀ ty,(Builtin.clear_ #[T] ty #[v2]).run c.P w = .ok (.tuple #[]) w')∧
   Sim c (upd σ d (.store (Zry inf.size rows cc n zc))) tm w' lim X':=by
 have hk:c.P.cellsOf e=inf.size:=ZM hi
 have hsz:∀ w,(sizeOf e).run c.P w = .ok inf.size w:=fun w=>by rw [Zr hi,hk]
 rcases Yu hcc with ⟨j,o,rfl⟩ | ⟨e',j,m,rfl⟩ | ⟨j,rfl⟩ | ⟨g,js,rfl⟩
 ·cases hok
 ·cases j with
  | zero =>
   have hm:m=0:=by
    cases m with
    | zero => rfl
    | succ m => cases hok
   subst hm
   have hn0:n=0:=Nat.le_zero.1 hn
   subst hn0
   obtain ⟨a,cap,hv,_⟩:∃ a cap,tm.getD x undef = .slice a 0 cap∧cap=0:=by
    generalize hg:tm.getD x undef=v at hx
    cases hx with
    | osl0 => exact ⟨_, _, rfl, rfl⟩
    | osl h => exact (Nat.lt_irrefl 0 h).elim
   subst cap
   refine ⟨.slice a 0 0,w,X,?_,fun ty=>Y3 hT,by rw [show Zry inf.size rows (.osl e' 0 0) 0 zc=rows from rfl,ZjH hd];exact h⟩
   rw [hv]
   cases a<;>simp [Instr.sliceAt,Instr.slice,Instr.sliceBounds,Instr.sliceBound,asIntOf,run_underlying hT,hsz]
  | succ j =>
   simp only [Zdh,Xr,decide_eq_true_eq] at hok
   obtain ⟨⟨rfl,hc⟩,hfit⟩:=hok
   obtain ⟨b,cap,arr,t,g1,g2,g4,g5,g0,g6,g7,g8,g9⟩:=Vq h hd hc
   obtain ⟨b2,cap2,k1,k2,k3⟩:=Zgm hx
   rw [g2] at k1
   cases k1
   rw [hk] at g6
   have hrow:=Zay hc
   have hn:n≤m:=hn
   have hnc:n≤cap:=by omega
   have hzl:z.cells.toList.length=inf.size:=by rw [← hzs];simp
   have hslice:(Instr.sliceAt T (tm.getD x undef) (Xa (.int .i64 n)) Xe Xe).run c.P w = .ok (.slice (if cap=n then Xa ⟨b,0,Xe⟩ else Xa ⟨b,n*inf.size,Xe⟩) (m-n) (cap-n)) w:=by
    rw [k2]
    simp [Instr.sliceAt,Instr.slice,Instr.sliceBounds,Instr.sliceBound,asIntOf,run_underlying hT,hsz,hn,hnc,k3,Jn]
   have hsc:Zry inf.size rows (.osl e' (j+1) m) n zc=rows.set j ((Z5 rows (j+1)).take (n*inf.size)++(Xg (m-n) zc).flatten++(Z5 rows (j+1)).drop (m*inf.size)):=modify_set (fun row=>row.take (n*inf.size)++(Xg (m-n) zc).flatten++row.drop (m*inf.size)) hrow
   by_cases hend:n=m
   ·subst hend
    refine ⟨_,w,X,hslice,fun ty=>?_,?_⟩
    ·rw [Uz]
     exact Y3 hT
    ·have:rows.set j ((Z5 rows (j+1)).take (n*inf.size)++(Xg (n-n) zc).flatten++(Z5 rows (j+1)).drop (n*inf.size))=rows:=by
      rw [Uz]
      simp only [List.replicate_zero,List.flatten_nil,XJ,List.take_append_drop]
      apply Ua
      intro i
      rw [UD]
      by_cases hij:j=i
      ·subst hij
       rw [if_pos rfl,if_pos (Xk.1 hrow).1,hrow]
      ·rw [if_neg hij]
     rw [hsc,this,ZjH hd]
     exact h
   ·obtain ⟨p,hp⟩:∃ p,m-n=p+1:=⟨m-n-1,by omega⟩
    have hmn:n*inf.size+(p+1)*inf.size=m*inf.size:=by rw [← Nat.add_mul];congr 1;omega
    have hm1:m*inf.size≤cap*inf.size:=XX _ k3
    have hcn:¬ cap=n:=by omega
    rw [if_neg hcn,hp] at hslice
    have hclr:=fun ty=>VA (P:=c.P) (w:=w) (ty:=ty) (o:=n*inf.size) (n:=p) (c:=cap-n) hT hi hz g4 (by rw [hzs,g6];omega) h1z
    have hrl:=JS (hzr w lim) (p+1)
    have hfl:((Xg (p+1) z.cells.toList).flatten).length=(p+1)*inf.size:=by simp [hzl,← hzs]
    have hfz:((Xg (p+1) zc).flatten).length=(p+1)*inf.size:=by rw [hrl.1,hfl]
    have hal:arr.toList.length=cap*inf.size:=by simpa using g6
    have hrw:(Z5 rows (j+1)).take (n*inf.size)++(Xg (m-n) zc).flatten++(Z5 rows (j+1)).drop (m*inf.size)=setCells (Z5 rows (j+1)) (n*inf.size) ((Xg (p+1) zc).flatten):=by
     unfold setCells
     rw [hp,hfz,hmn]
    have hset:=h.stoSet (row':=setCells (Z5 rows (j+1)) (n*inf.size) ((Xg (p+1) zc).flatten)) (arr':=(arr.toList.take (n*inf.size)++(Xg (p+1) z.cells.toList).flatten++arr.toList.drop (n*inf.size+(p+1)*z.cells.size)).toArray) hd hc g1 g2 g4 g5 g0
     (by rw [hk,Uw,Xu,Xu,hfl,XS,Ug,hal,hzs];omega)
     (by unfold setCells;rw [Uw];simp only [Xu,hfl,hfz,XS,Ug,hal,hzs];omega)
     (fun y hy=>by
      unfold setCells at hy
      rcases Xv.1 hy with hy | hy
      ·rcases Xv.1 hy with hy | hy
       ·exact g8 y (XQ hy)
       ·exact hrl.2.1 y hy
      ·exact g8 y (XV hy))
     (fun i y u hy hu=>by
      unfold setCells at hy
      rw [VF _ _ _ (by rw [hfz];omega)] at hy
      have hu':(arr.toList.take (n*inf.size)++(Xg (p+1) z.cells.toList).flatten++arr.toList.drop (n*inf.size+((Xg (p+1) z.cells.toList).flatten).length))[i]? = Xa u:=by
       rw [hfl,← hzs]
       rw [← hzs] at hu
       simpa using hu
      rw [VF arr.toList _ _ (by rw [hfl,hal];omega)] at hu'
      rw [hfz] at hy
      rw [hfl] at hu'
      split at hy
      ·rename_i hcnd
       rw [if_pos hcnd] at hu'
       exact hrl.2.2 _ y u hy hu'
      ·rename_i hcnd
       rw [if_neg hcnd] at hu'
       exact g9 i y u hy (by simpa using hu'))
    rw [← hrw,← hsc] at hset
    exact ⟨_,_,_,hslice,hclr,hset⟩
 ·cases hok
 ·cases hok
def ZaT (tx:Odr) (P:Program) (R:AV→List AV→Prop) (A:Nat→List V→Prop) (ρ:Nat→V) (g:Nat→SV) (o:Oper) (n:Nat) (k:KS):Prop:=
 ∃ ρ' n' gr x us fp,n≤n'∧(∀ m,m < n→ρ' m=ρ m)∧x.bd n'∧(∀ u∈us,u.2.bd n')∧(k gr x us fp n').wp P R A ρ'∧
  Zi8 tx P o (fun d=>(g d).den ρ) (x.den ρ') (us.map fun u=>(u.1,u.2.den ρ')) fp∧
  (gr=Xb→∀ u∈us,∀ rows rows',(g u.1).den ρ = .store rows→u.2.den ρ' = .store rows'→rows <+: rows')
theorem Zav {E:Env} {g:Nat→SV} {d:Nat} {l:LE} (h:ZfQ E g=Xa (d,l)):g d = .store l:=by
 unfold ZfQ at h
 split at h
 ·split at h
  ·simp only [Xf,Xt] at h
   obtain ⟨rfl,rfl⟩:=h
   assumption
  ·cases h
 ·cases h
theorem Zno {P:Program} {g:Nat→SV} {x:Operand} {p:LE} (h:ZbG P g x=Xa p):Jk P g x = .c (.cel p):=by
 unfold ZbG at h
 split at h
 ·simp only [Xf] at h
  subst h
  assumption
 ·cases h
theorem W7 {P:Program} {E:Env} {T:TypeId} {sh:List Sh} (h:Zas P E T=Xa sh):sh.length=P.cellsOf T∧0 < sh.length:=by
 unfold Zas at h
 split at h
 ·split at h
  ·simp only [Xf] at h
   subst h
   assumption
  ·cases h
 ·cases h
theorem Za1 {b:Bool} (h:okL b≠[]):b=Xb:=by cases b with | true=>rfl | false=>exact (h rfl).elim
theorem ZnR {w:World} {lim:Lm} {c:AV} {cs:List AV} {us:List Value} (h:JH w lim (c::cs) us):∃ u us',us=u::us'∧c.isCell=Xb∧Rep w lim c u∧JH w lim cs us':=by
 cases us with
 | nil => have := h.1; cases this
 | cons u us =>
  refine ⟨u,us,rfl,h.2.1 c (by simp),h.2.2 0 c u rfl rfl,by simpa using h.1,fun x hx=>h.2.1 x (by simp [hx]),fun i x v hx hv=>h.2.2 (i+1) x v (by simpa using hx) (by simpa using hv)⟩
theorem ZrJ {w:World} {lim:Lm} {c:AV} {cs:List AV} {u:Value} {us:List Value} (hc:c.isCell=Xb) (hr:Rep w lim c u) (h:JH w lim cs us):JH w lim (c::cs) (u::us):=by
 have:=(JH.one hc hr).append h
 exact this
theorem Zr0 (ρ:Nat→V) {s:Sh} {c c':SC} (h:ZuO s c=Xa c'):∀ (w:World) (lim:Lm) (u:Value),Rep w lim (c.den ρ) u→Rep w lim (c'.den ρ) u:=by
 intro w lim u hr
 unfold ZuO at h
 split at h
 ·simp only [Xf] at h;subst h;exact hr
 ·simp only [Xf] at h
  subst h
  have h1:Rep w lim (.slice Xb _ []) u:=hr
  have h2:(SC.cel (ptE (.pnil 1) .nil)).den ρ = .osl 0 0 0:=rfl
  rw [h2]
  cases h1 with
  | sliceN => exact .osl0
  | sliceE hf => rw [hf rfl]; exact .osl0
  | sliceC _ _ hf => 
   have:=hf rfl
   subst this
   exact .osl0
 ·split at h
  ·simp only [Xf] at h
   rename_i hk
   subst hk
   subst h
   exact Zf2 hr
  ·split at h
   ·simp only [Xf] at h
    subst h
    exact VU (fun h=>by cases h) hr
   ·cases h
 ·simp only [Xf] at h;subst h;exact hr
 ·simp only [Xf] at h;subst h;exact hr
 ·simp only [Xf] at h;subst h;exact hr
 ·cases h
theorem Zsw {s:Sh} {c c':SC} {n:Nat} (h:ZuO s c=Xa c') (hb:c.bd n):c'.bd n:=by
 unfold ZuO at h
 split at h
 ·simp only [Xf] at h;subst h;exact hb
 ·simp only [Xf] at h;subst h;exact ⟨trivial,trivial,trivial,trivial⟩
 ·split at h
  ·simp only [Xf] at h;subst h;exact hb
  ·split at h
   ·simp only [Xf] at h;subst h;trivial
   ·cases h
 ·simp only [Xf] at h;subst h;exact hb
 ·simp only [Xf] at h;subst h;exact hb
 ·simp only [Xf] at h;subst h;exact hb
 ·cases h
theorem WX {n:Nat} : ∀ (l:List Sh) (cs cs':List SC),ZaC l cs=Xa cs'→(∀ c∈cs,c.bd n)→∀ c∈cs',c.bd n
 | [], [], cs', h, _ => by simp only [ZaC, Xf] at h; subst h; simp
 | [], _ :: _, _, h, _ => by cases h
 | _ :: _, [], _, h, _ => by cases h
 | s :: l, c :: cs, cs', h, hb => by
  simp only [ZaC] at h
  split at h
  ·rename_i v vs h1 h2
   simp only [Xf] at h
   subst h
   intro x hx
   rcases Xp.1 hx with rfl | hx
   ·exact Zsw h1 (hb c (by simp))
   ·exact WX l cs vs h2 (fun y hy=>hb y (by simp [hy])) x hx
  ·cases h
theorem Wm:∀ (l:List Sh) (cs cs':List SC),ZaC l cs=Xa cs'→cs.length=l.length∧cs'.length=cs.length
 | [], [], cs', h => by simp only [ZaC, Xf] at h; subst h; exact ⟨rfl, rfl⟩
 | [], _ :: _, _, h => by cases h
 | _ :: _, [], _, h => by cases h
 | s :: l, c :: cs, cs', h => by
  simp only [ZaC] at h
  split at h
  ·rename_i v vs h1 h2
   simp only [Xf] at h
   subst h
   obtain ⟨k1,k2⟩:=Wm l cs vs h2
   exact ⟨by simp [k1],by simp [k2]⟩
  ·cases h
theorem Zdm (ρ:Nat→V):∀ (l:List Sh) (cs cs':List SC),ZaC l cs=Xa cs'→∀ (w:World) (lim:Lm) (us:List Value),JH w lim (cs.map (SC.den ρ)) us→JH w lim (cs'.map (SC.den ρ)) us
 | [], [], cs', h => by simp only [ZaC, Xf] at h; subst h; exact fun _ _ _ h => h
 | [], _ :: _, _, h => by cases h
 | _ :: _, [], _, h => by cases h
 | s :: l, c :: cs, cs', h => by
  simp only [ZaC] at h
  split at h
  ·rename_i v vs h1 h2
   simp only [Xf] at h
   subst h
   intro w lim us hr
   obtain ⟨u,us',rfl,_,k2,k3⟩:=ZnR hr
   exact ZrJ (Yc ρ v) (Zr0 ρ h1 w lim u k2) (Zdm ρ l cs vs h2 w lim us' k3)
  ·cases h
theorem ZcM (ρ:Nat→V) {l:List Sh} {cs cs':List SC} (h:ZaC l cs=Xa cs'):(cs'.map (SC.den ρ)).length=(cs.map (SC.den ρ)).length∧∀ (w:World) (lim:Lm) (us:List Value),JH w lim (cs.map (SC.den ρ)) us→JH w lim (cs'.map (SC.den ρ)) us:=
 ⟨by rw [Xq,Xq,(Wm l cs cs' h).2],Zdm ρ l cs cs' h⟩
theorem Zgq {P:Program} {g:Nat→SV} {top:Nat} {txt:Odr} {x:Bool} {t:Nat} {e:TypeId} {l:LE} {us:Ups} (h:YO P txt g top t x e l=Xa us):∀ u∈us,∀ (ρ:Nat→V) rows,u.2.den ρ = .store rows→False:=by
 intro u hu ρ rows hs
 unfold YO at h
 split at h
 ·simp only [Xf] at h
  subst h
  rw [XD] at hu
  subst hu
  cases hs
 ·split at h
  case isFalse=>cases h
  split at h
  ·simp only [Xf] at h
   subst h
   rcases Xp.1 hu with rfl | hu
   ·cases hs
   ·rw [((JM _ u).1 hu).1] at hs;cases hs
  ·split at h
   ·simp only [Xf] at h
    subst h
    simp only [XD] at hu
    subst hu
    cases hs
   ·cases h
theorem Zow {n:Nat} {l:List (List AV)} {c:AV} {r:List AV} (h:(ZnX n l c)[0]? = Xa r):∃ j off,c = .oref (j+1) off∧Z0 (Z5 l (j+1))=Xb∧off+n≤(Z5 l (j+1)).length∧r=((Z5 l (j+1)).drop off).take n:=by
 unfold ZnX at h
 split at h
 ·rename_i j off
  split at h
  ·rename_i hb
   simp only [Xr,decide_eq_true_eq] at hb
   simp only [XB,Xf] at h
   exact ⟨j,off,rfl,hb.1,hb.2,h.symm⟩
  ·simp at h
 ·simp at h
theorem Zob {n:Nat} {l:List (List AV)} {c:AV} (h:ZnX n l c≠[]):∃ j off,c = .oref (j+1) off∧Z0 (Z5 l (j+1))=Xb∧off+n≤(Z5 l (j+1)).length:=by
 cases hl:ZnX n l c with
 | nil => exact (h hl).elim
 | cons r rs =>
  obtain ⟨j,off,h1,h2,h3,_⟩:=Zow (n:=n) (l:=l) (c:=c) (r:=r) (by rw [hl];rfl)
  exact ⟨j,off,h1,h2,h3⟩
section
variable {tx:Odr} {P:Program} {E:Env} {R:AV→List AV→Prop} {A:Nat→List V→Prop} {ρ:Nat→V} {g:Nat→SV} {o:Oper} {n:Nat} {k:KS}
theorem ZaV {x:SV} {us:Ups} {fp:List Nat} {gr:Bool} (hk:(k gr x us fp n).wp P R A ρ) (hx:x.bd n) (hus:∀ u∈us,u.2.bd n)
  (hex:Jt P o (fun d=>(g d).den ρ) (x.den ρ) (us.map fun u=>(u.1,u.2.den ρ)) fp) (hgr:gr=Xb→∀ u∈us,∀ rows rows',(g u.1).den ρ = .store rows→u.2.den ρ = .store rows'→rows <+: rows'):ZaT tx P R A ρ g o n k:=
 ⟨ρ,n,gr,x,us,fp,Xz _,fun _ _=>rfl,hx,hus,hk,hex.t.s,hgr⟩
theorem V1 {x:SV} {fp:List Nat} {gr:Bool} (hk:(k gr x [] fp n).wp P R A ρ) (hx:x.bd n) (hex:Jt P o (fun d=>(g d).den ρ) (x.den ρ) [] fp):ZaT tx P R A ρ g o n k:=
 ZaV hk hx (by simp) hex (fun _ u hu=>by cases hu)
theorem Zt1 {K:K} (h:YZ tx P R A ρ g o n K) {gr:Bool} (hK:∀ x us fp n',K x us fp n'=k gr x us fp n') (hgr:gr=Xc):ZaT tx P R A ρ g o n k:=by
 obtain ⟨ρ',n',x,us,fp,h1,h2,h3,h4,h5,h6⟩:=h
 exact ⟨ρ',n',gr,x,us,fp,h1,h2,h3,h4,by rw [← hK];exact h5,h6,fun h=>by rw [hgr] at h;cases h⟩
theorem JO {x:Operand} {p:LE} (h:ZbG P g x=Xa p):Zn P (fun d=>(g d).den ρ) x=Zd (p.den ρ):=Zg ρ (Zno h)
theorem Kh (hg:∀ d,(g d).bd n) {x:Operand} {p:LE} (h:ZbG P g x=Xa p):p.bd n:=by
 have:=Zy (P:=P) hg x
 rw [Zno h] at this
 exact this
theorem Yp {d:Nat} {l:LE} (h:ZfQ E g=Xa (d,l)):(fun d=>(g d).den ρ) d = .store (l.den ρ):=by show (g d).den ρ=_;rw [Zav h];rfl
theorem Wx (hg:∀ d,(g d).bd n) {d:Nat} {l:LE} (h:ZfQ E g=Xa (d,l)):l.bd n:=by
 have:=hg d
 rw [Zav h] at this
 exact this
theorem Zpv {T:TypeId} {a:Operand} {p:LE} (hg:∀ d,(g d).bd n) (ho:o.op = .load T a) (hp:ZbG P g a=Xa p) (h:(Zr5 P E g T p n k).wp P R A ρ):ZaT tx P R A ρ g o n k:=by
 unfold Zr5 at h
 split at h
 ·rename_i d l sh agg hl hsh hT
  split at h
  ·rename_i h1
   obtain ⟨vs,-,h2,h3⟩:=h
   obtain ⟨s1,s2⟩:=W7 hsh
   have h2':(ZnX sh.length (l.den ρ) (Zd (p.den ρ)))[0]? = Xa ((ZH sh n).map (SC.den (bind ρ n vs))):=h2
   obtain ⟨j,off,e1,e2,e3,e4⟩:=Zow h2'
   have hbd:=JK sh n
   have hlen:=Zcf sh n
   refine ⟨bind ρ n vs,n+sh.length,Xb,_,[],[vS d],XU _ _,ZdH ρ n vs,?_,by simp,h3,?_,fun _ u hu=>by cases hu⟩
   ·cases agg with
    | true => exact hbd
    | false =>
     show SV.bd _ (match ZH sh n with | [x]=>.c x | _=>.dead)
     split
     ·rename_i x hx
      exact hbd x (by rw [hx];simp)
     ·trivial
   ·have:=ZlW (T':=tx) (σ:=fun d=>(g d).den ρ) ho hT ((JO (ρ:=ρ) hp).trans e1) (Yp (ρ:=ρ) hl) e2 (by rw [← s1];exact e3) (fun ha=>by
     rcases h1 with h1 | h1
     ·rw [h1] at ha;cases ha
     ·rw [← s1,h1])
    cases agg with
    | true =>
     have he:(SV.agg (ZH sh n)).den (bind ρ n vs) = .agg (((Z5 (l.den ρ) (j+1)).drop off).take (P.cellsOf T)):=by
      simp only [SV.den]
      rw [e4,s1]
     show Zi8 tx P o _ ((SV.agg (ZH sh n)).den (bind ρ n vs)) _ _
     rw [he]
     exact this
    | false =>
     have h1:sh.length=1:=by
      rcases h1 with h1 | h1
      ·cases h1
      ·exact h1
     obtain ⟨x,hx⟩:∃ x,ZH sh n = [x]:=List.length_eq_one_iff.1 (by rw [hlen,h1])
     have he:(match ZH sh n with | [x]=>SV.c x | _=>.dead).den (bind ρ n vs)=((Z5 (l.den ρ) (j+1))[off]?).getD .dead:=by
      rw [hx] at e4 ⊢
      have h0:([x].map (SC.den (bind ρ n vs)))[0]? = (((Z5 (l.den ρ) (j+1)).drop off).take sh.length)[0]?:=by rw [e4]
      rw [h1,XC,if_pos (by omega),XO] at h0
      rw [show (Z5 (l.den ρ) (j+1))[off]? = _ from h0.symm]
      rfl
     show Zi8 tx P o _ ((match ZH sh n with | [x]=>SV.c x | _=>.dead).den (bind ρ n vs)) _ _
     rw [he]
     exact this
  ·exact h.elim
 ·exact h.elim
theorem ZnV {T:TypeId} {a x:Operand} {p:LE} (hg:∀ d,(g d).bd n) (htop:∀ i,E.top≤i→g i = .dead) (ho:o.op = .store T a x) (hp:ZbG P g a=Xa p) (h:(ZmD P E tx g T p x n k).wp P R A ρ):ZaT tx P R A ρ g o n k:=by
 have bp:=Kh hg hp
 unfold ZmD at h
 split at h
 ·rename_i d l sh hl hsh
  have bl:=Wx hg hl
  obtain ⟨s1,s2⟩:=W7 hsh
  split at h
  ·rename_i t e xs how
   obtain ⟨rfl,hgt,rfl⟩:x = .tmp t∧g t = .own Xb e xs∧sh = [.cel]:=by
    unfold Zt6 at how
    split at how
    ·rename_i t' e' xs' h1 h2
     simp only [Xf,Xt] at how
     obtain ⟨rfl,rfl,rfl⟩:=how
     have hx:x = .tmp t':=by cases x<;>simp [ZT] at h1;rw [h1]
     subst hx
     simp only [ZT,Xw,Xf] at h2
     exact ⟨rfl,h2,rfl⟩
    ·cases how
   split at h
   ·rename_i us hus
    split at h
    ·rename_i hh
     obtain ⟨hnm,hdt⟩:=hh
     obtain ⟨r1,r2,h3⟩:=h
     have r2':ZnX 1 (l.den ρ) (Zd (p.den ρ))≠[]:=r2
     obtain ⟨j,off,e1,e2,e3⟩:=Zob r2'
     obtain ⟨us',rfl,q1,q2,q3⟩:=Ye ρ htop hgt hus
     have bx:=hg t
     rw [hgt] at bx
     refine ⟨ρ,n,Xc,.dead,_,[d],Xz _,fun _ _=>rfl,trivial,fun u hu=>?_,h3,?_,fun h=>by cases h⟩
     ·rcases Xv.1 hu with hu | hu
      ·exact Yb hus bx u hu
      ·rw [XD] at hu
       subst hu
       exact ⟨⟨bl,trivial,bx,trivial⟩,trivial,bp,⟨bl,bx,trivial,trivial⟩,trivial⟩
     ·have q2':Yk tx (fun d=>(g d).den ρ) t (us.tail.map fun u=>(u.1,u.2.den ρ)):=by
       rcases q2 with ⟨h0,_⟩ | h0
       ·cases h0
       ·exact h0
      have:=Zc8 (T':=tx) (σ:=fun d=>(g d).den ρ) (t:=t) (xs:=xs.den ρ) ho ((JO (ρ:=ρ) hp).trans e1) (Yp (ρ:=ρ) hl) e2 (by show (g t).den ρ=_;rw [hgt];rfl) q2' hdt hnm r1 (by rw [← s1];rfl) e3
      rw [XN,q1]
      have hsd:(SV.store (stE .set (stE .push l (.lit 0) xs .nil) (.lit 0) p (.cons (.cel (stE (.parr e) l (.len xs) .nil .nil)) .nil))).den ρ = .store (Je (l.den ρ++[(xs.den ρ).flatten]) j off [.osl e ((l.den ρ).length+1) (xs.den ρ).length]):=by
       show AV.store (Zu7 (l.den ρ++[(xs.den ρ).flatten]) (Zd (p.den ρ)) [.osl e ((l.den ρ).length+1) (((xs.den ρ).length:Int)).toNat])=_
       rw [e1,Ws]
       rfl
      simp only [Xh,XG]
      rw [hsd]
      exact this.s
    ·exact h.elim
   ·exact h.elim
  ·split at h
   ·rename_i vc hvc
    split at h
    ·rename_i vc' hvc'
     obtain ⟨r1,h3⟩:=h
     have r1':ZnX sh.length (l.den ρ) (Zd (p.den ρ))≠[]:=r1
     obtain ⟨j,off,e1,e2,e3⟩:=Zob r1'
     refine ZaV h3 trivial (us1 ⟨bl,trivial,bp,KC _ (WX _ _ _ hvc' (W8 hvc (Zy hg x)))⟩) ?_ (fun h=>by cases h)
     have:=ZdS (σ:=fun d=>(g d).den ρ) ho ((JO (ρ:=ρ) hp).trans e1) (Yp (ρ:=ρ) hl) e2 (Yd P g ρ x).symm (Vk ρ hvc) (by rw [Xq,(Wm _ _ _ hvc').1,s1]) (by rw [← s1];omega) (by rw [← s1];exact e3) (ZcM ρ hvc')
     have hsd:(SV.store (stE .set l (.lit 0) p (ZbX vc'))).den ρ = .store (Je (l.den ρ) j off (vc'.map (SC.den ρ))):=by
      show AV.store (Zu7 (l.den ρ) (Zd (p.den ρ)) ((ZbX vc').den ρ))=_
      rw [e1,YB]
      rfl
     simp only [Xh,XG]
     rw [hsd]
     exact this
    ·exact h.elim
   ·exact h.elim
 ·exact h.elim
theorem Zsu {d:Nat} {l:LE} {c:CE} (hl:g d = .store l):∀ u∈[(d,SV.store (.snoc l c))],∀ rows rows',(g u.1).den ρ = .store rows→u.2.den ρ = .store rows'→rows <+: rows':=by
 intro u hu rows rows' h1 h2
 rw [XD] at hu
 subst hu
 rw [show (g (d,SV.store (.snoc l c)).1) = .store l from hl] at h1
 have h1':AV.store (l.den ρ) = .store rows:=h1
 have h2':AV.store (l.den ρ++[c.den ρ]) = .store rows':=h2
 cases h1'
 cases h2'
 exact List.prefix_append _ _
theorem Zlt {T:TypeId} {x:Operand} (hg:∀ d,(g d).bd n) (ho:o.op = .box T x) (h:(Ztc P E g T (Jk P g x).cells n k).wp P R A ρ):ZaT tx P R A ρ g o n k:=by
 unfold Ztc at h
 split at h
 ·rename_i d l sh vc hl hsh hvc
  split at h
  ·rename_i vc' hvc'
   obtain ⟨s1,s2⟩:=W7 hsh
   have bl:=Wx hg hl
   refine ZaV h ⟨bl,trivial,trivial,trivial⟩ (us1 ⟨bl,KC _ (WX _ _ _ hvc' (W8 hvc (Zy hg x)))⟩) ?_ (fun _=>Zsu (Zav hl))
   have:=Zii (σ:=fun d=>(g d).den ρ) ho (Yd P g ρ x).symm (Vk ρ hvc) (Yp (ρ:=ρ) hl) (by rw [Xq,(Wm _ _ _ hvc').1,s1]) (ZcM ρ hvc')
   simp only [Xh,XG]
   show Jt P o _ (.oref ((l.den ρ).length+1) 0) [(d,.store (l.den ρ++[(ZbX vc').den ρ]))] [d]
   rw [YB]
   exact this
  ·exact h.elim
 ·exact h.elim
theorem Zhp {T:TypeId} (hg:∀ d,(g d).bd n) (ho:o.op = .alloc T) (h:(Ztc P E g T (Zsn P T) n k).wp P R A ρ):ZaT tx P R A ρ g o n k:=by
 unfold Ztc at h
 split at h
 ·rename_i d l sh vc hl hsh hvc
  split at h
  ·rename_i vc' hvc'
   obtain ⟨s1,s2⟩:=W7 hsh
   have bl:=Wx hg hl
   unfold Zsn at hvc
   cases hi:P.info? T with
   | none => rw [hi] at hvc; cases hvc
   | some i =>
    cases hz:i.zero with
    | none => rw [hi] at hvc; simp only [Xi, hz, Option.bind_none] at hvc; cases hvc
    | some z =>
     rw [hi] at hvc
     simp only [Xi,hz] at hvc
     have hzd:=Yx ρ z.cells.toList
     rw [hvc] at hzd
     refine ZaV h ⟨bl,trivial,trivial,trivial⟩ (us1 ⟨bl,KC _ (WX _ _ _ hvc' (KE hvc))⟩) ?_ (fun _=>Zsu (Zav hl))
     have:=Zeu (σ:=fun d=>(g d).den ρ) ho hi hz hzd.symm (Yp (ρ:=ρ) hl) (by rw [Xq,(Wm _ _ _ hvc').1,s1]) (ZcM ρ hvc')
     simp only [Xh,XG]
     show Jt P o _ (.oref ((l.den ρ).length+1) 0) [(d,.store (l.den ρ++[(ZbX vc').den ρ]))] [d]
     rw [YB]
     exact this
  ·exact h.elim
 ·exact h.elim
theorem Zsm {T:TypeId} {len:Nat} {parts:Array (Nat×Operand)} (hg:∀ d,(g d).bd n) (ho:o.op = .buildSlice T len parts) (h:(Zvl P E g T len parts.toList n k).wp P R A ρ):ZaT tx P R A ρ g o n k:=by
 unfold Zvl at h
 split at h
 ·rename_i e hT
  split at h
  ·rename_i i hi
   split at h
   ·rename_i z d l sh hz hl hsh
    split at h
    ·rename_i zc hzc
     split at h
     ·rename_i hh
      obtain ⟨h1,h2,h3,h4⟩:=hh
      split at h
      ·rename_i cs hf
       split at h
       ·rename_i cs' hcs'
        have bl:=Wx hg hl
        have hzd:=Yx ρ z.cells.toList
        rw [hzc] at hzd
        have hfd:=Zbt ρ (fun j=>Xa (j*i.size,i.size)) (parts.toList.map fun p=>(p.1,Jk P g p.2)) _ _ hf
        have hbcs:∀ c∈cs,c.bd n:=ZcK _ _ _ _ (fun c hc=>by
         obtain ⟨y,hy,hc⟩:=UH.1 hc
         rw [(X6.1 hy).2] at hc
         exact KE hzc c hc) (fun p hp=>by
         obtain ⟨q,_,rfl⟩:=Xj.1 hp
         exact Zy hg q.2) hf
        refine ZaV h ⟨bl,trivial,trivial,trivial⟩ (us1 ⟨bl,KC _ (WX _ _ _ hcs' hbcs)⟩) ?_ (fun _=>Zsu (Zav hl))
        have:=ZhC (σ:=fun d=>(g d).den ρ) (zc:=zc.map (SC.den ρ)) (cs:=cs.map (SC.den ρ)) ho hT hi hz hzd.symm h1 h2 h3 h4 (Yp (ρ:=ρ) hl) (by
         rw [← hfd,Wg,List.map_flatten,List.map_replicate]
         congr 1
         refine Wr fun p _=>?_
         show _=(p.1,(Jk P g p.2).den ρ)
         rw [Yd]) (ZcM ρ hcs')
        simp only [Xh,XG]
        show Jt P o _ (.osl e ((l.den ρ).length+1) ((len:Int)).toNat) [(d,.store (l.den ρ++[(ZbX cs').den ρ]))] [d]
        rw [YB,Ws]
        exact this
       ·exact h.elim
      ·exact h.elim
     ·exact h.elim
    ·exact h.elim
   ·exact h.elim
  ·exact h.elim
 ·exact h.elim
theorem Zgg {e:TypeId} {s:Nat} {l:List (List AV)} {c:AV} (h:Zdh e s l c=Xb):∃ e' j m,c = .osl e' j m:=by
 unfold Zdh at h
 split at h
 ·exact ⟨_,_,_,rfl⟩
 ·exact ⟨_,_,_,rfl⟩
 ·cases h
theorem WZ {p:LE} {e':TypeId} {j m:Nat} (h:Zd (p.den ρ) = .osl e' j m):((ptE .plen p).den ρ).length=m:=by
 show (match Zd (p.den ρ) with | .osl _ _ n=>Xg n [] | _=>[]).length=m
 rw [h]
 simp
theorem ZrF {c:Call} {T:TypeId} {x y:Operand} {p:LE} (hg:∀ d,(g d).bd n) (ho:o.op = .call c) (hc:c.callee = .builtin .append) (hargs:c.args.toList = [x,y]) (hts:c.argTypes.toList = [T,T]) (hp:ZbG P g x=Xa p)
  (h:(Zvx P E g T p y n k).wp P R A ρ):ZaT tx P R A ρ g o n k:=by
 have bp:=Kh hg hp
 unfold Zvx at h
 split at h
 ·rename_i e d l f s ys hT hl hy
  split at h
  ·rename_i i hi
   split at h
   ·rename_i z hz
    split at h
    ·rename_i hh
     obtain ⟨h1,h2,rfl,hnm⟩:=hh
     obtain ⟨r1,r2,r3,h⟩:=h
     have bl:=Wx hg hl
     have by':=Zy (P:=P) hg y
     rw [hy] at by'
     have r2':okL (Zdh e i.size (l.den ρ) (Zd (p.den ρ)))≠[]:=r2
     have hok:=Za1 r2'
     obtain ⟨e',j,m,hce⟩:=Zgg hok
     have r3':(((ptE .plen p).den ρ).length+(ys.den ρ).length)*(i.bytes+1)≤ZB:=r3
     rw [WZ hce] at r3'
     rw [hce] at hok
     have:=Zdk (σ:=fun d=>(g d).den ρ) ho hc hargs hts hT hi hz h1 hnm ((JO (ρ:=ρ) hp).trans hce) (Zg ρ hy) r1 (Yp (ρ:=ρ) hl) hok r3'
     refine ZaV h ⟨bl,trivial,bp,by',trivial⟩ (us1 ⟨bl,trivial,bp,by',trivial⟩) ?_ (fun h=>by cases h)
     simp only [Xh,XG]
     show Jt P o _ (.osl e ((l.den ρ).length+1) (pO (Zd (p.den ρ))+(ys.den ρ).length)) [(d,.store (ZhK i.size (l.den ρ) (Zd (p.den ρ)) (ys.den ρ)))] [d]
     rw [hce]
     exact this
    ·exact h.elim
   ·exact h.elim
  ·exact h.elim
 ·exact h.elim
theorem Zn5 {c:Call} {T:TypeId} {x y:Operand} {p:LE} {ex:Bool} (hg:∀ d,(g d).bd n) (htop:∀ i,E.top≤i→g i = .dead) (ho:o.op = .call c) (hc:c.callee = .builtin .append) (hargs:c.args.toList = [x,y]) (hts:c.argTypes.toList = [T,T]) (hp:ZbG P g y=Xa p)
  (h:(Zm5 P E tx g ex T x p n k).wp P R A ρ):ZaT tx P R A ρ g o n k:=by
 have bp:=Kh hg hp
 unfold Zm5 at h
 split at h
 case h_2=>exact h.elim
 rename_i e d l hT hl
 obtain ⟨r2,h⟩:=h
 have bl:=Wx hg hl
 have r2':okL (Zdh e (P.cellsOf e) (l.den ρ) (Zd (p.den ρ)))≠[]:=r2
 have hok:=Za1 r2'
 obtain ⟨e',j,m,hce⟩:=Zgg hok
 have hyo:=(JO (ρ:=ρ) hp).trans hce
 rw [hce] at hok
 have hxv:(match ZT x with | some t=>g t | none=>Jk P g x).bd n:=by
  split
  ·exact hg _
  ·exact Zy hg x
 have hsrc:∀ t,ZT x=Xa t→x = .tmp t:=fun t ht=>by cases x<;>simp [ZT] at ht;rw [ht]
 have hvd:(stE (.view (P.cellsOf e)) l (.lit 0) p .nil).den ρ=Za7 (P.cellsOf e) (l.den ρ) (.osl e' j m):=by
  show Za7 (P.cellsOf e) (l.den ρ) (Zd (p.den ρ))=_
  rw [hce]
 have bv:(stE (.view (P.cellsOf e)) l (.lit 0) p .nil).bd n:=⟨bl,trivial,bp,trivial⟩
 unfold Zad at h
 rw [hT] at h
 dsimp only at h
 split at h
 ·rename_i i hi
  have hk:P.cellsOf e=i.size:=ZM hi
  split at h
  ·rename_i z hz
   split at h
   ·rename_i hh
    split at h
    ·rename_i b e2 xs f s ys hxs hys
     simp only [SV.c.injEq,SC.slice.injEq] at hys
     obtain ⟨rfl,rfl,rfl⟩:=hys
     split at h
     ·rename_i t hst
      have hx0:=hsrc t hst
      subst hx0
      simp only [ZT] at hxs
      split at h
      ·rename_i us hus
       split at h
       ·rename_i he
        obtain ⟨rfl,_⟩:=he
        obtain ⟨us',rfl,q1,q2,q3⟩:=Ye ρ htop (t:=t) hxs hus
        have bx:=hg t
        rw [hxs] at bx
        refine ⟨ρ,n,Xb,.own b e2 (.app xs (stE (.view (P.cellsOf e2)) l (.lit 0) p .nil)),_,[d],Xz _,fun _ _=>rfl,⟨bx,bv⟩,Yb hus bx,h.2,?_,fun _ u hu rows rows' g1 g2=>?_⟩
        ·rw [q1]
         have hroom:((xs.den ρ).length+((stE (.view (P.cellsOf e2)) l (.lit 0) p .nil).den ρ).length)*(i.bytes+1)≤ZB:=h.1
         rw [hvd,hk] at hroom
         have:=Zaz (T':=tx) (σ:=fun d=>(g d).den ρ) ho hc hargs hts hT hi hz hh.1 (by show (g t).den ρ=_;rw [hxs];rfl) hyo (Yp (ρ:=ρ) hl) (by rw [← hk];exact hok) hroom q2 hh.2.2
         show Zi8 tx P o _ (.own b e2 (xs.den ρ++(stE (.view (P.cellsOf e2)) l (.lit 0) p .nil).den ρ)) _ [d]
         rw [hvd,hk]
         exact this.s
        ·have hu':(u.1,u.2.den ρ)∈us.map fun u=>(u.1,u.2.den ρ):=Xj.2 ⟨u,hu,rfl⟩
         exfalso
         exact Zgq hus u hu ρ rows' g2
       ·exact h.elim
      ·exact h.elim
     ·exact h.elim
    ·rename_i s0 f s ys hxs hys
     simp only [SV.c.injEq,SC.slice.injEq] at hys
     obtain ⟨rfl,rfl,rfl⟩:=hys
     ·rw [if_pos hk] at h
      refine V1 h.2 bv ?_
      have hx:Zn P (fun d=>(g d).den ρ) x = .slice Xb s0 []:=by
       split at hxs
       ·rename_i t ht
        rw [hsrc t ht]
        simp only [Zn,hxs]
        rfl
       ·exact Zg ρ hxs
      have hroom:((([] : List (List AV))).length+((stE (.view (P.cellsOf e)) l (.lit 0) p .nil).den ρ).length)*(i.bytes+1)≤ZB:=h.1
      rw [hvd,hk] at hroom
      have:=Zaf (σ:=fun d=>(g d).den ρ) ex ho hc hargs hts hT hi hz hh.1 hx hyo (Yp (ρ:=ρ) hl) (by rw [← hk];exact hok) hroom hh.2.2
      show Jt P o _ (.own ex e ((stE (.view (P.cellsOf e)) l (.lit 0) p .nil).den ρ)) _ [d]
      rw [hvd,hk]
      exact this
    ·exact h.elim
   ·exact h.elim
  ·exact h.elim
 ·exact h.elim
theorem ZgT {aZ bs:List AK} (h:Zn6 aZ) (hb:∀ b∈bs,∀ f ds gs,b≠.clo f ds gs):Zn6 (aZ++bs):=by
 intro i f ds gs hi
 rcases XF i aZ.length with hlt | hge
 ·rw [Xx hlt] at hi
  obtain ⟨h1,h2⟩:=h i f ds gs hi
  refine ⟨h1,fun k d j hk hj=>?_⟩
  obtain ⟨fr,cs,h3⟩:=h2 k d j hk hj
  exact ⟨fr,cs,by rw [Xx (Xk.1 h3).1];exact h3⟩
 ·rw [Xy hge] at hi
  exact (hb _ (Xm hi) f ds gs rfl).elim
theorem Zh6 {aZ bs:List AK} (h:Znu aZ) (hb:∀ b∈bs,∀ t d q j,b≠.ref t d q j):Znu (aZ++bs):=by
 intro i t d q j hi
 rcases XF i aZ.length with hlt | hge
 ·rw [Xx hlt] at hi
  obtain ⟨fr,cs,h3⟩:=h i t d q j hi
  exact ⟨fr,cs,by rw [Xx (Xk.1 h3).1];exact h3⟩
 ·rw [Xy hge] at hi
  exact (hb _ (Xm hi) t d q j rfl).elim
theorem ZjS {c:Call} {f:FuncId} {cps:List KM} {as0:Option (List SAK)} (htop:∀ i,E.top≤i→g i = .dead) (ho:o.op = .call c)
  (hc:(c.callee = .value (.func f)∧cps = [])∨∃ t,c.callee = .value (.tmp t)∧((∃ ds,(g t).den ρ = .clo f ds∧cps=ds.map KM.cap)∨∃ js,(g t).den ρ = .fnc f js∧js≠[]∧cps=js.map KM.obj))
  (ha:∀ aZ,as0=Xa aZ→Y6 P g ρ (c.args.toList.map KM.op++cps) aZ∧Raw aZ) (h:(Zqc P E tx g f c.args.toList as0 n k).wp P R A ρ):ZaT tx P R A ρ g o n k:=by
 unfold Zqc at h
 split at h
 case h_2=>exact h.elim
 rename_i d l hl
 split at h
 case isFalse=>exact h.elim
 rename_i hbor
 rw [List.isEmpty_iff] at hbor
 cases as0 with
 | none => exact h.elim
 | some aZ =>
  obtain ⟨ha1,ha2⟩:=ha aZ rfl
  cases hs:VV g (E.pad P f) aZ with
  | none => simp only [Zjo, hs] at h; exact h.elim
  | some saks =>
   obtain ⟨tail,a1,a2,a3,a4,a5,a6⟩:=ZeP ρ ha1 ha2 hs
   simp only [Zjo,hs,Xw] at h
   refine Zt1 (gr:=Xc) (K:=fun x us fp n'=>k Xc x us fp n') ?_ (fun _ _ _ _=>rfl) rfl
   have hpad:Y6 P g ρ (Xg (E.pad P f-saks.length) KM.pad) (Xg (E.pad P f-saks.length) SAK.pad):=by
    refine ⟨by simp,fun i x a hx ha=>?_⟩
    have h1:=Xm hx
    have h2:=Xm ha
    rw [(X6.1 h1).2,(X6.1 h2).2]
    trivial
   have hsto:Y6 P g ρ [KM.ghost] [SAK.sto d l]:=by
    refine ⟨rfl,fun i x a hx ha=>?_⟩
    cases i with
    | zero =>
     simp only [XB,Xf] at hx ha
     subst hx
     subst ha
     exact Yp (ρ:=ρ) hl
    | succ i => simp at hx
   refine ZjY (f:=f) (cps:=cps) (rf:=[]) (tail:=tail++Xg (E.pad P f-saks.length) KM.pad++[KM.ghost]) (saks:=saks++Xg (E.pad P f-saks.length) .pad++[.sto d l]) htop ho hc ?_ ?_ ?_ ?_ ?_ (fun i x _ h=>by simp at h) (by rw [hbor];exact h)
   ·have e1:c.args.toList.map KM.op++cps++(tail++Xg (E.pad P f-saks.length) KM.pad++[KM.ghost])=(c.args.toList.map KM.op++cps++tail++Xg (E.pad P f-saks.length) KM.pad)++[KM.ghost]:=by simp only [Xo]
    rw [e1]
    exact (a1.append hpad).append hsto
   ·intro x hx
    rcases Xv.1 hx with hx | hx
    ·rcases Xv.1 hx with hx | hx
     ·exact a2 x hx
     ·exact .inl (X6.1 hx).2
    ·rw [XD] at hx
     exact .inr hx
   ·have hz:((((Xg (E.pad P f-saks.length) SAK.pad).map (SAK.den ρ)).map AK.av).countP AV.isG)=0:=KF ρ _ fun a ha=>by
     rw [(X6.1 ha).2];rfl
    have h1:((([SAK.sto d l].map (SAK.den ρ)).map AK.av).countP AV.isG)=1:=rfl
    rw [XN,XN,XN,XN,U4,U4,hz,h1,Xu,Xu]
    simp only [Xu,List.length_replicate,Tk,Xq] at a3 ⊢
    omega
   ·rw [XN,XN]
    refine ZgT (ZgT a4 fun b hb f ds gs=>?_) fun b hb f ds gs=>?_
    ·obtain ⟨a,ha,rfl⟩:=Xj.1 hb
     rw [(X6.1 ha).2]
     intro h;cases h
    ·obtain ⟨a,ha,rfl⟩:=Xj.1 hb
     rw [XD] at ha
     subst ha
     intro h;cases h
   ·rw [XN,XN]
    refine Zh6 (Zh6 a5 fun b hb f ds gs j=>?_) fun b hb f ds gs j=>?_
    ·obtain ⟨a,ha,rfl⟩:=Xj.1 hb
     rw [(X6.1 ha).2]
     intro h;cases h
    ·obtain ⟨a,ha,rfl⟩:=Xj.1 hb
     rw [XD] at ha
     subst ha
     intro h;cases h
theorem Zmk {p:LE} (h:(ptE .pnn p).den ρ≠[]):∃ j off,Zd (p.den ρ) = .oref (j+1) off:=by
 have h':okL (match Zd (p.den ρ) with | .oref (_+1) _=>Xb | _=>Xc)≠[]:=h
 have:=Za1 h'
 split at this
 ·rename_i j off hc;exact ⟨j,off,hc⟩
 ·cases this
theorem Znk {p:LE} {j off:Nat} (h:Zd (p.den ρ) = .oref j off):(((ptE .pnn p).den ρ).length:Int)=if j=0 then 0 else 1:=by
 show ((okL (match Zd (p.den ρ) with | .oref (_+1) _=>Xb | _=>Xc)).length:Int)=_
 rw [h]
 cases j with
 | zero => rfl
 | succ j => rfl
theorem ZmS {p:LE} (h:(ptE .pisr p).den ρ≠[]):∃ j off,Zd (p.den ρ) = .oref j off∧(j=0→off=0):=by
 have h':okL (match Zd (p.den ρ) with | .oref 0 0=>Xb | .oref (_+1) _=>Xb | _=>Xc)≠[]:=h
 have:=Za1 h'
 split at this
 ·rename_i hc;exact ⟨0,0,hc,fun _=>rfl⟩
 ·rename_i j off hc;exact ⟨j+1,off,hc,fun h=>by omega⟩
 ·cases this
theorem ZnW {p:LE} (h:(ptE .pis0 p).den ρ≠[]):∃ j,Zd (p.den ρ) = .oref j 0:=by
 have h':okL (match Zd (p.den ρ) with | .oref _ 0=>Xb | _=>Xc)≠[]:=h
 have:=Za1 h'
 split at this
 ·rename_i j hc;exact ⟨j,hc⟩
 ·cases this
theorem ZfZ {p:LE} (h:(ptE .pisl p).den ρ≠[]):∃ e j m,Zd (p.den ρ) = .osl e j m:=by
 have h':okL (match Zd (p.den ρ) with | .osl _ _ _=>Xb | _=>Xc)≠[]:=h
 have:=Za1 h'
 split at this
 ·rename_i e j m hc;exact ⟨e,j,m,hc⟩
 ·cases this
theorem ZsK {p:LE} {f:FuncId} {m:Nat} (h:(ptE (.pisf f m) p).den ρ≠[]):∃ js,Zd (p.den ρ) = .fnc f js∧js.length=m:=by
 have h':okL (match Zd (p.den ρ) with | .fnc g' js=>decide (g'=f∧js.length=m) | _=>Xc)≠[]:=h
 have:=Za1 h'
 split at this
 ·rename_i g' js hc
  have:=of_decide_eq_true this
  obtain ⟨rfl,h2⟩:=this
  exact ⟨js,hc,h2⟩
 ·cases this
theorem Zgo {l p:LE} (h:(stE .mchk l (.lit 0) p .nil).den ρ≠[]):∃ j,Zd (p.den ρ) = .omap (j+1)∧Yn (Z5 (l.den ρ) (j+1))=Xb:=by
 have h':okL (ZuL (l.den ρ) (Zd (p.den ρ)))≠[]:=h
 have:=Za1 h'
 unfold ZuL at this
 split at this
 ·rename_i j hc;exact ⟨j,hc,this⟩
 ·cases this
theorem Zkr:∀ (xs:List Operand) (cs:List SC),ZnH P g xs=Xa cs→cs.length=xs.length∧∀ (i:Nat) (x:Operand) (c:SC),xs[i]? = Xa x→cs[i]? = Xa c→∃ p,c = .cel p∧ZbG P g x=Xa p
 | [], cs, h => by simp only [ZnH, Xf] at h; subst h; exact ⟨rfl, by simp⟩
 | x :: xs, cs, h => by
  simp only [ZnH] at h
  split at h
  ·rename_i p ps h1 h2
   simp only [Xf] at h
   subst h
   obtain ⟨k1,k2⟩:=Zkr xs ps h2
   refine ⟨by simp [k1],fun i y c hy hc=>?_⟩
   cases i with
   | zero =>
    simp only [XB,Xf] at hy hc
    subst hy
    subst hc
    exact ⟨p,rfl,h1⟩
   | succ i => exact k2 i y c (by simpa using hy) (by simpa using hc)
  ·cases h
theorem Zb9 {q:Zs9} {t:STree} : ∀ (cs:List SC),(Zga q cs t).wp P R A ρ→t.wp P R A ρ∧∀ c∈cs,∃ p,c = .cel p∧(ptE q p).den ρ≠[]
 | [], h => ⟨h, by simp⟩
 | .cel p :: cs, h => by
  obtain ⟨h1,h2⟩:=h
  obtain ⟨k1,k2⟩:=Zb9 cs h2
  refine ⟨k1,fun c hc=>?_⟩
  rcases Xp.1 hc with rfl | hc
  ·exact ⟨p,rfl,h1⟩
  ·exact k2 c hc
 | .int _ _ :: _, h => h.elim
 | .bool _ :: _, h => h.elim
 | .str _ :: _, h => h.elim
 | .slice _ _ _ :: _, h => h.elim
theorem ZeM {p:LE} {f:FuncId} {js:List Nat} (hp:Zd (p.den ρ) = .fnc f js):∀ (m i:Nat),i+m=js.length→Y6 P g ρ ((js.drop i).map KM.obj) (ZaB p i m)
 | 0, i, h => by
  rw [List.drop_of_length_le (by omega)]
  exact ⟨rfl,by simp⟩
 | m + 1, i, h => by
  have hlt:i < js.length:=by omega
  rw [List.drop_eq_getElem_cons hlt]
  obtain ⟨k1,k2⟩:=ZeM hp m (i+1) (by omega)
  refine ⟨by
   simp only [Xh,ZaB,XA]
   exact congrArg (· + 1) k1,fun q x a hx ha=>?_⟩
  cases q with
  | zero =>
   simp only [Xh,ZaB,XB,Xf] at hx ha
   subst hx
   subst ha
   show Zd [[AV.oref (ZvJ (Zd (p.den ρ)) i) 0]] = .oref js[i] 0
   rw [hp]
   simp only [ZvJ,Xs hlt,US]
   rfl
  | succ q => exact k2 q x a (by simpa only [Xh, X7] using hx) (by simpa only [ZaB, X7] using ha)
theorem ZdN {p:LE} : ∀ (m i:Nat),Raw (ZaB p i m)
 | 0, _ => by intro a ha; cases ha
 | m + 1, i => by
  intro a ha
  rcases Xp.1 ha with rfl | ha
  ·exact ⟨rfl,fun _ _ _ h=>by cases h⟩
  ·exact ZdN m (i+1) a ha
theorem map_some {α β:Type} {f:α→β} {x:Option α} {y:β} (h:x.map f=Xa y):∃ a,x=Xa a∧f a=y:=by
 cases x with
 | none => cases h
 | some a => exact ⟨a, rfl, by simpa using h⟩
theorem ZnC {T:TypeId} {m kx v:Operand} {p:LE} (hg:∀ d,(g d).bd n) (ho:o.op = .insert T m kx v∨o.op = .mapUpdate T m kx v) (hp:ZbG P g m=Xa p)
  (h:(match ZfQ E g,Jk P g kx,ZbG P g v with
   | some (d, l), .c (.int .i64 ke), Xa q => if Zde P T = Xb then STree.req (.cons (stE .mchk l (.lit 0) p .nil)) (.req (.cons (ptE .pis0 q)) (k Xc .dead [(d, .store (stE .mput l ke p (.cons (.cel q) .nil)))] [d] n)) else .stuck 328
   | _, _, _ => .stuck 329).wp P R A ρ) : ZaT tx P R A ρ g o n k := by
 have bp:=Kh hg hp
 split at h
 ·rename_i d l ke q hl hk hq
  split at h
  ·rename_i hT
   obtain ⟨r1,r2,h⟩:=h
   have bl:=Wx hg hl
   have bk:=Zy (P:=P) hg kx
   rw [hk] at bk
   obtain ⟨j,e1,e2⟩:=Zgo r1
   obtain ⟨jq,e3⟩:=ZnW r2
   refine ZaV h trivial (us1 ⟨bl,bk,bp,Kh hg hq,trivial⟩) ?_ (fun h=>by cases h)
   have:=Zhm (σ:=fun d=>(g d).den ρ) ho hT ((JO (ρ:=ρ) hp).trans e1) (Zg ρ hk) ((JO (ρ:=ρ) hq).trans e3) (Yp (ρ:=ρ) hl) e2
   simp only [Xh,XG]
   show Jt P o _ .dead [(d,.store (Zl1 (l.den ρ) (Zd (p.den ρ)) fun kvs=>Y8 kvs (ke.den ρ) (Zd (q.den ρ))))] [d]
   rw [e1,e3]
   exact this
  ·exact h.elim
 ·exact h.elim
theorem Ziv {t:STree} (hps:EnvSound P E) (hg:∀ d,(g d).bd n) (htop:∀ i,E.top≤i→g i = .dead) (hs:ZpX P E tx g o n k=Xa t) (h:t.wp P R A ρ):ZaT tx P R A ρ g o n k:=by
 unfold ZpX at hs
 split at hs
 ·cases hs
 split at hs
 ·-- load
  rename_i T a ho
  obtain ⟨p,hp,rfl⟩:=map_some hs
  exact Zpv hg ho hp h
 ·-- store
  rename_i T a x ho
  obtain ⟨p,hp,rfl⟩:=map_some hs
  exact ZnV hg htop ho hp h
 ·-- nilCheck
  rename_i x ho
  obtain ⟨p,hp,rfl⟩:=map_some hs
  obtain ⟨r1,h⟩:=h
  obtain ⟨j,off,e⟩:=Zmk r1
  refine V1 h (Kh hg hp) ?_
  show Jt P o _ (Zd (p.den ρ)) _ _
  rw [e]
  exact ZaU ho ((JO (ρ:=ρ) hp).trans e)
 ·-- fieldAddr
  rename_i T x f ho
  obtain ⟨p,hp,rfl⟩:=map_some hs
  split at h
  ·rename_i off hf
   obtain ⟨r1,h⟩:=h
   obtain ⟨j,q,e⟩:=Zmk r1
   refine V1 h ⟨Kh hg hp,trivial,trivial,trivial⟩ ?_
   show Jt P o _ (.oref (pJ (Zd (p.den ρ))) (pO (Zd (p.den ρ))+off)) _ _
   rw [e]
   exact Zd2 ho hf ((JO (ρ:=ρ) hp).trans e)
  ·exact h.elim
 ·-- indexAddr
  rename_i T x i ho
  obtain ⟨p,hp,rfl⟩:=map_some hs
  split at h
  ·rename_i e kd ix hT hi
   split at h
   ·rename_i h0
    obtain ⟨r1,r2,h⟩:=h
    have r1':(0:Int)≤ix.den ρ:=r1
    have r2':ix.den ρ < (((ptE .plen p).den ρ).length:Int):=r2
    have bi:=Zy (P:=P) hg i
    rw [hi] at bi
    obtain ⟨e',j,m,hce⟩:∃ e' j m,Zd (p.den ρ) = .osl e' j m:=by
     rcases Yo (p.den ρ) with ⟨a,b,hc⟩ | hc | ⟨a,hc⟩ | ⟨a,b,hc⟩
     ·have:((ptE .plen p).den ρ).length=0:=by
       show (match Zd (p.den ρ) with | .osl _ _ n=>Xg n [] | _=>[]).length=0
       rw [hc];rfl
      omega
     ·exact hc
     ·have:((ptE .plen p).den ρ).length=0:=by
       show (match Zd (p.den ρ) with | .osl _ _ n=>Xg n [] | _=>[]).length=0
       rw [hc];rfl
      omega
     ·have:((ptE .plen p).den ρ).length=0:=by
       show (match Zd (p.den ρ) with | .osl _ _ n=>Xg n [] | _=>[]).length=0
       rw [hc];rfl
      omega
    rw [WZ hce] at r2'
    refine V1 h ⟨Kh hg hp,bi,trivial,trivial⟩ ?_
    show Jt P o _ (.oref (pJ (Zd (p.den ρ))) ((ix.den ρ).toNat*P.cellsOf e)) _ _
    rw [hce]
    exact Zez ho hT (by omega) ((JO (ρ:=ρ) hp).trans hce) (Zg ρ hi) r1' (by omega)
   ·exact h.elim
  ·exact h.elim
 ·-- slice
  rename_i T x lo hi mx ho
  obtain ⟨p,hp,rfl⟩:=map_some hs
  split at h
  ·rename_i e k1 k2 hT hh hm
   split at h
   ·rename_i h0
    obtain ⟨r1,h⟩:=h
    obtain ⟨y,rfl,hy⟩:=map_some hh
    obtain ⟨z,rfl,hz⟩:=map_some hm
    obtain ⟨e',j,m,hce⟩:=ZfZ r1
    refine V1 h trivial ?_
    exact Zey ho hT (by omega) ((JO (ρ:=ρ) hp).trans hce) (Zg ρ hy) (Zg ρ hz)
   ·exact h.elim
  ·rename_i e k1 hx hT hh hm
   split at h
   ·rename_i h0
    obtain ⟨r1,r2,r3,h⟩:=h
    obtain ⟨y,rfl,hy⟩:=map_some hh
    obtain ⟨e',j,m,hce⟩:=ZfZ r1
    have hmx:mx=Xe:=by cases mx with | none=>rfl | some _=>cases hm
    subst hmx
    have r2':(0:Int)≤hx.den ρ:=r2
    have r3':hx.den ρ≤(((ptE .plen p).den ρ).length:Int):=r3
    rw [WZ hce] at r3'
    have bi:=Zy (P:=P) hg y
    rw [hy] at bi
    refine V1 h ⟨Kh hg hp,bi,trivial,trivial⟩ ?_
    show Jt P o _ (.osl (pE (Zd (p.den ρ))) (pJ (Zd (p.den ρ))) (hx.den ρ).toNat) _ _
    rw [hce]
    have hyv:Zn P (fun d=>(g d).den ρ) y = .val (.int k1 ((hx.den ρ).toNat:Int)):=by
     rw [U7 r2']
     exact Zg ρ hy
    exact ZhM ho hT (by omega) ((JO (ρ:=ρ) hp).trans hce) hyv (by omega)
   ·exact h.elim
  ·exact h.elim
 ·-- box
  rename_i T x ho
  split at hs
  ·simp only [Xf] at hs
   subst hs
   exact Zlt hg ho h
  ·cases hs
 ·-- alloc
  rename_i T ho
  split at hs
  ·simp only [Xf] at hs
   subst hs
   exact Zhp hg ho h
  ·cases hs
 ·-- buildSlice
  rename_i T len parts ho
  split at hs
  ·simp only [Xf] at hs
   subst hs
   exact Zsm hg ho h
  ·cases hs
 ·-- makeMap
  rename_i T r ho
  split at hs
  ·rename_i hT
   simp only [Xf] at hs
   subst hs
   split at h
   ·rename_i d l hl
    have bl:=Wx hg hl
    refine ZaV h ⟨bl,trivial,trivial,trivial⟩ (us1 ⟨bl,trivial,trivial,trivial⟩) ?_ (fun _ u hu rows rows' h1 h2=>?_)
    ·exact Zgt (σ:=fun d=>(g d).den ρ) ho (Yp (ρ:=ρ) hl)
    ·rw [XD] at hu
     subst hu
     rw [show (g (d,SV.store (ptE .newm l)).1) = .store l from Zav hl] at h1
     have h1':AV.store (l.den ρ) = .store rows:=h1
     have h2':AV.store (l.den ρ++[ZX []]) = .store rows':=h2
     cases h1'
     cases h2'
     exact List.prefix_append _ _
   ·exact h.elim
  ·cases hs
 ·-- insert
  rename_i T m kx v ho
  obtain ⟨p,hp,rfl⟩:=map_some hs
  exact ZnC hg (.inl ho) hp h
 ·rename_i T m kx v ho
  obtain ⟨p,hp,rfl⟩:=map_some hs
  exact ZnC hg (.inr ho) hp h
 ·-- lookup
  rename_i T m kx ok ho
  obtain ⟨p,hp,rfl⟩:=map_some hs
  split at h
  ·rename_i d l ke hl hk
   split at h
   ·rename_i hT
    obtain ⟨r1,h⟩:=h
    have bl:=Wx hg hl
    have bk:=Zy (P:=P) hg kx
    rw [hk] at bk
    obtain ⟨j,e1,e2⟩:=Zgo r1
    refine V1 h ⟨bl,bk,Kh hg hp,trivial⟩ ?_
    show Jt P o _ (Zd (Znq (l.den ρ) (Zd (p.den ρ)) (ke.den ρ))) _ _
    rw [e1]
    exact Zhk (σ:=fun d=>(g d).den ρ) ho hT ((JO (ρ:=ρ) hp).trans e1) (Zg ρ hk) (Yp (ρ:=ρ) hl) e2
   ·exact h.elim
  ·exact h.elim
 ·-- binOp
  rename_i op T x y T' ho
  split at hs
  ·rename_i p e hp hT hy
   have hyk:y = .const (.pointer Xe):=by
    unfold Zq8 at hy
    split at hy
    ·rfl
    ·cases hy
   subst hyk
   split at hs
   ·simp only [Xf] at hs
    subst hs
    obtain ⟨r1,h⟩:=h
    obtain ⟨j,off,e1,e2⟩:=ZmS r1
    refine V1 h ⟨⟨Kh hg hp,trivial,trivial,trivial⟩,trivial⟩ ?_
    have:=Zch (σ:=fun d=>(g d).den ρ) ho (.inl rfl) hT e2 ((JO (ρ:=ρ) hp).trans e1)
    have hv:(SV.c (.bool (.cmp .eql (.len (ptE .pnn p)) (.lit 0)))).den ρ = .val (.bool (decide (j=0))):=by
     show AV.val (.bool (cop .eql (((ptE .pnn p).den ρ).length:Int) 0))=_
     rw [Znk e1]
     cases j<;>rfl
    rw [hv]
    exact this
   ·simp only [Xf] at hs
    subst hs
    obtain ⟨r1,h⟩:=h
    obtain ⟨j,off,e1,e2⟩:=ZmS r1
    refine V1 h ⟨⟨Kh hg hp,trivial,trivial,trivial⟩,trivial⟩ ?_
    have:=Zch (σ:=fun d=>(g d).den ρ) ho (.inr rfl) hT e2 ((JO (ρ:=ρ) hp).trans e1)
    have hv:(SV.c (.bool (.cmp .neq (.len (ptE .pnn p)) (.lit 0)))).den ρ = .val (.bool (decide (j≠0))):=by
     show AV.val (.bool (cop .neq (((ptE .pnn p).den ρ).length:Int) 0))=_
     rw [Znk e1]
     cases j<;>rfl
    rw [hv]
    exact this
   ·cases hs
  ·cases hs
 ·-- makeFunc
  rename_i fn first captured ho
  split at hs
  ·rename_i f c cs hf hcs
   simp only [Xf] at hs
   subst hs
   obtain ⟨h,q1⟩:=Zb9 _ h
   obtain ⟨h,q2⟩:=Zb9 _ h
   obtain ⟨k1,k2⟩:=Zkr _ _ hcs
   have bc:∀ x∈c::cs,x.bd n:=fun x hx=>by
    obtain ⟨i,hi⟩:=XP.1 hx
    have hlt:i < captured.toList.length:=by rw [← k1];exact (Xk.1 hi).1
    obtain ⟨p,rfl,hp⟩:=k2 i _ x (Xs hlt) hi
    exact Kh hg hp
   refine V1 h ⟨trivial,trivial,trivial,KC _ bc⟩ ?_
   have:=Zia (σ:=fun d=>(g d).den ρ) (js:=((c::cs).map (SC.den ρ)).map pJ) ho hf (by rw [Xq,Xq,k1]) (fun i x j hx hj=>by
    rw [Xl,Xl] at hj
    cases hci:(c::cs)[i]? with
    | none => rw [hci] at hj; cases hj
    | some c0 =>
     rw [hci] at hj
     simp only [Xw,Xf] at hj
     obtain ⟨p,rfl,hp⟩:=k2 i x c0 hx hci
     obtain ⟨p1,hp1,w1⟩:=q1 _ (Xm hci)
     obtain ⟨p2,hp2,w2⟩:=q2 _ (Xm hci)
     cases hp1
     cases hp2
     obtain ⟨j1,e1⟩:=ZnW w1
     obtain ⟨j2,off2,e2⟩:=Zmk w2
     have hcd:(SC.cel p).den ρ = .oref j1 0:=e1
     rw [hcd] at hj
     have hj:j1=j:=hj
     subst hj
     rw [e1] at e2
     cases e2
     exact ⟨UC _,(JO (ρ:=ρ) hp).trans e1⟩)
   show Jt P o _ (.fnc f (((ZbX (c::cs)).den ρ).map pJ)) _ _
   rw [YB]
   exact this
  ·cases hs
 ·-- call
  rename_i c ho
  split at hs
  ·rename_i hc
   split at hs
   ·rename_i x T hargs hts
    obtain ⟨p,hp,rfl⟩:=map_some hs
    split at h
    ·rename_i _ e hT
     obtain ⟨r1,h⟩:=h
     obtain ⟨e',j,m,hce⟩:=ZfZ r1
     refine V1 h ⟨Kh hg hp,trivial,trivial,trivial⟩ ?_
     show Jt P o _ (.val (.int .i64 (((ptE .plen p).den ρ).length:Int))) _ _
     rw [WZ hce]
     exact ZhY ho hc hargs hts hT ((JO (ρ:=ρ) hp).trans hce)
    ·rename_i kt vt d l hT hl
     obtain ⟨r1,h⟩:=h
     obtain ⟨j,e1,e2⟩:=Zgo r1
     refine V1 h ⟨Wx hg hl,trivial,Kh hg hp,trivial⟩ ?_
     show Jt P o _ (.val (.int .i64 ((ZrO (l.den ρ) (Zd (p.den ρ))).length:Int))) _ _
     rw [e1]
     exact Zmv (σ:=fun d=>(g d).den ρ) ho hc hargs hts hT ((JO (ρ:=ρ) hp).trans e1) (Yp (ρ:=ρ) hl) e2
    ·exact h.elim
   ·cases hs
  ·rename_i hc
   split at hs
   ·rename_i x y T T' hargs hts
    split at hs
    ·rename_i p hp _
     simp only [Xf] at hs
     subst hs
     split at h
     ·rename_i hTT
      subst hTT
      exact ZrF hg ho hc hargs hts hp h
     ·exact h.elim
    ·rename_i q _ hq
     simp only [Xf] at hs
     subst hs
     split at h
     ·rename_i hTT
      subst hTT
      exact Zn5 hg htop ho hc hargs hts hq h
     ·exact h.elim
    ·simp only [Xf] at hs
     subst hs
     exact h.elim
    ·cases hs
   ·cases hs
  ·rename_i hc
   split at hs
   ·rename_i m kx T ts hargs hts
    obtain ⟨p,hp,rfl⟩:=map_some hs
    split at h
    ·rename_i d l ke hl hk
     split at h
     ·rename_i hT
      obtain ⟨r1,h⟩:=h
      have bl:=Wx hg hl
      have bk:=Zy (P:=P) hg kx
      rw [hk] at bk
      obtain ⟨j,e1,e2⟩:=Zgo r1
      refine ZaV h trivial (us1 ⟨bl,bk,Kh hg hp,trivial⟩) ?_ (fun h=>by cases h)
      have:=Zg4 (σ:=fun d=>(g d).den ρ) (T':=0) ho hc hargs hts hT ((JO (ρ:=ρ) hp).trans e1) (Zg ρ hk) (Yp (ρ:=ρ) hl) e2
      simp only [Xh,XG]
      show Jt P o _ .dead [(d,.store (Zl1 (l.den ρ) (Zd (p.den ρ)) fun kvs=>Za9 kvs (ke.den ρ)))] [d]
      rw [e1]
      exact this
     ·exact h.elim
    ·exact h.elim
   ·cases hs
  ·rename_i f hc
   split at hs
   ·simp only [Xf] at hs
    subst hs
    refine ZjS htop ho (.inl ⟨hc,rfl⟩) (fun aZ has=>?_) h
    obtain ⟨k1,k2,_⟩:=Vb ρ _ _ _ has
    exact ⟨by rw [XJ];exact k1,k2⟩
   ·cases hs
  ·rename_i t0 hc
   split at hs
   ·rename_i f m p _ hgt
    simp only [Xf] at hs
    subst hs
    obtain ⟨r1,h⟩:=h
    obtain ⟨js,e1,e2⟩:=ZsK r1
    refine ZjS (cps:=js.map KM.obj) htop ho (.inr ⟨t0,hc,.inr ⟨js,by rw [hgt];exact e1,fun e=>(by rw [e] at e2;cases e2),rfl⟩⟩) (fun aZ has=>?_) h
    obtain ⟨as1,h1,rfl⟩:=map_some has
    obtain ⟨k1,k2,_⟩:=Vb ρ _ _ _ h1
    refine ⟨k1.append (by have:=ZeM (P:=P) (g:=g) e1 (m+1) 0 (by omega);rw [UR] at this;exact this),fun a ha=>?_⟩
    rcases Xv.1 ha with ha | ha
    ·exact k2 a ha
    ·exact ZdN _ _ a ha
   ·cases hs
  ·cases hs
 ·cases hs
end
theorem Tr.get_set:∀ (k:Nat) (t:Tr) (d i:Nat) (x:SV),d < 2^k→i < 2^k→(Tr.set k t d x).get i=if i=d then x else t.get i
 | 0, t, d, i, x, hd, hi => by
  have h1:d=0:=by simpa using hd
  have h2:i=0:=by simpa using hi
  subst h1
  subst h2
  rfl
 | k + 1, .node l r, d, i, x, hd, hi => by
  have hd2:d / 2 < 2^k:=by rw [Nat.pow_succ] at hd;omega
  have hi2:i / 2 < 2^k:=by rw [Nat.pow_succ] at hi;omega
  have ihl:=Tr.get_set k l (d / 2) (i / 2) x hd2 hi2
  have ihr:=Tr.get_set k r (d / 2) (i / 2) x hd2 hi2
  rcases Tt d with h | h<;>rcases Tt i with h' | h'
  ·simp only [Tr.set,h,Tr.get,h',ihl]
   by_cases he:i=d
   ·simp [he]
   ·rw [if_neg he,if_neg (by omega)]
  ·simp only [Tr.set,h,Tr.get,h']
   rw [if_neg (by omega)]
  ·simp only [Tr.set,h,Tr.get,h']
   rw [if_neg (by omega)]
  ·simp only [Tr.set,h,Tr.get,h',ihr]
   by_cases he:i=d
   ·simp [he]
   ·rw [if_neg he,if_neg (by omega)]
 | k + 1, .leaf y, d, i, x, hd, hi => by
  have hd2:d / 2 < 2^k:=by rw [Nat.pow_succ] at hd;omega
  have hi2:i / 2 < 2^k:=by rw [Nat.pow_succ] at hi;omega
  have ih:=Tr.get_set k (.leaf y) (d / 2) (i / 2) x hd2 hi2
  rcases Tt d with h | h<;>rcases Tt i with h' | h'
  ·simp only [Tr.set,h,Tr.get,h',ih]
   by_cases he:i=d
   ·simp [he]
   ·rw [if_neg he,if_neg (by omega)]
  ·simp only [Tr.set,h,Tr.get,h']
   rw [if_neg (by omega)]
  ·simp only [Tr.set,h,Tr.get,h']
   rw [if_neg (by omega)]
  ·simp only [Tr.set,h,Tr.get,h',ih]
   by_cases he:i=d
   ·simp [he]
   ·rw [if_neg he,if_neg (by omega)]
def ZY (E:Env) (s:Tr) (ρ:Nat→V):Nat→AV:=fun d=>(gE E s d).den ρ
def V6 (E:Env) (s:Tr) (n:Nat):Prop:=∀ d,(gE E s d).bd n
section
variable {P:Program} {E:Env} {R:AV→List AV→Prop} {A:Nat→List V→Prop}
theorem JV {d:Nat} (h:d < E.nt):d < E.top:=XR h (XU _ _)
theorem ZqI (hnt:E.top≤1024) {d:Nat} (hd:d < E.top) (s:Tr) (x:SV) (i:Nat):gE E (s.set depth d x) i=if i=d then x else gE E s i:=by
 unfold gE
 by_cases hi:i < E.top
 ·rw [if_pos hi,if_pos hi]
  exact Tr.get_set 10 s d i x (by omega) (by omega)
 ·rw [if_neg hi,if_neg hi,if_neg (by omega)]
theorem JW (hnt:E.top≤1024) {d:Nat} (hd:d < E.top) (s:Tr) (x:SV) (ρ:Nat→V):ZY E (s.set depth d x) ρ=upd (ZY E s ρ) d (x.den ρ):=by
 funext i
 simp only [ZY,ZqI hnt hd,upd]
 split<;>rfl
theorem JG (hnt:E.top≤1024) {d n:Nat} (hd:d < E.top) {s:Tr} {x:SV} (hs:V6 E s n) (hx:x.bd n):V6 E (s.set depth d x) n:=by
 intro i
 rw [ZqI hnt hd]
 split
 ·exact hx
 ·exact hs i
def Zb5 (E:Env) (us:Ups):Prop:=us.all (fun u=>decide (u.1 < E.top))=Xb
theorem KL (hnt:E.top≤1024) (ρ:Nat→V):∀ (us:Ups) (s:Tr),Zb5 E us→ZY E (JQ us s) ρ=JE (ZY E s ρ) (us.map fun u=>(u.1,u.2.den ρ))
 | [], _, _ => rfl
 | (d, x) :: us, s, h => by
  simp only [Zb5,Uu,Xr,decide_eq_true_eq] at h
  simp only [JQ,Xh,JE]
  rw [KL hnt ρ us _ h.2,JW hnt h.1]
theorem YQ (hnt:E.top≤1024) {n:Nat} : ∀ (us:Ups) (s:Tr),Zb5 E us→V6 E s n→(∀ u∈us,u.2.bd n)→V6 E (JQ us s) n
 | [], _, _, hs, _ => hs
 | (d, x) :: us, s, h, hs, hu => by
  simp only [Zb5,Uu,Xr,decide_eq_true_eq] at h
  exact YQ hnt us _ h.2 (JG hnt h.1 hs (hu (d,x) (by simp))) fun u h'=>hu u (by simp [h'])
theorem Zh5 {s:Tr} {n n':Nat} (h:V6 E s n) (hn:n≤n'):V6 E s n':=fun d=>SV.bd_mono hn _ (h d)
theorem Zfg {s:Tr} {n:Nat} {ρ ρ':Nat→V} (h:V6 E s n) (hρ:∀ m,m < n→ρ' m=ρ m):ZY E s ρ'=ZY E s ρ:=by
 funext d
 exact SV.den_congr hρ _ (h d)
theorem Ze3 {x:SV} (ρ:Nat→V) (h:∀ cs,x≠.box cs):∀ cs,x.den ρ≠.box cs:=by
 intro cs he
 cases x with
 | box ds => exact h ds rfl
 | c y => cases y <;> first | cases he | exact (Jb he rfl).elim
 | _ => cases he
theorem ZgK {x:SV} (ρ:Nat→V) (h:∀ cs,x≠.gbox cs) (h':x.isSto=Xc):(x.den ρ).isG=Xc:=by
 cases x with
 | gbox cs => exact (h cs rfl).elim
 | store l => cases h'
 | c y => exact Kv ρ y
 | _ => rfl
theorem Kd (x:SV) (ρ:Nat→V):(x.den ρ).isSto=x.isSto:=by
 cases x with
 | c y => exact Zda (Kv ρ y)
 | _ => rfl
theorem ZlM {a b:AV} (ga:a.isG=Xc) (gb:b.isG=Xc) (ha:VR a) (hb:(∀ cs,b≠.box cs)∨a = .dead):ZaP a b=Xb:=by
 unfold ZaP
 split
 ·cases ga
 ·cases gb
 ·cases ga
 ·cases gb
 ·exact (ha.1 _ rfl).elim
 ·exact (ha.2.1 _ _ rfl).elim
 ·rfl
 ·rename_i h1 h2
  rcases hb with hb | hb
  ·exact (hb _ rfl).elim
  ·exact (h2 hb).elim
 ·rfl
theorem ZmR {x:SV} (ρ:Nat→V) (h:∀ cs,x≠.box cs) (h':∀ e l,x≠.own Xb e l) (h3:∀ cs,x≠.gbox cs) (h4:x.isSto=Xc):VR (x.den ρ):=by
 refine ⟨Ze3 ρ h,fun e xs he=>?_,fun cs he=>by have:=ZgK ρ h3 h4;rw [he] at this;cases this⟩
 cases x with
 | own b e' l =>
  cases b with
  | true => exact h' _ _ rfl
  | false => cases he
 | c y => cases y <;> first | cases he | exact (Jb he rfl).elim
 | _ => cases he
theorem ZbW {a b:SV} (h:ZbF a b=Xb):a.isSto=Xc∧b.isSto=Xc:=by
 cases a<;>cases b<;>first | exact ⟨rfl,rfl⟩ | cases h
theorem JT {a b:SV} (ρ:Nat→V) (h:ZbF a b=Xb):ZaP (a.den ρ) (b.den ρ)=Xb:=by
 have h1:∀ cs,a≠.box cs:=by
  rintro cs rfl
  cases b<;>first | cases h | exact (Jb h rfl).elim
 have h2:∀ e l,a≠.own Xb e l:=by
  rintro e l rfl
  cases b<;>first | cases h | exact (Jb h rfl).elim
 have h3:∀ cs,a≠.gbox cs:=by
  rintro cs rfl
  cases b<;>first | cases h | exact (Jb h rfl).elim
 have h4:∀ cs,b≠.gbox cs:=by
  rintro cs rfl
  cases a with
  | own x e l => cases x <;> first | cases h | exact (Jb h rfl).elim
  | _ => cases h
 obtain ⟨h5,h6⟩:=ZbW h
 refine ZlM (ZgK ρ h3 h5) (ZgK ρ h4 h6) (ZmR ρ h1 h2 h3 h5) ?_
 by_cases hd:a = .dead
 ·subst hd;exact .inr rfl
 ·refine .inl (Ze3 ρ ?_)
  rintro cs rfl
  cases a with
  | dead => exact hd rfl
  | own x e l => cases x <;> first | cases h | exact (Jb h rfl).elim
  | _ => cases h
theorem ZlA {c:Ctx} {σ:Nat→AV} {tm:Array Value} {w:World} {lim:Lm} {X:Nat→Nat→Option Nat} (h:Sim c σ tm w lim X) {ops:Array Oper} {j gd:Nat} {b:Bool}
  (hd:(ops[j]?).bind (·.dst)=Xa gd) (hb:σ gd = .val (.bool b)):yielded ops tm j=Xa b:=by
 have hlt:gd < tm.size:=by
  rcases XF gd c.nt with h1 | h1
  ·rw [h.size];exact h1
  ·have:=h.out gd h1;rw [hb] at this;rcases this with h2 | h2<;>cases h2
 have hr:=h.rel gd
 rw [hb] at hr
 have hv:tm.getD gd undef = .bool b:=KY hr
 have h2:tm[gd]? = Xa (.bool b):=by
  simp only [Wv,hlt,dite_true] at hv
  rw [We hlt]
  exact congrArg Xa hv
 unfold yielded
 simp only [hd,Xi,h2]
theorem Zh4 {c:Ctx} {σ:Nat→AV} {tm:Array Value} {w:World} {lim:Lm} {X:Nat→Nat→Option Nat} (h:Sim c σ tm w lim X) {ops:Array Oper} {j gd:Nat}
  (hd:(ops[j]?).bind (·.dst)=Xa gd) (hb:σ gd = .tuple []):yielded ops tm j=Xe:=by
 have hr:=h.rel gd
 rw [hb] at hr
 obtain ⟨us,h1,h2,_⟩:=hr
 have:us = []:=XZ h2
 subst this
 unfold yielded
 simp only [hd,Xi]
 by_cases hlt:gd < tm.size
 ·simp only [Wv,hlt,dite_true] at h1
  have h3:tm[gd]? = Xa (.tuple #[]):=by
   rw [We hlt]
   exact congrArg Xa h1
  simp only [h3]
 ·simp only [Array.getElem?_eq_none (Nat.le_of_not_lt hlt)]
theorem Sim.putUndef {c:Ctx} {σ:Nat→AV} {tm:Array Value} {w:World} {lim:Lm} {X:Nat→Nat→Option Nat} (h:Sim c σ tm w lim X) {d:Nat} (hd:d < c.nt) (hb:VR (σ d)) :
  ∃ X',Sim c (upd σ d (.tuple [])) (tm.setIfInBounds d undef) w lim X':=
 ⟨_,h.putRow YJ (Jf.refl w lim (fun _=>False)) (fun _ hs=>hs.elim) hd (by simp) (fun i hi=>ZZ tm d i undef hi) (.inl hb.1) (fun i q hi hr=>(h.noRefs hb.none i q hi hr).elim)
  ⟨[],by rw [JY tm d undef (by rw [h.size];exact hd)];rfl,rfl,by simp⟩ (fun k b hk=>by simp [YJ] at hk) (fun k k' b hk=>by simp [YJ] at hk)⟩
def ZiE (ops:Array Oper) (o:Oper) (σ:Nat→AV) (gs:List Nat) (v:Bool):Prop:=
 (o.guard=Xe∧v=Xb)∨(∃ j want gd b,o.guard=Xa (j,want)∧(ops[j]?).bind (·.dst)=Xa gd∧gd∈gs∧σ gd = .val (.bool b)∧(v=Xb↔want=b))∨
 ∃ j want gd,o.guard=Xa (j,want)∧(ops[j]?).bind (·.dst)=Xa gd∧gd∈gs∧σ gd = .tuple []∧v=Xc
theorem Zbh {ops:Array Oper} {o:Oper} {σ:Nat→AV} {gs:List Nat} {v:Bool} (hg:ZiE ops o σ gs v) {c:Ctx} {σ':Nat→AV} {tm:Array Value} {w:World} {lim:Lm} {X:Nat→Nat→Option Nat}
  (h:Sim c σ' tm w lim X) (hag:∀ d∈gs,σ' d=σ d):Region.wanted o (yielded ops tm)=v:=by
 rcases hg with ⟨h1,h2⟩ | ⟨j,want,gd,b,h1,h2,h3,h4,h5⟩ | ⟨j,want,gd,h1,h2,h3,h4,h5⟩
 ·unfold Region.wanted;rw [h1,h2]
 ·have hy:=ZlA h h2 ((hag gd h3).trans h4)
  unfold Region.wanted
  rw [h1]
  simp only [hy]
  cases v<;>cases want<;>cases b<;>simp_all
 ·have hy:=Zh4 h h2 ((hag gd h3).trans h4)
  unfold Region.wanted
  rw [h1,h5]
  simp only [hy]
  rfl
theorem Zlb {x:SV} (ρ:Nat→V) (h:Zq0 x=Xb):Ze7 (x.den ρ):=by
 unfold Zq0 at h
 split at h
 ·rename_i cs;exact ⟨_,rfl⟩
 ·cases h
theorem ZdB {T:Odr} {i:Nat} {x:SV} (ρ:Nat→V) (h:Zdc T i x=Xb):∀ d k,T.nr d i=Xb→¬ JB (x.den ρ) d k:=by
 intro d k hd hr
 cases x with
 | mref d' k' =>
  rcases hr with hr | ⟨_,hr⟩ <;> cases hr
  simp [Zdc,hd] at h
 | eref d' k' i s o =>
  rcases hr with hr | ⟨_,hr⟩ <;> cases hr
  simp [Zdc,hd] at h
 | c y => rcases hr with hr | ⟨_, hr⟩ <;> cases y <;> first | cases hr | exact (Jb hr rfl).elim
 | _ => rcases hr with hr | ⟨_, hr⟩ <;> cases hr
def WY (T:Odr) (P:Program) (E:Env) (R:AV→List AV→Prop) (A:Nat→List V→Prop) (B:Nat→Bool) (ops:Array Oper) (i:Nat) (s:Tr) (ρ:Nat→V) (cont:Tr→Nat→Log→STree):Prop:=
 ∃ (st:Stp) (ρ':Nat→V) (n':Nat) (s':Tr),V6 E s' n'∧(cont s' n' ⟨i,st.F,st.D⟩).wp P R A ρ'∧ZsO T P E.nt ops (fun d=>B d=Xb) i (ZY E s ρ) st∧ZY E s' ρ'=JE (ZY E s ρ) st.ups
variable {ops:Array Oper} {o:Oper} {i:Nat} {s:Tr} {n:Nat} {ρ:Nat→V} {cont:Tr→Nat→Log→STree} {gs:List Nat} {tx:Odr} {tk:Bool} {B:Nat→Bool}
theorem ZhW {P:Program} {R:AV→List AV→Prop} {A:Nat→List V→Prop} {ρ:Nat→V} : ∀ (q:List (IE×IE)) (t:STree),(Zn8 q t).wp P R A ρ→(∀ p∈q,p.1.den ρ=p.2.den ρ)∧t.wp P R A ρ
 | [], t, h => ⟨by simp, h⟩
 | (a, b) :: q, t, h => by
  obtain ⟨h1,h2,h3⟩:=h
  obtain ⟨h4,h5⟩:=ZhW q t h3
  refine ⟨fun p hp=>?_,h5⟩
  rcases Xp.1 hp with rfl | hp
  ·exact Int.le_antisymm h1 h2
  ·exact h4 p hp
theorem ZcS (ρ:Nat→V) {kp:Nat→Bool} : ∀ {cs' cs:List BC} {j:Nat} {r:List BC} {q:List (IE×IE)},Zct kp j cs' cs=Xa (r,q)→(∀ p∈q,p.1.den ρ=p.2.den ρ)→
  r.map (BC.den ρ)=cs'.map (BC.den ρ)∧∀ i,kp (j+i)=Xb→((r.map (BC.den ρ))[i]?).map Yg=((cs.map (BC.den ρ))[i]?).map Yg
 | [], [], j, r, q, h, _ => by
  simp only [Zct,Xf,Xt] at h
  obtain ⟨rfl,rfl⟩:=h
  exact ⟨rfl,fun _ _=>rfl⟩
 | [], _ :: _, _, _, _, h, _ => by simp [Zct] at h
 | _ :: _, [], _, _, _, h, _ => by simp [Zct] at h
 | c' :: cs', c :: cs, j, r, q, h, hq => by
  simp only [Zct] at h
  split at h
  ·rename_i r1 q1 h1
   split at h
   ·rename_i hk
    split at h
    ·rename_i k' e' k e
     split at h
     ·rename_i hkk
      subst hkk
      simp only [Xf,Xt] at h
      obtain ⟨rfl,rfl⟩:=h
      obtain ⟨g1,g2⟩:=ZcS ρ h1 fun p hp=>hq p (by simp [hp])
      have he:e'.den ρ=e.den ρ:=hq (e',e) (by simp)
      refine ⟨?_,fun i hi=>?_⟩
      ·simp only [Xh,g1,BC.den,SC.den,he]
      ·cases i with
       | zero => rfl
       | succ i => simpa using g2 i (by rw [show j + 1 + i = j + (i + 1) by omega]; exact hi)
     ·cases h
    ·rename_i t' l' t l
     split at h
     ·rename_i hkk
      subst hkk
      simp only [Xf,Xt] at h
      obtain ⟨rfl,rfl⟩:=h
      obtain ⟨g1,g2⟩:=ZcS ρ h1 hq
      refine ⟨by simp only [Xh,g1],fun i hi=>?_⟩
      cases i with
      | zero => rfl
      | succ i => simpa using g2 i (by rw [show j + 1 + i = j + (i + 1) by omega]; exact hi)
     ·cases h
    ·cases h
   ·rename_i hk
    simp only [Xf,Xt] at h
    obtain ⟨rfl,rfl⟩:=h
    obtain ⟨g1,g2⟩:=ZcS ρ h1 hq
    refine ⟨by simp only [Xh,g1],fun i hi=>?_⟩
    cases i with
    | zero => rw [Uf, hk] at hi; cases hi
    | succ i => simpa using g2 i (by rw [show j + 1 + i = j + (i + 1) by omega]; exact hi)
  ·cases h
theorem Zh0 {kp:Nat→Bool} : ∀ {cs' cs:List BC} {j:Nat} {r:List BC} {q:List (IE×IE)},Zct kp j cs' cs=Xa (r,q)→∀ b∈r,b∈cs'∨b∈cs
 | [], [], j, r, q, h => by
  simp only [Zct,Xf,Xt] at h
  obtain ⟨rfl,rfl⟩:=h
  simp
 | [], _ :: _, _, _, _, h => by simp [Zct] at h
 | _ :: _, [], _, _, _, h => by simp [Zct] at h
 | c' :: cs', c :: cs, j, r, q, h => by
  simp only [Zct] at h
  split at h
  ·rename_i r1 q1 h1
   have ih:=Zh0 h1
   have key:∀ b∈r1,b∈c'::cs'∨b∈c::cs:=fun b hb=>by
    rcases ih b hb with h2 | h2
    ·exact .inl (by simp [h2])
    ·exact .inr (by simp [h2])
   split at h
   ·split at h
    ·split at h
     ·simp only [Xf,Xt] at h
      obtain ⟨rfl,rfl⟩:=h
      intro b hb
      rcases Xp.1 hb with rfl | hb
      ·exact .inr (by simp)
      ·exact key b hb
     ·cases h
    ·split at h
     ·simp only [Xf,Xt] at h
      obtain ⟨rfl,rfl⟩:=h
      intro b hb
      rcases Xp.1 hb with rfl | hb
      ·exact .inl (by simp)
      ·exact key b hb
     ·cases h
    ·cases h
   ·simp only [Xf,Xt] at h
    obtain ⟨rfl,rfl⟩:=h
    intro b hb
    rcases Xp.1 hb with rfl | hb
    ·exact .inl (by simp)
    ·exact key b hb
  ·cases h
theorem ZvH {T:Odr} {d j:Nat} (h:T.kp d j=Xb):T.kpAt d=Xb:=by
 cases T with
 | text => cases h
 | any N M K =>
  simp only [Odr.kp,Odr.kpAt,Tq,Ub] at h ⊢
  exact ⟨_,h,by simp⟩
theorem Zni (ρ:Nat→V) {T:Odr} {g:Nat→SV} {u u':Nat×SV} {q:List (IE×IE)} (h:Zm7 T g u=Xa (u',q)) (hq:∀ p∈q,p.1.den ρ=p.2.den ρ) :
  (u'.1,u'.2.den ρ)=(u.1,u.2.den ρ)∧(∀ j,T.kp u'.1 j=Xb→Js (u'.2.den ρ) j=Js ((g u'.1).den ρ) j)∧∀ n,u.2.bd n→(∀ i,(g i).bd n)→u'.2.bd n:=by
 unfold Zm7 at h
 split at h
 ·split at h
  ·rename_i cs' cs hu hgu
   split at h
   ·rename_i r q1 h1
    simp only [Xf,Xt] at h
    obtain ⟨rfl,rfl⟩:=h
    obtain ⟨g1,g2⟩:=ZcS ρ h1 hq
    refine ⟨?_,fun j hj=>?_,fun n hb hg=>?_⟩
    ·rw [hu];simp only [SV.den,g1]
    ·rw [hgu]
     exact g2 j (by rw [XH];exact hj)
    ·rw [hu] at hb
     have hb2:=hg u.1
     rw [hgu] at hb2
     intro b hbr
     rcases Zh0 h1 b hbr with h2 | h2
     ·exact hb b h2
     ·exact hb2 b h2
   ·cases h
  ·cases h
 ·rename_i hk
  simp only [Xf,Xt] at h
  obtain ⟨rfl,rfl⟩:=h
  exact ⟨rfl,fun j hj=>(by rw [ZvH hj] at hk;cases hk),fun n hb _=>hb⟩
theorem Ze8 (ρ:Nat→V) {T:Odr} {g:Nat→SV} : ∀ {us us':Ups} {q:List (IE×IE)},ZbS T g us=Xa (us',q)→(∀ p∈q,p.1.den ρ=p.2.den ρ)→
  (us'.map fun u=>(u.1,u.2.den ρ))=(us.map fun u=>(u.1,u.2.den ρ))∧(∀ u∈us',∀ j,T.kp u.1 j=Xb→Js (u.2.den ρ) j=Js ((g u.1).den ρ) j)∧∀ n,(∀ u∈us,u.2.bd n)→(∀ i,(g i).bd n)→∀ u∈us',u.2.bd n
 | [], us', q, h, _ => by
  simp only [ZbS,Xf,Xt] at h
  obtain ⟨rfl,rfl⟩:=h
  exact ⟨rfl,by simp,by simp⟩
 | u :: us, us', q, h, hq => by
  simp only [ZbS] at h
  split at h
  ·rename_i u1 q1 us1 q2 h1 h2
   simp only [Xf,Xt] at h
   obtain ⟨rfl,rfl⟩:=h
   obtain ⟨a1,a2,a3⟩:=Zni ρ h1 fun p hp=>hq p (by simp [hp])
   obtain ⟨b1,b2,b3⟩:=Ze8 ρ h2 fun p hp=>hq p (by simp [hp])
   refine ⟨by simp only [Xh,a1,b1],fun v hv=>?_,fun n hb hg v hv=>?_⟩
   ·rcases Xp.1 hv with rfl | hv
    ·exact a2
    ·exact b2 v hv
   ·rcases Xp.1 hv with rfl | hv
    ·exact a3 n (hb u (by simp)) hg
    ·exact b3 n (fun w hw=>hb w (by simp [hw])) hg v hv
  ·cases h
theorem ZaK (hps:EnvSound P E) (hnt:E.top≤1024) (hKB:∀ d j,tx.kp d j=Xb→B d=Xb) (hB:∀ d,B d=Xb→Ze7 (ZY E s ρ d)) (hi:ops[i]? = Xa o) (hs:V6 E s n) (hg:ZiE ops o (ZY E s ρ) gs Xb) (h:(ZiN P E tx tk B o i s gs n cont).wp P R A ρ) :
  WY tx P E R A B ops i s ρ cont:=by
 have htop0:∀ i,E.top≤i→gE E s i = .dead:=fun i hi=>by unfold gE;rw [if_neg (by omega)]
 obtain ⟨ρ',n',gr,x,us0,fp,h1,h2,h3,h40,h50,h60,hgr0⟩:ZaT tx P R A ρ (gE E s) o n (ZmX E tx B o i s gs cont):=by
  unfold ZiN at h
  cases hso:ZpX P E tx (gE E s) o n (ZmX E tx B o i s gs cont) with
  | some t => rw [hso] at h; exact Ziv hps hs htop0 hso h
  | none =>
   rw [hso] at h
   obtain ⟨ρ',n',x,us0,fp,h1,h2,h3,h40,h50,h60⟩:=ZlI hps hs htop0 h
   exact ⟨ρ',n',Xc,x,us0,fp,h1,h2,h3,h40,h50,h60,fun h=>by cases h⟩
 have hσ:(fun d=>(gE E s d).den ρ)=ZY E s ρ:=rfl
 rw [hσ] at h60
 have hs':V6 E s n':=Zh5 hs h1
 have hc:=Zfg hs h2
 unfold ZmX at h50
 cases hst:ZbS tx (gE E s) us0 with
 | none => rw [hst] at h50; exact h50.elim
 | some rq =>
 obtain ⟨us,qs⟩:=rq
 rw [hst] at h50
 obtain ⟨hq,h5⟩:=ZhW qs _ h50
 obtain ⟨hus,hkp0,hbd⟩:=Ze8 ρ' hst hq
 have h4:=hbd n' h40 hs'
 have h6:=h60
 rw [← hus] at h6
 have hgr:gr=Xb→∀ u∈(us.map fun u=>(u.1,u.2.den ρ')),∀ rows rows',ZY E s ρ u.1 = .store rows→u.2 = .store rows'→rows <+: rows':=by
  intro hg u hu rows rows' k1 k2
  rw [hus] at hu
  obtain ⟨v,hv,rfl⟩:=Xj.1 hu
  exact hgr0 hg v hv rows rows' k1 k2
 have hkp:∀ u∈(us.map fun u=>(u.1,u.2.den ρ')),∀ j,tx.kp u.1 j=Xb→Js u.2 j=Js (ZY E s ρ u.1) j:=by
  intro u hu j hj
  obtain ⟨v,hv,rfl⟩:=Xj.1 hu
  rw [← hc]
  exact hkp0 v hv j hj
 clear h60 h50 h40 hus hkp0 hgr0
 split at h5
 case isFalse=>exact h5.elim
 rename_i hall0
 obtain ⟨hall,hnx⟩:=hall0
 rw [XE] at hall
 have hlow:Zb5 E us:=by
  unfold Zb5
  rw [XE]
  intro u hu
  have:=hall u hu
  rw [Xr,Xr,Xr] at this
  exact this.1.1.1
 have hups:∀ u∈(us.map fun u=>(u.1,u.2.den ρ')),B u.1=Xb→Ze7 u.2:=by
  intro u hu hb
  obtain ⟨v,hv,rfl⟩:=Xj.1 hu
  have:=hall v hv
  simp only [Xr,U5,UJ] at this
  rcases this.1.1.2 with h0 | h0
  ·have hb':B v.1=Xb:=hb
   rw [hb'] at h0;cases h0
  ·exact Zlb ρ' h0
 have hnr:∀ u∈(us.map fun u=>(u.1,u.2.den ρ')),∀ d k,tx.nr d u.1=Xb→¬ JB u.2 d k:=by
  intro u hu
  obtain ⟨v,hv,rfl⟩:=Xj.1 hu
  have:=hall v hv
  rw [Xr,Xr] at this
  exact ZdB ρ' this.1.2
 have hsts:∀ u∈us,(gE E s u.1).isSto=u.2.isSto:=by
  intro u hu
  have:=hall u hu
  rw [Xr] at this
  exact eq_of_beq this.2
 have hstp:ZvY (ZY E s ρ) ⟨[],us.map fun u=>(u.1,u.2.den ρ'),vOf gr (gE E s) us⟩:=by
  intro u hu
  obtain ⟨v,hv,rfl⟩:=Xj.1 hu
  refine ⟨by rw [Kd,show ZY E s ρ v.1=(gE E s v.1).den ρ from rfl,Kd,hsts v hv],fun rows rows' k1 k2=>?_⟩
  cases hg0:gr with
  | true => exact .inr (hgr hg0 _ hu rows rows' k1 k2)
  | false =>
   refine .inl (UY.2 ⟨v,hv,?_⟩)
   have:(gE E s v.1).isSto=Xb:=by
    rw [← Kd (gE E s v.1) ρ,show (gE E s v.1).den ρ=_ from k1];rfl
   rw [if_pos this]
 have hids:∀ (σ':Nat→AV),(∀ d∈(Vc o).filter (fun t=>!B t),σ' d=ZY E s ρ d)→(∀ d,B d=Xb→Ze7 (σ' d))→∀ d∈Vc o,Zdn (ZY E s ρ d) (σ' d):=by
  intro σ' h0 h1 d hd
  cases hb:B d with
  | true => exact .inr ⟨hB d hb, h1 d hb⟩
  | false => exact .inl (h0 d (Wl.2 ⟨hd, by simp [hb]⟩))
 have hfst:(us.map fun u=>(u.1,u.2.den ρ')).map (·.1)=us.map (·.1):=by rw [Wg];rfl
 have hden:ZY E (JQ us s) ρ'=JE (ZY E s ρ) (us.map fun u=>(u.1,u.2.den ρ')):=by rw [KL hnt ρ' us s hlow,hc]
 split at h5
 ·rename_i d hd
  split at h5
  ·rename_i hh
   refine ⟨⟨(Vc o).filter (fun t=>!B t)++gs++fp++us.map (·.1)++vOf gr (gE E s) us++[d],(us.map fun u=>(u.1,u.2.den ρ'))++[(d,x.den ρ')],vOf gr (gE E s) us⟩,ρ',n',(JQ us s).set depth d x,JG hnt (JV hh.1) (YQ hnt us s hlow hs' h4) h3,?_,⟨⟨?_,?_⟩,?_,?_,?_,?_⟩,?_⟩
   ·show (cont _ n' ⟨i,_,((us.map fun u=>(u.1,u.2.den ρ'))++[(d,x.den ρ')]).map (·.1)++vOf gr (gE E s) us⟩).wp P R A ρ'
    rw [XN,hfst]
    exact h5
   ·intro u hu
    rcases Xv.1 hu with hu | hu
    ·refine Xv.2 (.inl (Xv.2 (.inl (Xv.2 (.inr ?_)))))
     rw [← hfst]
     exact Xj.2 ⟨u,hu,rfl⟩
    ·rw [XD] at hu
     subst hu
     simp
   ·intro u hu
    rcases Xv.1 hu with hu | hu
    ·exact hstp u hu
    ·rw [XD] at hu
     subst hu
     obtain ⟨m1,m2⟩:=ZbW hh.2.1
     have hpre:(ZY E s ρ d).isSto=Xc:=by
      by_cases hdu:d∈us.map (·.1)
      ·obtain ⟨u,hu,hud⟩:=Xj.1 hdu
       have hx:=congrFun hden d
       rw [Jl] at hx
       obtain ⟨y,hy⟩:=K8 (us.map fun u=>(u.1,u.2.den ρ')) d (by rw [hfst];exact hdu)
       rw [hy] at hx
       have hm:=ZbQ _ _ _ hy
       have h8:=(hstp _ hm).1
       dsimp only at h8
       rw [← h8]
       have hx':(gE E (JQ us s) d).den ρ'=y:=hx
       rw [← hx',Kd]
       exact m1
      ·have hx:=congrFun hden d
       rw [Jl,YS _ d (by rw [hfst];exact hdu)] at hx
       have hx':(gE E (JQ us s) d).den ρ'=ZY E s ρ d:=hx
       rw [← hx',Kd]
       exact m1
     exact ⟨by rw [Kd];exact m2.trans hpre.symm,fun rows rows' k1 _=>by rw [k1] at hpre;cases hpre⟩
   ·intro u hu hb
    rcases Xv.1 hu with hu | hu
    ·exact hups u hu hb
    ·rw [XD] at hu
     subst hu
     have hb':B d=Xb:=hb
     rw [hh.2.2] at hb'
     cases hb'
   ·intro u hu
    rcases Xv.1 hu with hu | hu
    ·exact hnr u hu
    ·rw [XD] at hu
     subst hu
     unfold Zlf at hnx
     rw [hd] at hnx
     exact ZdB ρ' hnx
   ·intro u hu j hj
    rcases Xv.1 hu with hu | hu
    ·exact hkp u hu j hj
    ·rw [XD] at hu
     subst hu
     have hb':=hKB _ j hj
     rw [hh.2.2] at hb'
     cases hb'
   ·intro c hcP hcn σ' tm w lim X hag hpb hT hSt hsim Q K hK
    unfold wpOp
    simp only [hi]
    rw [Zbh hg hsim fun d' hd'=>hag d' (by simp [hd'])]
    rw [if_pos rfl]
    refine .inl (h6 c hcP σ' tm w lim X (hids σ' (fun d' hd'=>hag d' (by simp only [Xv];exact .inl (.inl (.inl (.inl (.inl hd')))))) hpb) (fun d' hd'=>hag d' (by
     rw [hfst] at hd'
     simp only [Xv] at hd' ⊢
     rcases hd' with hd' | hd'
     ·exact .inl (.inl (.inl (.inr hd')))
     ·exact .inl (.inl (.inr hd')))) hT (fun d' hd'=>hSt d' (by simp only [Xv];exact .inl (.inl (.inl (.inr hd'))))) hsim K Q fun v w' ha=>?_)
    rw [hd] at ha ⊢
    obtain ⟨lim',X',hsim'⟩:=ha (by rw [hcn];exact hh.1) (by
     have:JE σ' (us.map fun u=>(u.1,u.2.den ρ')) d=(gE E (JQ us s) d).den ρ':=by
      have h7:=congrFun hden d
      rw [Jl] at h7 ⊢
      rw [hag d (by simp)]
      exact h7.symm
     rw [this]
     exact JT ρ' hh.2.1)
    refine hK _ w' lim' X' ?_
    rw [VM]
    exact hsim'
   ·rw [JW hnt (JV hh.1),hden,VM]
    rfl
  ·exact h5.elim
 ·rename_i hd
  refine ⟨⟨(Vc o).filter (fun t=>!B t)++gs++fp++us.map (·.1)++vOf gr (gE E s) us,us.map fun u=>(u.1,u.2.den ρ'),vOf gr (gE E s) us⟩,ρ',n',JQ us s,YQ hnt us s hlow hs' h4,?_,⟨⟨?_,fun u hu=>hstp u hu⟩,hups,hnr,hkp,?_⟩,hden⟩
  ·show (cont _ n' ⟨i,_,(us.map fun u=>(u.1,u.2.den ρ')).map (·.1)++vOf gr (gE E s) us⟩).wp P R A ρ'
   rw [hfst]
   exact h5
  ·intro u hu
   refine Xv.2 (.inl (Xv.2 (.inr ?_)))
   rw [← hfst]
   exact Xj.2 ⟨u,hu,rfl⟩
  ·intro c hcP hcn σ' tm w lim X hag hpb hT hSt hsim Q K hK
   unfold wpOp
   simp only [hi]
   rw [Zbh hg hsim fun d' hd'=>hag d' (by simp [hd'])]
   rw [if_pos rfl]
   refine .inl (h6 c hcP σ' tm w lim X (hids σ' (fun d' hd'=>hag d' (by simp only [Xv];exact .inl (.inl (.inl (.inl hd'))))) hpb) (fun d' hd'=>hag d' (by
    rw [hfst] at hd'
    simp only [Xv] at hd' ⊢
    rcases hd' with hd' | hd'
    ·exact .inl (.inl (.inr hd'))
    ·exact .inl (.inr hd'))) hT (fun d' hd'=>hSt d' (by simp only [Xv];exact .inl (.inl (.inr hd')))) hsim K Q fun v w' ha=>?_)
   rw [hd] at ha ⊢
   obtain ⟨lim',X',hsim'⟩:=ha
   exact hK _ w' lim' X' hsim'
theorem WF (hnt:E.top≤1024) (hKB:∀ d j,tx.kp d j=Xb→B d=Xb) (hi:ops[i]? = Xa o) (hs:V6 E s n) (hg:ZiE ops o (ZY E s ρ) gs Xc) (h:(Zc5 E B o i s gs n cont).wp P R A ρ) :
  WY tx P E R A B ops i s ρ cont:=by
 unfold Zc5 at h
 split at h
 ·rename_i d hd
  split at h
  ·rename_i hh
   refine ⟨⟨gs++[d],[(d,.tuple [])],[]⟩,ρ,n,s.set depth d (.tuple []),JG hnt (JV hh.1) hs (by simp [SV.bd]),h,⟨⟨by simp,fun u hu=>?_⟩,fun u hu hb=>?_,fun u hu d k _ hr=>?_,fun u hu j hj=>?_,?_⟩,JW hnt (JV hh.1) _ _ _⟩
   ·rw [XD] at hu
    subst hu
    have hpre:(ZY E s ρ d).isSto=Xc:=by rw [show ZY E s ρ d=(gE E s d).den ρ from rfl,Kd];exact (ZbW hh.2.1).1
    exact ⟨hpre.symm,fun rows rows' k1 _=>by rw [k1] at hpre;cases hpre⟩
   ·rw [XD] at hu
    subst hu
    have hb':B d=Xb:=hb
    rw [hh.2.2] at hb'
    cases hb'
   ·rw [XD] at hu
    subst hu
    rcases hr with hr | ⟨_,hr⟩ <;> cases hr
   ·rw [XD] at hu
    subst hu
    have hb':=hKB _ j hj
    rw [hh.2.2] at hb'
    cases hb'
   intro c hcP hcn σ' tm w lim X hag hpb hT _ hsim Q K hK
   unfold wpOp
   simp only [hi]
   rw [Zbh hg hsim fun d' hd'=>hag d' (by simp [hd'])]
   rw [if_neg (by simp),hd]
   obtain ⟨X',hs'⟩:=hsim.putUndef (d:=d) (by rw [hcn];exact hh.1) (by
    rw [hag d (by simp)]
    exact ZS (JT ρ hh.2.1))
   exact hK _ w lim X' hs'
  ·exact h.elim
 ·rename_i hd
  refine ⟨⟨gs,[],[]⟩,ρ,n,s,hs,h,⟨⟨by simp,fun u hu=>by cases hu⟩,by simp,by simp,by simp,?_⟩,rfl⟩
  intro c hcP hcn σ' tm w lim X hag hpb hT _ hsim Q K hK
  unfold wpOp
  simp only [hi]
  rw [Zbh hg hsim hag]
  rw [if_neg (by simp),hd]
  exact hK _ w lim X hsim
theorem Zar (hnt:E.top≤1024) {t:Nat} {b:BE} {v:Bool} (hb:gE E s t = .c (.bool b)) (hv:b.den ρ=v):t < E.top∧ZY E (s.set depth t (.c (.bool (.lit v)))) ρ=ZY E s ρ:=by
 have hlt:t < E.top:=by
  unfold gE at hb
  split at hb
  ·assumption
  ·cases hb
 refine ⟨hlt,?_⟩
 rw [JW hnt hlt]
 funext d
 by_cases hd:d=t
 ·subst hd
  rw [ZF]
  simp only [ZY,hb,SV.den,SC.den,hv,BE.den]
 ·rw [Ze _ _ hd]
theorem Zho (hps:EnvSound P E) (hnt:E.top≤1024) (hKB:∀ d j,tx.kp d j=Xb→B d=Xb) (hB:∀ d,B d=Xb→Ze7 (ZY E s ρ d)) (hi:ops[i]? = Xa o) (hs:V6 E s n) (h:(ZnD P E tx tk B ops o i s n cont).wp P R A ρ):WY tx P E R A B ops i s ρ cont:=by
 unfold ZnD at h
 split at h
 ·rename_i hg
  exact ZaK hps hnt hKB hB hi hs (.inl ⟨hg,rfl⟩) h
 ·rename_i j want hg
  split at h
  ·exact h.elim
  ·rename_i gd hgd
   split at h
   ·rename_i hb
    have hv:ZY E s ρ gd = .tuple []:=by simp only [ZY,hb];rfl
    exact WF hnt hKB hi hs (.inr (.inr ⟨j,want,gd,hg,hgd,by simp,hv,rfl⟩)) h
   ·rename_i b hb
    have hv:ZY E s ρ gd = .val (.bool b):=by simp only [ZY,hb];rfl
    split at h
    ·rename_i hw
     exact ZaK hps hnt hKB hB hi hs (.inr (.inl ⟨j,want,gd,b,hg,hgd,by simp,hv,by simp [hw]⟩)) h
    ·rename_i hw
     exact WF hnt hKB hi hs (.inr (.inl ⟨j,want,gd,b,hg,hgd,by simp,hv,by simp [hw]⟩)) h
   ·rename_i b _ hb
    obtain ⟨ht,hf⟩:=h
    have hcase:∀ v,b.den ρ=v→(if want=v then ZiN P E tx tk B o i (s.set depth gd (.c (.bool (.lit v)))) [gd] n cont else Zc5 E B o i (s.set depth gd (.c (.bool (.lit v)))) [gd] n cont).wp P R A ρ→WY tx P E R A B ops i s ρ cont:=by
     intro v hv hw
     obtain ⟨hlt,hsame⟩:=Zar hnt hb hv
     have hbd:V6 E (s.set depth gd (.c (.bool (.lit v)))) n:=JG hnt hlt hs trivial
     have hval:ZY E (s.set depth gd (.c (.bool (.lit v)))) ρ gd = .val (.bool v):=by rw [hsame];simp only [ZY,hb,SV.den,SC.den,hv]
     have hgoal:WY tx P E R A B ops i (s.set depth gd (.c (.bool (.lit v)))) ρ cont:=by
      split at hw
      ·rename_i hw'
       exact ZaK hps hnt hKB (by rw [hsame];exact hB) hi hbd (.inr (.inl ⟨j,want,gd,v,hg,hgd,by simp,hval,by simp [hw']⟩)) hw
      ·rename_i hw'
       exact WF hnt hKB hi hbd (.inr (.inl ⟨j,want,gd,v,hg,hgd,by simp,hval,by simp [hw']⟩)) hw
     unfold WY at hgoal ⊢
     rw [hsame] at hgoal
     exact hgoal
    cases hv:b.den ρ with
    | true => exact hcase true hv (ht hv)
    | false => exact hcase false hv (hf hv)
   ·exact h.elim
def Zhs:Nat→List Stp→List Log
 | _, [] => []
 | i, s :: ss => Zhs (i + 1) ss ++ [⟨i, s.F, s.D⟩]
theorem Zb7:∀ (ss:List Stp) (i j:Nat) (s:Stp),ss[j]? = Xa s→(⟨i+j,s.F,s.D⟩:Log)∈Zhs i ss
 | [], i, j, s, h => by simp at h
 | s0 :: ss, i, 0, s, h => by
  simp only [XB,Xf] at h
  subst h
  simp [Zhs]
 | s0 :: ss, i, j + 1, s, h => by
  have:=Zb7 ss (i+1) j s (by simpa using h)
  rw [show i+(j+1)=i+1+j by omega]
  exact Xv.2 (.inl this)
theorem Zdx (hps:EnvSound P E) (hnt:E.top≤1024) (hKB:∀ d j,tx.kp d j=Xb→B d=Xb) {tks:Nat→Bool} {k:Tr→Nat→List Log→STree} : ∀ (l:List Oper) (i:Nat) (s:Tr) (n:Nat) (logs:List Log) (ρ:Nat→V),(∀ j,l[j]? = ops[i+j]?)→(∀ d,B d=Xb→Ze7 (ZY E s ρ d))→V6 E s n→
  (Zp2 P E tx tks B ops l i s n logs k).wp P R A ρ→∃ (ss:List Stp) (ρ':Nat→V) (n':Nat) (s':Tr),ss.length=l.length∧V6 E s' n'∧(k s' n' (Zhs i ss++logs)).wp P R A ρ'∧
   ZfP tx P E.nt ops (fun d=>B d=Xb) i (ZY E s ρ) ss∧ZY E s' ρ'=Zcd (ZY E s ρ) ss
 | [], i, s, n, logs, ρ, _, _, hs, h => ⟨[], ρ, n, s, rfl, hs, h, trivial, rfl⟩
 | o :: l, i, s, n, logs, ρ, hl, hB, hs, h => by
  have h0:ops[i]? = Xa o:=by simpa using (hl 0).symm
  obtain ⟨st,ρ1,n1,s1,g1,g2,g3,g4⟩:=Zho hps hnt hKB hB h0 hs h
  obtain ⟨ss,ρ2,n2,s2,k1,k2,k3,k4,k5⟩:=Zdx hps hnt hKB l (i+1) s1 n1 _ ρ1 (fun j=>by
   have:=hl (j+1)
   rw [show i+(j+1)=i+1+j by omega] at this
   simpa using this) (by rw [g4];exact Zgp _ _ g3.2.1 hB) g1 g2
  refine ⟨st::ss,ρ2,n2,s2,by simp [k1],k2,?_,⟨g3,?_⟩,?_⟩
  ·simp only [Zhs,Xo,List.singleton_append]
   exact k3
  ·rw [← g4];exact k4
  ·simp only [Zcd]
   rw [← g4];exact k5
theorem ZnM {a b:List Nat} (h:Zvb a b=Xb):∀ d∈a,d∉b:=by
 intro d hd
 simp only [Zvb,XE] at h
 simpa using h d hd
theorem Zft {E:Env} (s:Tr):∀ i,E.top≤i→gE E s i = .dead:=fun i hi=>by unfold gE;rw [if_neg (by omega)]
theorem Zpy {c:Ctx} {σ:Nat→AV} {tm:Array Value} {w:World} {lim:Lm} {X:Nat→Nat→Option Nat} (h:Sim c σ tm w lim X) {i k:Nat} (hr:JB (σ i) i k):False:=by
 obtain ⟨p,hp⟩:=WO h hr
 rcases hr with hr | ⟨_,hr⟩ <;> rw [hr] at hp<;>cases hp
theorem ZtB {draw:Bool} {d j:Nat} (h:(ZnG P E draw ops s).kp d j=Xb):Zq0 (gE E s d)=Xb:=by
 cases draw with
 | false => cases h
 | true =>
  simp only [ZnG,Odr.kp,Tq,Wl] at h
  exact h.2
theorem Zhn (hm:P.follows .mixedOrders=Xb) (hps:EnvSound P E) (hnt:E.top≤1024) {id:Nat} {draw:Bool} {k:Tr→Nat→STree} {tks:Nat→Bool} (hKB:∀ d j,(ZnG P E draw ops s).kp d j=Xb→B d=Xb) (hB:∀ d,B d=Xb→Ze7 (ZY E s ρ d)) (hs:V6 E s n)
  (h:(Zp2 P E (ZnG P E draw ops s) tks B ops ops.toList 0 s n [] fun s' n' logs=>if draw=Xb then (if ZiV ops logs=Xb then k s' n' else .stuck 114) else k s' n').wp P R A ρ)
  {c:Ctx} (hcP:c.P=P) (hcn:c.nt=E.nt) {tm:Array Value} {w:World} {lim:Lm} {X:Nat→Nat→Option Nat} (hsim:Sim c (ZY E s ρ) tm w lim X) {Q:Exit→Act→World→Prop}
  (hk:∀ s' n' ρ',V6 E s' n'→(k s' n').wp P R A ρ'→∀ tm' w' lim' X',Sim c (ZY E s' ρ') tm' w' lim' X'→Q .normal ⟨tm',[]⟩ w'):(Code.region id ops draw).wp P Q ⟨tm,[]⟩ w:=by
 obtain ⟨ss,ρ',n',s',h1,h2,h3,h4,h5⟩:=Zdx hps hnt hKB ops.toList 0 s n [] ρ (by simp) hB hs h
 have hlen:ss.length=ops.size:=by simpa using h1
 cases draw with
 | false =>
  refine wp_region ?_
  rw [List.range_eq_range',← hlen]
  refine Zfm hcP hcn ss 0 _ tm w lim X h4 hB hsim fun tm' w' lim' X' hs'=>hk s' n' ρ' h2 (by simpa using h3) tm' w' lim' X' ?_
  rw [h5];exact hs'
 | true =>
  simp only [if_true] at h3
  split at h3
  ·rename_i hi
   rw [XJ] at hi
   simp only [ZiV,Xr,CheckFast.beforeF_eq] at hi
   obtain ⟨hlow,hind⟩:=hi
   refine wp_region_any hm ?_
   have hsd:Sim c (ZY E s ρ) tm w.drew lim X:=hsim.world (Jf.refl w lim fun _=>False).drew fun b hb=>hb.elim
   refine Zof hcP hcn h4 (fun d i k hd hr=>?_) hB hlen ?_ ?_ (fun tm' w' lim' X' hs'=>hk s' n' ρ' h2 h3 tm' w' lim' X' (by rw [h5];exact hs')) ops.size _ tm w.drew lim X (by simp) ?_ ?_ ?_
   ·have hd':(Jz (gE E s) d E.top).isEmpty=Xb:=by
     rcases UP.1 hd with h0 | h0
     ·simp only [Xr] at h0
      exact h0.1.2
     ·by_cases he:(Jz (gE E s) d E.top).isEmpty=Xb
      ·exact he
      ·dsimp only at h0;rw [if_neg he] at h0;cases h0
    rw [List.isEmpty_iff] at hd'
    have hda:=(Yq (g:=gE E s) ρ (Zft s) (d:=d)).2 i k
    by_cases hid:i=d
    ·subst hid
     exact Zpy hsim hr
    ·have:=hda hid hr
     rw [hd'] at this
     cases this
   ·intro i o hio e he hb
    rw [XE] at hlow
    have:=hlow (o,i) (by
     rw [List.mem_zipIdx_iff_getElem?]
     simpa using hio)
    rw [Array.all_eq_true_iff_forall_mem] at this
    have:=this e he
    simpa [hb] using this
   ·rintro i j a b hia hjb hji ⟨S,hS,hSi,hSj⟩
    rw [XE] at hind
    have m1:=Zb7 ss 0 i a hia
    have m2:=Zb7 ss 0 j b hjb
    rw [XH] at m1 m2
    have:=hind _ m1
    rw [XE] at this
    have:=this _ m2
    simp only [U5,Xr,UJ,decide_eq_false_iff_not] at this
    rcases this with (this | this) | this
    ·exact (this hji).elim
    ·exact (hSj (ZfY hS i j hSi this)).elim
    ·exact ⟨ZnM this.1,ZnM this.2⟩
   ·intro k o hk hl
    have hlt:=(Uj.1 hk).1
    simp [Wv,hlt] at hl
   ·have:=List.countP_le_length (p:=fun i=>!(Array.replicate ops.size Xc).getD i Xc) (l:=Wu ops.size)
    simpa using this
   ·rw [ZdY]
    ·exact hsd
    ·intro j _ hj
     simp [Wv]
  ·exact h3.elim
end
end Go.AM
