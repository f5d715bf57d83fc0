import Derived.Test.YtpjnmgjphfnmmaaM3
import Derived.Orders
open Option renaming some→Xa,none→Xe,map_some→Xo,bind_some→XM,map_eq_some_iff→XU,getD_some→UR
open Bool renaming true→Xb,false→Xc,and_eq_true→Xs,false_eq_true→Uh,or_eq_true→UA,not_eq_true'→UG,or_eq_true_iff→UP
open Option.some renaming injEq→Xf
open List renaming map_cons→Xg,mem_of_getElem?→Xh,getElem?_eq_some_iff→Xi,mem_map→Xj,getElem?_map→Xk,mem_cons→Xl,replicate→Xm,getElem?_eq_getElem→Xp,length_map→Xq,mem_append→Xt,append_assoc→Xu,getElem?_append_left→Xv,getElem?_take→Xw,getElem?_append_right→Xy,map_nil→Xz,length_append→XA,getElem?_cons_zero→XB,mem_singleton→XC,all_eq_true→XE,getElem?_drop→XH,length_cons→XJ,mem_iff_getElem?→XK,map_append→XL,mem_of_mem_take→XO,length_take→XQ,mem_of_mem_drop→XW,nil_append→XX,eq_nil_of_length_eq_zero→XY,getElem?_cons_succ→X5,map_map→X6,append_nil→Wc,mem_replicate→Wd,mem_cons_of_mem→We,range→Wf,map_congr_left→Wk,map_toArray→Wn,mem_or_eq_of_mem_set→Wo,ext_getElem?→Ua,length_drop→Ue,map_take→Uf,getElem?_set→Ug,any_eq_true→Uk,map_drop→Ul,take_of_length_le→Um,drop_of_length_le→Ut,size_toArray→Uu,mem_range→Uv,mem_flatten→Uw,getElem?_modify→Uy,countP_cons→Uz,map_set→UB,mem_append_left→UC,length_eq_one_iff→UF,drop_zero→UH,foldl_cons→UM,length_singleton→UQ,filter_eq_self→US,countP_append→U2,isEmpty_iff→U3,mem_append_right→U5,prefix_refl→Ta
open Prod.mk renaming injEq→Xn
open Nat renaming lt_or_ge→Xx,le_refl→XD,zero_add→XF,lt_of_lt_of_le→XI,mul_le_mul_right→XN,le_add_right→XR,succ_mul→X9,zero_le→Wh,lt_succ_self→Wp,add_zero→Wq,succ_pos→UD,lt_trichotomy→Ti
open Array renaming toList_inj→XG,getElem?_eq_getElem→XZ,getD→X7,getElem?_eq_some_iff→Wa,getElem?_toList→Ud,length_toList→Uj,getElem?_modify→U0,getElem?_push→Te
open Int renaming toNat_natCast→UI,toNat_of_nonneg→U4
set_option linter.unusedVariables false
set_option linter.unusedSimpArgs false
set_option linter.defProp false
namespace Go.AM
theorem us1 {t n:Nat} {x:SV} (h:x.bd n):∀ u∈[(t,x)],u.2.bd n:=by
 intro u hu
 rw [XC] at hu
 subst hu
 exact h
theorem us2 {t t' n:Nat} {x y:SV} (h:x.bd n) (h':y.bd n):∀ u∈[(t,x),(t',y)],u.2.bd n:=by
 intro u hu
 rcases Xl.1 hu with rfl | hu
 ·exact h
 ·exact us1 h' u hu
theorem Jl {g:Nat→SV} {d:Nat} : ∀ (n:Nat) (u:Nat×SV),u∈ZJ g d n↔u.2 = .dead∧u.1 < n∧u.1≠d∧Ze7 d (g u.1)=Xb
 | 0, u => by simp [ZJ]
 | n + 1, u => by
  have ih:=Jl (g:=g) (d:=d) n u
  have key:∀ p:Prop,(u∈(if n≠d∧Ze7 d (g n)=Xb then (n,SV.dead)::ZJ g d n else ZJ g d n)↔p)→(u∈ZJ g d (n+1)↔p):=fun p h=>h
  apply key
  split
  ·rename_i h
   rw [Xl,ih]
   constructor
   ·rintro (rfl | ⟨h1,h2,h3⟩)
    ·exact ⟨rfl,Wp n,h.1,h.2⟩
    ·exact ⟨h1,by omega,h3⟩
   ·rintro ⟨h1,h2,h3⟩
    by_cases hn:u.1=n
    ·left
     obtain ⟨a,b⟩:=u
     simp only at h1 hn
     rw [h1,hn]
    ·exact .inr ⟨h1,by omega,h3⟩
  ·rename_i h
   rw [ih]
   constructor
   ·rintro ⟨h1,h2,h3⟩
    exact ⟨h1,by omega,h3⟩
   ·rintro ⟨h1,h2,h3,h4⟩
    refine ⟨h1,?_,h3,h4⟩
    by_cases hn:u.1=n
    ·subst hn;exact (h ⟨h3,h4⟩).elim
    ·omega
theorem Zbz (ρ:Nat→V) (d:Nat) (x:SV):Ze7 d x=Xb↔∃ k,Jh (x.den ρ) d k:=by
 cases x with
 | mref d' k' =>
  simp only [Ze7,beq_iff_eq]
  constructor
  ·rintro rfl;exact ⟨k',.inl rfl⟩
  ·rintro ⟨k,h | ⟨_,h⟩⟩ <;> cases h
   rfl
 | eref d' k' i s o =>
  simp only [Ze7,beq_iff_eq]
  constructor
  ·rintro rfl;exact ⟨k',.inr ⟨_,rfl⟩⟩
  ·rintro ⟨k,h | ⟨_,h⟩⟩ <;> cases h
   rfl
 | c y =>
  constructor
  ·intro h;cases h
  ·rintro ⟨k,h | ⟨_,h⟩⟩ <;> cases y<;>first | cases h | exact (Z6 h rfl).elim
 | _ =>
  constructor
  ·intro h;cases h
  ·rintro ⟨k,h | ⟨_,h⟩⟩ <;> cases h
theorem JB {g:Nat→SV} (ρ:Nat→V) {d top:Nat} (htop:∀ i,top≤i→g i = .dead):Kw (fun d=>(g d).den ρ) d ((ZJ g d top).map fun u=>(u.1,u.2.den ρ)):=by
 refine ⟨fun u hu=>?_,fun i k hi hr=>?_⟩
 ·obtain ⟨v,hv,rfl⟩:=Xj.1 hu
  obtain ⟨h1,h2,h3,h4⟩:=(Jl top v).1 hv
  exact ⟨h3,by show v.2.den ρ=_;rw [h1];rfl,(Zbz ρ d _).1 h4⟩
 ·have hr':=(Zbz ρ d (g i)).2 ⟨k,hr⟩
  have hlt:i < top:=by
   rcases Xx i top with h | h
   ·exact h
   ·rw [htop i h] at hr';cases hr'
  rw [X6]
  exact Xj.2 ⟨(i,.dead),(Jl top (i,.dead)).2 ⟨rfl,hlt,hi,hr'⟩,rfl⟩
theorem ZgM {g:Nat→SV} (ρ:Nat→V) {top:Nat} (htop:∀ i,top≤i→g i = .dead) {txt:Odr} {d:Nat} {us:Ups} (h:Zks txt g top d=Xa us) :
  (∀ u∈us,u.2 = .dead)∧Yc txt (fun d=>(g d).den ρ) d (us.map fun u=>(u.1,u.2.den ρ)):=by
 unfold Zks at h
 split at h
 ·simp only [Xf] at h
  subst h
  exact ⟨fun u hu=>((Jl top u).1 hu).1,.inl ⟨rfl,JB ρ htop⟩⟩
 ·split at h
  ·rename_i N M K hN
   simp only [Xf] at h
   subst h
   exact ⟨fun u hu=>by simp at hu,.inr ⟨N,M,_,rfl,hN,rfl⟩⟩
  ·cases h
theorem ZkB {P:Program} {e:TypeId} {l:LE} (ρ:Nat→V) (h:mvB P e l=Xb):Mv P e (l.den ρ):=by
 unfold mvB at h
 rcases UP.1 h with h | h
 ·rcases UP.1 h with h | h
  ·rcases UP.1 h with h | h
   ·exact .inl (by simpa using h)
   ·exact .inr (.inl h)
  ·unfold ZjB at h
   split at h
   ·exact .inr (.inr (.inl rfl))
   ·cases h
 ·exact .inr (.inr (.inr (by simpa using h)))
theorem ZpY {P:Program} {res:SV} (ρ:Nat→V) (h:Zrr P res=Xb):∀ e xs,res.den ρ = .own Xb e xs→Mv P e xs:=by
 intro e xs he
 cases res with
 | own x e' l =>
  simp only [SV.den,AV.own.injEq] at he
  obtain ⟨rfl,rfl,_⟩:=he
  simp only [Zrr,UA,UG,Option.isNone_iff_eq_none] at h
  exact h.imp id fun h=>.inr (.inr h)
 | c y => cases y <;> first | cases he | exact (Z6 he rfl).elim
 | _ => cases he
theorem J3 {P:Program} {g:Nat→SV} (ρ:Nat→V) {top:Nat} (htop:∀ i,top≤i→g i = .dead) {txt:Odr} {x:Bool} {t:Nat} {e:TypeId} {l:LE} {us:Ups} (ht:g t = .own x e l) (h:YO P txt g top t x e l=Xa us) :
  ∃ us',us=us'∧(us'.map fun u=>(u.1,u.2.den ρ))=(t,KX P x e (l.den ρ))::(us'.tail.map fun u=>(u.1,u.2.den ρ))∧((x=Xc∧(us'.tail.map fun u=>(u.1,u.2.den ρ)) = [])∨Yc txt (fun d=>(g d).den ρ) t (us'.tail.map fun u=>(u.1,u.2.den ρ)))∧(x=Xb→Mv P e (l.den ρ)):=by
 unfold YO at h
 split at h
 ·simp only [Xf] at h
  subst h
  exact ⟨_,rfl,rfl,.inl ⟨rfl,rfl⟩,fun h=>by cases h⟩
 ·split at h
  case isFalse=>cases h
  rename_i hmv
  split at h
  ·simp only [Xf] at h
   subst h
   exact ⟨_,rfl,rfl,.inr (.inl ⟨rfl,JB ρ htop⟩),fun _=>ZkB ρ hmv⟩
  ·rename_i N M K
   split at h
   ·rename_i hN
    simp only [Xf] at h
    subst h
    exact ⟨_,rfl,rfl,.inr (.inr ⟨N,M,_,rfl,hN,rfl⟩),fun _=>ZkB ρ hmv⟩
   ·cases h
theorem J2 {P:Program} {g:Nat→SV} {top n:Nat} {txt:Odr} {x:Bool} {t:Nat} {e:TypeId} {l:LE} {us:Ups} (h:YO P txt g top t x e l=Xa us) (hl:l.bd n):∀ u∈us,u.2.bd n:=by
 unfold YO at h
 split at h
 ·simp only [Xf] at h
  subst h
  exact us1 hl
 ·split at h
  case isFalse=>cases h
  split at h
  ·simp only [Xf] at h
   subst h
   intro u hu
   rcases Xl.1 hu with rfl | hu
   ·trivial
   ·rw [((Jl top u).1 hu).1];trivial
  ·split at h
   ·simp only [Xf] at h
    subst h
    exact us1 trivial
   ·cases h
theorem WU {cs:List BC} {off m:Nat} (h:V0 ((cs.drop off).take m)=Xb) (ρ:Nat→V):Zca (((cs.map (BC.den ρ)).drop off).take m):=by
 rw [← Ul,← Uf]
 exact Zdm h ρ
theorem Zfi {cs:List BC} {off m:Nat} (h:VT ((cs.drop off).take m)=Xb) (ρ:Nat→V):Whole (((cs.map (BC.den ρ)).drop off).take m):=by
 rw [← Ul,← Uf]
 exact WB h ρ
theorem Zkp {g:Nat→SV} (ρ:Nat→V) {top:Nat} (htop:∀ i,top≤i→g i = .dead) {txt:Odr} {d:Nat} {cs:List BC} {off m:Nat} (h:(V0 ((cs.drop off).take m)||ZgB txt g top d)=Xb) :
  Zca (((cs.map (BC.den ρ)).drop off).take m)∨Yc txt (fun d=>(g d).den ρ) d []:=by
 rcases UP.1 h with h | h
 ·exact .inl (WU h ρ)
 ·right
  unfold ZgB at h
  split at h
  ·simp only [U3] at h
   refine .inl ⟨rfl,by simp,fun j q hj hr=>?_⟩
   have:=(JB ρ htop (d:=d)).2 j q hj hr
   rw [h] at this
   exact this
  ·exact .inr ⟨_,_,_,rfl,h,rfl⟩
theorem Ks {x:SV} (ρ:Nat→V) (h:x.isG=Xc):(x.den ρ).isG=Xc:=by
 cases x with
 | gbox cs => cases h
 | store l => cases h
 | c y => exact KC ρ y
 | _ => rfl
theorem ZN {x:SV} {k:Nat} {e:TypeId} {l:LE} (ρ:Nat→V) (h:Ja x k=Xa (e,l)):Zp (x.den ρ) k=Xa (e,l.den ρ):=by
 unfold Ja at h
 split at h
 ·simp only [Xf,Xn] at h
  obtain ⟨rfl,rfl⟩:=h
  rfl
 ·rename_i cs q
  split at h
  ·rename_i e' l' hc
   simp only [Xf,Xn] at h
   obtain ⟨rfl,rfl⟩:=h
   simp only [SV.den,Zp,Xk,hc]
   rfl
  ·cases h
 ·rename_i cs q
  split at h
  ·rename_i e' l' hc
   simp only [Xf,Xn] at h
   obtain ⟨rfl,rfl⟩:=h
   simp only [SV.den,Zp,Xk,hc]
   rfl
  ·cases h
 ·cases h
theorem Jy {x:SV} {k n:Nat} {e:TypeId} {l:LE} (h:Ja x k=Xa (e,l)) (hb:x.bd n):l.bd n:=by
 unfold Ja at h
 split at h
 ·simp only [Xf,Xn] at h
  obtain ⟨rfl,rfl⟩:=h
  exact hb
 ·rename_i cs q
  split at h
  ·rename_i e' l' hc
   simp only [Xf,Xn] at h
   obtain ⟨rfl,rfl⟩:=h
   exact hb _ (Xh hc)
  ·cases h
 ·rename_i cs q
  split at h
  ·rename_i e' l' hc
   simp only [Xf,Xn] at h
   obtain ⟨rfl,rfl⟩:=h
   exact hb _ (Xh hc)
  ·cases h
 ·cases h
theorem Jv (ρ:Nat→V) (x:SV) (k:Nat) (b:Bool) (e:TypeId) (l:LE):(Z5 x k b e l).den ρ=Zm (x.den ρ) k b e (l.den ρ):=by
 cases x with
 | own x e' l' => cases k <;> rfl
 | box cs =>
  cases k with
  | zero => rfl
  | succ k => simp only [Z5, SV.den, Zm, UB]; rfl
 | c y =>
  cases y with
  | cel p => exact Y5 (Q := fun z => z = Zm z k b e (l.den ρ)) _ (fun _ _ => rfl) (fun _ _ _ => rfl) (fun _ => rfl) (fun _ _ => rfl)
  | _ => rfl
 | _ => cases k <;> rfl
theorem JK {x:SV} {k n:Nat} {b:Bool} {e:TypeId} {l:LE} (hx:x.bd n) (hl:l.bd n):(Z5 x k b e l).bd n:=by
 unfold Z5
 split
 ·exact hl
 ·intro c hc
  rcases Wo hc with hc | rfl
  ·exact hx c hc
  ·exact hl
 ·exact hx
section
variable {P:Program} {E:Env} {tx:Odr} {tk:Bool} {R:AV→List AV→Prop} {A:Nat→List V→Prop} {ρ:Nat→V} {g:Nat→SV} {o:Oper} {n:Nat} {k:K}
theorem Zq7 {x:Operand} (hg:∀ d,(g d).bd n) (htop:∀ i,E.top≤i→g i = .dead) (ho:o.op = .move x) (h:(Yq P E tx tk g o n k).wp P R A ρ):YN tx P R A ρ g o n k:=by
 have plain:(k (Z8 P g x) [] [] n).wp P R A ρ→YN tx P R A ρ g o n k:=fun hk=>Z2 hk (Zz hg x) (by rw [JV];exact Zhc (.inl ho))
 simp only [Yq,ho] at h
 split at h
 ·rename_i t
  have ht:=hg t
  split at h
  ·rename_i vs hv
   rw [hv] at ht
   exact W0 h ht (us1 trivial) (ZkK ho (by rw [hv];rfl))
  ·rename_i b e xs hv
   rw [hv] at ht
   unfold ZfT at h
   split at h
   ·split at h
    ·rename_i hb
     obtain rfl:b=Xb:=by cases b<;>simp_all
     refine plain ?_
     have:Z8 P g (.tmp t) = .mref t 0:=by simp only [Z8,hv]
     rw [this]
     exact h
    split at h
    ·rename_i us hus
     obtain ⟨us',rfl,q1,q2,q3⟩:=J3 ρ htop (t:=t) hv hus
     exact W2 h ht (J2 hus ht) (by rw [q1];exact Zhd (.inl ho) (by rw [hv];rfl) q2 q3)
    ·exact h.elim
   ·refine plain ?_
    have:Z8 P g (.tmp t)=match b with | true=>.mref t 0 | false=>.c (.slice Xc (P.cellsOf e) xs):=by simp only [Z8,hv];cases b<;>rfl
    rw [this]
    cases b<;>exact h
  ·exact plain h
 ·exact plain h
theorem Znt {x:Operand} (hg:∀ d,(g d).bd n) (htop:∀ i,E.top≤i→g i = .dead) (ho:o.op = .assign x) (h:(Yq P E tx tk g o n k).wp P R A ρ):YN tx P R A ρ g o n k:=by
 have plain:(k (Z8 P g x) [] [] n).wp P R A ρ→YN tx P R A ρ g o n k:=fun hk=>Z2 hk (Zz hg x) (by rw [JV];exact Zhc (.inr ho))
 simp only [Yq,ho] at h
 split at h
 ·rename_i t
  have ht:=hg t
  split at h
  ·exact h.elim
  ·rename_i b e xs hv
   rw [hv] at ht
   unfold ZfT at h
   split at h
   ·split at h
    ·rename_i hb
     obtain rfl:b=Xb:=by cases b<;>simp_all
     refine plain ?_
     have:Z8 P g (.tmp t) = .mref t 0:=by simp only [Z8,hv]
     rw [this]
     exact h
    split at h
    ·rename_i us hus
     obtain ⟨us',rfl,q1,q2,q3⟩:=J3 ρ htop (t:=t) hv hus
     exact W2 h ht (J2 hus ht) (by rw [q1];exact Zhd (.inr ho) (by rw [hv];rfl) q2 q3)
    ·exact h.elim
   ·refine plain ?_
    have:Z8 P g (.tmp t)=match b with | true=>.mref t 0 | false=>.c (.slice Xc (P.cellsOf e) xs):=by simp only [Z8,hv];cases b<;>rfl
    rw [this]
    cases b<;>exact h
  ·exact plain h
 ·split at h
  ·exact Z2 h trivial (ZpF ho)
  ·exact h.elim
 ·exact plain h
theorem ZrU {c a b:Operand} (hg:∀ d,(g d).bd n) (ho:o.op = .pick c a b) (h:(Yq P E tx tk g o n k).wp P R A ρ):YN tx P R A ρ g o n k:=by
 simp only [Yq,ho] at h
 split at h
 ·rename_i v hv
  obtain ⟨h1,h2⟩:=ZiH h
  have hc:=Zd ρ hv
  have hex:=Zm4 ho hc
  cases hb:v.den ρ with
  | true =>
   rw [hb,if_pos rfl] at hex
   exact Z2 (h1 hb) (Zz hg a) (by rw [JV];exact hex)
  | false =>
   rw [hb,if_neg (by simp)] at hex
   exact Z2 (h2 hb) (Zz hg b) (by rw [JV];exact hex)
 ·exact h.elim
theorem ZoQ {T:TypeId} (ho:o.op = .alloc T) (h:(Yq P E tx tk g o n k).wp P R A ρ):YN tx P R A ρ g o n k:=by
 simp only [Yq,ho] at h
 split at h
 ·rename_i cs hcs
  obtain ⟨i,z,h1,h2,h3,h4⟩:=Zp0 ρ n hcs
  exact Z2 h h4 (ZkH ho h1 h2 h3)
 ·exact h.elim
theorem Zsw {T:TypeId} {x:Operand} (hg:∀ d,(g d).bd n) (ho:o.op = .box T x) (h:(Yq P E tx tk g o n k).wp P R A ρ):YN tx P R A ρ g o n k:=by
 simp only [Yq,ho] at h
 split at h
 ·rename_i cs hcs
  refine Z2 h (fun c hc=>?_) ?_
  ·obtain ⟨y,hy,rfl⟩:=Xj.1 hc
   exact Vw hcs (Zz hg x) y hy
  ·have hd:=Ki ρ hcs
   have:=ZpW ho (JV P g ρ x).symm hd
   have he:((SV.box (cs.map .c)).den ρ) = .box (cs.map (SC.den ρ)):=by simp only [SV.den,X6];rfl
   rw [he]
   exact this
 ·exact h.elim
theorem Zhn (parts:Array (Nat×Operand)):(parts.toList.map fun p=>(p.1,Zn P (fun d=>(g d).den ρ) p.2))=(parts.toList.map fun p=>(p.1,Z8 P g p.2)).map fun p=>(p.1,p.2.den ρ):=by
 rw [X6]
 refine Wk fun p _=>?_
 simp only [Function.comp,JV]
theorem ZjV (hg:∀ d,(g d).bd n) (parts:Array (Nat×Operand)):∀ p∈(parts.toList.map fun p=>(p.1,Z8 P g p.2)),p.2.bd n:=by
 intro p hp
 obtain ⟨q,_,rfl⟩:=Xj.1 hp
 exact Zz hg q.2
theorem Zjc {T:TypeId} {parts:Array (Nat×Operand)} {f t:Nat} {e:TypeId} {l:LE} (hg:∀ d,(g d).bd n) (htop:∀ i,E.top≤i→g i = .dead) (ho:o.op = .build T parts) (hp:ZiZ g parts.toList=Xa (f,t,e,l)) (h:(Zgo P E tx g T f t e l n k).wp P R A ρ):YN tx P R A ρ g o n k:=by
 have hparts:parts.toList = [(f,.tmp t)]∧g t = .own Xb e l:=by
  unfold ZiZ at hp
  split at hp
  ·split at hp
   ·rename_i h1 _ _ _ h2
    simp only [Xf,Xn] at hp
    obtain ⟨rfl,rfl,rfl,rfl⟩:=hp
    exact ⟨h1,h2⟩
   ·cases hp
  ·cases hp
 obtain ⟨hp1,ht⟩:=hparts
 have hbl:=hg t
 rw [ht] at hbl
 unfold Zgo at h
 split at h
 ·rename_i fs i hT hi
  split at h
  ·rename_i hall
   split at h
   ·rename_i z fd hz hfd
    split at h
    ·rename_i zc us hzc hus
     split at h
     ·rename_i hh
      have h1:=YV ρ z.cells.toList
      rw [hzc] at h1
      have hz1:Zae z.cells.toList=Xa (zc.map (SC.den ρ)):=h1.symm
      obtain ⟨us',rfl,q1,q2,q3⟩:=J3 ρ htop (t:=t) ht hus
      refine W2 h (fun c hc=>?_) (J2 hus hbl) ?_
      ·rcases Wo hc with hc | rfl
       ·obtain ⟨y,hy,rfl⟩:=Xj.1 hc
        exact KR hzc y hy
       ·exact hbl
      ·have hod:Yc tx (fun d=>(g d).den ρ) t (us.tail.map fun u=>(u.1,u.2.den ρ)):=by
        rcases q2 with ⟨h0,_⟩ | q2
        ·cases h0
        ·exact q2
       have:=Zel (zc:=zc.map (SC.den ρ)) ho hp1 hT hi hz hz1 hall hfd hh.1 (by simpa using hh.2) (show (fun d=>(g d).den ρ) t = .own Xb e (l.den ρ) by show (g t).den ρ=_;rw [ht];rfl) hod
       rw [q1]
       have he:(SV.aggo ((zc.map .c).set fd.offset (.own Xb e l))).den ρ = .aggo ((zc.map (SC.den ρ)).set fd.offset (.own Xb e (l.den ρ))):=by
        simp only [SV.den,UB,X6]
        rfl
       rw [he]
       exact this
     ·exact h.elim
    ·exact h.elim
   ·exact h.elim
  ·exact h.elim
 ·exact h.elim
theorem ZpO {T:TypeId} {parts:Array (Nat×Operand)} (hg:∀ d,(g d).bd n) (htop:∀ i,E.top≤i→g i = .dead) (ho:o.op = .build T parts) (h:(Yq P E tx tk g o n k).wp P R A ρ):YN tx P R A ρ g o n k:=by
 simp only [Yq,ho] at h
 split at h
 ·rename_i f t e l hp
  exact Zjc hg htop ho hp h
 split at h
 ·rename_i fs i hT hi
  split at h
  ·rename_i hall
   split at h
   ·rename_i z hz
    split at h
    ·rename_i zc hzc
     split at h
     ·rename_i cs hcs
      refine Z2 h (Zcp _ _ _ _ (KR hzc) (ZjV hg parts) hcs) ?_
      have h1:=YV ρ z.cells.toList
      rw [hzc] at h1
      refine Zlj ho hT hi hz h1.symm hall ?_
      rw [Zhn]
      exact Zbd ρ _ _ _ _ hcs
     ·exact h.elim
    ·exact h.elim
   ·exact h.elim
  ·exact h.elim
 ·exact h.elim
theorem VJ {w:World} {lim:Lm} {f g:Bool} {s s':Nat} {v:Value} (hg:g=Xb→f=Xb) (h:Rep w lim (.slice f s []) v):Rep w lim (.slice g s' []) v:=by
 have key:∀ (y:AV),Rep w lim y v→y = .slice f s []→Rep w lim (.slice g s' []) v:=by
  intro y hy hye
  cases hy with
  | sliceN => exact .sliceN
  | @sliceE f' s2 a cap hf =>
   injection hye with h1 h2 h3
   exact .sliceE fun h=>hf (h1.trans (hg h))
  | @sliceC f' s2 xs b o cap us hs hc hf hle hlim hus hcell hr =>
   injection hye with h1 h2 h3
   subst h3
   exact .sliceE fun h=>by have:=hf (h1.trans (hg h));simpa using this
  | val _ => cases hye
  | agg _ _ _ => cases hye
  | nest => cases hye
  | oref0 => cases hye
  | oref => cases hye
  | osl0 => cases hye
  | osl => cases hye
  | omap => cases hye
  | fnc => cases hye
  | omap0 => cases hye
  | fncN => cases hye
 exact key _ h rfl
theorem ZfA {w:World} {lim:Lm} {f:Bool} {s:Nat} {xs:List (List AV)} {v:Value} (h:Rep w lim (.slice f s xs) v):Rep w lim (.slice Xc s xs) v:=by
 have key:∀ (y:AV),Rep w lim y v→y = .slice f s xs→Rep w lim (.slice Xc s xs) v:=by
  intro y hy hye
  cases hy with
  | sliceN => injection hye with h1 h2 h3; subst h3; exact .sliceN
  | @sliceE f' s2 a cap hf => injection hye with h1 h2 h3; subst h3; exact .sliceE fun h => by cases h
  | @sliceC f' s2 xs b o cap us hs hc hf hle hlim hus hcell hr =>
   injection hye with h1 h2 h3
   subst h2
   subst h3
   exact .sliceC hs hc (fun h=>by cases h) hle hlim hus hcell hr
  | val _ => cases hye
  | agg _ _ _ => cases hye
  | nest => cases hye
  | oref0 => cases hye
  | oref => cases hye
  | osl0 => cases hye
  | osl => cases hye
  | omap => cases hye
  | fnc => cases hye
  | omap0 => cases hye
  | fncN => cases hye
 exact key _ h rfl
theorem ZpR (ρ:Nat→V) {s:Sh} {c c':SC} (h:Zm6 s c=Xa c'):∀ (w:World) (lim:Lm) (u:Value),Rep w lim (c.den ρ) u→Rep w lim (c'.den ρ) u:=by
 unfold Zm6 at h
 split at h
 ·split at h
  ·simp only [Xf] at h
   subst h
   rename_i hk
   subst hk
   exact fun w lim u hr=>ZfA hr
  ·split at h
   ·simp only [Xf] at h
    subst h
    exact fun w lim u hr=>VJ (fun h=>by cases h) hr
   ·cases h
 ·simp only [Xf] at h
  subst h
  exact fun _ _ _ h=>h
theorem Zo1 {n:Nat} {s:Sh} {c c':SC} (h:Zm6 s c=Xa c') (hb:c.bd n):c'.bd n:=by
 unfold Zm6 at h
 split at h
 ·split at h
  ·simp only [Xf] at h
   subst h
   exact hb
  ·split at h
   ·simp only [Xf] at h
    subst h
    trivial
   ·cases h
 ·simp only [Xf] at h
  subst h
  exact hb
theorem Vk {n:Nat} : ∀ (l:List Sh) (cs cs':List SC),Km l cs=Xa cs'→(∀ c∈cs,c.bd n)→∀ c∈cs',c.bd n
 | [], [], _, h, _ => by simp only [Km, Xf] at h; subst h; simp
 | [], _ :: _, _, h, _ => by simp [Km] at h
 | _ :: _, [], _, h, _ => by simp [Km] at h
 | s :: ss, c :: cs, r, h, hb => by
  simp only [Km] at h
  split at h
  ·rename_i v vs hv hvs
   simp only [Xf] at h
   subst h
   intro x hx
   rcases Xl.1 hx with rfl | hx
   ·exact Zo1 hv (hb c (by simp))
   ·exact Vk ss cs vs hvs (fun y hy=>hb y (by simp [hy])) x hx
  ·cases h
theorem ZgK (ρ:Nat→V):∀ (l:List Sh) (cs cs':List SC),Km l cs=Xa cs'→cs'.length=cs.length∧∀ (i:Nat) (c:SC),cs'[i]? = Xa c→∃ c0,cs[i]? = Xa c0∧∀ (w:World) (lim:Lm) (u:Value),Rep w lim (c0.den ρ) u→Rep w lim (c.den ρ) u
 | [], [], _, h => by simp only [Km, Xf] at h; subst h; exact ⟨rfl, by simp⟩
 | [], _ :: _, _, h => by simp [Km] at h
 | _ :: _, [], _, h => by simp [Km] at h
 | s :: ss, c :: cs, r, h => by
  simp only [Km] at h
  split at h
  ·rename_i v vs hv hvs
   simp only [Xf] at h
   subst h
   obtain ⟨h1,h2⟩:=ZgK ρ ss cs vs hvs
   refine ⟨by simp [h1],fun i x hx=>?_⟩
   cases i with
   | zero =>
    simp only [XB,Xf] at hx
    subst hx
    exact ⟨c,rfl,ZpR ρ hv⟩
   | succ i => exact h2 i x (by simpa using hx)
  ·cases h
theorem Wt (ρ:Nat→V) (l:List Sh) (cs cs':List SC) (h:Km l cs=Xa cs'):(cs'.map (SC.den ρ)).length=(cs.map (SC.den ρ)).length∧
  ∀ (w:World) (lim:Lm) (us:List Value),JJ w lim (cs.map (SC.den ρ)) us→JJ w lim (cs'.map (SC.den ρ)) us:=by
 obtain ⟨h1,h2⟩:=ZgK ρ l cs cs' h
 refine ⟨by simp [h1],fun w lim us hr=>⟨by rw [← hr.1];simp [h1],fun x hx=>?_,fun i x u hx hu=>?_⟩⟩
 ·obtain ⟨y,_,rfl⟩:=Xj.1 hx
  exact J5 ρ y
 ·rw [Xk] at hx
  cases hc:cs'[i]? with
  | none => rw [hc] at hx; cases hx
  | some c =>
   rw [hc] at hx
   simp only [Xo,Xf] at hx
   subst hx
   obtain ⟨c0,g1,g2⟩:=h2 i c hc
   exact g2 w lim u (hr.2.2 i _ u (by rw [Xk,g1];rfl) hu)
theorem Zi0 (ρ:Nat→V) (s:Sh) (c:SC):(∀ n,c.bd n→(Zr0 s c).bd n)∧((c.den ρ).isCell=Xb→((Zr0 s c).den ρ).isCell=Xb)∧∀ (w:World) (lim:Lm) (u:Value),Rep w lim (c.den ρ) u→Rep w lim ((Zr0 s c).den ρ) u:=by
 unfold Zr0
 split
 ·exact ⟨fun _ h=>h,fun _=>rfl,fun w lim u h=>VJ (fun h=>h) h⟩
 ·exact ⟨fun _ h=>h,fun h=>h,fun _ _ _ h=>h⟩
theorem ZiU (ρ:Nat→V):∀ (l:List Sh) (cs:List SC),(Zpz l cs).length=cs.length∧∀ (i:Nat) (c:SC),(Zpz l cs)[i]? = Xa c→∃ c0 s,cs[i]? = Xa c0∧(c=c0∨c=Zr0 s c0)
 | [], cs => by cases cs <;> exact ⟨rfl, fun i c h => ⟨c, .bool, h, .inl rfl⟩⟩
 | s :: ss, [] => ⟨rfl, fun i c h => by simp [Zpz] at h⟩
 | s :: ss, c :: cs => by
  obtain ⟨h1,h2⟩:=ZiU ρ ss cs
  refine ⟨by simp [Zpz,h1],fun i x hx=>?_⟩
  cases i with
  | zero =>
   simp only [Zpz,XB,Xf] at hx
   exact ⟨c,s,rfl,.inr hx.symm⟩
  | succ i => exact h2 i x (by simpa [Zpz] using hx)
theorem Zsn {n:Nat} (P:Program) (T:TypeId) {vc:List SC} (h:∀ c∈vc,c.bd n):∀ c∈nrm P T vc,c.bd n:=by
 unfold nrm
 split
 ·rename_i sh _
  intro c hc
  obtain ⟨i,hi⟩:=XK.1 hc
  obtain ⟨c0,s,h0,e | e⟩:=(ZiU (fun _=>.i 0) sh vc).2 i c hi
  ·rw [e];exact h c0 (Xh h0)
  ·rw [e];exact (Zi0 (fun _=>.i 0) s c0).1 n (h c0 (Xh h0))
 ·exact h
theorem Zst (ρ:Nat→V) (P:Program) (T:TypeId) (vc:List SC):((nrm P T vc).map (SC.den ρ)).length=(vc.map (SC.den ρ)).length∧
  ∀ (w:World) (lim:Lm) (us:List Value),JJ w lim (vc.map (SC.den ρ)) us→JJ w lim ((nrm P T vc).map (SC.den ρ)) us:=by
 unfold nrm
 split
 ·rename_i sh _
  obtain ⟨h1,h2⟩:=ZiU ρ sh vc
  have hat:∀ (i:Nat) (x:AV),((Zpz sh vc).map (SC.den ρ))[i]? = Xa x→∃ x0,(vc.map (SC.den ρ))[i]? = Xa x0∧(x0.isCell=Xb→x.isCell=Xb)∧∀ (w:World) (lim:Lm) (u:Value),Rep w lim x0 u→Rep w lim x u:=by
   intro i x hx
   rw [Xk] at hx
   obtain ⟨c,hc,rfl⟩:=XU.1 hx
   obtain ⟨c0,s,h0,e | e⟩:=h2 i c hc
   ·subst e
    exact ⟨_,by rw [Xk,h0];rfl,fun h=>h,fun _ _ _ h=>h⟩
   ·subst e
    exact ⟨_,by rw [Xk,h0];rfl,(Zi0 ρ s c0).2.1,(Zi0 ρ s c0).2.2⟩
  refine ⟨by simp [h1],fun w lim us hr=>⟨by rw [← hr.1];simp [h1],fun x hx=>?_,fun i x u hx hu=>?_⟩⟩
  ·obtain ⟨i,hi⟩:=XK.1 hx
   obtain ⟨x0,h0,h3,_⟩:=hat i x hi
   exact h3 (hr.2.1 x0 (Xh h0))
  ·obtain ⟨x0,h0,_,h4⟩:=hat i x hx
   exact h4 w lim u (hr.2.2 i x0 u h0 hu)
 ·exact ⟨rfl,fun _ _ _ h=>h⟩
theorem ZiF (o:BC) (x:SC):ZpP o x = .c x∨∃ e s,ZpP o x = .own Xb e .nil∧x = .slice Xb s .nil:=by
 unfold ZpP
 split
 ·exact .inr ⟨_,_,rfl,rfl⟩
 ·exact .inl rfl
theorem Zff:∀ (os:List BC) (xs:List SC),(Kp os xs).length=xs.length
 | [], xs => by simp [Kp]
 | _ :: _, [] => rfl
 | _ :: os, _ :: xs => by simp [Kp, Zff os xs]
theorem ZaU:∀ (os:List BC) (xs:List SC) (i:Nat) (y:BC),(Kp os xs)[i]? = Xa y→∃ x,xs[i]? = Xa x∧(y = .c x∨∃ e s,y = .own Xb e .nil∧x = .slice Xb s .nil)
 | [], xs, i, y, h => by
  simp only [Kp,Xk] at h
  obtain ⟨x,hx,rfl⟩:=XU.1 h
  exact ⟨x,hx,.inl rfl⟩
 | _ :: _, [], i, y, h => by simp [Kp] at h
 | o :: _, x :: _, 0, y, h => by
  simp only [Kp,XB,Xf] at h
  subst h
  exact ⟨x,rfl,ZiF o x⟩
 | o :: os, x :: xs, i + 1, y, h => by
  simp only [Kp,X5] at h
  obtain ⟨x',h1,h2⟩:=ZaU os xs i y h
  exact ⟨x',by simpa using h1,h2⟩
theorem Zn5 {n:Nat} (os:List BC) (xs:List SC) (h:∀ c∈xs,c.bd n):∀ c∈Kp os xs,c.bd n:=by
 intro c hc
 obtain ⟨i,hi⟩:=XK.1 hc
 obtain ⟨x,h1,rfl | ⟨e,s,rfl,rfl⟩⟩:=ZaU os xs i c hi
 ·exact h x (Xh h1)
 ·trivial
theorem ZrD {P:Program} (ρ:Nat→V) (os:List BC) {vc0:List AV} {xs:List SC}
  (h:(xs.map (SC.den ρ)).length=vc0.length∧∀ (w:World) (lim:Lm) (us:List Value),JJ w lim vc0 us→JJ w lim (xs.map (SC.den ρ)) us) :
  ((Kp os xs).map (BC.den ρ)).length=vc0.length∧∀ (w:World) (lim:Lm) (us:List Value),JJ w lim vc0 us→
   (∀ z∈(Kp os xs).map (BC.den ρ),ZbP z)∧∀ (j:Nat) (z:AV) (u:Value),((Kp os xs).map (BC.den ρ))[j]? = Xa z→us[j]? = Xa u→J8 P w lim Xe z u:=by
 refine ⟨by rw [Xq,Zff,← h.1,Xq],fun w lim us hr=>?_⟩
 have hr:=h.2 w lim us hr
 refine ⟨fun z hz=>?_,fun j z u hz hu=>?_⟩
 ·obtain ⟨y,hy,rfl⟩:=Xj.1 hz
  obtain ⟨i,hi⟩:=XK.1 hy
  obtain ⟨x,h1,rfl | ⟨e,s,rfl,rfl⟩⟩:=ZaU os xs i y hi
  ·exact .inl (hr.2.1 _ (Xj.2 ⟨x,Xh h1,rfl⟩))
  ·exact .inr (.inl ⟨_,_,_,rfl⟩)
 ·rw [Xk] at hz
  obtain ⟨y,hy,rfl⟩:=XU.1 hz
  obtain ⟨x,h1,he⟩:=ZaU os xs j y hy
  have hx:(xs.map (SC.den ρ))[j]? = Xa (x.den ρ):=by rw [Xk,h1];rfl
  have hc:=hr.2.1 _ (Xh hx)
  have hrep:=hr.2.2 j _ u hx hu
  rcases he with rfl | ⟨e,s,rfl,rfl⟩
  ·show J8 P w lim Xe (x.den ρ) u
   cases hxd:x.den ρ<;>rw [hxd] at hc hrep<;>simp [AV.isCell] at hc<;>exact hrep
  ·exact WJ (s:=s) hrep
theorem ZiB {g:Nat→SV} {len:Nat} {ps:List (Nat×Operand)} {t:Nat} {cs:List BC} (h:Zf3 g len ps=Xa (t,cs)):len=1∧ps = [(0,.tmp t)]∧g t = .aggo cs:=by
 unfold Zf3 at h
 split at h
 ·rename_i t'
  split at h
  ·rename_i cs' hc
   simp only [Xf,Xn] at h
   obtain ⟨rfl,rfl⟩:=h
   exact ⟨rfl,rfl,hc⟩
  ·cases h
 ·cases h
theorem Zpd {c:BC} (ρ:Nat→V) (h:Zmp P c=Xb):ZoO P (c.den ρ):=by
 cases c with
 | c x =>
  cases x with
  | cel p => exact Y5 (Q := fun z => ZoO P z) _ (fun _ _ => .inl ⟨rfl, rfl⟩) (fun _ _ _ => .inl ⟨rfl, rfl⟩) (fun _ => .inl ⟨rfl, rfl⟩) (fun _ _ => .inl ⟨rfl, rfl⟩)
  | _ => exact .inl ⟨rfl, rfl⟩
 | own x e l =>
  cases x with
  | true => exact .inr ⟨e, _, rfl, by simpa [Zmp] using h⟩
  | false => cases h
 | gone => cases h
theorem Zd6 (ρ:Nat→V):∀ (cs:List BC) (pre:List AV) (l:LE),(∀ c∈cs,Zmp P c=Xb)→l.den ρ = [pre++(cs.map (Zk4 P)).map (SC.den ρ)]→(Zix P cs pre.length l).den ρ = [pre++(cs.map (BC.den ρ)).map (ZlK P)]
 | [], pre, l, _, h => by show l.den ρ = _; simpa using h
 | c :: cs, pre, l, hok, h => by
  have hc:=hok c (by simp)
  have hcs:=fun c' h'=>hok c' (We c h')
  cases c with
  | c x =>
   have ih:=Zd6 ρ cs (pre++[x.den ρ]) l hcs (by rw [h];simp [Zk4])
   rw [XA,UQ] at ih
   show (Zix P cs (pre.length+1) l).den ρ=_
   rw [ih]
   have:ZlK P (x.den ρ)=x.den ρ:=by
    cases x with
    | cel p => exact Y5 (Q := fun z => ZlK P z = z) _ (fun _ _ => rfl) (fun _ _ _ => rfl) (fun _ => rfl) (fun _ _ => rfl)
    | _ => rfl
   simp [BC.den,this]
  | own x e ys =>
   cases x with
   | false => cases hc
   | true =>
    have ih:=Zd6 ρ cs (pre++[.nest (P.cellsOf e) Xb e (ys.den ρ)]) (.fn (.dput pre.length (P.cellsOf e) Xb e) l (.lit 0) ys .nil) hcs (by
     show lop (.dput pre.length (P.cellsOf e) Xb e) (l.den ρ) 0 (ys.den ρ) []=_
     rw [h]
     simp [lop,Ztw,ZC,setCells,Zk4])
    rw [XA,UQ] at ih
    show (Zix P cs (pre.length+1) _).den ρ=_
    rw [ih]
    simp [BC.den,ZlK]
  | gone => cases hc
theorem Zpo (ρ:Nat→V) (cs:List BC) (h:∀ c∈cs,Zmp P c=Xb):(Ztt P cs).den ρ = [(cs.map (BC.den ρ)).map (ZlK P)]:=by
 have:=Zd6 ρ cs [] (.snoc .nil (Zaj (cs.map (Zk4 P)))) h (by
  show ([] : List (List AV))++[(Zaj (cs.map (Zk4 P))).den ρ]=_
  rw [Yh];simp)
 simpa [Ztt] using this
theorem ZcH {n:Nat} : ∀ (cs:List BC) (j:Nat) (l:LE),(∀ c∈cs,c.bd n)→l.bd n→(Zix P cs j l).bd n
 | [], _, _, _, h => h
 | .c x :: cs, j, l, hb, h => ZcH cs (j + 1) l (fun c hc => hb c (We _ hc)) h
 | .gone :: cs, j, l, hb, h => ZcH cs (j + 1) l (fun c hc => hb c (We _ hc)) h
 | .own x e ys :: cs, j, l, hb, h => ZcH cs (j + 1) _ (fun c hc => hb c (We _ hc)) ⟨h, trivial, hb (.own x e ys) (by simp), trivial⟩
theorem Zfz {T:TypeId} {len:Nat} {parts:Array (Nat×Operand)} (hg:∀ d,(g d).bd n) (ho:o.op = .buildSlice T len parts) (h:(Yq P E tx tk g o n k).wp P R A ρ):YN tx P R A ρ g o n k:=by
 simp only [Yq,ho] at h
 split at h
 ·rename_i t cs hap
  obtain ⟨rfl,hps,hgt⟩:=ZiB hap
  unfold ZgO at h
  split at h
  case h_2=>exact h.elim
  rename_i e hT
  split at h
  case h_2=>exact h.elim
  rename_i i hi
  split at h
  case h_2=>exact h.elim
  rename_i z hz
  split at h
  case isFalse=>exact h.elim
  rename_i hh
  obtain ⟨⟨h1,h2,h3⟩,⟨h4,h5⟩,h6,h7⟩:=hh
  rw [XE] at h7
  have hb:∀ c∈cs,c.bd n:=by have:=hg t;rw [hgt] at this;exact this
  refine W0 h (ZcH cs 0 _ hb ⟨trivial,Ka _ fun c hc=>?_⟩) (us1 trivial) ?_
  ·obtain ⟨c0,hc0,rfl⟩:=Xj.1 hc
   have:=hb c0 hc0
   cases c0 with
   | c x => exact this
   | own x e ys => trivial
   | gone => trivial
  ·have:=Zc7 (P:=P) (o:=o) (σ:=fun d=>(g d).den ρ) (cs:=cs.map (BC.den ρ)) ho hps hT hi hz h1 h2 h3 h4 h5 (show (g t).den ρ=_ by rw [hgt];rfl) (by rw [Xq];exact h6) (fun c hc=>by
    obtain ⟨c0,hc0,rfl⟩:=Xj.1 hc
    exact Zpd ρ (h7 c0 hc0))
   rw [← Zpo ρ cs h7] at this
   exact this
 split at h
 ·rename_i e hT
  split at h
  ·rename_i i hi
   split at h
   ·rename_i z hz
    split at h
    ·rename_i zc hzc
     split at h
     ·rename_i hh
      split at h
      ·rename_i cs sh hcs hsh
       split at h
       ·rename_i cs' hcs'
        have hb:∀ c∈cs,c.bd n:=Zcp _ _ _ _ (fun c hc=>by
         obtain ⟨l,hl,hc⟩:=Uw.1 hc
         rw [(Wd.1 hl).2] at hc
         exact KR hzc c hc) (ZjV hg parts) hcs
        refine Z2 h (x:=.own _ e _) (Zqy _ _ (Vk _ _ _ hcs' hb) _) ?_
        have h1:=YV ρ z.cells.toList
        rw [hzc] at h1
        have h2:=Zbd ρ _ _ _ _ hcs
        rw [← Zhn,List.map_flatten,List.map_replicate] at h2
        have:=Zd4 (E.exO o) ho hT hi hz h1.symm hh.1 hh.2.1 hh.2.2.1 hh.2.2.2 h2 (Wt ρ _ _ _ hcs')
        rw [← Zoi] at this
        exact this
       ·exact h.elim
      ·exact h.elim
     ·exact h.elim
    ·exact h.elim
   ·exact h.elim
  ·exact h.elim
 ·exact h.elim
theorem Zkf (ρ:Nat→V) (x:SC):YI P (x.den ρ)=x.den ρ:=by
 cases x with
 | cel p => exact Y5 (Q := fun z => YI P z = z) _ (fun _ _ => rfl) (fun _ _ _ => rfl) (fun _ => rfl) (fun _ _ => rfl)
 | _ => rfl
theorem Zhk {a:Operand} {p:Nat×Nat×TypeId×LE×IE×Nat×Nat} (h:ZeO P g a=Xa p):∃ d q e l i s off,p=(d,q,e,l,i,s,off)∧Z8 P g a = .eref d q i s off∧Ja (g d) q=Xa (e,l)∧Ze P e=Xb:=by
 unfold ZeO at h
 split at h
 ·rename_i d q i s off ha
  split at h
  ·rename_i e l hp
   split at h
   ·rename_i hd
    simp only [Xf] at h
    exact ⟨d,q,e,l,i,s,off,h.symm,ha,hp,hd⟩
   ·cases h
  ·cases h
 ·cases h
theorem Kl:∀ (l:List Sh) (n:Nat),(Zv l n).length=l.length
 | [], _ => rfl
 | s :: l, n => by simp only [Zv, XJ, Kl l]
theorem ZjZ {xs:List (List AV)} {i off m:Nat} {c:List AV} (h:(ZtQ (ZlG xs i off m) off m)[i]? = Xa c) (hc:c.length=m):∃ row,xs[i]? = Xa row∧c=((row.drop off).take m).map Zcf∧(0 < m→off+m≤row.length):=by
 unfold ZtQ ZlG at h
 rw [Xk,Uy] at h
 cases hr:xs[i]? with
 | none => rw [hr] at h; cases h
 | some row =>
  rw [hr] at h
  simp only [Option.map_eq_map,Xo,Xf,↓reduceIte] at h
  refine ⟨row,rfl,?_,?_⟩
  ·rcases Xx off row.length with hlt | hge
   ·have hl:(row.take off).length=off:=by rw [XQ];omega
    rw [Xu,List.drop_append_of_le_length (by omega),Ut (by omega),XX] at h
    have hm:(List.map Zcf (List.take m (List.drop off row))).length≤m:=by simp;omega
    rcases Xx (row.length-off) m with h1 | h1
    ·have hd:row.drop (off+m) = []:=Ut (by omega)
     rw [hd,Wc] at h
     rw [← h,Um hm]
    ·have hm':(List.map Zcf (List.take m (List.drop off row))).length=m:=by simp;omega
     rw [List.take_append_of_le_length (by omega),Um (by omega)] at h
     exact h.symm
   ·have hd:row.drop off = []:=Ut hge
    rw [hd,List.take_nil,Xz,Wc,Um hge,Ut (show row.length≤off+m by omega),Wc,hd,List.take_nil] at h
    rw [← h,hd,List.take_nil,Xz]
  ·intro hm
   rw [← h] at hc
   simp only [XQ,Ue,XA,Xq] at hc
   omega
theorem ZeN {T:TypeId} {a:Operand} {agg:Bool} {d q:Nat} {e:TypeId} {l:LE} {i:IE} {off:Nat} (hg:∀ d,(g d).bd n) (ho:o.op = .load T a) (ha:Z8 P g a = .eref d q i (P.cellsOf (bT e)) off) (hp:Ja (g d) q=Xa (e,l)) (hdp:Ze P e=Xb) (hfit:off+P.cellsOf T≤P.cellsOf (bT e)) (h0:0 < P.cellsOf T)
  (hng:(g d).isG=Xc) (hT:ZS P T=Xa agg) (h:(Zgb P g T agg d q e l i off n k).wp P R A ρ):YN tx P R A ρ g o n k:=by
 unfold Zgb at h
 split at h
 case h_2=>exact h.elim
 rename_i sh hsh
 split at h
 case isFalse=>exact h.elim
 rename_i hl
 obtain ⟨hl,hag⟩:=hl
 obtain ⟨vs,w1,w2,w3⟩:=h
 have hbl:=Jy hp (hg d)
 have hbi:=Zz (P:=P) hg a
 rw [ha] at hbi
 have hbi:i.bd n:=hbi
 obtain ⟨row,r1,r2,r3⟩:=ZjZ w2 (by rw [Xq,Kl,hl])
 have r3:=r3 h0
 have hat:=ZN ρ hp
 have hbd:=Jr sh n
 have hle:n≤n+sh.length:=XR _ _
 have hld:∀ x:LE,x.bd n→x.den (bind ρ n vs)=x.den ρ:=fun x hx=>LE.den_congr (Yx ρ n vs) x hx
 have hlb:(LE.fn (.dfz1 off (P.cellsOf T)) l i .nil .nil).bd n:=⟨hbl,hbi,trivial,trivial⟩
 have hup:((Z5 (g d) q Xb e (.fn (.dfz1 off (P.cellsOf T)) l i .nil .nil)).den (bind ρ n vs))=Zm ((g d).den ρ) q Xb e (ZlG (l.den ρ) (i.den ρ).toNat off (P.cellsOf T)):=by
  rw [Jv,SV.den_congr (Yx ρ n vs) (g d) (hg d),hld _ hlb]
  rfl
 refine ⟨bind ρ n vs,n+sh.length,_,_,[d],hle,Yx ρ n vs,?_,?_,w3,?_⟩
 ·cases agg with
  | true => exact hbd
  | false =>
   show SV.bd _ (match Zv sh n with | [x]=>.c x | _=>.dead)
   split
   ·rename_i x hx;exact hbd x (by rw [hx];simp)
   ·trivial
 ·intro u hu
  rw [XC] at hu
  subst hu
  exact SV.bd_mono hle _ (JK (hg d) hlb)
 ·rw [Xg,Xz]
  refine Yz.s ?_
  show Yz tx P o _ _ [(d,(Z5 (g d) q Xb e (.fn (.dfz1 off (P.cellsOf T)) l i .nil .nil)).den (bind ρ n vs))] [d]
  rw [hup]
  cases agg with
  | true =>
   have:=ZaV ho hT (Zd ρ ha) (show Zp ((fun d=>(g d).den ρ) d) q=_ from hat) (Ks ρ hng) r1 hfit hdp
   rw [← r2] at this
   exact this.t
  | false =>
   have hl1:sh.length=1:=by rcases hag with h | h;cases h;exact h
   obtain ⟨s1,rfl⟩:=UF.1 hl1
   have hT1:P.cellsOf T=1:=by rw [← hl];rfl
   rw [hT1] at r2 r3 hfit ⊢
   obtain ⟨x,hx⟩:∃ x,row[off]? = Xa x:=⟨row[off]'(by omega),Xp (by omega)⟩
   have e1:(row.drop off).take 1 = [x]:=by rw [List.take_one,List.head?_drop,hx];rfl
   rw [e1] at r2
   have:=Zar ho hT (Zd ρ ha) (show Zp ((fun d=>(g d).den ρ) d) q=_ from hat) (Ks ρ hng) r1 hx hfit hdp
   simp only [Zv,Xg,Xz,List.cons.injEq,and_true] at r2
   rw [← r2] at this
   exact this.t
theorem Zh1 {xs:List (List AV)} {i:Int} {o' s:Nat} {e:TypeId} (h:qop (.nst o' s e) xs i=Xb):∃ row ys,xs[i.toNat]? = Xa row∧row[o']? = Xa (.nest s Xb e ys)∧Zqg xs i.toNat o'=ys:=by
 simp only [qop] at h
 cases hr:xs[i.toNat]? with
 | none => rw [hr] at h; cases h
 | some row =>
  rw [hr] at h
  simp only [XM] at h
  split at h
  ·rename_i s' e' ys hz
   simp only [Xs,beq_iff_eq] at h
   obtain ⟨rfl,rfl⟩:=h
   exact ⟨row,ys,rfl,hz,by simp only [Zqg,hr,XM,hz]⟩
  ·cases h
theorem VD {l:LE} {i:IE} : ∀ (cs:List BC) (j:Nat) {t:STree},(Zcq P l i cs j t).wp P R A ρ→t.wp P R A ρ∧∀ (k:Nat) (x:Bool) (e:TypeId) (v:LE),cs[k]? = Xa (.own x e v)→qop (.nst (j+k) (P.cellsOf e) e) (l.den ρ) (i.den ρ)=Xb
 | [], j, t, h => ⟨h, fun k x e v hk => by simp at hk⟩
 | .own x e v :: cs, j, t, h => by
  obtain ⟨h1,h2⟩:=h
  obtain ⟨g1,g2⟩:=VD cs (j+1) h2
  refine ⟨g1,fun k x' e' v' hk=>?_⟩
  cases k with
  | zero =>
   simp only [XB,Xf,BC.own.injEq] at hk
   obtain ⟨_,rfl,_⟩:=hk
   exact h1
  | succ k => rw [show j + (k + 1) = j + 1 + k by omega]; exact g2 k x' e' v' (by simpa using hk)
 | .c _ :: cs, j, t, h => by
  obtain ⟨g1,g2⟩:=VD cs (j+1) h
  refine ⟨g1,fun k x' e' v' hk=>?_⟩
  cases k with
  | zero => simp at hk
  | succ k => rw [show j + (k + 1) = j + 1 + k by omega]; exact g2 k x' e' v' (by simpa using hk)
 | .gone :: cs, j, t, h => by
  obtain ⟨g1,g2⟩:=VD cs (j+1) h
  refine ⟨g1,fun k x' e' v' hk=>?_⟩
  cases k with
  | zero => simp at hk
  | succ k => rw [show j + (k + 1) = j + 1 + k by omega]; exact g2 k x' e' v' (by simpa using hk)
theorem Zq9 {z:AV} {v:Value} (h:AV.val v=Zcf z):Znu z = .val v∧Zs4 z=Xb:=by
 unfold Zcf at h
 split at h
 ·cases h
 ·subst h;exact ⟨rfl,rfl⟩
theorem Za0:∀ (sh:List Sh) (es:List (Option TypeId)) (n:Nat) (cs:List BC),Z1 P sh es n=Xa cs→cs.length=sh.length
 | [], es, n, cs, h => by
  simp only [Z1,Xf] at h
  subst h;rfl
 | s :: ss, es, n, cs, h => by
  have other:∀ r,Z1 P ss es.tail (n+1)=Xa r→∀ c:BC,cs=c::r→cs.length=(s::ss).length:=fun r hr c hcs=>by
   subst hcs
   rw [XJ,XJ,Za0 ss es.tail (n+1) r hr]
  cases s with
  | slice s =>
   simp only [Z1] at h
   split at h
   ·rename_i e r he hr2
    split at h
    ·simp only [Xf] at h
     exact other r hr2 _ h.symm
    ·cases h
   ·cases h
  | own x e => simp [Z1] at h
  | cel => simp [Z1] at h
  | int k => simp only [Z1] at h; obtain ⟨r, h1, h2⟩ := XU.1 h; exact other r h1 _ h2.symm
  | bool => simp only [Z1] at h; obtain ⟨r, h1, h2⟩ := XU.1 h; exact other r h1 _ h2.symm
  | str => simp only [Z1] at h; obtain ⟨r, h1, h2⟩ := XU.1 h; exact other r h1 _ h2.symm
theorem Wr:∀ (sh:List Sh) (es:List (Option TypeId)) (n:Nat) (cs:List BC) (row:List AV),Z1 P sh es n=Xa cs→(Zv sh n).map (SC.den ρ)=row.map Zcf→
  (∀ (k:Nat) (x:Bool) (e:TypeId) (v:LE),cs[k]? = Xa (.own x e v)→∃ ys,row[k]? = Xa (.nest (P.cellsOf e) Xb e ys))→cs.map (BC.den ρ)=row.map Znu∧(∀ z∈row,Zs4 z=Xb)∧∀ c∈cs,c.bd (n+sh.length)
 | [], es, n, cs, row, h, hr, _ => by
  simp only [Z1,Xf] at h
  subst h
  have:row = []:=by
   cases row with
   | nil => rfl
   | cons z r => simp [Zv] at hr
  subst this
  exact ⟨rfl,by simp,by simp⟩
 | s :: ss, es, n, cs, row, h, hr, hn => by
  obtain ⟨z,row',rfl⟩:∃ z row',row=z::row':=by
   cases row with
   | nil => simp [Zv] at hr
   | cons z r => exact ⟨z, r, rfl⟩
  simp only [Zv,Xg,List.cons.injEq] at hr
  obtain ⟨hz,hr⟩:=hr
  have other:∀ r,Z1 P ss es.tail (n+1)=Xa r→cs = .c (Ji s n)::r→(∃ v,(Ji s n).den ρ = .val v)→(Ji s n).bd (n+1)→
    cs.map (BC.den ρ)=(z::row').map Znu∧(∀ z'∈z::row',Zs4 z'=Xb)∧∀ c∈cs,c.bd (n+(s::ss).length):=fun r hr2 hcs ⟨v,hv⟩ hb=>by
   subst hcs
   obtain ⟨g1,g2,g3⟩:=Wr ss es.tail (n+1) r row' hr2 hr fun k x e v hk=>by simpa using hn (k+1) x e v (by simpa using hk)
   obtain ⟨q1,q2⟩:=Zq9 (hv.symm.trans hz)
   refine ⟨?_,?_,fun c hc=>?_⟩
   ·simp only [Xg,g1,q1,BC.den,hv]
   ·intro z' hz'
    rcases Xl.1 hz' with rfl | hz'
    ·exact q2
    ·exact g2 z' hz'
   ·rcases Xl.1 hc with rfl | hc
    ·exact SC.bd_mono (by simp) _ hb
    ·have:=g3 c hc
     rw [XJ,show n+(ss.length+1)=n+1+ss.length by omega]
     exact this
  cases s with
  | slice s =>
   simp only [Z1] at h
   split at h
   ·rename_i e r he hr2
    split at h
    ·rename_i hs
     simp only [Xf] at h
     subst h
     obtain ⟨ys,hys⟩:=hn 0 Xb e (.var n) rfl
     simp only [XB,Xf] at hys
     subst hys
     obtain ⟨g1,g2,g3⟩:=Wr ss es.tail (n+1) r row' hr2 hr fun k x e v hk=>by simpa using hn (k+1) x e v (by simpa using hk)
     refine ⟨?_,?_,fun c hc=>?_⟩
     ·simp only [Xg,g1]
      have hz':AV.slice Xc s ((ρ n).list) = .slice Xc (P.cellsOf e) ys:=hz
      cases hz'
      rfl
     ·intro z' hz'
      rcases Xl.1 hz' with rfl | hz'
      ·rfl
      ·exact g2 z' hz'
     ·rcases Xl.1 hc with rfl | hc
      ·show n < n+(ss.length+1)
       omega
      ·have:=g3 c hc
       rw [XJ,show n+(ss.length+1)=n+1+ss.length by omega]
       exact this
    ·cases h
   ·cases h
  | own x e => simp [Z1] at h
  | cel => simp [Z1] at h
  | int k =>
   simp only [Z1] at h
   obtain ⟨r,h1,h2⟩:=XU.1 h
   exact other r h1 h2.symm ⟨_,rfl⟩ (Wp n)
  | bool =>
   simp only [Z1] at h
   obtain ⟨r,h1,h2⟩:=XU.1 h
   exact other r h1 h2.symm ⟨_,rfl⟩ (Wp n)
  | str =>
   simp only [Z1] at h
   obtain ⟨r,h1,h2⟩:=XU.1 h
   exact other r h1 h2.symm ⟨_,rfl⟩ (Wp n)
theorem Zjl {T:TypeId} {a:Operand} {d q:Nat} {e:TypeId} {l:LE} {i:IE} (hg:∀ d,(g d).bd n) (ho:o.op = .load T a) (ha:Z8 P g a = .eref d q i (P.cellsOf (bT e)) 0) (hp:Ja (g d) q=Xa (e,l)) (hdp:Ze P e=Xb) (h0:0 < P.cellsOf T)
  (hng:(g d).isG=Xc) (hT:ZS P T=Xa Xb) (h:(Zgd P g T d q e l i n k).wp P R A ρ):YN tx P R A ρ g o n k:=by
 unfold Zgd at h
 split at h
 case h_2=>exact h.elim
 rename_i sh hsh
 split at h
 case h_2=>exact h.elim
 rename_i cs hcs
 split at h
 case isFalse=>exact h.elim
 rename_i hl
 obtain ⟨hl,hTe⟩:=hl
 obtain ⟨h,hnq⟩:=VD cs 0 h
 obtain ⟨vs,w1,w2,w3⟩:=h
 have hbl:=Jy hp (hg d)
 have hbi:=Zz (P:=P) hg a
 rw [ha] at hbi
 have hbi:i.bd n:=hbi
 obtain ⟨row,r1,r2,r3⟩:=ZjZ w2 (by rw [Xq,Kl,hl])
 have hat:=ZN ρ hp
 have hle:n≤n+sh.length:=XR _ _
 have hld:∀ x:LE,x.bd n→x.den (bind ρ n vs)=x.den ρ:=fun x hx=>LE.den_congr (Yx ρ n vs) x hx
 have hlb:(LE.fn .dlft l i .nil .nil).bd n:=⟨hbl,hbi,trivial,trivial⟩
 have hup:((Z5 (g d) q Xb e (.fn .dlft l i .nil .nil)).den (bind ρ n vs))=Zm ((g d).den ρ) q Xb e (Ztl (l.den ρ) (i.den ρ).toNat):=by
  rw [Jv,SV.den_congr (Yx ρ n vs) (g d) (hg d),hld _ hlb]
  rfl
 obtain ⟨k1,k2,k3⟩:=Wr (ρ:=bind ρ n vs) sh (Ym P 8 T) n cs (row.take (P.cellsOf T)) hcs (by rw [r2,UH]) fun k x e' v hk=>by
  obtain ⟨row2,ys,m1,m2,_⟩:=Zh1 (hnq k x e' v hk)
  rw [r1] at m1
  cases m1
  rw [XF] at m2
  have hk2:k < cs.length:=(Xi.1 hk).1
  rw [Za0 sh _ _ _ hcs,hl] at hk2
  exact ⟨ys,by rw [Xw,if_pos hk2];exact m2⟩
 refine ⟨bind ρ n vs,n+sh.length,.aggo cs,_,[d],hle,Yx ρ n vs,k3,?_,w3,?_⟩
 ·intro u hu
  rw [XC] at hu
  subst hu
  exact SV.bd_mono hle _ (JK (hg d) hlb)
 ·rw [Xg,Xz]
  refine Yz.s ?_
  show Yz tx P o _ (.aggo (cs.map (BC.den (bind ρ n vs)))) [(d,(Z5 (g d) q Xb e (.fn .dlft l i .nil .nil)).den (bind ρ n vs))] [d]
  rw [hup,k1]
  have:=W4 ho hT (Zd ρ ha) (show Zp ((fun d=>(g d).den ρ) d) q=_ from hat) (Ks ρ hng) r1 hTe hdp k2
  rw [Zpt r1]
  exact this.t
theorem Zit {T:TypeId} {a:Operand} {all:Bool} {p:Nat×Nat×TypeId×LE×IE×Nat×Nat} (hg:∀ d,(g d).bd n) (ho:o.op = .load T a) (hp:ZeO P g a=Xa p) (h:(ZfU P all tk g T p n k).wp P R A ρ):YN tx P R A ρ g o n k:=by
 obtain ⟨d,q,e,l,i,s,off,rfl,ha,hpl,hdp⟩:=Zhk hp
 have hbl:=Jy hpl (hg d)
 have hbi:=Zz (P:=P) hg a
 rw [ha] at hbi
 have hbi:i.bd n:=hbi
 have hat:=ZN ρ hpl
 simp only [ZfU] at h
 split at h
 case isFalse=>exact h.elim
 rename_i hh
 obtain ⟨rfl,hfit,h0,hng⟩:=hh
 split at h
 ·rename_i hT
  split at h
  ·split at h
   ·rename_i hoff
    subst hoff
    exact Zjl hg ho ha hpl hdp h0 hng hT h
   ·exact h.elim
  ·exact ZeN hg ho ha hpl hdp hfit h0 hng hT h
 ·rename_i hT
  split at h
  ·rename_i _ e' hTe
   obtain ⟨q1,q2,h⟩:=h
   obtain ⟨row,ys,m1,m2,m3⟩:=Zh1 q2
   refine W0 h (show LE.bd n _ from ⟨hbl,hbi,trivial,trivial⟩) (us1 (JK (hg d) ⟨hbl,hbi,trivial,trivial⟩)) ?_
   have:=Zek ho hT (Zd ρ ha) (show Zp ((fun d=>(g d).den ρ) d) q=_ from hat) (Ks ρ hng) m1 m2 hdp
   rw [← m3] at this
   rw [Xg,Xz]
   show Jg P o _ _ [(d,(Z5 (g d) q Xb e (.fn (.dput off (P.cellsOf e') Xc e') l i .nil .nil)).den ρ)] [d]
   rw [Jv]
   exact this
  ·exact ZeN hg ho ha hpl hdp hfit h0 hng hT h
 ·exact h.elim
theorem ZmS (ρ:Nat→V) (c:SC):ZlU (c.den ρ)=Xb:=by
 cases c with
 | cel p => exact Y5 (Q := fun z => ZlU z = Xb) _ (fun _ _ => rfl) (fun _ _ _ => rfl) (fun _ => rfl) (fun _ _ => rfl)
 | _ => rfl
theorem Zjw (ρ:Nat→V) (c:SC):Zji (c.den ρ)=c.den ρ:=by
 cases c with
 | cel p => exact Y5 (Q := fun z => Zji z = z) _ (fun _ _ => rfl) (fun _ _ _ => rfl) (fun _ => rfl) (fun _ _ => rfl)
 | _ => rfl
theorem Zh2 {T:TypeId} {a x:Operand} {p:Nat×Nat×TypeId×LE×IE×Nat×Nat} (hg:∀ d,(g d).bd n) (htop:∀ i,E.top≤i→g i = .dead) (ho:o.op = .store T a x) (hp:ZeO P g a=Xa p) (h:(Zdp P E tx g T x p n k).wp P R A ρ):YN tx P R A ρ g o n k:=by
 obtain ⟨d,q,e,l,i,s,off,rfl,ha,hpl,hdp⟩:=Zhk hp
 have hbl:=Jy hpl (hg d)
 have hbi:=Zz (P:=P) hg a
 rw [ha] at hbi
 have hbi:i.bd n:=hbi
 have hat:=ZN ρ hpl
 simp only [Zdp] at h
 split at h
 case isFalse=>exact h.elim
 rename_i hh
 obtain ⟨rfl,hfit,h0,hng⟩:=hh
 split at h
 ·rename_i t e' ys h1 h2
  have hx:x = .tmp t:=by cases x<;>simp [ZK] at h1;rw [h1]
  subst hx
  simp only [ZK,Xo,Xf] at h2
  have ht:=hg t
  rw [h2] at ht
  split at h
  case h_2=>exact h.elim
  rename_i us hus
  split at h
  case isFalse=>exact h.elim
  rename_i hh2
  obtain ⟨hT1,hem,hdt⟩:=hh2
  obtain ⟨r1,r2,h⟩:=h
  have r1':0≤i.den ρ:=r1
  have r2':i.den ρ < ((l.den ρ).length:Int):=r2
  obtain ⟨us',rfl,q1,q2,q3⟩:=J3 ρ htop (t:=t) h2 hus
  have q2:=q2.resolve_left fun h=>by cases h.1
  refine W2 h trivial (fun u hu=>?_) ?_
  ·rcases Xt.1 hu with hu | hu
   ·exact J2 hus ht u hu
   ·rw [XC] at hu
    subst hu
    exact JK (hg d) ⟨hbl,hbi,ht,trivial⟩
  ·have:=ZdE (T':=tx) (ys:=ys.den ρ) ho (Zd ρ ha) (show Zp ((fun d=>(g d).den ρ) d) q=_ from hat) (Ks ρ hng) (show (fun d=>(g d).den ρ) t = .own Xb e' (ys.den ρ) by show (g t).den ρ=_;rw [h2];rfl) hT1 (show (i.den ρ).toNat < _ by omega) (by omega) hdp hem q2 hdt
   rw [XL,q1]
   simp only [Xg,Xz,Jv]
   exact this
 ·split at h
  case h_2=>exact h.elim
  rename_i vc sh hvc hsh
  split at h
  case h_2=>exact h.elim
  rename_i vc' hvc'
  split at h
  case isFalse=>exact h.elim
  rename_i hn
  obtain ⟨r1,r2,h⟩:=h
  have r1':0≤i.den ρ:=r1
  have r2':i.den ρ < ((l.den ρ).length:Int):=r2
  have hbv:=Vk _ _ _ hvc' (Vw hvc (Zz (P:=P) hg x))
  refine W0 h trivial (us1 (JK (hg d) ⟨hbl,hbi,Ka _ hbv⟩)) ?_
  have:=Zdt (vc:=vc.map (SC.den ρ)) (vc':=vc'.map (SC.den ρ)) ho (Zd ρ ha) (show Zp ((fun d=>(g d).den ρ) d) q=_ from hat) (Ks ρ hng) (JV P g ρ x).symm (Ki ρ hvc) (by simpa using hn) (by omega) (show (i.den ρ).toNat < _ by omega) hfit (Wt ρ _ _ _ hvc') (fun z hz=>by obtain ⟨c,_,rfl⟩:=Xj.1 hz;exact ZmS ρ c) hdp
  rw [← Yh] at this
  simp only [Xg,Xz,Jv]
  exact this
theorem Zi1 {T:TypeId} {a:Operand} {fgt:Bool} {d off:Nat} {cs:List BC} (hg:∀ d,(g d).bd n) (htop:∀ i,E.top≤i→g i = .dead) (ho:o.op = .load T a) (hT:ZS P T=Xa Xb) (ha:Z8 P g a = .ptr d off) (hd:g d = .box cs) (h:(Zgt P E tx fgt g T d off cs n k).wp P R A ρ):YN tx P R A ρ g o n k:=by
 unfold Zgt at h
 have hb0:=hg d
 rw [hd] at hb0
 have hb0:∀ c∈cs,c.bd n:=hb0
 have he0:(cs.map ZpC).map (BC.den ρ)=(cs.map (BC.den ρ)).map Zji:=by
  rw [X6,X6]
  refine Wk fun c _=>?_
  cases c with
  | c x => exact (Zjw ρ x).symm
  | own _ _ _ => rfl
  | gone => rfl
 split at h
 ·split at h
  case isFalse=>exact h.elim
  rename_i hh
  obtain ⟨rfl,hl,hw⟩:=hh
  refine Z2 h (fun c hc=>?_) ?_
  ·obtain ⟨y,hy,rfl⟩:=Xj.1 hc
   have:=hb0 y hy
   cases y<;>first | exact this | trivial
  ·have:=Zcn (cs:=cs.map (BC.den ρ)) ho hT (Zd ρ ha) (show (fun d=>(g d).den ρ) d = .box (cs.map (BC.den ρ)) by show (g d).den ρ=_;rw [hd];rfl) (by simpa using hl) (WB hw ρ)
   rw [← he0] at this
   exact this
 split at h
 case h_2=>exact h.elim
 rename_i us hus
 split at h
 case isFalse=>exact h.elim
 rename_i hh
 obtain ⟨rfl,hl,hw⟩:=hh
 obtain ⟨q1,q2⟩:=ZgM ρ htop hus
 have hb:=hg d
 rw [hd] at hb
 have hb:∀ c∈cs,c.bd n:=hb
 refine W2 h hb (fun u hu=>?_) ?_
 ·rcases Xt.1 hu with hu | hu
  ·rw [q1 u hu];trivial
  ·rw [XC] at hu
   subst hu
   intro c hc
   obtain ⟨y,hy,rfl⟩:=Xj.1 hc
   have:=hb y hy
   cases y<;>first | exact this | trivial
 ·have:=Zeu (T':=tx) (cs:=cs.map (BC.den ρ)) ho hT (Zd ρ ha) (show (fun d=>(g d).den ρ) d = .box (cs.map (BC.den ρ)) by show (g d).den ρ=_;rw [hd];rfl) (by simpa using hl) (WB hw ρ) q2
  rw [XL]
  have he:(cs.map ZpC).map (BC.den ρ)=(cs.map (BC.den ρ)).map Zji:=by
   rw [X6,X6]
   refine Wk fun c _=>?_
   cases c with
   | c x => exact (Zjw ρ x).symm
   | own _ _ _ => rfl
   | gone => rfl
  simp only [Xg,Xz,SV.den,he]
  exact this
theorem Zhl {sh:Sh} (ρ:Nat→V):∀ (cs:List BC) (a l:LE),ZiP sh cs a=Xa l→l.den ρ=a.den ρ++cs.map (fun c=>[c.den ρ])∧∀ c∈cs,∃ x,c = .c x
 | [], a, l, h => by
  simp only [ZiP,Xf] at h
  subst h
  simp
 | .c x :: r, a, l, h => by
  simp only [ZiP] at h
  split at h
  ·obtain ⟨h1,h2⟩:=Zhl ρ r _ l h
   refine ⟨?_,fun c hc=>?_⟩
   ·rw [h1]
    simp [LE.den,CE.den,BC.den]
   ·rcases Xl.1 hc with rfl | hc
    ·exact ⟨x,rfl⟩
    ·exact h2 c hc
  ·cases h
 | .own _ _ _ :: _, _, _, h => by simp [ZiP] at h
 | .gone :: _, _, _, h => by simp [ZiP] at h
theorem Zpr {T:TypeId} {a:Operand} {d off m:Nat} {i:IE} (hg:∀ d,(g d).bd n) (ho:o.op = .load T a) (hT:ZS P T=Xa Xc) (ha:Z8 P g a = .vptr d off m i) (h:(ZrJ g d off m i n k).wp P R A ρ):YN tx P R A ρ g o n k:=by
 unfold ZrJ at h
 split at h
 case h_2=>exact h.elim
 rename_i cs hcs
 split at h
 case h_2=>exact h.elim
 rename_i sh hsh
 split at h
 case h_2=>exact h.elim
 rename_i l hl
 obtain ⟨vs,w1,w2,w3⟩:=h
 obtain ⟨e1,e2⟩:=Zhl ρ _ _ l hl
 have e1:l.den ρ=((cs.drop off).take m).map (fun c=>[c.den ρ]):=by rw [e1];rfl
 rw [e1,Xk] at w2
 cases hc:((cs.drop off).take m)[(i.den ρ).toNat]? with
 | none => rw [hc] at w2; cases w2
 | some c =>
  rw [hc] at w2
  simp only [Xo,Xf,Zv,Xg,Xz,List.cons.injEq,and_true] at w2
  obtain ⟨x,rfl⟩:=e2 c (Xh hc)
  rw [Xw] at hc
  split at hc
  case isFalse=>cases hc
  rw [XH] at hc
  have hd:(fun d=>(g d).den ρ) d = .box (cs.map (BC.den ρ)):=by show (g d).den ρ=_;rw [hcs];rfl
  have hx:(cs.map (BC.den ρ))[off+(i.den ρ).toNat]? = Xa (x.den ρ):=by rw [Xk,hc];rfl
  have hga:Zn P (fun d=>(g d).den ρ) a = .ptr d (off+(i.den ρ).toNat):=by have:=Zd ρ ha;exact this
  have:=Kf (o:=o) (T:=T) ho hT hga hd hx (fun e xs h=>by cases x<;>first | cases h | exact (Z6 h rfl).elim) (fun h=>by cases x<;>first | cases h | exact (Z6 h rfl).elim)
  rw [Zkf] at this
  have w2:x.den ρ=(Ji sh n).den (bind ρ n vs):=w2
  rw [w2] at this
  refine ⟨bind ρ n vs,n+1,.c (Ji sh n),[],[d],Nat.le_succ n,Yx ρ n vs,?_,by simp,w3,this.t.s⟩
  exact Jr [sh] n _ (by simp [Zv])
theorem Zrv {T:TypeId} {a:Operand} (hg:∀ d,(g d).bd n) (htop:∀ i,E.top≤i→g i = .dead) (ho:o.op = .load T a) (h:(Yq P E tx tk g o n k).wp P R A ρ):YN tx P R A ρ g o n k:=by
 have ba:=Zz (P:=P) hg a
 simp only [Yq,ho] at h
 split at h
 ·rename_i p hp
  exact Zit hg ho hp h
 split at h
 ·rename_i d off hT ha
  split at h
  ·rename_i cs hcs
   split at h
   ·rename_i hle
    have hb:=hg d
    rw [hcs] at hb
    refine W2 h (fun c hc=>?_) (by simp) ?_
    ·obtain ⟨y,hy,rfl⟩:=Xj.1 hc
     exact ZnW (hb y (XW (XO hy)))
    ·have:Yz tx P o (fun d=>(g d).den ρ) (.agg (((((cs.map (BC.den ρ)).drop off).take (P.cellsOf T))).map (YI P))) [] (fpL tx d off (P.cellsOf T)):=by
      unfold fpL
      split
      ·rename_i hk
       simp only [Xs,decide_eq_true_eq,XE,Uv] at hk
       exact Zbf (cs:=cs.map (BC.den ρ)) ho hT (Zd ρ ha) (by rw [hcs];rfl) (by simpa using hle.1) (WU hle.2.1 ρ) (Zfi hle.2.2 ρ) hk.1 hk.2
      ·exact (ZaW (cs:=cs.map (BC.den ρ)) ho hT (Zd ρ ha) (by rw [hcs];rfl) (by simpa using hle.1) (WU hle.2.1 ρ) (Zfi hle.2.2 ρ)).t
     have he:(SV.agg (((cs.drop off).take (P.cellsOf T)).map (ZeT P))).den ρ = .agg (((((cs.map (BC.den ρ)).drop off).take (P.cellsOf T))).map (YI P)):=by
      simp only [SV.den,X6,← Uf,← Ul]
      congr 1
      exact Wk fun b _=>Zfb P ρ b
     rw [he]
     exact this
   ·exact Zi1 hg htop ho hT ha hcs h
  ·exact h.elim
 ·rename_i d off hT ha
  split at h
  ·rename_i cs hcs
   have hb:=hg d
   rw [hcs] at hb
   have hd:(fun d=>(g d).den ρ) d = .box (cs.map (BC.den ρ)):=by show (g d).den ρ=_;rw [hcs];rfl
   split at h
   ·rename_i b e xs hx
    have hx':(cs.map (BC.den ρ))[off]? = Xa (.own b e (xs.den ρ)):=by rw [Xk,hx];rfl
    have hbx:=hb _ (Xh hx)
    split at h
    ·split at h
     ·rename_i us _ hus
      obtain ⟨q1,q2⟩:=ZgM ρ htop hus
      split at h
      case isFalse=>exact h.elim
      rename_i hmv
      refine W2 h hbx (fun u hu=>?_) ?_
      ·rcases Xt.1 hu with hu | hu
       ·rw [q1 u hu];trivial
       ·rw [XC] at hu
        subst hu
        intro c hc
        rcases Wo hc with hc | rfl
        ·exact hb c hc
        ·trivial
      ·have:=Zew (T':=tx) ho hT (Zd ρ ha) hd hx' q2 (ZkB ρ hmv)
       rw [XL]
       simp only [Xg,Xz,SV.den,UB]
       exact this
     ·have:Yz tx P o (fun d=>(g d).den ρ) (.mref d (off+1)) [] (fpL tx d off 1):=by
       unfold fpL
       split
       ·rename_i hk
        simp only [Xs,decide_eq_true_eq,XE,Uv] at hk
        exact Zbg ho hT (Zd ρ ha) hd hx' (by simpa using hk.2 0 (by omega))
       ·exact (Za8 ho hT (Zd ρ ha) hd hx').t
      exact W2 h trivial (by simp) this
    ·split at h
     ·refine W0 h hbx (us1 (fun c hc=>?_)) ?_
      ·rcases Wo hc with hc | rfl
       ·exact hb c hc
       ·exact hbx
      ·have:=Zgz ho hT (Zd ρ ha) hd hx'
       simp only [Xg,Xz,SV.den,UB]
       exact this
     ·exact Z2 h hbx (Kf ho hT (Zd ρ ha) hd hx' (fun e xs h=>by cases h) (fun h=>by cases h))
   ·rename_i x hx
    have hx':(cs.map (BC.den ρ))[off]? = Xa (x.den ρ):=by rw [Xk,hx];rfl
    have:Yz tx P o (fun d=>(g d).den ρ) (YI P (x.den ρ)) [] (fpL tx d off 1):=by
     unfold fpL
     split
     ·rename_i hk
      simp only [Xs,decide_eq_true_eq,XE,Uv] at hk
      exact Zao ho hT (Zd ρ ha) hd hx' (fun e xs h=>by cases x<;>first | cases h | exact (Z6 h rfl).elim) (fun h=>by cases x<;>first | cases h | exact (Z6 h rfl).elim) (by simpa using hk.2 0 (by omega))
     ·exact (Kf ho hT (Zd ρ ha) hd hx' (fun e xs h=>by cases x<;>first | cases h | exact (Z6 h rfl).elim) (fun h=>by cases x<;>first | cases h | exact (Z6 h rfl).elim)).t
    rw [Zkf] at this
    exact W2 h (hb _ (Xh hx)) (by simp) this
   ·exact h.elim
   ·exact h.elim
  ·exact h.elim
 ·rename_i agg d q i s off hT ha
  split at h
  ·rename_i e l hp
   split at h
   ·rename_i sh hsh
    split at h
    ·rename_i hh
     obtain ⟨rfl,h2,h3,h4,hnm⟩:=hh
     obtain ⟨vs,w1,w2,w3⟩:=h
     have hbd:=Jr sh n
     have hat:=ZN ρ hp
     have hlen:(Zv sh n).length=P.cellsOf e:=by
      have hsl:∀ (l:List Sh) (n:Nat),(Zv l n).length=l.length:=by
       intro l
       induction l with
       | nil => intro n; rfl
       | cons s l ih => intro n; simp only [Zv, XJ, ih]
      rw [hsl,h2]
     refine ⟨bind ρ n vs,n+sh.length,_,[],[d],XR _ _,Yx ρ n vs,?_,by simp,w3,?_⟩
     ·cases agg with
      | true => exact fun c hc => hbd c (XW (XO hc))
      | false =>
       show SV.bd _ (match (Zv sh n)[off]? with | some x=>.c x | none=>.dead)
       split
       ·rename_i x hx;exact hbd x (Xh hx)
       ·trivial
     ·cases agg with
      | true =>
       have:=Zbk ho hT (Zd ρ ha) (show Zp ((fun d=>(g d).den ρ) d) q=_ from hat) w2 h3 hnm
       rw [← Ul,← Uf] at this
       exact this.t.s
      | false =>
       have hon:P.cellsOf T=1∨off < (Zv sh n).length:=.inr (by omega)
       have hlt:off < (Zv sh n).length:=by omega
       refine Yz.s ?_
       show Yz tx P o _ ((match (Zv sh n)[off]? with | some x=>SV.c x | none=>.dead).den (bind ρ n vs)) _ _
       rw [Xp hlt]
       exact (ZaA ho hT (Zd ρ ha) (show Zp ((fun d=>(g d).den ρ) d) q=_ from hat) w2 (by omega) (by rw [Xk,Xp hlt];rfl) hnm).t
    ·exact h.elim
   ·exact h.elim
  ·exact h.elim
 ·rename_i cs hT ha
  rw [ha] at ba
  split at h
  ·rename_i hle
   refine Z2 h (fun c hc=>ba c (XO hc)) ?_
   have:=ZeG (cs:=cs.map (SC.den ρ)) ho hT (Zd ρ ha) (by simpa using hle)
   rw [← Uf] at this
   exact this
  ·exact h.elim
 ·rename_i cs hT ha
  rw [ha] at ba
  split at h
  ·rename_i x rest
   exact Z2 h (ba x (by simp)) (Zc8 (cs:=rest.map (SC.den ρ)) ho hT (Zd ρ ha))
  ·exact h.elim
 ·rename_i d off m i hT ha
  exact Zpr hg ho hT ha h
 ·exact h.elim
theorem ZnO (ρ:Nat→V) (v:SC) {w:World} {lim:Lm} {us:List Value} (h:JJ w lim [v.den ρ] us):(∀ z∈[(Zfv v).den ρ],ZbP z)∧∀ (j:Nat) (z:AV) (u:Value),[(Zfv v).den ρ][j]? = Xa z→us[j]? = Xa u→J8 P w lim Xe z u:=by
 have key:∀ u,Rep w lim (v.den ρ) u→J8 P w lim Xe ((Zfv v).den ρ) u:=fun u hr=>by
  cases v with
  | slice f s l =>
   show Rep w lim (.slice Xc s (l.den ρ)) u
   have hr:Rep w lim (.slice f s (l.den ρ)) u:=hr
   generalize l.den ρ=xs at hr
   cases hr with
   | sliceN => exact .sliceN
   | sliceE h => exact .sliceE fun h => by cases h
   | sliceC hs hc hf hle hlim hus hcell hh => exact .sliceC hs hc (fun h => by cases h) hle hlim hus hcell hh
  | int k e => exact hr
  | bool b => exact hr
  | str s => exact hr
  | cel p => exact Y5 (Q := fun z => Rep w lim z u → J8 P w lim Xe z u) _ (fun _ _ h => h) (fun _ _ _ h => h) (fun _ h => h) (fun _ _ h => h) hr
 refine ⟨fun z hz=>?_,fun j z u hz hu=>?_⟩
 ·rw [XC] at hz
  subst hz
  exact .inl (J5 ρ _)
 ·match j,hz with
  | 0, hz =>
   simp only [XB,Xf] at hz
   subst hz
   exact key u (h.2.2 0 _ u rfl hu)
theorem ZqP {i:IE} {j kk:Nat} {v c c':SC} (hk:i.den ρ=(kk:Int)) (h:Ztd i j v c=Xa c'):c'.den ρ=if j=kk then (Zfv v).den ρ else c.den ρ:=by
 unfold Ztd at h
 split at h
 ·rename_i b b'
  simp only [Xf] at h
  subst h
  simp only [SC.den,BE.den,IE.den,hk,cop,Zfv]
  by_cases hjk:j=kk
  ·subst hjk;simp
  ·have:((kk:Int) == (j:Int))=Xc:=by simp;omega
   simp [hjk,this]
 ·rename_i f s l s' l'
  split at h
  ·rename_i hs
   simp only [Xf] at h
   subst h
   subst hs
   simp only [SC.den,LE.den,lop,hk,Zfv]
   by_cases hjk:j=kk
   ·subst hjk;simp
   ·have:¬ ((kk:Int)=(j:Int)):=by omega
    simp [hjk,this]
  ·cases h
 ·cases h
theorem ZnA {i:IE} {v:SC} {kk:Nat} (hk:i.den ρ=(kk:Int)):∀ (cs:List BC) (j:Nat) (r:List BC),Zij i v j cs=Xa r→r.length=cs.length∧∀ q,(r.map (BC.den ρ))[q]? = if j+q=kk∧q < cs.length then Xa ((Zfv v).den ρ) else (cs.map (BC.den ρ))[q]?
 | [], j, r, h => by
  simp only [Zij,Xf] at h
  subst h
  simp
 | .c c :: cs, j, r, h => by
  simp only [Zij] at h
  split at h
  ·rename_i c' r' h1 h2
   simp only [Xf] at h
   subst h
   obtain ⟨g1,g2⟩:=ZnA hk cs (j+1) r' h2
   refine ⟨by simp [g1],fun q=>?_⟩
   cases q with
   | zero =>
    simp only [Xg,XB,Wq,XJ,Nat.zero_lt_succ,and_true,BC.den,ZqP hk h1]
    split<;>rfl
   | succ q =>
    simp only [Xg,X5,XJ,Nat.add_lt_add_iff_right,g2 q]
    rw [show j+1+q=j+(q+1) by omega]
  ·cases h
 | .own _ _ _ :: _, _, _, h => by simp [Zij] at h
 | .gone :: _, _, _, h => by simp [Zij] at h
theorem Zqr {i:IE} {v:SC} : ∀ (cs:List BC) (j:Nat) (r:List BC),Zij i v j cs=Xa r→∀ c∈cs,∃ x,c = .c x
 | [], _, _, _, c, hc => by cases hc
 | .c c :: cs, j, r, h, x, hx => by
  simp only [Zij] at h
  split at h
  ·rename_i c' r' h1 h2
   rcases Xl.1 hx with rfl | hx
   ·exact ⟨c,rfl⟩
   ·exact Zqr cs (j+1) r' h2 x hx
  ·cases h
 | .own _ _ _ :: _, _, _, h, _, _ => by simp [Zij] at h
 | .gone :: _, _, _, h, _, _ => by simp [Zij] at h
theorem Zoq {i:IE} {v:SC} {n:Nat} (hi:i.bd n) (hv:v.bd n):∀ (cs:List BC) (j:Nat) (r:List BC),Zij i v j cs=Xa r→(∀ c∈cs,c.bd n)→∀ c∈r,c.bd n
 | [], j, r, h, _ => by
  simp only [Zij,Xf] at h
  subst h
  simp
 | .c c :: cs, j, r, h, hb => by
  simp only [Zij] at h
  split at h
  ·rename_i c' r' h1 h2
   simp only [Xf] at h
   subst h
   intro x hx
   rcases Xl.1 hx with rfl | hx
   ·have hc:SC.bd n c:=hb (.c c) (by simp)
    show SC.bd n c'
    unfold Ztd at h1
    split at h1
    ·simp only [Xf] at h1
     subst h1
     exact ⟨⟨⟨hi,trivial⟩,hv⟩,⟨hi,trivial⟩,hc⟩
    ·split at h1
     ·simp only [Xf] at h1
      subst h1
      exact ⟨hc,hi,hv,trivial⟩
     ·cases h1
    ·cases h1
   ·exact Zoq hi hv cs (j+1) r' h2 (fun c hc=>hb c (by simp [hc])) x hx
  ·cases h
 | .own _ _ _ :: _, _, _, h, _ => by simp [Zij] at h
 | .gone :: _, _, _, h, _ => by simp [Zij] at h
theorem ZnV {T:TypeId} {a x:Operand} {d off m:Nat} {i:IE} (hg:∀ d,(g d).bd n) (ho:o.op = .store T a x) (ha:Z8 P g a = .vptr d off m i) (h:(Zmz P g T x d off m i n k).wp P R A ρ):YN tx P R A ρ g o n k:=by
 have bx:=Zz (P:=P) hg x
 have bi:=Zz (P:=P) hg a
 rw [ha] at bi
 have bi:i.bd n:=bi
 unfold Zmz at h
 split at h
 case h_2=>exact h.elim
 rename_i cs hcs
 split at h
 case h_2=>exact h.elim
 rename_i v hv
 split at h
 case h_2=>exact h.elim
 rename_i r hr
 split at h
 case isFalse=>exact h.elim
 rename_i hh
 obtain ⟨hT1,hfit⟩:=hh
 obtain ⟨r1,r2,h⟩:=h
 have r1':0≤i.den ρ:=r1
 have r2':i.den ρ < (m:Int):=r2
 rw [hv] at bx
 have bx:v.bd n:=bx
 have hb:=hg d
 rw [hcs] at hb
 have hb:∀ c∈cs,c.bd n:=hb
 obtain ⟨kk,hk⟩:∃ kk:Nat,i.den ρ=(kk:Int):=⟨(i.den ρ).toNat,by omega⟩
 have hkm:kk < m:=by omega
 obtain ⟨g1,g2⟩:=ZnA hk _ 0 r hr
 have hml:((cs.drop off).take m).length=m:=by simp;omega
 have hd:(fun d=>(g d).den ρ) d = .box (cs.map (BC.den ρ)):=by show (g d).den ρ=_;rw [hcs];rfl
 have hga:Zn P (fun d=>(g d).den ρ) a = .ptr d (off+kk):=by have:=Zd ρ ha;simpa [SV.den,hk] using this
 have hset:(cs.take off++r++cs.drop (off+m)).map (BC.den ρ)=(cs.map (BC.den ρ)).take (off+kk)++[(Zfv v).den ρ]++(cs.map (BC.den ρ)).drop (off+kk+1):=by
  rw [ZaZ _ _ _ (by rw [Xq];omega)]
  apply Ua
  intro q
  rw [XL,XL,Ug]
  have l1:((cs.take off).map (BC.den ρ)).length=off:=by simp;omega
  have l2:(r.map (BC.den ρ)).length=m:=by rw [Xq,g1,hml]
  rcases Xx q off with hq | hq
  ·rw [Xu,Xv (by omega),Uf,Xw,if_pos hq,if_neg (by omega)]
  ·rw [Xu,Xy (by omega),l1]
   rcases Xx (q-off) m with hq2 | hq2
   ·rw [Xv (by omega),g2,hml,XF]
    by_cases hqk:q-off=kk
    ·rw [if_pos ⟨hqk,hq2⟩,if_pos (by omega),if_pos (by rw [Xq];omega)]
    ·rw [if_neg (by omega),if_neg (by omega),Uf,Ul,Xw,if_pos hq2,XH,show off+(q-off)=q by omega]
   ·rw [Xy (by omega),l2,Ul,XH,if_neg (by omega),show off+m+(q-off-m)=q by omega]
 have hplain:Zca (((cs.map (BC.den ρ)).drop (off+kk)).take 1):=fun c hc e xs he=>by
  have hc2:=XO hc
  obtain ⟨q,hq⟩:=XK.1 hc
  have hq0:q=0:=by
   have:=(Xi.1 hq).1
   simp at this
   omega
  subst hq0
  rw [Xw,if_pos (by omega),XH,Wq,Xk] at hq
  have hin:=Zqr _ 0 r hr
  cases hcc:cs[off+kk]? with
  | none => rw [hcc] at hq; cases hq
  | some c0 =>
   rw [hcc] at hq
   simp only [Xo,Xf] at hq
   have hmem:c0∈(cs.drop off).take m:=Xh (i:=kk) (by rw [Xw,if_pos hkm,XH];exact hcc)
   obtain ⟨y,rfl⟩:=hin c0 hmem
   rw [← hq] at he
   cases y<;>first | cases he | exact (Z6 he rfl).elim
 refine W2 h trivial (us1 fun c hc=>?_) ?_
 ·rcases Xt.1 hc with hc | hc
  ·rcases Xt.1 hc with hc | hc
   ·exact hb c (XO hc)
   ·exact Zoq bi bx _ 0 r hr (fun c hc=>hb c (XW (XO hc))) c hc
  ·exact hb c (XW hc)
 ·have:=Ze0 (T':=tx) (vc:=[(Zfv v).den ρ]) (vc0:=[v.den ρ]) (y:=v.den ρ) ho hga hd (by have:=(JV P g ρ x).symm;rw [hv] at this;exact this) (Ki (x:=.c v) ρ rfl) (by rw [hT1];rfl) (by omega) (by rw [Xq,hT1];omega) (.inl (by rw [hT1];exact hplain)) ⟨rfl,fun w lim us hrel=>ZnO ρ v hrel⟩
  rw [hT1,← hset] at this
  simp only [Xg,Xz,SV.den]
  exact this
theorem Zpg {T:TypeId} {a x:Operand} (hg:∀ d,(g d).bd n) (htop:∀ i,E.top≤i→g i = .dead) (ho:o.op = .store T a x) (h:(Yq P E tx tk g o n k).wp P R A ρ):YN tx P R A ρ g o n k:=by
 have bx:=Zz (P:=P) hg x
 simp only [Yq,ho] at h
 split at h
 ·rename_i p hp
  exact Zh2 hg htop ho hp h
 split at h
 ·rename_i d off ha
  split at h
  ·rename_i cs hcs
   have hb:=hg d
   rw [hcs] at hb
   have hd:(fun d=>(g d).den ρ) d = .box (cs.map (BC.den ρ)):=by show (g d).den ρ=_;rw [hcs];rfl
   split at h
   ·rename_i t b e xs h1 h2
    have hx:x = .tmp t:=by cases x<;>simp [ZK] at h1;rw [h1]
    subst hx
    simp only [ZK,Xo,Xf] at h2
    have ht:=hg t
    rw [h2] at ht
    split at h
    ·rename_i us hus
     split at h
     ·rename_i hh
      obtain ⟨us',rfl,q1,q2,q3⟩:=J3 ρ htop (t:=t) h2 hus
      refine W2 h trivial (fun u hu=>?_) ?_
      ·rcases Xt.1 hu with hu | hu
       ·exact J2 hus ht u hu
       ·rw [XC] at hu
        subst hu
        intro c hc
        rcases Wo hc with hc | rfl
        ·exact hb c hc
        ·exact ht
      ·have:=Zey (T':=tx) (e:=e) (xs:=xs.den ρ) ho (Zd ρ ha) hd (by show (g t).den ρ=_;rw [h2];rfl) hh.1 (by simpa using hh.2.1) (Zkp ρ htop hh.2.2) q2
       rw [XL,q1]
       simp only [Xg,Xz,SV.den,UB]
       exact this
     ·exact h.elim
    ·exact h.elim
   ·rename_i t vc h1 h2
    have hx:x = .tmp t:=by cases x<;>simp [ZK] at h1;rw [h1]
    subst hx
    simp only [ZK,Xo,Xf] at h2
    have ht:=hg t
    rw [h2] at ht
    split at h
    ·rename_i hh
     refine W0 h trivial (us2 trivial (fun c hc=>?_)) ?_
     ·rcases Xt.1 hc with hc | hc
      ·rcases Xt.1 hc with hc | hc
       ·exact hb c (XO hc)
       ·exact ht c hc
      ·exact hb c (XW hc)
     ·have:=ZcT (vc:=vc.map (BC.den ρ)) ho (Zd ρ ha) hd (show (fun d=>(g d).den ρ) t = .aggo (vc.map (BC.den ρ)) by show (g t).den ρ=_;rw [h2];rfl) (by simpa using hh.1) (by omega) (by simpa using hh.2.2.1) (WU hh.2.2.2 ρ)
      have he:(SV.box (cs.take off++vc++cs.drop (off+P.cellsOf T))).den ρ = .box ((cs.map (BC.den ρ)).take off++vc.map (BC.den ρ)++(cs.map (BC.den ρ)).drop (off+P.cellsOf T)):=by
       simp only [SV.den,XL,Uf,Ul]
      simp only [Xg,Xz,he]
      exact this
    ·exact h.elim
   ·split at h
    ·rename_i vc hvc
     split at h
     ·rename_i hh
      refine W2 h trivial (fun u hu=>?_) ?_
      ·rw [XC] at hu;subst hu;intro c hc
       rcases Xt.1 hc with hc | hc
       ·rcases Xt.1 hc with hc | hc
        ·exact hb c (XO hc)
        ·exact Zn5 _ _ (Zsn P T (Vw hvc bx)) c hc
       ·exact hb c (XW hc)
      ·have:=Ze0 (vc:=(Kp (cs.drop off) (nrm P T vc)).map (BC.den ρ)) ho (Zd ρ ha) hd (JV P g ρ x).symm (Ki ρ hvc) (by simpa using hh.1) (by omega) (by simpa using hh.2.2.1) (Zkp ρ htop hh.2.2.2) (ZrD ρ (cs.drop off) (Zst ρ P T vc))
       have he:(SV.box (cs.take off++Kp (cs.drop off) (nrm P T vc)++cs.drop (off+P.cellsOf T))).den ρ = .box ((cs.map (BC.den ρ)).take off++(Kp (cs.drop off) (nrm P T vc)).map (BC.den ρ)++(cs.map (BC.den ρ)).drop (off+P.cellsOf T)):=by
        simp only [SV.den,XL,Uf,Ul]
       simp only [Xg,Xz,he]
       exact this
     ·exact h.elim
    ·exact h.elim
  ·exact h.elim
 ·rename_i d q i s off ha
  split at h
  ·rename_i e l vc hp hvc
   have hpt:=Zz (P:=P) hg a
   rw [ha] at hpt
   have hat:=ZN ρ hp
   split at h
   ·rename_i sh hsh
    split at h
    ·rename_i vc' hvc'
     split at h
     ·rename_i hh
      obtain ⟨r1,r2,h⟩:=h
      have r1':0≤i.den ρ:=r1
      have r2':i.den ρ < ((l.den ρ).length:Int):=r2
      have hbv:=Vk _ _ _ hvc' (Vw hvc bx)
      refine W0 h trivial (us1 (JK (hg d) ⟨Jy hp (hg d),hpt,Ka _ hbv⟩)) ?_
      obtain ⟨h1,h2,h3,h4,h5,hnm⟩:=hh
      subst h1
      have:=ZcV (vc:=vc.map (SC.den ρ)) (vc':=vc'.map (SC.den ρ)) ho (Zd ρ ha) (show Zp ((fun d=>(g d).den ρ) d) q=_ from hat) (Ks ρ h5) (JV P g ρ x).symm (Ki ρ hvc) (by simpa using h2) (by omega) (by omega) h4 (Wt ρ _ _ _ hvc') hnm
      rw [← Yh] at this
      simp only [Xg,Xz,Jv]
      exact this
     ·exact h.elim
    ·exact h.elim
   ·exact h.elim
  ·exact h.elim
 ·rename_i d off m i ha
  exact ZnV hg ho ha h
 ·exact h.elim
theorem Zju {x:Operand} (hg:∀ d,(g d).bd n) (ho:o.op = .nilCheck x) (h:(Yq P E tx tk g o n k).wp P R A ρ):YN tx P R A ρ g o n k:=by
 have bx:=Zz (P:=P) hg x
 simp only [Yq,ho] at h
 split at h
 ·rename_i d off hx
  exact Z2 h trivial (VK ho (Zd ρ hx) (.inl ⟨_,_,rfl⟩))
 ·rename_i cs hx
  rw [hx] at bx
  exact Z2 h bx (VK ho (Zd ρ hx) (.inr (.inl ⟨_,rfl⟩)))
 ·rename_i d q i s off hx
  rw [hx] at bx
  split at h
  ·rename_i e l hpl
   split at h
   ·rename_i hm
    exact Z2 h bx (VK ho (Zd ρ hx) (.inr (.inr ⟨_,_,_,_,_,rfl,ZN ρ hpl,hm,by simp⟩)))
   ·exact h.elim
  ·exact h.elim
 ·exact h.elim
theorem Zq2 {op:UnOp} {T:TypeId} {x:Operand} (hg:∀ d,(g d).bd n) (ho:o.op = .unOp op T x) (h:(Yq P E tx tk g o n k).wp P R A ρ):YN tx P R A ρ g o n k:=by
 have bx:=Zz (P:=P) hg x
 simp only [Yq,ho] at h
 split at h
 ·rename_i b hx
  rw [hx] at bx
  refine Z2 h (Zpw bx) ?_
  have:=ZpV ho (Zd ρ hx)
  rw [← Zml] at this
  exact this
 ·rename_i kd e hx
  rw [hx] at bx
  exact Z2 h ⟨trivial,bx⟩ (ZoS ho (Zd ρ hx))
 ·rename_i kd e hx
  rw [hx] at bx
  exact Z2 h ⟨trivial,bx⟩ (ZkG ho (Zd ρ hx))
 ·exact h.elim
theorem Zlp {S T:TypeId} {x:Operand} (hg:∀ d,(g d).bd n) (ho:o.op = .convert S T x) (h:(Yq P E tx tk g o n k).wp P R A ρ):YN tx P R A ρ g o n k:=by
 have bx:=Zz (P:=P) hg x
 simp only [Yq,ho] at h
 split at h
 ·rename_i hS hT hx
  rw [hx] at bx
  exact Z2 h bx (Zmm ho hS hT (Zd ρ hx))
 ·rename_i hS hT hx
  rw [hx] at bx
  split at h
  ·rename_i he
   split at h
   ·rename_i hs
    subst hs
    exact Z2 h.2 bx (Zk8 ho hS he hT (Zd ρ hx) h.1)
   ·exact h.elim
  ·exact h.elim
 ·exact h.elim
theorem ZgU {T:TypeId} {x:Operand} {f:Nat} (hg:∀ d,(g d).bd n) (ho:o.op = .fieldAddr T x f) (h:(Yq P E tx tk g o n k).wp P R A ρ):YN tx P R A ρ g o n k:=by
 have bx:=Zz (P:=P) hg x
 simp only [Yq,ho] at h
 split at h
 ·rename_i hf hx
  exact Z2 h trivial (ZeH ho hf (Zd ρ hx))
 ·rename_i off cs hf hx
  rw [hx] at bx
  refine Z2 h (fun c hc=>bx c (XW hc)) ?_
  have:=Zc2 (cs:=cs.map (SC.den ρ)) ho hf (Zd ρ hx)
  rw [← Ul] at this
  exact this
 ·rename_i off d q i s off' hf hx
  rw [hx] at bx
  split at h
  ·rename_i e l hpl
   split at h
   ·rename_i hm
    refine Z2 h bx ?_
    have:=Zd8 ho hf (Zd ρ hx) (ZN ρ hpl) hm
    rw [Nat.add_assoc] at this
    exact this
   ·exact h.elim
  ·exact h.elim
 ·exact h.elim
theorem Zpj {T:TypeId} {x:Operand} {f:Nat} (hg:∀ d,(g d).bd n) (ho:o.op = .field T x f) (h:(Yq P E tx tk g o n k).wp P R A ρ):YN tx P R A ρ g o n k:=by
 have bx:=Zz (P:=P) hg x
 simp only [Yq,ho] at h
 split at h
 ·rename_i off agg sz cs hf hs hx
  rw [hx] at bx
  split at h
  ·rename_i hh
   have hx':Zn P (fun d=>(g d).den ρ) x = .agg (cs.map (SC.den ρ)):=Zd ρ hx
   cases agg with
   | true =>
    simp only at h
    refine Z2 h (fun c hc=>bx c (XW (XO hc))) ?_
    have:=ZdQ (y:=.agg (((cs.map (SC.den ρ)).drop off).take sz)) ho hf hs hx' (by simpa using hh.1) hh.2 (.inl ⟨rfl,rfl⟩)
    rw [← Ul,← Uf] at this
    exact this
   | false =>
    simp only at h
    split at h
    ·rename_i c hc
     refine Z2 h (bx c (Xh hc)) ?_
     exact ZdQ (y:=c.den ρ) ho hf hs hx' (by simpa using hh.1) hh.2 (.inr ⟨rfl,by simp [hc],Zav ρ c⟩)
    ·exact h.elim
  ·exact h.elim
 ·exact h.elim
theorem ZjH {ix:IE} {d off s m:Nat} {kk:SV→STree} : ∀ (j:Nat),j≤m→(Zrj ix d off s m kk j).wp P R A ρ→∃ i:Nat,i < m∧ix.den ρ=(i:Int)∧(kk (.ptr d (off+i*s))).wp P R A ρ
 | 0, _, h => h.elim
 | 1, hj, h => by
  obtain ⟨h1,h2,h3⟩:=h
  have h1':((m-1:Nat):Int)≤ix.den ρ:=h1
  have h2':ix.den ρ≤((m-1:Nat):Int):=h2
  exact ⟨m-1,by omega,by omega,h3⟩
 | j + 2, hj, h => by
  obtain ⟨h1,h2⟩:=h
  by_cases he:ix.den ρ=((m-(j+2):Nat):Int)
  ·exact ⟨m-(j+2),by omega,he,h1 (by simp [BE.den,IE.den,cop,he])⟩
  ·exact ZjH (j+1) (by omega) (h2 (by simp [BE.den,IE.den,cop,he]))
theorem Zep {P:Program} {o:Oper} {σ:Nat→AV} {T:TypeId} {x i:Operand} {k:IntKind} {z:Int} {s:ByteArray} (ho:o.op = .index T x i) (hT:P.underlying T=Xa .string) (hx:Zn P σ x = .val (.string s)) (hi:Zn P σ i = .val (.int k z)) (h0:0≤z) (h1:z < (s.size:Int)) :
  Jg P o σ (.val (.int .u8 ((s.data.toList.getD z.toNat 0).toNat:Int))) [] []:=by
 refine Zt [] rfl fun c hc σ' tm w lim X hg hfp hsim=>⟨.int .u8 ((s.data.toList.getD z.toNat 0).toNat:Int),?_,.val rfl⟩
 rw [ho] at hg
 have hv:=ZP hc hsim hx (hg x (by simp [Op.operands]))
 have hw:=ZP hc hsim hi (hg i (by simp [Op.operands]))
 have hlt:z.toNat < s.size:=by omega
 have hg1:s[z.toNat]? = Xa s[z.toNat]:=by simp [hlt]
 have hg2:s.data.toList.getD z.toNat 0=s[z.toNat]:=by
  rw [List.getD_eq_getElem?_getD,Xp (by simpa using hlt)]
  simp
  rfl
 simp only [execOp,ho,hv,hw,Instr.index,asIntOf,Sem.run_bind,Sem.run_pure,Result.andThen_ok,run_underlying hT,if_pos h0,hg1,hg2]
theorem ZoI {T:TypeId} {x i:Operand} (hg:∀ d,(g d).bd n) (ho:o.op = .index T x i) (h:(Yq P E tx tk g o n k).wp P R A ρ):YN tx P R A ρ g o n k:=by
 simp only [Yq,ho] at h
 split at h
 ·rename_i s kd ie hT hx hi
  obtain ⟨r1,r2,h⟩:=h
  have bx:=Zz (P:=P) hg x
  have bi:=Zz (P:=P) hg i
  rw [hx] at bx
  rw [hi] at bi
  exact Z2 h ⟨bx,bi⟩ (Zep ho hT (Zd ρ hx) (Zd ρ hi) r1 r2)
 ·exact h.elim
theorem ZhO {T:TypeId} {x i:Operand} (hg:∀ d,(g d).bd n) (ho:o.op = .indexAddr T x i) (h:(Yq P E tx tk g o n k).wp P R A ρ):YN tx P R A ρ g o n k:=by
 simp only [Yq,ho] at h
 split at h
 ·rename_i hT hx hi
  split at h
  ·rename_i sh hsh
   split at h
   ·rename_i hh
    obtain ⟨vs,h1,h2,h3⟩:=h
    exact ⟨bind ρ n vs,n+sh.length,.eptr (Zv sh n),[],[],XR _ _,Yx ρ n vs,Jr sh n,by simp,h3,
     (Zli ho hT hh.1 (by omega) (Zd ρ hx) (Zd ρ hi) h1 h2).t.s⟩
   ·exact h.elim
  ·exact h.elim
 ·rename_i m e d off kd ix hT hx hi
  split at h
  ·rename_i hh
   split at h
   ·rename_i z
    split at h
    ·rename_i hz
     exact Z2 h trivial (K9 (kd:=kd) (z:=z) ho hT (by omega) (Zd ρ hx) (Zd ρ hi) hz.1 hz.2)
    ·exact h.elim
   ·split at h
    ·rename_i hv
     obtain ⟨r1,r2,h⟩:=h
     have r1':0≤ix.den ρ:=r1
     have r2':ix.den ρ < (m:Int):=r2
     have:=K9 (kd:=kd) (z:=ix.den ρ) ho hT (by omega) (Zd ρ hx) (Zd ρ hi) r1' r2'
     rw [hv.2,Nat.mul_one] at this
     have bi:=Zz (P:=P) hg i
     rw [hi] at bi
     exact Z2 h bi this
    obtain ⟨i',h1,h2,h3⟩:=ZjH m (XD _) h
    have:=K9 (kd:=kd) (z:=(i':Int)) ho hT (by omega) (Zd ρ hx) (by rw [← h2];exact Zd ρ hi) (by omega) (by omega)
    rw [UI] at this
    exact Z2 h3 trivial this
  ·exact h.elim
 ·rename_i e d q kd ix hT hx hi
  split at h
  ·rename_i e' l hp
   split at h
   ·rename_i hh
    obtain ⟨rfl,h0,hnm⟩:=hh
    obtain ⟨r1,r2,h⟩:=h
    have r1':0≤ix.den ρ:=r1
    have r2':ix.den ρ < ((l.den ρ).length:Int):=r2
    have bi:=Zz (P:=P) hg i
    rw [hi] at bi
    exact Z2 h bi (ZdS ho hT (by omega) (Zd ρ hx) (show Zp ((fun d=>(g d).den ρ) d) q=_ from ZN ρ hp) rfl (Zd ρ hi) r1' (by omega) hnm)
   ·exact h.elim
  ·exact h.elim
 ·exact h.elim
theorem Zrn {T:TypeId} {a b:Operand} (hg:∀ d,(g d).bd n) (ho:o.op = .makeSlice T a b) (h:(Yq P E tx tk g o n k).wp P R A ρ):YN tx P R A ρ g o n k:=by
 simp only [Yq,ho] at h
 split at h
 ·rename_i m m' ha hb
  split at h
  ·rename_i e hT
   have bm:=Zz (P:=P) hg a
   rw [ha] at bm
   split at h
   ·rename_i i hi
    split at h
    ·rename_i z hz
     split at h
     ·rename_i zc sh hzc hsh
      split at h
      ·rename_i zc' hzc'
       split at h
       ·rename_i hzs
        have h1:=YV ρ z.cells.toList
        rw [hzc] at h1
        obtain ⟨r1,r2,r3,h⟩:=h
        have r2':m.den ρ≤m'.den ρ:=r2
        have r3':m'.den ρ≤m.den ρ:=r3
        have hmm:m'.den ρ=m.den ρ:=by omega
        refine Z2 h (x:=.own (!(E.exO o)) e _) ⟨bm,Ka _ (Vk _ _ _ hzc' (KR hzc))⟩ ?_
        have hb':Zn P (fun d=>(g d).den ρ) b = .val (.int .i64 (m.den ρ)):=by rw [← hmm];exact Zd ρ hb
        have:=Znx (!(E.exO o)) (zc:=zc.map (SC.den ρ)) (zc':=zc'.map (SC.den ρ)) ho hT hi hz hzs.1 h1.symm (Zd ρ ha) hb' r1.1 r1.2 hzs.2 (Wt ρ _ _ _ hzc')
        rw [← Yh] at this
        exact this
       ·exact h.elim
      ·exact h.elim
     ·exact h.elim
    ·exact h.elim
   ·exact h.elim
  ·exact h.elim
 ·exact h.elim
theorem ZpT {T:TypeId} {x:Operand} {lo hi mx:Option Operand} (hg:∀ d,(g d).bd n) (htop:∀ i,E.top≤i→g i = .dead) (ho:o.op = .slice T x lo hi mx) (h:(Yq P E tx tk g o n k).wp P R A ρ):YN tx P R A ρ g o n k:=by
 have bx:=Zz (P:=P) hg x
 simp only [Yq,ho] at h
 split at h
 ·rename_i e full s xs hT hx
  rw [hx] at bx
  have sx:=Zd ρ hx
  split at h
  ·rename_i hh
   have hs0:P.cellsOf e≠0:=by omega
   unfold ZnP at h
   split at h
   ·rename_i k1 k2 h1 h2 h3
    cases lo with
    | some y => simp at h1
    | none =>
     cases hi with
     | none => simp at h2
     | some y =>
      cases mx with
      | none => simp at h3
      | some z =>
       simp only [Xo,Xf] at h2 h3
       exact Z2 h trivial (Zlt ho hT hs0 sx (Zd ρ h2) (Zd ρ h3))
   ·rename_i h1 h2 h3
    cases lo with
    | some y => simp at h1
    | none =>
     cases hi with
     | some y => simp at h2
     | none =>
      cases mx with
      | some z => simp at h3
      | none =>
       have:=ZcD (l:=0) (h:=(xs.den ρ).length) (f':=full) ho hT hh.1 hs0 sx (Wh _) (XD _) (.inl ⟨rfl,rfl⟩) (.inl ⟨rfl,rfl⟩) (fun h=>⟨h,rfl⟩)
       rw [List.take_length,UH] at this
       exact Z2 h bx this
   ·rename_i kl l h1 h2 h3
    cases lo with
    | none => simp at h1
    | some y =>
     cases hi with
     | some y => simp at h2
     | none =>
      cases mx with
      | some z => simp at h3
      | none =>
       simp only [Xo,Xf] at h1
       have by1:=Zz (P:=P) hg y
       rw [h1] at by1
       obtain ⟨r1,r2,h⟩:=h
       have r1':0≤l.den ρ:=r1
       have r2':l.den ρ≤((xs.den ρ).length:Int):=r2
       have sy:=Zd ρ h1
       have e1:((l.den ρ).toNat:Int)=l.den ρ:=U4 r1'
       have:=ZcD (l:=(l.den ρ).toNat) (h:=(xs.den ρ).length) (f':=full) ho hT hh.1 hs0 sx (by omega) (XD _) (.inr ⟨y,kl,rfl,by rw [e1];exact sy⟩) (.inl ⟨rfl,rfl⟩) (fun h=>⟨h,rfl⟩)
       rw [List.take_length] at this
       exact Z2 h ⟨bx,by1⟩ this
   ·rename_i kl l h1 h2 h3
    cases lo with
    | some y => simp at h1
    | none =>
     cases hi with
     | none => simp at h2
     | some y =>
      cases mx with
      | some z => simp at h3
      | none =>
       simp only [Xo,Xf] at h2
       have by1:=Zz (P:=P) hg y
       rw [h2] at by1
       obtain ⟨r1,r2,h⟩:=h
       have r1':0≤l.den ρ:=r1
       have r2':l.den ρ≤((xs.den ρ).length:Int):=r2
       have sy:=Zd ρ h2
       have e1:((l.den ρ).toNat:Int)=l.den ρ:=U4 r1'
       have:=ZcD (l:=0) (h:=(l.den ρ).toNat) (f':=Xc) ho hT hh.1 hs0 sx (Wh _) (by omega) (.inl ⟨rfl,rfl⟩) (.inr ⟨y,kl,rfl,by rw [e1];exact sy⟩) (fun h=>by simp at h)
       rw [UH] at this
       exact Z2 h ⟨bx,by1⟩ this
   ·rename_i kl l kh hb h1 h2 h3
    cases lo with
    | none => simp at h1
    | some y =>
     cases hi with
     | none => simp at h2
     | some z =>
      cases mx with
      | some z => simp at h3
      | none =>
       simp only [Xo,Xf] at h1 h2
       have by1:=Zz (P:=P) hg y
       rw [h1] at by1
       have by2:=Zz (P:=P) hg z
       rw [h2] at by2
       obtain ⟨r1,r2,r3,h⟩:=h
       have r1':0≤l.den ρ:=r1
       have r2':l.den ρ≤hb.den ρ:=r2
       have r3':hb.den ρ≤((xs.den ρ).length:Int):=r3
       have sy:=Zd ρ h1
       have sz:=Zd ρ h2
       have e1:((l.den ρ).toNat:Int)=l.den ρ:=U4 r1'
       have e2:((hb.den ρ).toNat:Int)=hb.den ρ:=U4 (by omega)
       have:=ZcD (l:=(l.den ρ).toNat) (h:=(hb.den ρ).toNat) (f':=Xc) ho hT hh.1 hs0 sx (by omega) (by omega) (.inr ⟨y,kl,rfl,by rw [e1];exact sy⟩) (.inr ⟨z,kh,rfl,by rw [e2];exact sz⟩) (fun h=>by simp at h)
       exact Z2 h ⟨⟨bx,by2⟩,by1⟩ this
   ·exact h.elim
  ·exact h.elim
 ·rename_i e d q hT hx
  split at h
  ·rename_i k1 k2 h2 h3
   split at h
   ·rename_i e' l' hp
    split at h
    ·rename_i h0
     cases hi with
     | none => simp at h2
     | some y =>
      cases mx with
      | none => simp at h3
      | some z =>
       simp only [Xo,Xf] at h2 h3
       exact Z2 h trivial (ZdX ho hT (by omega) (Zd ρ hx) (Zd ρ h2) (Zd ρ h3) (show Zp ((fun d=>(g d).den ρ) d) q=_ from ZN ρ hp) h0.2)
    ·exact h.elim
   ·exact h.elim
  split at h
  case isFalse=>exact h.elim
  rename_i hq0
  subst hq0
  split at h
  ·rename_i kh hv e' l hhi hd _
   have hb:=hg d
   rw [hd] at hb
   split at h
   ·rename_i us hus
    split at h
    ·rename_i hh
     obtain ⟨rfl,h0,hnm⟩:=hh
     cases hi with
     | none => simp at hhi
     | some z =>
      simp only [Xo,Xf] at hhi
      have bz:=Zz (P:=P) hg z
      rw [hhi] at bz
      obtain ⟨r1,r2,h⟩:=h
      have r1':0≤hv.den ρ:=r1
      have r2':hv.den ρ≤((l.den ρ).length:Int):=r2
      have e1:((hv.den ρ).toNat:Int)=hv.den ρ:=U4 r1'
      obtain ⟨us',rfl,q1,q2,q3⟩:=J3 ρ htop (t:=d) hd hus
      have hod:Yc tx (fun d=>(g d).den ρ) d (us.tail.map fun u=>(u.1,u.2.den ρ)):=by
       rcases q2 with ⟨h0,_⟩ | q2
       ·cases h0
       ·exact q2
      refine W2 h ⟨hb,bz⟩ (J2 hus hb) ?_
      rw [q1]
      exact Ziz (h:=(hv.den ρ).toNat) ho hT (by omega) (Zd ρ hx) (show (fun d=>(g d).den ρ) d = .own Xb e' (l.den ρ) by show (g d).den ρ=_;rw [hd];rfl) (by rw [e1];exact Zd ρ hhi) (by omega) hod hnm
    ·exact h.elim
   ·exact h.elim
  ·exact h.elim
 ·exact h.elim
theorem Zlz {x:Operand} {i:Nat} (hg:∀ d,(g d).bd n) (ho:o.op = .extract x i) (h:(Yq P E tx tk g o n k).wp P R A ρ):YN tx P R A ρ g o n k:=by
 simp only [Yq,ho] at h
 split at h
 ·rename_i t vs h1 h2
  have hx:x = .tmp t:=by cases x<;>simp [ZK] at h1;rw [h1]
  subst hx
  simp only [ZK,Xo,Xf] at h2
  have hb:=hg t
  rw [h2] at hb
  have ht:(fun d=>(g d).den ρ) t = .tuple (vs.map (TC.den ρ)):=by show (g t).den ρ=_;rw [h2];rfl
  split at h
  ·rename_i b e xs hv
   have hv':(vs.map (TC.den ρ))[i]? = Xa (.own b e (xs.den ρ)):=by rw [Xk,hv];rfl
   have hbx:=hb _ (Xh hv)
   split at h
   case isFalse=>exact h.elim
   rename_i hmv
   have hmv':b=Xb→Mv P e (xs.den ρ):=fun hb=>ZkB ρ (by rw [hb] at hmv;simpa using hmv)
   refine W0 h hbx (us1 (fun c hc=>?_)) ?_
   ·rcases Wo hc with hc | rfl
    ·exact hb c hc
    ·cases b<;>first | exact hbx | trivial
   ·have:=Zcc (P:=P) (σ:=fun d=>(g d).den ρ) ho ht hv' hmv'
    simp only [Xg,Xz,SV.den,UB]
    cases b<;>exact this
  ·rename_i y hv
   have hv':(vs.map (TC.den ρ))[i]? = Xa (y.den ρ):=by rw [Xk,hv];rfl
   refine Z2 h (hb _ (Xh hv)) (Zb7 (σ:=fun d=>(g d).den ρ) ho ht hv' ?_ ?_ ?_ ?_ ?_)
   ·cases y with
    | cel p => exact Y5 (Q := fun z => z.plain = Xb) _ (fun _ _ => rfl) (fun _ _ _ => rfl) (fun _ => rfl) (fun _ _ => rfl)
    | _ => rfl
   ·intro d p he
    have:=J5 ρ y
    rw [show (SV.c y).den ρ=y.den ρ from rfl] at he
    rw [he] at this;cases this
   ·intro d he
    have:=J5 ρ y
    rw [show (SV.c y).den ρ=y.den ρ from rfl] at he
    rw [he] at this;cases this
   ·intro he
    have:=J5 ρ y
    rw [show (SV.c y).den ρ=y.den ρ from rfl] at he
    rw [he] at this;cases this
   ·intro he
    have:=J5 ρ y
    rw [show (SV.c y).den ρ=y.den ρ from rfl] at he
    rw [he] at this;cases this
  ·rename_i cs hv
   have hv':(vs.map (TC.den ρ))[i]? = Xa (.agg (cs.map (SC.den ρ))):=by rw [Xk,hv];rfl
   exact Z2 h (hb _ (Xh hv)) (Zb7 (σ:=fun d=>(g d).den ρ) ho ht hv' rfl (fun _ _ h=>by cases h) (fun _ h=>by cases h) (fun h=>by cases h) (fun h=>by cases h))
  ·exact h.elim
  ·exact h.elim
 ·exact h.elim
theorem Zr6 {c:Call} (hg:∀ d,(g d).bd n) (ho:o.op = .call c) (hc:c.callee = .builtin .len) (h:(Yq P E tx tk g o n k).wp P R A ρ):YN tx P R A ρ g o n k:=by
 simp only [Yq,ho,hc] at h
 split at h
 ·rename_i x T hargs hts
  have bx:=Zz (P:=P) hg x
  split at h
  ·rename_i d q hx
   split at h
   ·rename_i e e' l hT hp
    split at h
    ·rename_i hnm
     exact Z2 h (Jy hp (hg d)) (ZfD ho hc hargs hts hT (Zd ρ hx) (show Zp ((fun d=>(g d).den ρ) d) q=_ from ZN ρ hp) hnm)
    ·exact h.elim
   ·exact h.elim
  ·unfold Zsh at h
   split at h
   ·rename_i hT hx
    rw [hx] at bx
    exact Z2 h bx (ZeB ho hc hargs hts hT (Zd ρ hx))
   ·rename_i hT hx
    rw [hx] at bx
    exact Z2 h bx (Zhu ho hc hargs hts hT (Zd ρ hx))
   ·exact h.elim
 ·exact h.elim
theorem ZqZ {c:Call} (hg:∀ d,(g d).bd n) (ho:o.op = .call c) (hc:c.callee = .builtin .copy) (h:(Yq P E tx tk g o n k).wp P R A ρ):YN tx P R A ρ g o n k:=by
 simp only [Yq,ho,hc] at h
 split at h
 ·rename_i x y T T' hargs hts
  split at h
  ·rename_i e d q f s ys hT hx hy
   split at h
   ·rename_i e' l hp
    split at h
    ·rename_i hh
     obtain ⟨rfl,h1,rfl,h5,hnm⟩:=hh
     have by1:=Zz (P:=P) hg y
     rw [hy] at by1
     refine W0 h trivial (us1 (JK (hg d) ⟨Jy hp (hg d),by1⟩)) ?_
     simp only [Xg,Xz,Jv]
     exact Zex (f:=f) ho hc hargs hts hT h1 (Zd ρ hx) (show Zp ((fun d=>(g d).den ρ) d) q=_ from ZN ρ hp) (Ks ρ h5) (Zd ρ hy) hnm
    ·exact h.elim
   ·exact h.elim
  ·exact h.elim
 ·exact h.elim
theorem Zdo {c:Call} {T:TypeId} {x y:Operand} (src:Option Nat) {xv:SV} {ex:Bool} (hg:∀ d,(g d).bd n) (htop:∀ i,E.top≤i→g i = .dead) (ho:o.op = .call c) (hc:c.callee = .builtin .append) (hargs:c.args.toList = [x,y])
  (hts:c.argTypes.toList = [T,T]) (hsrc:∀ t,src=Xa t→x = .tmp t∧xv=g t) (hnone:src=Xe→xv=Z8 P g x)
  (h:(WF P T tx g E.top ex src xv (Z8 P g y) fun v us=>k v us [] n).wp P R A ρ):YN tx P R A ρ g o n k:=by
 have bY:=Zz (P:=P) hg y
 have hxv:xv.bd n:=by
  cases src with
  | none => rw [hnone rfl]; exact Zz hg x
  | some t => rw [(hsrc t rfl).2]; exact hg t
 unfold WF at h
 split at h
 ·rename_i e hT
  split at h
  ·rename_i i hi
   split at h
   ·rename_i z hz
    split at h
    ·rename_i hh
     split at h
     ·rename_i b e' xs f s ys hy
      rw [hy] at bY
      split at h
      ·rename_i t
       obtain ⟨rfl,hx⟩:=hsrc t rfl
       split at h
       ·rename_i us hus
        split at h
        ·rename_i he
         obtain ⟨rfl,rfl⟩:=he
         obtain ⟨us',rfl,q1,q2,q3⟩:=J3 ρ htop (t:=t) hx.symm hus
         refine W2 h.2 ⟨hxv,bY⟩ (J2 hus hxv) ?_
         rw [q1]
         exact ZdD (σ:=fun d=>(g d).den ρ) ho hc hargs hts hT hi hz hh.1 (by show (g t).den ρ=_;rw [← hx];rfl) (Zd ρ hy) h.1 q2 hh.2.2
        ·exact h.elim
       ·exact h.elim
      ·exact h.elim
     ·rename_i s0 f s ys hy
      rw [hy] at bY
      split at h
      ·rename_i he
       subst he
       refine W0 h.2 bY (by simp) ?_
       have hx:Zn P (fun d=>(g d).den ρ) x = .slice Xb s0 []:=by
        cases src with
        | none => exact Zd ρ (hnone rfl).symm
        | some t =>
         obtain ⟨rfl,hx⟩:=hsrc t rfl
         simp only [Zn,← hx]
         rfl
       exact Zcj (σ:=fun d=>(g d).den ρ) ex ho hc hargs hts hT hi hz hh.1 hx (Zd ρ hy) h.1 hh.2.2
      ·exact h.elim
     ·exact h.elim
    ·exact h.elim
   ·exact h.elim
  ·exact h.elim
 ·exact h.elim
theorem V6 {c:Call} {T:TypeId} {x y:Operand} (src:Option Nat) {xv:SV} {ex:Bool} {d q:Nat} (hg:∀ d,(g d).bd n) (htop:∀ i,E.top≤i→g i = .dead) (ho:o.op = .call c) (hc:c.callee = .builtin .append) (hargs:c.args.toList = [x,y])
  (hts:c.argTypes.toList = [T,T]) (hy:Z8 P g y = .mref d q) (hsrc:∀ t,src=Xa t→x = .tmp t∧xv=g t) (hnone:src=Xe→xv=Z8 P g x)
  (h:(Wy P T tx g E.top ex src xv (Ja (g d) q) fun v us=>k v us [d] n).wp P R A ρ):YN tx P R A ρ g o n k:=by
 have hxv:xv.bd n:=by
  cases src with
  | none => rw [hnone rfl]; exact Zz hg x
  | some t => rw [(hsrc t rfl).2]; exact hg t
 unfold Wy at h
 split at h
 ·rename_i e hT
  split at h
  ·rename_i i hi
   split at h
   ·rename_i z hz
    split at h
    ·rename_i hh
     split at h
     ·rename_i b e' xs e2 ys hp
      split at h
      ·rename_i t
       obtain ⟨rfl,hx⟩:=hsrc t rfl
       split at h
       ·rename_i us hus
        split at h
        ·rename_i he
         obtain ⟨rfl,rfl⟩:=he
         obtain ⟨us',rfl,q1,q2,q3⟩:=J3 ρ htop (t:=t) hx.symm hus
         refine W2 h.2 ⟨hxv,Jy hp (hg d)⟩ (J2 hus hxv) ?_
         rw [q1]
         exact W1 (σ:=fun d=>(g d).den ρ) ho hc hargs hts hT hi hz hh.1 (by show (g t).den ρ=_;rw [← hx];rfl) (Zd ρ hy) (show Zp ((fun d=>(g d).den ρ) d) q=_ from ZN ρ hp) h.1 q2 hh.2.2
        ·exact h.elim
       ·exact h.elim
      ·exact h.elim
     ·rename_i s0 e' ys hp
      split at h
      ·rename_i he
       subst he
       have hx':Zn P (fun d=>(g d).den ρ) x = .slice Xb s0 []:=by
        cases src with
        | none => exact Zd ρ (hnone rfl).symm
        | some t =>
         obtain ⟨rfl,hx⟩:=hsrc t rfl
         simp only [Zn,← hx]
         rfl
       refine Z2 h.2 (Jy hp (hg d)) ?_
       exact V2 (σ:=fun d=>(g d).den ρ) ex ho hc hargs hts hT hi hz hh.1 hx' (Zd ρ hy) (show Zp ((fun d=>(g d).den ρ) d) q=_ from ZN ρ hp) h.1 hh.2.2
      ·exact h.elim
     ·exact h.elim
    ·exact h.elim
   ·exact h.elim
  ·exact h.elim
 ·exact h.elim
theorem ZmY {g:Nat→SV} (ρ:Nat→V) {d top:Nat} (htop:∀ i,top≤i→g i = .dead) {x:Bool} {e:TypeId} {l:LE} (hd:g d = .own x e l) (h:(ZJ g d top).isEmpty=Xb):∀ j k,¬ Jh ((g j).den ρ) d k:=by
 intro j k hr
 by_cases hj:j=d
 ·subst hj
  rw [hd] at hr
  rcases hr with hr | ⟨_,hr⟩ <;> cases hr
 ·have:=(JB (g:=g) ρ (d:=d) htop).2 j k hj hr
  rw [U3] at h
  rw [h] at this
  cases this
theorem ZfI {c:Call} {T:TypeId} {t u:Nat} {D D':TypeId} {xs ys:LE} (hg:∀ d,(g d).bd n) (htop:∀ i,E.top≤i→g i = .dead) (ho:o.op = .call c) (hc:c.callee = .builtin .append) (hargs:c.args.toList = [.tmp t,.tmp u])
  (hts:c.argTypes.toList = [T,T]) (hgt:g t = .own Xb D xs) (hgu:g u = .own Xb D' ys)
  (h:(ZbF P T tx g E.top t u D D' xs ys fun v us=>k v us [] n).wp P R A ρ):YN tx P R A ρ g o n k:=by
 unfold ZbF at h
 split at h
 case h_2=>exact h.elim
 rename_i e hT
 split at h
 case h_2=>exact h.elim
 rename_i i hi
 split at h
 case h_2=>exact h.elim
 rename_i z hz
 split at h
 case isFalse=>exact h.elim
 rename_i hh
 obtain ⟨⟨h1,rfl,rfl⟩,⟨h4,h5⟩,h6,h7,h8⟩:=hh
 have bx:=hg t
 rw [hgt] at bx
 have by':=hg u
 rw [hgu] at by'
 refine W2 h.2 ⟨bx,by'⟩ (us2 trivial trivial) ?_
 exact Zcg (σ:=fun d=>(g d).den ρ) ho hc hargs hts hT hi hz h1 (show (g t).den ρ=_ by rw [hgt];rfl) (show (g u).den ρ=_ by rw [hgu];rfl) h6 h.1 h4 h5 (ZmY ρ htop hgt h7) (ZmY ρ htop hgu h8)
theorem ZnT {c:Call} (hg:∀ d,(g d).bd n) (htop:∀ i,E.top≤i→g i = .dead) (ho:o.op = .call c) (hc:c.callee = .builtin .append) (h:(Yq P E tx tk g o n k).wp P R A ρ):YN tx P R A ρ g o n k:=by
 simp only [Yq,ho,hc] at h
 split at h
 ·rename_i x y T T' hargs hts
  split at h
  ·rename_i hTT
   subst hTT
   split at h
   ·rename_i d q hy
    split at h
    ·rename_i t D' ys u ht hgd
     have hx:x = .tmp t:=by cases x<;>simp [ZK] at ht;rw [ht]
     split at h
     ·rename_i D xs hgt hdp
      split at h
      case isFalse=>exact h.elim
      rename_i hud
      subst hud
      subst hx
      exact ZfI hg htop ho hc hargs hts hgt hgd h
     ·exact V6 (Xa t) hg htop ho hc hargs hts hy (fun t' ht'=>by simp only [Xf] at ht';subst ht';exact ⟨hx,rfl⟩) (fun h=>by cases h) h
    split at h
    ·rename_i t ht
     have hx:x = .tmp t:=by cases x<;>simp [ZK] at ht;rw [ht]
     exact V6 (Xa t) hg htop ho hc hargs hts hy (fun t' ht'=>by simp only [Xf] at ht';subst ht';exact ⟨hx,rfl⟩) (fun h=>by cases h) h
    ·exact V6 Xe hg htop ho hc hargs hts hy (fun t' ht'=>by cases ht') (fun _=>rfl) h
   split at h
   ·rename_i t ht
    have hx:x = .tmp t:=by cases x<;>simp [ZK] at ht;rw [ht]
    exact Zdo (Xa t) hg htop ho hc hargs hts (fun t' ht'=>by simp only [Xf] at ht';subst ht';exact ⟨hx,rfl⟩) (fun h=>by cases h) h
   ·exact Zdo Xe hg htop ho hc hargs hts (fun t' ht'=>by cases ht') (fun _=>rfl) h
  ·exact h.elim
 ·exact h.elim
theorem Zqn {c:Call} {ka kb:IntKind} {a b:IE} (h:c.args.toList.map (Z8 P g) = [.c (.int ka a),.c (.int kb b)]) :
  ∃ x y,c.args.toList = [x,y]∧Z8 P g x = .c (.int ka a)∧Z8 P g y = .c (.int kb b):=by
 cases hl:c.args.toList with
 | nil => simp [hl] at h
 | cons x l =>
  cases l with
  | nil => simp [hl] at h
  | cons y l =>
   cases l with
   | nil => simp only [hl, Xg, Xz, List.cons.injEq, and_true] at h; exact ⟨x, y, rfl, h.1, h.2⟩
   | cons z l => simp [hl] at h
theorem Zs5 {c:Call} (hg:∀ d,(g d).bd n) (ho:o.op = .call c) (hc:c.callee = .builtin .min) (h:(Yq P E tx tk g o n k).wp P R A ρ):YN tx P R A ρ g o n k:=by
 simp only [Yq,ho,hc] at h
 split at h
 ·rename_i ka a kb b hl
  obtain ⟨x,y,h1,h2,h3⟩:=Zqn hl
  split at h
  ·rename_i he
   subst he
   have b1:=Zz (P:=P) hg x
   have b2:=Zz (P:=P) hg y
   rw [h2] at b1
   rw [h3] at b2
   exact Z2 h ⟨b1,b2⟩ (Zdb (mn:=Xb) ho hc h1 (Zd ρ h2) (Zd ρ h3))
  ·exact h.elim
 ·exact h.elim
theorem ZsE {c:Call} (hg:∀ d,(g d).bd n) (ho:o.op = .call c) (hc:c.callee = .builtin .max) (h:(Yq P E tx tk g o n k).wp P R A ρ):YN tx P R A ρ g o n k:=by
 simp only [Yq,ho,hc] at h
 split at h
 ·rename_i ka a kb b hl
  obtain ⟨x,y,h1,h2,h3⟩:=Zqn hl
  split at h
  ·rename_i he
   subst he
   have b1:=Zz (P:=P) hg x
   have b2:=Zz (P:=P) hg y
   rw [h2] at b1
   rw [h3] at b2
   exact Z2 h ⟨b1,b2⟩ (Zdb (mn:=Xc) ho hc h1 (Zd ρ h2) (Zd ρ h3))
  ·exact h.elim
 ·exact h.elim
theorem ZhB (ρ:Nat→V) (l:List SAK):(l.map (SAK.den ρ)).filterMap AK.slot=l.filterMap SAK.slot:=by
 rw [List.filterMap_map]
 congr 1
 funext a
 exact ZcJ ρ a
theorem Zj6 {c:Call} {f:FuncId} {cps tail:List KW} {rf:List Nat} {saks:List SAK} (htop:∀ i,E.top≤i→g i = .dead) (ho:o.op = .call c)
  (hc:(c.callee = .value (.func f)∧cps = [])∨∃ t,c.callee = .value (.tmp t)∧((∃ ds,(g t).den ρ = .clo f ds∧cps=ds.map KW.cap)∨∃ js,(g t).den ρ = .fnc f js∧js≠[]∧cps=js.map KW.obj))
  (a1:Kn P g ρ (c.args.toList.map KW.op++cps++tail) saks) (a2:∀ x∈tail,x = .pad∨x = .ghost) (a3:(c.args.toList.map KW.op++cps).length+((saks.map (SAK.den ρ)).map AK.av).countP AV.isG≤saks.length) (a4:ZnY (saks.map (SAK.den ρ))) (a5:Znn (saks.map (SAK.den ρ)))
  (hrf:∀ (i:Nat) (x:Operand),c.args.toList[i]? = Xa x→(rf.contains i&&(Zcb g x).isSome)=Xb→∃ t d q j,saks[i]? = Xa (SAK.ref t d q j)) (h:(ZdL P E tx g f (WD P g rf c.args.toList 0) (Xa saks) n k).wp P R A ρ):YN tx P R A ρ g o n k:=by
 unfold ZdL at h
 split at h
 ·rename_i saks' Ts hs _
  cases hs
  split at h
  ·rename_i hnd0
   obtain ⟨hnd,hfree⟩:=hnd0
   split at h
   ·rename_i res sh n' hr
    obtain ⟨q1,q2,q3⟩:=Zlo hr
    dsimp only at h
    split at h
    case isFalse=>exact h.elim
    rename_i hbo0
    obtain ⟨hbo,hrnm⟩:=hbo0
    obtain ⟨vs,h1,h2⟩:=h
    have hlen:((Jj (saks.map SAK.sv) n').1).length=saks.length:=by rw [Ze2,Xq]
    refine ⟨bind ρ n vs,(Jj (saks.map SAK.sv) n').2.2,res,ZaN saks (Jj (saks.map SAK.sv) n').1,saks.filterMap SAK.slot++(WD P g rf c.args.toList 0).map (·.1),Nat.le_trans q1 (YW _ _),Yx ρ n vs,SV.bd_mono (YW _ _) _ q2,
     KZ _ _ (V7 _ _),h2,?_⟩
    have:=ZmB (T:=tx) (((WD P g rf c.args.toList 0).head?.getD (0,0)).1) (((WD P g rf c.args.toList 0).head?.getD (0,0)).2) ((WD P g rf c.args.toList 0).map (·.1)) (P:=P) (σ:=fun d=>(g d).den ρ) (aks:=saks.map (SAK.den ρ)) (res:=res.den (bind ρ n vs)) (outs:=(Jj (saks.map SAK.sv) n').1.map (SV.den (bind ρ n vs))) (tail:=tail) ho hc (by simpa using a1.1)
     (fun i x a hx hi=>?_) a2 (by simpa using a3) a4 a5
     (by rw [ZhB];exact Kj _ hnd) (by simp [hlen]) (fun i d fr to cs y hi hy=>?_) (fun i d rows y hi hy=>?_) (q3 _) (ZpY _ hrnm) (fun i t e xs hi=>?_) (fun i d fr to cs hi=>?_) (fun i x hx hz d q hxm hno=>?_) ?_
    ·rw [Zhw,ZhB] at this
     exact this.s
    ·rw [Xk] at hi
     cases hsi:saks[i]? with
     | none => simp [hsi] at hi
     | some a0 =>
      simp only [hsi,Xo,Xf] at hi
      subst hi
      exact a1.2 i x a0 hx hsi
    ·rw [Xk] at hi hy
     cases hsi:saks[i]? with
     | none => simp [hsi] at hi
     | some a =>
      cases hyi:(Jj (saks.map SAK.sv) n').1[i]? with
      | none => simp [hyi] at hy
      | some y0 =>
       simp only [hsi,hyi,Xo,Xf] at hi hy
       subst hy
       cases a with
       | box d0 fr0 to0 cs0 =>
        simp only [SAK.den,AK.box.injEq] at hi
        obtain ⟨rfl,rfl,rfl,rfl⟩:=hi
        obtain ⟨cs',rfl⟩:=Vl (saks.map SAK.sv) n' i to0 cs0 y0 (by rw [Xk,hsi];rfl) hyi
        exact ⟨_,Zcv _ _ _⟩
       | _ => cases hi
    ·obtain ⟨l,hl⟩:=ZqK hi
     rw [Xk] at hy
     cases hyi:(Jj (saks.map SAK.sv) n').1[i]? with
     | none => simp [hyi] at hy
     | some y0 =>
      simp only [hyi,Xo,Xf] at hy
      subst hy
      obtain ⟨l',rfl⟩:=Zfa (saks.map SAK.sv) n' i l y0 (by rw [Xk,hl];rfl) hyi
      rfl
    ·rw [Xk] at hi
     cases hsi:saks[i]? with
     | none => simp [hsi] at hi
     | some a =>
      simp only [hsi,Xo,Xf] at hi
      cases a with
      | own t0 x0 e0 l0 =>
       simp only [SAK.den,AK.own.injEq] at hi
       obtain ⟨rfl,rfl,rfl,_⟩:=hi
       unfold Zgn at hfree
       rw [XE] at hfree
       have hf:=hfree _ (Xh hsi)
       cases tx with
       | any N M K => exact .inr ⟨N, M, K, rfl, hf, rfl⟩
       | text =>
       simp only [U3] at hf
       refine .inl ⟨rfl,by simp,fun j q _ hr=>?_⟩
       have hda:=(JB ρ htop (d:=t0)).2 j q
       by_cases hj:j=t0
       ·subst hj
        have hok:=a1.2 i
        have hlt:=(Xi.1 hsi).1
        obtain ⟨x,hx⟩:∃ x,(c.args.toList.map KW.op++cps++tail)[i]? = Xa x:=⟨_,Xp (by rw [a1.1];exact hlt)⟩
        have hk:=hok x _ hx hsi
        cases x with
        | op y =>
         have h1:(g j).den ρ = .own Xb e0 (l0.den ρ):=hk.2
         have hr':Jh ((g j).den ρ) j q:=hr
         rw [h1] at hr'
         rcases hr' with h2 | ⟨_,h2⟩ <;> cases h2
        | _ => exact hk.elim
       ·have:=hda hj hr
        rw [hf] at this
        cases this
      | _ => cases hi
    ·rw [Xk] at hi
     cases hsi:saks[i]? with
     | none => simp [hsi] at hi
     | some a =>
      simp only [hsi,Xo,Xf] at hi
      cases a with
      | box t0 fr0 to0 cs0 =>
       simp only [SAK.den,AK.box.injEq] at hi
       obtain ⟨rfl,rfl,rfl,rfl⟩:=hi
       unfold Zgn at hfree
       rw [XE] at hfree
       have hf0:=hfree _ (Xh hsi)
       rcases UP.1 hf0 with hpl | hf
       ·exact .inl (Zdm hpl ρ)
       ·right
        cases tx with
        | any N M K =>
         rcases UP.1 hf with hf | hf
         ·exact .inl (.inr ⟨N,M,K,rfl,hf,rfl⟩)
         ·refine .inr fun σ' hrl j q hr=>?_
          cases hM:M t0 with
          | none => rw [hM] at hf; cases hf
          | some t =>
           rw [hM] at hf
           simp only at hf
           by_cases hj:t=j
           ·subst hj
            rw [Uk] at hf
            obtain ⟨b,hb,hbt⟩:=hf
            cases b with
            | ref t1 _ _ _ =>
             have h4:t1=t:=by simpa using hbt
             exact ⟨_,Xj.2 ⟨_,hb,rfl⟩,by rw [ZcJ];show Xa t1=Xa t;rw [h4]⟩
            | _ => cases hbt
           ·exact (hrl.1 t0 j q (by simp [Odr.nr,hM,hj]) hr).elim
        | text =>
        refine .inr fun σ' hrl j q hr=>?_
        have hrl':σ'=fun d=>(g d).den ρ:=hrl
        rw [hrl'] at hr
        have hda:=(JB ρ htop (d:=t0)).2 j q
        by_cases hj:j=t0
        ·subst hj
         have hok:=a1.2 i
         have hlt:=(Xi.1 hsi).1
         obtain ⟨x,hx⟩:∃ x,(c.args.toList.map KW.op++cps++tail)[i]? = Xa x:=⟨_,Xp (by rw [a1.1];exact hlt)⟩
         have hk:=hok x _ hx hsi
         have hr':Jh ((g j).den ρ) j q:=hr
         have hb0:∃ fr cs,(g j).den ρ=mkB fr cs:=by
          cases x with
          | op y => exact ⟨Xc, _, hk.2.1⟩
          | cap d' => exact ⟨_, _, hk.2.1⟩
          | obj _ => exact hk.elim
          | ghost => exact ⟨_, _, hk.1⟩
          | pad => exact hk.elim
         obtain ⟨fr,cs,hb0⟩:=hb0
         rw [hb0] at hr'
         cases fr<;>rcases hr' with h2 | ⟨_,h2⟩ <;> cases h2
        ·have hm:=hda hj hr
         rw [XE] at hf
         obtain ⟨u,hu,huj⟩:=Xj.1 hm
         obtain ⟨u0,hu0,rfl⟩:=Xj.1 hu
         have h3:=hf u0 hu0
         rw [Uk] at h3
         obtain ⟨b,hb,hbt⟩:=h3
         cases b with
         | ref t1 _ _ _ =>
          refine ⟨_,Xj.2 ⟨_,hb,rfl⟩,?_⟩
          have h4:t1=u0.1:=by simpa using hbt
          rw [ZcJ]
          show Xa t1=Xa j
          rw [h4];exact congrArg Xa huj
         | _ => cases hbt
      | _ => cases hi
    ·have hnrf:(rf.contains (0+i)&&(Zcb g x).isSome)=Xc:=by
      rw [XF]
      cases hc':(rf.contains i&&(Zcb g x).isSome) with
      | false => rfl
      | true =>
       obtain ⟨t1,d1,q1,j2,h2'⟩:=hrf i x hx hc'
       obtain ⟨z,hz⟩:=hz
       rw [Xk,h2'] at hz
       cases hz
     have hm:=Zig (P:=P) (g:=g) ρ hx hnrf hxm hno
     generalize WD P g rf c.args.toList 0=bs at hm hbo
     cases bs with
     | nil => cases hm
     | cons p r =>
      simp only [ZsH,Xs,XE,decide_eq_true_eq,UG,List.contains_eq_mem,decide_eq_false_iff_not] at hbo
      obtain ⟨⟨⟨b1,b2⟩,b3⟩,b4⟩:=hbo
      have hp:d=p.1∧q=p.2:=by
       rcases Xl.1 hm with h0 | h0
       ·rw [← h0];exact ⟨rfl,rfl⟩
       ·exact b1 _ h0
      refine ⟨hp.1,hp.2,by simp,fun a ha hs=>b2 ?_,fun i=>?_⟩
      ·obtain ⟨a0,ha0,rfl⟩:=Xj.1 ha
       rw [ZcJ] at hs
       exact List.mem_filterMap.2 ⟨a0,ha0,hs⟩
      ·simp only [ZI]
       rcases Xx i ((Jj (saks.map SAK.sv) n').1.map (SV.den (bind ρ n vs))).length with hi | hi
       ·rw [Xv hi,Xk]
        cases hy:(Jj (saks.map SAK.sv) n').1[i]? with
        | none => rfl
        | some y => exact ZeV _ (b4 y (Xh hy))
       ·rw [Xy hi]
        cases hj:i-((Jj (saks.map SAK.sv) n').1.map (SV.den (bind ρ n vs))).length with
        | zero => exact ZeV _ b3
        | succ j => rfl
    ·have he:(saks.map (SAK.den ρ)).map AK.av=(saks.map SAK.sv).map (SV.den ρ):=by
      rw [X6,X6]
      exact Wk fun a _=>Zqh ρ a
     rw [he]
     exact h1
   ·exact h.elim
  ·exact h.elim
 ·exact h.elim
theorem Zjs {c:Call} {f:FuncId} {cps:List KW} {rf:List Nat} {aZ:List SAK} (htop:∀ i,E.top≤i→g i = .dead) (ho:o.op = .call c)
  (hc:(c.callee = .value (.func f)∧cps = [])∨∃ t,c.callee = .value (.tmp t)∧((∃ ds,(g t).den ρ = .clo f ds∧cps=ds.map KW.cap)∨∃ js,(g t).den ρ = .fnc f js∧js≠[]∧cps=js.map KW.obj))
  (ha:Kn P g ρ (c.args.toList.map KW.op++cps) aZ) (hraw:Raw aZ) (hrf:∀ (i:Nat) (x:Operand),c.args.toList[i]? = Xa x→(rf.contains i&&(Zcb g x).isSome)=Xb→∃ t d q j,aZ[i]? = Xa (SAK.ref t d q j)) (h:(ZdL P E tx g f (WD P g rf c.args.toList 0) (VG g (Zr1 P f) aZ) n k).wp P R A ρ):YN tx P R A ρ g o n k:=by
 cases hs:VG g (Zr1 P f) aZ with
 | none => rw [hs] at h; exact h.elim
 | some saks =>
  obtain ⟨tail,a1,a2,a3,a4,a5,a6⟩:=Ze6 ρ ha hraw hs
  rw [hs] at h
  refine Zj6 htop ho hc a1 a2 a3 a4 a5 (fun i x hx hr=>?_) h
  obtain ⟨t,d,q,j,hj⟩:=hrf i x hx hr
  obtain ⟨j',hj'⟩:=a6 i t d q j hj
  exact ⟨t,d,q,j',hj'⟩
theorem Zim {d:Nat} {u:Nat×SV} {n:Nat} (ρ:Nat→V) (hu:u∈ZJ g d n):u.2 = .dead∧∃ d k,Jh ((g u.1).den ρ) d k:=by
 obtain ⟨h1,_,_,h4⟩:=(Jl n u).1 hu
 obtain ⟨k,hk⟩:=(Zbz ρ d (g u.1)).1 h4
 exact ⟨h1,d,k,hk⟩
theorem Zjr {rf:List Nat} {args:List Operand} {u:Nat×SV} (ρ:Nat→V) (hu:u∈Zcy E tx g rf args):u.2 = .dead∧∃ d k,Jh ((g u.1).den ρ) d k:=by
 unfold Zcy at hu
 split at hu
 ·obtain ⟨p,_,hp⟩:=List.mem_flatMap.1 (List.mem_filter.1 hu).1
  split at hp
  ·split at hp
   ·exact Zim ρ hp
   ·cases hp
  ·cases hp
 ·cases hu
theorem Zg8 (kl:Ups):(fun d=>(ZhT kl g d).den ρ)=Jm (fun d=>(g d).den ρ) ((kl.map fun u=>(u.1,SV.dead.den ρ))):=by
 funext d
 rw [Kr _ _ _ (fun u hu=>by obtain ⟨v,_,rfl⟩:=Xj.1 hu;rfl)]
 unfold ZhT
 by_cases h:(kl.any fun u=>u.1 == d)=Xb
 ·rw [if_pos h,if_pos]
  ·rfl
  ·rw [Uk] at h
   obtain ⟨u,hu,he⟩:=h
   rw [X6]
   exact Xj.2 ⟨u,hu,by simpa using he⟩
 ·rw [if_neg h,if_neg]
  rw [X6]
  intro hm
  obtain ⟨u,hu,he⟩:=Xj.1 hm
  exact h (Uk.2 ⟨u,hu,by simpa using he⟩)
theorem ZnQ (kl:Ups) (hkl:∀ u∈kl,u.2 = .dead∧(∃ d k,Jh ((g u.1).den ρ) d k)∧u.1∉Vn o) (h:YN .text P R A ρ (ZhT kl g) o n (fun x us fp n'=>k x (kl++us) fp n')):YN .text P R A ρ g o n k:=by
 obtain ⟨ρ',n',x,us,fp,h1,h2,h3,h4,h5,h6⟩:=h
 refine ⟨ρ',n',x,kl++us,fp,h1,h2,h3,fun u hu=>?_,h5,?_⟩
 ·rcases Xt.1 hu with hu | hu
  ·rw [(hkl u hu).1];trivial
  ·exact h4 u hu
 intro c hc σ' tm w lim X _ _ hT _ hsim next Q hn
 have hT':σ'=fun d=>(g d).den ρ:=hT
 subst hT'
 have hmap:(kl.map fun u=>(u.1,u.2.den ρ'))=kl.map fun u=>(u.1,SV.dead.den ρ):=Wk fun u hu=>by rw [(hkl u hu).1];rfl
 obtain ⟨X',hs,_⟩:=Sim.drops (kl.map fun u=>(u.1,SV.dead.den ρ)) hsim fun u hu=>by
  obtain ⟨v,hv,rfl⟩:=Xj.1 hu
  obtain ⟨_,⟨d,q,hr⟩,_⟩:=hkl v hv
  obtain ⟨g1,g2,g3⟩:=YE hr
  refine ⟨rfl,g2,JL hsim (fun he=>?_) g3⟩
  rw [he] at hr
  rcases hr with hr | ⟨_,hr⟩ <;> cases hr
 rw [← Zg8] at hs
 refine h6 c hc _ tm w lim X' (fun _ _=>.inl rfl) (fun _ _=>rfl) rfl (fun _ _=>Zro.refl _) hs next Q fun v w' ha=>hn v w' ?_
 rw [XL,hmap,VM,← Zg8]
 exact ha
theorem Zg7:∀ (l:List SV) (ds:List Nat),ZeU l=Xa ds→l.length=ds.length∧∀ (i d:Nat),ds[i]? = Xa d→l[i]? = Xa (.ptr d 0)
 | [], ds, h => by simp only [ZeU, Xf] at h; subst h; exact ⟨rfl, by simp⟩
 | x :: l, ds, h => by
  unfold ZeU at h
  split at h
  ·rename_i heq;cases heq
  ·rename_i d r heq
   simp only [List.cons.injEq] at heq
   obtain ⟨rfl,rfl⟩:=heq
   cases hr:ZeU l with
   | none => rw [hr] at h; cases h
   | some es =>
    rw [hr] at h
    simp only [Xo,Xf] at h
    subst h
    obtain ⟨h1,h2⟩:=Zg7 l es hr
    refine ⟨by simp [h1],fun i e he=>?_⟩
    cases i with
    | zero => simp only [XB, Xf] at he ⊢; rw [he]
    | succ i => simpa using h2 i e (by simpa using he)
  ·cases h
theorem ZiR {fn:Fn} {first captured:Array Operand} (ho:o.op = .makeFunc fn first captured) (h:(Yq P E tx tk g o n k).wp P R A ρ):YN tx P R A ρ g o n k:=by
 simp only [Yq,ho] at h
 split at h
 ·rename_i f ds hf hds
  split at h
  ·rename_i hall
   obtain ⟨h1,h2⟩:=Zg7 _ _ hds
   refine Z2 h trivial (Zf0 ho hf (by simpa using h1) fun i x d hx hd=>?_)
   have h3:=h2 i d hd
   rw [Xk,hx] at h3
   simp only [Xo,Xf] at h3
   rw [XE] at hall
   have h4:=hall d (Xh hd)
   refine ⟨Zd ρ h3,?_⟩
   show ∃ cs,(g d).den ρ = .box cs
   split at h4
   ·rename_i cs hcs;rw [hcs];exact ⟨_,rfl⟩
   ·cases h4
  ·exact h.elim
 ·exact h.elim
theorem ZnZ {P:Program} (w:World) (d:Nat) {t e:TypeId} (a:Addr) (h:P.underlying t=Xa (.pointer e)):(Op.equalIn (d+1) t (.pointer (Xa a)) (.pointer Xe)).run P w = .ok Xc w:=by
 simp [Op.equalIn,run_underlying h]
theorem Zc5 {P:Program} {o:Oper} {σ:Nat→AV} {op:BinOp} {T T' e:TypeId} {x:Operand} {d off:Nat} (ho:o.op = .binOp op T x (.const (.pointer Xe)) T') (hT:P.underlying T=Xa (.pointer e))
  (hop:op = .eql∨op = .neq) (hx:Zn P σ x = .ptr d off):Jg P o σ (.val (.bool (if op = .eql then Xc else Xb))) [] []:=by
 refine Zt [] rfl fun c hc σ' tm w lim X hg _ hsim=>⟨.bool (if op = .eql then Xc else Xb),?_,.val rfl⟩
 rw [ho] at hg
 obtain ⟨b,cs,_,_,hv⟩:=JF hc hsim hx (hg x (by simp [Op.operands]))
 have hc0:Act.eval ⟨tm,[]⟩ (.const (.pointer Xe)) = .pointer Xe:=rfl
 have he:(Op.equal T (.pointer (Xa ⟨b,off,Xe⟩)) (.pointer Xe)).run P w = .ok Xc w:=ZnZ w 9999 _ hT
 rcases hop with rfl | rfl<;>simp [execOp,ho,hv,hc0,eqGuard,binOp,he]
theorem ZpJ {op:BinOp} {T T':TypeId} {x y:Operand} (hps:EnvSound P E) (hg:∀ d,(g d).bd n) (ho:o.op = .binOp op T x y T') (h:(Yq P E tx tk g o n k).wp P R A ρ):YN tx P R A ρ g o n k:=by
 simp only [Yq,ho] at h
 split at h
 ·rename_i b hb
  unfold Zqi at hb
  split at hb
  ·rename_i d off e hx hT
   split at hb
   ·simp only [Xf] at hb
    subst hb
    exact Z2 h trivial (Zc5 (op:=.eql) ho hT (.inl rfl) (Zd ρ hx))
   ·simp only [Xf] at hb
    subst hb
    exact Z2 h trivial (Zc5 (op:=.neq) ho hT (.inr rfl) (Zd ρ hx))
   ·cases hb
  ·cases hb
 ·exact ZlZ hps.1 hg ho h
theorem Zkc {l:List (List AV)} {k:Int} (h:ZoE .any l k=Xb):∃ kvs tl,l = [.slice Xc 2 kvs::tl]:=by
 unfold ZoE at h
 split at h
 ·exact ⟨_,_,rfl⟩
 ·cases h
theorem ZlT {l:List (List AV)} {k:Int} (h:ZoE .full l k=Xb):∃ kvs,l = [[.slice Xc 2 kvs]]:=by
 unfold ZoE at h
 split at h
 ·rename_i kvs tl
  obtain rfl:tl = []:=by simpa using h
  exact ⟨_,rfl⟩
 ·cases h
theorem ZmX {l:List (List AV)} {k:Int} (h:ZoE .at l k=Xb):∃ kvs tl,l = [.slice Xc 2 kvs::tl]∧∀ x∈tl,x = .val (.int .i64 k):=by
 unfold ZoE at h
 split at h
 ·rename_i kvs tl
  refine ⟨_,_,rfl,fun x hx=>?_⟩
  have:=XE.1 (show tl.all (ZrF k)=Xb from h) x hx
  unfold ZrF at this
  split at this
  ·rename_i z
   have hz:z=k:=by simpa using this
   rw [hz]
  ·cases this
 ·cases h
theorem Znc {l:List (List AV)} {k:Int} (h:ZoE .keys l k=Xb):∃ kvs,l = [[.slice Xc 2 kvs]]∧kvs.length≤1048576∧∀ r∈kvs,Zbv r=Xb:=by
 unfold ZoE at h
 split at h
 ·rename_i kvs tl
  have h':tl.isEmpty=Xb∧kvs.length≤1048576∧kvs.all Zbv=Xb:=by simpa using h
  obtain rfl:tl = []:=by simpa using h'.1
  exact ⟨_,rfl,h'.2.1,XE.1 h'.2.2⟩
 ·cases h
theorem Zlg {T:TypeId} {x:Option Operand} (ho:o.op = .makeMap T x) (h:(Yq P E tx tk g o n k).wp P R A ρ):YN tx P R A ρ g o n k:=by
 simp only [Yq,ho] at h
 split at h
 ·rename_i et het
  exact Z2 h (show (LE.bd n _) from ⟨trivial,trivial,trivial⟩) (Zhg ho het)
 ·rename_i hks
  split at h
  ·rename_i z hz
   split at h
   ·rename_i hlt
    exact Z2 h (show (LE.bd n _) from ⟨trivial,trivial,trivial⟩) (ZfW ho hz hks hlt)
   ·exact h.elim
  ·exact h.elim
 ·exact h.elim
theorem Zpx {z:Value} {sh:Sh} (hk:Zef z=Xa sh):∃ zc,ofC z=Xa zc∧zc.bd n∧∀ ρ,zc.den ρ = .val z:=by
 cases z<;>simp [Zef] at hk
 ·exact ⟨_,rfl,trivial,fun _=>rfl⟩
 ·exact ⟨_,rfl,trivial,fun _=>rfl⟩
theorem ZmP {l:List (List AV)} {i:Int} (h:qop .mapv l i=Xb):∃ kvs,l = [[.slice Xc 2 kvs]]:=by
 simp only [qop] at h
 split at h
 ·exact ⟨_,rfl⟩
 ·cases h
theorem Zlm {T:TypeId} {m kx:Operand} {ok:Bool} {z:Value} (hg:∀ d,(g d).bd n) (ho:o.op = .lookup T m kx ok) (hz:K5 P T=Xa z) (h:(ZiO P g T m kx ok z n k).wp P R A ρ):YN tx P R A ρ g o n k:=by
 unfold ZiO at h
 split at h
 case h_2=>exact h.elim
 rename_i d ke hks hm hk
 split at h
 case h_2=>exact h.elim
 rename_i zc sh e l hzc hsh hd
 split at h
 case isFalse=>exact h.elim
 rename_i hh
 obtain ⟨he,hlt,h0⟩:=hh
 obtain ⟨hq,vs,w1,w2,w3⟩:=h
 obtain ⟨kvs,hkv⟩:=ZmP hq
 obtain ⟨zc',hzc',hzb,hzd⟩:=Zpx (n:=n) hsh
 rw [hzc] at hzc'
 cases hzc'
 have hd':(g d).den ρ = .own Xb e [[.slice Xc 2 kvs]]:=by rw [hd];show AV.own Xb e (l.den ρ)=_;rw [hkv]
 have hrow:ZlF [[.slice Xc 2 kvs]] (ke.den ρ) [.val z]=(ZlF (l.den ρ) (ke.den ρ) [zc.den ρ]):=by rw [hkv,hzd]
 have w2':(ZlF [[.slice Xc 2 kvs]] (ke.den ρ) [.val z])[0]? = Xa ((Zv [sh,.bool] n).map (SC.den (bind ρ n vs))):=by rw [hrow];exact w2
 have hform:∃ a,ZlF [[.slice Xc 2 kvs]] (ke.den ρ) [.val z] = [a]:=by
  unfold ZlF
  split<;>exact ⟨_,rfl⟩
 obtain ⟨a,ha⟩:=hform
 rw [ha] at w2'
 simp only [XB,Xf,Zv,Xg,Xz] at w2'
 subst w2'
 have hval:∃ u,(Ji sh n).den (bind ρ n vs) = .val u:=by
  cases z<;>simp [Zef] at hsh<;>subst hsh<;>exact ⟨_,rfl⟩
 obtain ⟨u,hu⟩:=hval
 rw [hu] at ha
 have ha:ZlF [[.slice Xc 2 kvs]] (ke.den ρ) [.val z] = [[.val u,.val (.bool (bind ρ n vs (n+1)).bool)]]:=ha
 have hsb:(Ji sh n).bd (n+2):=by
  cases z<;>simp [Zef] at hsh<;>subst hsh<;>(show n < n+2;omega)
 cases ok with
 | false =>
  refine ⟨bind ρ n vs,n+2,.c (Ji sh n),[],[d],XR _ _,Yx ρ n vs,hsb,by simp,w3,?_⟩
  have:=ZhZ ho hz hks hlt (Zd ρ hm) (show (fun d=>(g d).den ρ) d=_ from hd') h0 he (Zd ρ hk) ha
  rw [← hu] at this
  exact this.t.s
 | true =>
  refine ⟨bind ρ n vs,n+2,.tuple [.c (Ji sh n),.c (.bool (.var (n+1)))],[],[d],XR _ _,Yx ρ n vs,?_,by simp,w3,?_⟩
  ·intro c hc
   rcases Xl.1 hc with rfl | hc
   ·exact hsb
   ·rw [XC] at hc;subst hc;show n+1 < n+2;omega
  ·have:=ZcS ho hz hks hlt (Zd ρ hm) (show (fun d=>(g d).den ρ) d=_ from hd') h0 he (Zd ρ hk) ha
   rw [← hu] at this
   exact this.t.s
theorem ZlD {T:TypeId} {m kx v:Operand} {z:Value} (hg:∀ d,(g d).bd n) (ho:o.op = .insert T m kx v∨o.op = .mapUpdate T m kx v) (hz:K5 P T=Xa z) (h:(Zgw P g T m kx v z n k).wp P R A ρ):YN tx P R A ρ g o n k:=by
 unfold Zgw at h
 split at h
 case h_2=>exact h.elim
 rename_i d ke hks hm hk
 split at h
 case h_2=>exact h.elim
 rename_i sh c e l hsh hv hd
 split at h
 case isFalse=>exact h.elim
 rename_i hh
 obtain ⟨he,hlt,h0,hkd⟩:=hh
 obtain ⟨hq,h⟩:=h
 obtain ⟨kvs,hkv⟩:=ZmP hq
 have bk:=Zz (P:=P) hg kx
 rw [hk] at bk
 have bv:=Zz (P:=P) hg v
 rw [hv] at bv
 have hl:=hg d
 rw [hd] at hl
 have hd':(g d).den ρ = .own Xb e [[.slice Xc 2 kvs]]:=by rw [hd];show AV.own Xb e (l.den ρ)=_;rw [hkv]
 have hval:∃ u,c.den ρ = .val u∧Ys u z=Xb:=by
  cases z<;>simp [Zef] at hsh<;>subst hsh<;>cases c<;>simp [Zkv] at hkd
  ·exact ⟨_,rfl,rfl⟩
  ·subst hkd;exact ⟨_,rfl,by simp [Ys]⟩
 obtain ⟨u,hu,hsk⟩:=hval
 refine W0 h trivial (us1 (show LE.bd n _ from ⟨hl,bk,trivial,bv,trivial⟩)) ?_
 have:=ZhH ho hz hks hlt (Zd ρ hm) (show (fun d=>(g d).den ρ) d=_ from hd') h0 he (Zd ρ hk) (show Zn P (fun d=>(g d).den ρ) v = .val u by rw [← hu];exact Zd ρ hv) hsk
 rw [← hkv,← hu] at this
 exact this
theorem ZmK {T:TypeId} {m kx:Operand} {ok:Bool} (hg:∀ d,(g d).bd n) (ho:o.op = .lookup T m kx ok) (h:(Yq P E tx tk g o n k).wp P R A ρ):YN tx P R A ρ g o n k:=by
 have bk:=Zz (P:=P) hg kx
 simp only [Yq,ho] at h
 split at h
 ·rename_i z hz
  exact Zlm hg ho hz h
 cases ok with
 | true => exact h.elim
 | false =>
  simp only [Zkd] at h
  split at h
  ·rename_i et d ke het hm hk
   rw [hk] at bk
   split at h
   ·rename_i e l hd
    have hl:=hg d
    rw [hd] at hl
    split at h
    ·rename_i hh
     obtain ⟨h1,h2,h3⟩:=hh
     have hd':(g d).den ρ = .own Xb e (l.den ρ):=by rw [hd];rfl
     split at h
     ·obtain ⟨hq,h⟩:=h
      obtain ⟨kvs,hkv⟩:=ZlT hq
      refine W0 h (show LE.bd n _ from ⟨hl,bk⟩) (us1 (show LE.bd n _ from ⟨hl,bk⟩)) ?_
      have:=Zce ho het h3 (Zd ρ hm) (by rw [hd',hkv]) h2 h1 (Zd ρ hk)
      rw [← hkv] at this
      exact this
     ·obtain ⟨hq,h⟩:=h
      obtain ⟨kvs,tl,hkv⟩:=Zkc hq
      refine Z2 h (show LE.bd n _ from ⟨hl,bk⟩) ?_
      have:=Zjk ho het h3 (Zd ρ hm) (by rw [hd',hkv]) h2 h1 (Zd ρ hk)
      rw [← hkv] at this
      exact this
    ·exact h.elim
   ·exact h.elim
  ·exact h.elim
theorem Zg1 {T:TypeId} {m kx v:Operand} (hg:∀ d,(g d).bd n) (ho:o.op = .insert T m kx v∨o.op = .mapUpdate T m kx v) (h:(Yq P E tx tk g o n k).wp P R A ρ):YN tx P R A ρ g o n k:=by
 have bk:=Zz (P:=P) hg kx
 cases hz:K5 P T with
 | some z => exact ZlD hg ho hz (by rcases ho with ho | ho <;> simpa only [Yq, ho, hz] using h)
 | none =>
 have h:(ZcG P g T m kx v n k).wp P R A ρ:=by rcases ho with ho | ho<;>simpa only [Yq,ho,hz] using h
 unfold ZcG at h
 split at h
 ·rename_i et d ke het hm hk
  rw [hk] at bk
  split at h
  ·rename_i e l hd
   have hl:=hg d
   rw [hd] at hl
   split at h
   ·rename_i hh
    obtain ⟨h1,h2⟩:=hh
    have hd':(g d).den ρ = .own Xb e (l.den ρ):=by rw [hd];rfl
    split at h
    ·rename_i t et' ys hsl hgt
     have hv:v = .tmp t:=by cases v<;>simp_all [ZK]
     rw [hsl] at hgt
     have hgt:g t = .own Xc et' ys:=by simpa using hgt
     have hy:=hg t
     rw [hgt] at hy
     split at h
     ·rename_i hee
      subst hee
      obtain ⟨hq,h⟩:=h
      obtain ⟨kvs,tl,hkv,htl⟩:=ZmX hq
      subst hv
      refine W0 h trivial (us2 hy (show LE.bd n _ from ⟨hl,bk,hy⟩)) ?_
      have:=ZiG ho het (Zd ρ hm) (by rw [hd',hkv]) h2 h1 (Zd ρ hk) htl (show (fun d=>(g d).den ρ) t = .own Xc et' (ys.den ρ) by show (g t).den ρ=_;rw [hgt];rfl)
      rw [← hkv] at this
      exact this
     ·exact h.elim
    ·split at h
     ·rename_i s hgv
      obtain ⟨hq,h⟩:=h
      obtain ⟨kvs,tl,hkv,htl⟩:=ZmX hq
      refine W0 h trivial (us1 (show LE.bd n _ from ⟨hl,bk,trivial⟩)) ?_
      have:=Zec ho het (Zd ρ hm) (by rw [hd',hkv]) h2 h1 (Zd ρ hk) htl (Zd ρ hgv)
      rw [← hkv] at this
      exact this
     ·exact h.elim
   ·exact h.elim
  ·exact h.elim
 ·exact h.elim
theorem Znq {f:FuncId} {args:List Operand} {d:Nat} {gf:FuncId} {l:LE} (h:Zke P E g f args=Xa (d,gf,l)) :
  ∃ x p e,args = [x]∧p∈E.ks∧p.1=f∧p.2.2=gf∧Z8 P g x = .mref d 0∧g d = .own Xb e l∧P.cellsOf e=0∧(JE P (e-1048576)).isSome=Xb:=by
 unfold Zke at h
 split at h
 ·cases h
 ·split at h
  ·rename_i x p hp
   split at h
   ·rename_i d' hx
    split at h
    ·rename_i e l' hd
     split at h
     ·rename_i hm
      simp only [Xf,Xn] at h
      obtain ⟨rfl,rfl,rfl⟩:=h
      refine ⟨x,p,e,rfl,List.mem_of_find?_eq_some hp,?_,rfl,hx,hd,hm.2,hm.1⟩
      simpa using List.find?_some hp
     ·cases h
    ·cases h
   ·cases h
  ·cases h
theorem ZiS {f:FuncId} {args:List Operand} {d:Nat} {l:LE} (h:Zcw P E g f args=Xa (d,l)) :
  ∃ x p e,args = [x]∧p∈E.ks∧p.2.1=f∧Z8 P g x = .eref d 0 (.lit 0) 0 p.2.2∧g d = .own Xb e l∧P.cellsOf e=0∧(JE P (e-1048576)).isSome=Xb:=by
 unfold Zcw at h
 split at h
 ·cases h
 ·split at h
  ·rename_i x
   split at h
   ·rename_i d' gf hx
    split at h
    ·rename_i e l' hd
     split at h
     ·rename_i hm
      simp only [Xf,Xn] at h
      obtain ⟨rfl,rfl⟩:=h
      obtain ⟨p,hp,hpq⟩:=Uk.1 hm.2.2
      simp only [Xs,beq_iff_eq] at hpq
      exact ⟨x,p,e,rfl,hp,hpq.1,by rw [hpq.2];exact hx,hd,hm.2.1,hm.1⟩
     ·cases h
    ·cases h
   ·cases h
  ·cases h
theorem Zrq {c:Call} {f:FuncId} {d:Nat} {gf:FuncId} {l:LE} (hps:EnvSound P E) (ho:o.op = .call c) (hc:c.callee = .value (.func f)) (hit:Zke P E g f c.args.toList=Xa (d,gf,l))
  (h:(STree.req (.mq .any l (.lit 0)) (k (.eref d 0 (.lit 0) 0 gf) [] [d] n)).wp P R A ρ):YN tx P R A ρ g o n k:=by
 obtain ⟨x,p,e,h1,h2,rfl,rfl,h5,h6,h7,h8⟩:=Znq hit
 obtain ⟨hq,h⟩:=h
 obtain ⟨kvs,tl,hkv⟩:=Zkc hq
 refine Z2 h trivial ?_
 have:=Zm5 (d:=d) hps.2.1 h2 ho hc h1 (Zd ρ h5) (by show (g d).den ρ=_;rw [h6];show AV.own Xb e (l.den ρ)=_;rw [hkv]) h7 h8
 simpa [SV.den,IE.den] using this
theorem Zl7 {c:Call} {f:FuncId} {d:Nat} {l:LE} (hps:EnvSound P E) (hg:∀ d,(g d).bd n) (ho:o.op = .call c) (hc:c.callee = .value (.func f)) (hit:Zcw P E g f c.args.toList=Xa (d,l))
  (h:(STree.req (.mq .keys l (.lit 0)) (k (.c (.slice Xc 1 (.mkeys l))) [] [d] n)).wp P R A ρ):YN tx P R A ρ g o n k:=by
 obtain ⟨x,p,e,h1,h2,rfl,h5,h6,h7,h8⟩:=ZiS hit
 obtain ⟨hq,h⟩:=h
 obtain ⟨kvs,hkv,hlen,hfine⟩:=Znc hq
 have hl:=hg d
 rw [h6] at hl
 refine Z2 h (show LE.bd n _ from hl) ?_
 have hx:Zn P (fun d=>(g d).den ρ) x = .eref d 0 p.2.2:=by have:=Zd ρ h5;simpa [SV.den,IE.den] using this
 have:=Ziv (d:=d) hps.2.1 h2 ho hc h1 hx (by show (g d).den ρ=_;rw [h6];show AV.own Xb e (l.den ρ)=_;rw [hkv]) h7 h8 hlen hfine
 rw [← hkv] at this
 exact this
theorem Zlc {f:FuncId} {args:List Operand} {d:Nat} {e:TypeId} {l:LE} (h:Zgm P E g f args=Xa (d,e,l)) :
  ∃ x,args = [x]∧f∈E.srt∧Z8 P g x = .mref d 0∧g d = .own Xb e l∧P.cellsOf e=1∧Zj P e=Xc:=by
 unfold Zgm at h
 split at h
 ·cases h
 ·rename_i hf
  split at h
  ·rename_i x
   split at h
   ·rename_i d' hx
    split at h
    ·rename_i e' l' hd _
     split at h
     ·rename_i hm
      simp only [Xf,Xn] at h
      obtain ⟨rfl,rfl,rfl⟩:=h
      exact ⟨x,rfl,by simpa using hf,hx,hd,hm.1,hm.2⟩
     ·cases h
    ·cases h
   ·cases h
  ·cases h
theorem ZsF {c:Call} {f:FuncId} {d:Nat} {e:TypeId} {l:LE} (hps:EnvSound P E) (hg:∀ d,(g d).bd n) (ho:o.op = .call c) (hc:c.callee = .value (.func f)) (hit:Zgm P E g f c.args.toList=Xa (d,e,l))
  (h:(STree.req (.lq .ints l (.lit 0)) (k .dead [(d,.own Xb e (.fn .dsort l (.lit 0) .nil .nil))] [d] n)).wp P R A ρ):YN tx P R A ρ g o n k:=by
 obtain ⟨x,h1,h2,h3,h4,h5,h6⟩:=Zlc hit
 obtain ⟨hq,h⟩:=h
 have hq:((l.den ρ).all ZjE&&decide ((l.den ρ).length≤1048576))=Xb:=hq
 rw [Xs,decide_eq_true_eq] at hq
 obtain ⟨zs,hz⟩:=Znw hq.1
 have hl:=hg d
 rw [h4] at hl
 have hl:l.bd n:=hl
 refine W0 h trivial (us1 (show LE.bd n _ from ⟨hl,trivial,trivial,trivial⟩)) ?_
 have:=ZoM (d:=d) (σ:=fun d=>(g d).den ρ) hps.2.2 h2 ho hc h1 (Zd ρ h3) (by show (g d).den ρ=_;rw [h4];show AV.own Xb e (l.den ρ)=_;rw [hz]) h5 h6 (by have:=hq.2;rw [hz,Xq] at this;exact this)
 rw [← hz] at this
 exact this
theorem ZlE (hps:EnvSound P E) (hg:∀ d,(g d).bd n) (htop:∀ i,E.top≤i→g i = .dead) (h:(Yq P E tx tk g o n k).wp P R A ρ):YN tx P R A ρ g o n k:=by
 cases ho:o.op with
 | move x => exact Zq7 hg htop ho h
 | assign x => exact Znt hg htop ho h
 | pick c a b => exact ZrU hg ho h
 | alloc T => exact ZoQ ho h
 | box T x => exact Zsw hg ho h
 | build T parts => exact ZpO hg htop ho h
 | buildSlice T len parts => exact Zfz hg ho h
 | load T a => exact Zrv hg htop ho h
 | store T a x => exact Zpg hg htop ho h
 | nilCheck x => exact Zju hg ho h
 | binOp op T x y T' => exact ZpJ hps hg ho h
 | unOp op T x => exact Zq2 hg ho h
 | convert S T x => exact Zlp hg ho h
 | fieldAddr T x f => exact ZgU hg ho h
 | field T x f => exact Zpj hg ho h
 | index T x i => exact ZoI hg ho h
 | indexAddr T x i => exact ZhO hg ho h
 | makeSlice T a b => exact Zrn hg ho h
 | makeFunc fn first captured => exact ZiR ho h
 | makeMap T x => exact Zlg ho h
 | lookup T m kx ok => exact ZmK hg ho h
 | insert T m kx v => exact Zg1 hg (.inl ho) h
 | mapUpdate T m kx v => exact Zg1 hg (.inr ho) h
 | slice T x lo hi mx => exact ZpT hg htop ho h
 | extract x i => exact Zlz hg ho h
 | call c =>
  cases hc:c.callee with
  | builtin b =>
   cases b with
   | len => exact Zr6 hg ho hc h
   | append => exact ZnT hg htop ho hc h
   | copy => exact ZqZ hg ho hc h
   | min => exact Zs5 hg ho hc h
   | max => exact ZsE hg ho hc h
   | _ => simp only [Yq, ho, hc] at h; exact h.elim
  | value x =>
   cases x with
   | func f =>
    simp only [Yq,ho,hc] at h
    split at h
    ·rename_i hit
     exact Zrq hps ho hc hit h
    split at h
    ·rename_i hit
     exact Zl7 hps hg ho hc hit h
    split at h
    ·rename_i hit
     exact ZsF hps hg ho hc hit h
    split at h
    case h_2=>
     rename_i hkl
     split at h
     case isFalse=>exact h.elim
     rename_i hall
     rw [XE] at hall
     cases htx:tx with
     | any N M => exact (hkl (by rw [htx]; rfl)).elim
     | text =>
     subst htx
     refine ZnQ (Zcy E .text g (E.rfs f) c.args.toList) (fun u hu=>?_) ?_
     ·obtain ⟨k1,k2⟩:=Zjr ρ hu
      exact ⟨k1,k2,by simpa using hall u hu⟩
     ·split at h
      ·rename_i aZ has
       obtain ⟨h1,h2,h3⟩:=Vs ρ _ _ _ has
       refine Zjs (cps:=[]) (fun i hi=>by unfold ZhT;split;rfl;exact htop i hi) ho (.inl ⟨hc,rfl⟩) (by simpa using h1) h2 (fun i x hx hci=>?_) h
       have hl:i < aZ.length:=by rw [← h1.1,Xq];exact (Xi.1 hx).1
       obtain ⟨t,d,q,j,e⟩:=h3 i _ x hx (Xp hl) (by rw [XF];exact hci)
       exact ⟨t,d,q,j,by rw [Xp hl,e]⟩
      ·exact h.elim
    split at h
    ·rename_i aZ has
     obtain ⟨h1,h2,h3⟩:=Vs ρ _ _ _ has
     refine Zjs (cps:=[]) htop ho (.inl ⟨hc,rfl⟩) (by simpa using h1) h2 (fun i x hx hci=>?_) h
     have hl:i < aZ.length:=by rw [← h1.1,Xq];exact (Xi.1 hx).1
     obtain ⟨t,d,q,j,e⟩:=h3 i _ x hx (Xp hl) (by rw [XF];exact hci)
     exact ⟨t,d,q,j,by rw [Xp hl,e]⟩
    ·exact h.elim
   | tmp t =>
    simp only [Yq,ho,hc] at h
    split at h
    ·rename_i f ds aZ ht has
     obtain ⟨h1,h2,_⟩:=Vs ρ _ _ _ has
     split at h
     ·rename_i cs hcs
      obtain ⟨k1,k2⟩:=ZqJ (P:=P) ρ hcs
      refine Zjs (cps:=ds.map KW.cap) htop ho (.inr ⟨t,hc,.inl ⟨ds,by rw [ht];rfl,rfl⟩⟩) (h1.append k1) (fun a ha=>?_) (fun i _ _ hi=>by simp at hi) h
      rcases Xt.1 ha with ha | ha
      ·exact h2 a ha
      ·exact k2 a ha
     ·exact h.elim
    ·exact h.elim
   | _ => simp only [Yq, ho, hc] at h; exact h.elim
  | _ => simp only [Yq, ho, hc] at h; exact h.elim
 | _ => simp only [Yq, ho] at h; exact h.elim
end
structure Stp where
 F:List Nat
 ups:List (Nat×AV)
 V:List Nat
def Stp.D (s:Stp):List Nat:=s.ups.map (·.1)++s.V
def Zt6 (pre:Nat→AV) (s:Stp):Prop:=
 ∀ u∈s.ups,u.2.isSto=(pre u.1).isSto∧∀ rows rows',pre u.1 = .store rows→u.2 = .store rows'→vS u.1∈s.V∨rows <+: rows'
def Zq5 (T:Odr) (P:Program) (nt:Nat) (ops:Array Oper) (B:Nat→Prop) (i:Nat) (pre:Nat→AV) (s:Stp):Prop:=
 ((∀ u∈s.ups,u.1∈s.F)∧Zt6 pre s)∧(∀ u∈s.ups,B u.1→ZeI u.2)∧(∀ u∈s.ups,∀ d k,T.nr d u.1=Xb→¬ Jh u.2 d k)∧(∀ u∈s.ups,∀ j,T.kp u.1 j=Xb→Jx u.2 j=Jx (pre u.1) j)∧
 ∀ (c:Ctx),c.P=P→c.nt=nt→∀ (σ':Nat→AV) (tm:Array Value) (w:World) (lim:Lm) (X:Nat→Nat→Option Nat),
  (∀ d∈s.F,σ' d=pre d)→(∀ d,B d→ZeI (σ' d))→T.rel pre σ'→(∀ d,vS d∈s.F→Zro (pre d) (σ' d))→Sim c σ' tm w lim X→∀ (Q:Exit→Act→World→Prop) (K:Act→World→Prop),
   (∀ tm' w' lim' X',Sim c (Jm σ' s.ups) tm' w' lim' X'→K ⟨tm',[]⟩ w')→wpOp P ops Q i K ⟨tm,[]⟩ w
def ZgC (T:Odr) (P:Program) (nt:Nat) (ops:Array Oper) (B:Nat→Prop):Nat→(Nat→AV)→List Stp→Prop
 | _, _, [] => True
 | i, σ, s :: ss => Zq5 T P nt ops B i σ s ∧ ZgC T P nt ops B (i + 1) (Jm σ s.ups) ss
theorem Zge {B:Nat→Prop} : ∀ (us:List (Nat×AV)) (σ:Nat→AV),(∀ u∈us,B u.1→ZeI u.2)→(∀ d,B d→ZeI (σ d))→∀ d,B d→ZeI (Jm σ us d)
 | [], _, _, h, d, hd => h d hd
 | (e, x) :: us, σ, hu, h, d, hd => by
  refine Zge us (upd σ e x) (fun u h'=>hu u (by simp [h'])) (fun d hd=>?_) d hd
  by_cases he:d=e
  ·subst he;rw [Zs];exact hu (d,x) (by simp) hd
  ·rw [Zb _ _ he];exact h d hd
def Zb6 (σ:Nat→AV):List Stp→(Nat→AV)
 | [] => σ
 | s :: ss => Zb6 (Jm σ s.ups) ss
section
variable {T:Odr} {P:Program} {nt:Nat} {ops:Array Oper} {B:Nat→Prop} {Q:Exit→Act→World→Prop} {c:Ctx}
theorem WT (hc:c.P=P) (hn:c.nt=nt):∀ (ss:List Stp) (i:Nat) (σ:Nat→AV) (tm:Array Value) (w:World) (lim:Lm) (X:Nat→Nat→Option Nat),
  ZgC .text P nt ops B i σ ss→(∀ d,B d→ZeI (σ d))→Sim c σ tm w lim X→(∀ tm' w' lim' X',Sim c (Zb6 σ ss) tm' w' lim' X'→Q .normal ⟨tm',[]⟩ w')→wpOps P ops Q (List.range' i ss.length) ⟨tm,[]⟩ w
 | [], i, σ, tm, w, lim, X, _, _, hs, hk => by
  show Q .normal ⟨tm,[]⟩ w
  exact hk tm w lim X hs
 | s :: ss, i, σ, tm, w, lim, X, h, hb, hs, hk => by
  rw [XJ,List.range'_succ,wpOps_cons]
  exact h.1.2.2.2.2 c hc hn σ tm w lim X (fun _ _=>rfl) hb rfl (fun _ _=>Zro.refl _) hs Q _ fun tm' w' lim' X' hs'=>WT hc hn ss (i+1) _ tm' w' lim' X' h.2 (Zge _ _ h.1.2.1 hb) hs' hk
def VX:List (Nat×AV)→Nat→Option AV
 | [], _ => Xe
 | (e, x) :: us, d => match VX us d with | some y => Xa y | none => if d = e then Xa x else Xe
theorem Js:∀ (us:List (Nat×AV)) (σ:Nat→AV) (d:Nat),Jm σ us d=(VX us d).getD (σ d)
 | [], σ, d => rfl
 | (e, x) :: us, σ, d => by
  simp only [Jm,VX,Js us]
  cases VX us d with
  | some y => rfl
  | none =>
   by_cases h:d=e
   ·subst h;simp [upd]
   ·simp [upd,h]
theorem Y1:∀ (us:List (Nat×AV)) (d:Nat),d∉us.map (·.1)→VX us d=Xe
 | [], d, _ => rfl
 | (e, x) :: us, d, h => by
  simp only [Xg,Xl,not_or] at h
  simp only [VX,Y1 us d h.2,if_neg h.1]
theorem Ve:∀ (us:List (Nat×AV)) (d:Nat),d∈us.map (·.1)→∃ x,VX us d=Xa x
 | [], d, h => by simp at h
 | (e, x) :: us, d, h => by
  simp only [VX]
  cases hl:VX us d with
  | some y => exact ⟨y, rfl⟩
  | none =>
   simp only [Xg,Xl] at h
   rcases h with h | h
   ·subst h;exact ⟨x,by simp⟩
   ·obtain ⟨y,hy⟩:=Ve us d h;rw [hl] at hy;cases hy
def comp (S:Nat→Bool):Nat→(Nat→AV)→List Stp→(Nat→AV)
 | _, σ, [] => σ
 | i, σ, s :: ss => comp S (i + 1) (if S i = Xb then Jm σ s.ups else σ) ss
theorem Zjv (S:Nat→Bool):∀ (ss:List Stp) (i:Nat) (σ:Nat→AV),(∀ j,i≤j→j < i+ss.length→S j=Xb)→comp S i σ ss=Zb6 σ ss
 | [], _, _, _ => rfl
 | s :: ss, i, σ, h => by
  simp only [comp,Zb6,h i (XD _) (by simp),if_true]
  exact Zjv S ss (i+1) _ fun j h1 h2=>h j (by omega) (by simp only [XJ];omega)
theorem ZdN (S:Nat→Bool):∀ (ss:List Stp) (i:Nat) (σ:Nat→AV),(∀ j,i≤j→j < i+ss.length→S j=Xc)→comp S i σ ss=σ
 | [], _, _, _ => rfl
 | s :: ss, i, σ, h => by
  simp only [comp,h i (XD _) (by simp),Uh,if_false]
  exact ZdN S ss (i+1) _ fun j h1 h2=>h j (by omega) (by simp only [XJ];omega)
theorem Vi {d:Nat} (S T:Nat→Bool):∀ (ss:List Stp) (i:Nat) (σ τ:Nat→AV),σ d=τ d→(∀ (j:Nat) (s:Stp),ss[j]? = Xa s→d∈s.ups.map (·.1)→S (i+j)=T (i+j))→comp S i σ ss d=comp T i τ ss d
 | [], _, _, _, h, _ => h
 | s :: ss, i, σ, τ, h, hS => by
  simp only [comp]
  refine Vi S T ss (i+1) _ _ ?_ fun j s' hs' hd=>by
   have:=hS (j+1) s' (by simpa using hs') hd
   rw [show i+1+j=i+(j+1) by omega]
   exact this
  by_cases hd:d∈s.ups.map (·.1)
  ·have h0:=hS 0 s rfl hd
   rw [Wq] at h0
   rw [h0]
   split
   ·rw [Js,Js,h]
   ·exact h
  ·have hl:=Y1 s.ups d hd
   split<;>split<;>first
    | (rw [Js, Js, hl]; exact h)
    | (rw [Js, hl]; exact h)
    | exact h
theorem ZaQ:∀ (ss:List Stp) (i:Nat) (σ:Nat→AV) (m:Nat),comp (fun j=>decide (j < i+m)) i σ ss=Zb6 σ (ss.take m)
 | [], i, σ, m => by simp [comp, Zb6]
 | s :: ss, i, σ, 0 => by
  rw [List.take_zero]
  exact ZdN _ (s::ss) i σ fun j h1 _=>by simp;omega
 | s :: ss, i, σ, m + 1 => by
  simp only [comp,List.take_succ_cons,Zb6,decide_eq_true_eq]
  rw [if_pos (by omega),← ZaQ ss (i+1)]
  congr 1
  funext j
  rw [show i+1+m=i+(m+1) by omega]
theorem Zme (S:Nat→Bool):∀ (ss:List Stp) (i:Nat) (σ:Nat→AV),(∀ s∈ss,∀ u∈s.ups,B u.1→ZeI u.2)→(∀ d,B d→ZeI (σ d))→∀ d,B d→ZeI (comp S i σ ss d)
 | [], _, _, _, h, d, hd => h d hd
 | s :: ss, i, σ, hu, h, d, hd => by
  simp only [comp]
  refine Zme S ss (i+1) _ (fun s' hs'=>hu s' (by simp [hs'])) (fun d hd=>?_) d hd
  split
  ·exact Zge _ _ (hu s (by simp)) h d hd
  ·exact h d hd
theorem Zg4:∀ (ss:List Stp) (i:Nat) (σ:Nat→AV),ZgC T P nt ops B i σ ss→∀ s∈ss,∀ u∈s.ups,B u.1→ZeI u.2
 | [], _, _, _, s, hs => by simp at hs
 | s0 :: ss, i, σ, h, s, hs => by
  rcases Xl.1 hs with rfl | hs
  ·exact h.1.2.1
  ·exact Zg4 ss (i+1) _ h.2 s hs
theorem Zn0:∀ (us:List (Nat×AV)) (σ:Nat→AV),(∀ u∈us,∀ d k,T.nr d u.1=Xb→¬ Jh u.2 d k)→(∀ d i k,T.nr d i=Xb→¬ Jh (σ i) d k)→∀ d i k,T.nr d i=Xb→¬ Jh (Jm σ us i) d k
 | [], _, _, h => h
 | (e, x) :: us, σ, hu, h => by
  refine Zn0 us (upd σ e x) (fun u h'=>hu u (by simp [h'])) fun d i k hd=>?_
  by_cases he:i=e
  ·subst he;rw [Zs];exact hu (i,x) (by simp) d k hd
  ·rw [Zb _ _ he];exact h d i k hd
theorem Zom (S:Nat→Bool):∀ (ss:List Stp) (i:Nat) (σ:Nat→AV),(∀ s∈ss,∀ u∈s.ups,∀ d k,T.nr d u.1=Xb→¬ Jh u.2 d k)→(∀ d i k,T.nr d i=Xb→¬ Jh (σ i) d k)→∀ d j k,T.nr d j=Xb→¬ Jh (comp S i σ ss j) d k
 | [], _, _, _, h => h
 | s :: ss, i, σ, hu, h => by
  simp only [comp]
  refine Zom S ss (i+1) _ (fun s' hs'=>hu s' (by simp [hs'])) ?_
  split
  ·exact Zn0 _ _ (hu s (by simp)) h
  ·exact h
theorem Zkm:∀ (ss:List Stp) (i:Nat) (σ:Nat→AV),ZgC T P nt ops B i σ ss→∀ s∈ss,∀ u∈s.ups,∀ d k,T.nr d u.1=Xb→¬ Jh u.2 d k
 | [], _, _, _, s, hs => by simp at hs
 | s0 :: ss, i, σ, h, s, hs => by
  rcases Xl.1 hs with rfl | hs
  ·exact h.1.2.2.1
  ·exact Zkm ss (i+1) _ h.2 s hs
theorem Zgr {τ:Nat→AV} : ∀ (us:List (Nat×AV)) (σ:Nat→AV),(∀ u∈us,∀ j,T.kp u.1 j=Xb→Jx u.2 j=Jx (τ u.1) j)→(∀ d j,T.kp d j=Xb→Jx (σ d) j=Jx (τ d) j)→∀ d j,T.kp d j=Xb→Jx (Jm σ us d) j=Jx (τ d) j
 | [], _, _, h => h
 | (e, x) :: us, σ, hu, h => by
  refine Zgr us (upd σ e x) (fun u h'=>hu u (by simp [h'])) fun d j hd=>?_
  by_cases he:d=e
  ·subst he;rw [Zs];exact hu (d,x) (by simp) j hd
  ·rw [Zb _ _ he];exact h d j hd
theorem ZmC (S:Nat→Bool):∀ (ss:List Stp) (i:Nat) (τ σ:Nat→AV),(∀ s∈ss,∀ u∈s.ups,∀ j,T.kp u.1 j=Xb→Jx u.2 j=Jx (τ u.1) j)→(∀ d j,T.kp d j=Xb→Jx (σ d) j=Jx (τ d) j)→∀ d j,T.kp d j=Xb→Jx (comp S i σ ss d) j=Jx (τ d) j
 | [], _, _, _, _, h => h
 | s :: ss, i, τ, σ, hu, h => by
  simp only [comp]
  refine ZmC S ss (i+1) τ _ (fun s' hs'=>hu s' (by simp [hs'])) ?_
  split
  ·exact Zgr _ _ (hu s (by simp)) h
  ·exact h
theorem ZlN:∀ (ss:List Stp) (τ σ:Nat→AV),(∀ s∈ss,∀ u∈s.ups,∀ j,T.kp u.1 j=Xb→Jx u.2 j=Jx (τ u.1) j)→(∀ d j,T.kp d j=Xb→Jx (σ d) j=Jx (τ d) j)→∀ d j,T.kp d j=Xb→Jx (Zb6 σ ss d) j=Jx (τ d) j
 | [], _, _, _, h => h
 | s :: ss, τ, σ, hu, h => by
  simp only [Zb6]
  exact ZlN ss τ _ (fun s' hs'=>hu s' (by simp [hs'])) (Zgr _ _ (hu s (by simp)) h)
theorem Zgp:∀ (ss:List Stp) (i:Nat) (σ:Nat→AV),ZgC T P nt ops B i σ ss→∀ s∈ss,∀ u∈s.ups,∀ j,T.kp u.1 j=Xb→Jx u.2 j=Jx (σ u.1) j
 | [], _, _, _, s, hs => by simp at hs
 | s0 :: ss, i, σ, h, s, hs => by
  rcases Xl.1 hs with rfl | hs
  ·exact h.1.2.2.2.1
  ·intro u hu j hj
   rw [Zgp ss (i+1) _ h.2 s hs u hu j hj]
   exact Zgr s0.ups σ (τ:=σ) h.1.2.2.2.1 (fun _ _ _=>rfl) u.1 j hj
theorem ZcB:∀ (ss:List Stp) (i:Nat) (σ:Nat→AV),ZgC T P nt ops B i σ ss→∀ (j:Nat) (s:Stp),ss[j]? = Xa s→Zq5 T P nt ops B (i+j) (Zb6 σ (ss.take j)) s
 | [], _, _, _, j, s, h => by simp at h
 | s0 :: ss, i, σ, hc, 0, s, h => by
  simp only [XB,Xf] at h
  subst h
  exact hc.1
 | s0 :: ss, i, σ, hc, j + 1, s, h => by
  have:=ZcB ss (i+1) _ hc.2 j s (by simpa using h)
  rw [show i+(j+1)=i+1+j by omega]
  exact this
theorem ZbA:∀ (us:List (Nat×AV)) (d:Nat) (x:AV),VX us d=Xa x→(d,x)∈us
 | [], d, x, h => by simp [VX] at h
 | (e, y) :: us, d, x, h => by
  simp only [VX] at h
  cases hl:VX us d with
  | some z =>
   rw [hl] at h
   cases h
   exact We _ (ZbA us d _ hl)
  | none =>
   rw [hl] at h
   simp only at h
   split at h
   ·rename_i hd
    cases h
    subst hd
    exact List.mem_cons_self
   ·cases h
theorem Zc3 (S:Nat→Bool) (d:Nat) (ss:List Stp):∀ (n:Nat),n≤ss.length→∃ m,m≤n∧(∀ (j:Nat) (s:Stp),ss[j]? = Xa s→d∈s.ups.map (·.1)→m≤j→j < n→S j=Xb→False)∧
  (m=0∨∃ m',m=m'+1∧S m'=Xb∧∃ s,ss[m']? = Xa s∧d∈s.ups.map (·.1))
 | 0, _ => ⟨0, XD _, fun _ _ _ _ _ h => by omega, .inl rfl⟩
 | n + 1, hn => by
  obtain ⟨m,h1,h2,h3⟩:=Zc3 S d ss n (by omega)
  obtain ⟨s,hs⟩:∃ s,ss[n]? = Xa s:=⟨_,Xp (by omega)⟩
  by_cases hw:S n=Xb∧d∈s.ups.map (·.1)
  ·exact ⟨n+1,XD _,fun j s' _ _ _ _=>by omega,.inr ⟨n,rfl,hw.1,s,hs,hw.2⟩⟩
  ·refine ⟨m,by omega,fun j s' hj hd hm hlt hS=>?_,h3⟩
   rcases Xx j n with hlt' | hge
   ·exact h2 j s' hj hd hm hlt' hS
   ·have:j=n:=by omega
    subst this
    rw [hs] at hj
    cases hj
    exact hw ⟨hS,hd⟩
theorem Zkq:∀ (l:List Stp) (s:Stp) (τ:Nat→AV),Zb6 τ (l++[s])=Jm (Zb6 τ l) s.ups
 | [], _, _ => rfl
 | _ :: l, s, _ => Zkq l s _
theorem Zdq {ss:List Stp} {σ:Nat→AV} (hch:ZgC T P nt ops B 0 σ ss) (d a:Nat):∀ (b:Nat),a≤b→(∀ (j:Nat) (s:Stp),a≤j→j < b→ss[j]? = Xa s→d∈s.ups.map (·.1)→vS d∉s.V)→
  (∀ rows,Zb6 σ (ss.take a) d = .store rows→∃ rows',Zb6 σ (ss.take b) d = .store rows'∧rows <+: rows')∧∀ rows,Zb6 σ (ss.take b) d = .store rows→∃ rows',Zb6 σ (ss.take a) d = .store rows'∧rows' <+: rows
 | 0, h, _ => by
  have:a=0:=by omega
  subst this
  exact ⟨fun rows h=>⟨rows,h,Ta _⟩,fun rows h=>⟨rows,h,Ta _⟩⟩
 | b + 1, h, hg => by
  rcases Xx b a with hlt | hge
  ·have:a=b+1:=by omega
   subst this
   exact ⟨fun rows h=>⟨rows,h,Ta _⟩,fun rows h=>⟨rows,h,Ta _⟩⟩
  ·obtain ⟨i1,i2⟩:=Zdq hch d a b hge fun j s h1 h2=>hg j s h1 (by omega)
   rw [List.take_add_one]
   cases hs:ss[b]? with
   | none => simp only [Option.toList_none, Wc]; exact ⟨i1, i2⟩
   | some s =>
    rw [Option.toList_some,Zkq,Js]
    have hst:=(ZcB ss 0 σ hch b s hs).1.2
    cases hl:VX s.ups d with
    | none => exact ⟨i1, i2⟩
    | some x =>
     have hm:=ZbA _ _ _ hl
     obtain ⟨g1,g2⟩:=hst _ hm
     have hnv:=hg b s hge (by omega) hs (Xj.2 ⟨_,hm,rfl⟩)
     refine ⟨fun rows hr=>?_,fun rows hr=>?_⟩
     ·obtain ⟨rows',k1,k2⟩:=i1 rows hr
      simp only [UR]
      dsimp only at g1 g2
      rw [k1] at g1
      cases x<;>simp [AV.isSto] at g1
      exact ⟨_,rfl,k2.trans ((g2 rows' _ k1 rfl).resolve_left hnv)⟩
     ·simp only [UR] at hr
      dsimp only at g1 g2
      rw [hr] at g1
      cases hp:Zb6 σ (ss.take b) d with
      | store rows' =>
       obtain ⟨rows2,k1,k2⟩:=i2 rows' hp
       exact ⟨rows2,k1,k2.trans ((g2 rows' _ hp hr).resolve_left hnv)⟩
      | _ => rw [hp] at g1; cases g1
theorem Zoh (hc:c.P=P) (hn:c.nt=nt) {N:Nat→Bool} {M:Nat→Option Nat} {K:List (Nat×Nat)} {ss:List Stp} {σ:Nat→AV} (hch:ZgC (.any N M K) P nt ops B 0 σ ss) (hN:∀ d i k,(Odr.any N M K).nr d i=Xb→¬ Jh (σ i) d k) (hpb:∀ d,B d→ZeI (σ d)) (hlen:ss.length=ops.size)
  (hlow:∀ (i:Nat) (o:Oper),ops[i]? = Xa o→∀ e∈o.after,Region.binds .any e=Xb→e.on < i)
  (hind:∀ (i j:Nat) (a b:Stp),ss[i]? = Xa a→ss[j]? = Xa b→j < i→(∃ S:Nat→Prop,(∀ k o,ops[k]? = Xa o→S k→∀ e∈o.after,Region.binds .any e=Xb→S e.on)∧S i∧¬ S j)→
   (∀ d∈b.D,d∉a.F)∧∀ d∈a.D,d∉b.F) (hfin:∀ tm' w' lim' X',Sim c (Zb6 σ ss) tm' w' lim' X'→Q .normal ⟨tm',[]⟩ w') :
  ∀ (fuel:Nat) (listed:Array Bool) (tm:Array Value) (w:World) (lim:Lm) (X:Nat→Nat→Option Nat),listed.size=ops.size→
   (∀ k o,ops[k]? = Xa o→listed.getD k Xc=Xb→∀ e∈o.after,Region.binds .any e=Xb→listed.getD e.on Xc=Xb)→
   ((Wf ops.size).countP (fun i=>!listed.getD i Xc)≤fuel)→
   Sim c (comp (fun i=>listed.getD i Xc) 0 σ ss) tm w lim X→wpAny P .any ops Q fuel listed ⟨tm,[]⟩ w:=by
 -- where nothing is ready, all is done
 have hdone:∀ (listed:Array Bool),listed.size=ops.size→Region.ready .any ops listed = []→∀ j,j < ops.size→listed.getD j Xc=Xb:=by
  intro listed hsz hr j
  induction j using Nat.strongRecOn with
  | _ j ih =>
   intro hj
   cases hl:listed.getD j Xc with
   | true => rfl
   | false =>
    have:j∈Region.ready .any ops listed:=by
     rw [mem_ready]
     refine ⟨?_,ops[j],XZ hj,fun e he hb=>?_⟩
     ·simp only [X7,hsz,hj,dite_true] at hl ⊢
      exact hl
     ·have hlt:=hlow j _ (XZ hj) e he hb
      exact ih e.on hlt (by omega)
    rw [hr] at this
    cases this
 have hend:∀ (listed:Array Bool) (tm:Array Value) (w:World) (lim:Lm) (X:Nat→Nat→Option Nat),listed.size=ops.size→Region.ready .any ops listed = []→
   Sim c (comp (fun i=>listed.getD i Xc) 0 σ ss) tm w lim X→Q .normal ⟨tm,[]⟩ w:=by
  intro listed tm w lim X hsz hr hs
  rw [Zjv _ ss 0 σ fun j _ h2=>hdone listed hsz hr j (by omega)] at hs
  exact hfin tm w lim X hs
 intro fuel
 induction fuel with
 | zero =>
  intro listed tm w lim X hsz hcl hcnt hs
  have hall:∀ j,j < ops.size→listed.getD j Xc=Xb:=by
   intro j hj
   have h0:(Wf ops.size).countP (fun i=>!listed.getD i Xc)=0:=by omega
   have:=(List.countP_eq_zero.1 h0) j (by simpa using hj)
   simpa using this
  have hr:Region.ready .any ops listed = []:=by
   refine List.eq_nil_iff_forall_not_mem.2 fun j hj=>?_
   obtain ⟨h1,o,h2,_⟩:=mem_ready.1 hj
   have hlt:=(Wa.1 h2).1
   have:=hall j hlt
   simp only [X7,hsz,hlt,dite_true] at h1 this
   rw [h1] at this
   cases this
  exact ⟨hr,hend listed tm w lim X hsz hr hs⟩
 | succ fuel ih =>
  intro listed tm w lim X hsz hcl hcnt hs
  refine ⟨fun hr=>hend listed tm w lim X hsz hr hs,fun i hi=>?_⟩
  obtain ⟨h1,o,h2,h3⟩:=mem_ready.1 hi
  have hlt:=(Wa.1 h2).1
  have hun:listed.getD i Xc=Xc:=by
   simp only [X7,hsz,hlt,dite_true] at h1 ⊢
   exact h1
  obtain ⟨s,hsi⟩:∃ s,ss[i]? = Xa s:=⟨_,Xp (by omega)⟩
  have hst:=ZcB ss 0 σ hch i s hsi
  rw [XF] at hst
  have hset:∀ j,(listed.setIfInBounds i Xb).getD j Xc=if j=i then Xb else listed.getD j Xc:=by
   intro j
   by_cases hji:j=i
   ·subst hji
    simp [X7,hsz,hlt]
   ·rw [if_neg hji,getD_set_ne Xc (Ne.symm hji)]
  -- i is not before what is listed
  have hnot:∀ j,listed.getD j Xc=Xb→∃ S:Nat→Prop,(∀ k o,ops[k]? = Xa o→S k→∀ e∈o.after,Region.binds .any e=Xb→S e.on)∧S j∧¬ S i:=
   fun j hj=>⟨fun k=>listed.getD k Xc=Xb,hcl,hj,by simp [hun]⟩
  -- what is not listed is not before i
  have hnot':∀ j,j≠i→listed.getD j Xc=Xc→∃ S:Nat→Prop,(∀ k o,ops[k]? = Xa o→S k→∀ e∈o.after,Region.binds .any e=Xb→S e.on)∧S i∧¬ S j:=by
   intro j hji hj
   refine ⟨fun k=>k=i∨listed.getD k Xc=Xb,fun k o' hk hS e he hb=>?_,.inl rfl,by simp [hji,hj]⟩
   rcases hS with rfl | hS
   ·rw [h2] at hk
    cases hk
    exact .inr (h3 e he hb)
   ·exact .inr (hcl k o' hk hS e he hb)
  have hpre:∀ d∈s.F,comp (fun i=>listed.getD i Xc) 0 σ ss d=Zb6 σ (ss.take i) d:=by
   intro d hd
   rw [← ZaQ ss 0 σ i]
   refine Vi _ _ ss 0 σ σ rfl fun j s' hj hdj=>?_
   simp only [XF]
   rcases Ti j i with hlt' | rfl | hgt
   ·simp only [hlt',decide_true]
    cases hl:listed.getD j Xc with
    | true => rfl
    | false => exact (((hind i j s s' hsi hj hlt' (hnot' j (by omega) hl)).1 d (UC _ hdj)) hd).elim
   ·simp [hun]
   ·have hf:decide (j < i)=Xc:=by simp;omega
    rw [hf]
    cases hl:listed.getD j Xc with
    | false => rfl
    | true => exact (((hind j i s' s hj hsi hgt (hnot j hl)).2 d (UC _ hdj)) hd).elim
  have hcmp:∀ d,vS d∈s.F→Zro (Zb6 σ (ss.take i) d) (comp (fun i=>listed.getD i Xc) 0 σ ss d):=by
   intro d hd
   obtain ⟨m,hm1,hm2,hm3⟩:=Zc3 (fun i=>listed.getD i Xc) d ss ss.length (XD _)
   have hall:∀ (j:Nat) (s':Stp),ss[j]? = Xa s'→d∈s'.ups.map (·.1)→listed.getD j Xc=decide (j < m):=by
    intro j s' hj hdj
    by_cases hjm:j < m
    ·rw [decide_eq_true hjm]
     rcases hm3 with rfl | ⟨m',rfl,hS,s2,hs2,hd2⟩
     ·omega
     ·cases hl:listed.getD j Xc with
      | true => rfl
      | false =>
       exfalso
       have hne:j≠m':=fun e=>by rw [e,hS] at hl;cases hl
       have hF2:d∈s2.F:=by
        obtain ⟨u,hu,rfl⟩:=Xj.1 hd2
        have:=ZcB ss 0 σ hch m' s2 hs2
        exact this.1.1 u hu
       exact ((hind m' j s2 s' hs2 hj (by omega) ⟨fun k=>listed.getD k Xc=Xb,hcl,hS,by simp [hl]⟩).1 d (UC _ hdj)) hF2
    ·rw [decide_eq_false hjm]
     cases hl:listed.getD j Xc with
     | false => rfl
     | true => exact (hm2 j s' hj hdj (by omega) (Xi.1 hj).1 hl).elim
   have hcomp:comp (fun i=>listed.getD i Xc) 0 σ ss d=Zb6 σ (ss.take m) d:=by
    rw [← ZaQ ss 0 σ m]
    exact Vi _ _ ss 0 σ σ rfl fun j s' hj hdj=>by simp only [XF];exact hall j s' hj hdj
   rw [hcomp]
   rcases Xx i m with hlt' | hge
   ·intro rows hr
    obtain ⟨rows',g1,g2⟩:=(Zdq hch d i m (Nat.le_of_lt hlt') fun j s' hj1 hj2 hj hdj hv=>by
     have hl:listed.getD j Xc=Xb:=by rw [hall j s' hj hdj];exact decide_eq_true hj2
     have hji:j≠i:=fun e=>by rw [e,hun] at hl;cases hl
     exact ((hind j i s' s hj hsi (by omega) (hnot j hl)).2 _ (U5 _ hv)) hd).1 rows hr
    exact ⟨rows',g1,.inl g2⟩
   ·intro rows hr
    obtain ⟨rows',g1,g2⟩:=(Zdq hch d m i hge fun j s' hj1 hj2 hj hdj hv=>by
     have hl:listed.getD j Xc=Xc:=by rw [hall j s' hj hdj];exact decide_eq_false (by omega)
     exact ((hind i j s s' hsi hj hj2 (hnot' j (by omega) hl)).1 _ (U5 _ hv)) hd).2 rows hr
    exact ⟨rows',g1,.inr g2⟩
  refine hst.2.2.2.2 c hc hn _ tm w lim X hpre (Zme _ ss 0 σ (Zg4 ss 0 σ hch) hpb) ⟨Zom _ ss 0 σ (Zkm ss 0 σ hch) hN,fun d j hd=>(ZmC _ ss 0 σ σ (Zgp ss 0 σ hch) (fun _ _ _=>rfl) d j hd).trans (ZlN (ss.take i) σ σ (fun s' hs'=>Zgp ss 0 σ hch s' (XO hs')) (fun _ _ _=>rfl) d j hd).symm⟩ hcmp hs Q _ fun tm' w' lim' X' hs'=>?_
  refine ih (listed.setIfInBounds i Xb) tm' w' lim' X' (by simpa using hsz) ?_ ?_ ?_
  ·intro k o' hk hl e he hb
   rw [hset] at hl ⊢
   by_cases hei:e.on=i
   ·simp [hei]
   ·rw [if_neg hei]
    by_cases hki:k=i
    ·subst hki
     rw [h2] at hk
     cases hk
     exact h3 e he hb
    ·rw [if_neg hki] at hl
     exact hcl k o' hk hl e he hb
  ·have hlt2:(Wf ops.size).countP (fun j=>!(listed.setIfInBounds i Xb).getD j Xc) < (Wf ops.size).countP (fun j=>!listed.getD j Xc):=by
    have key:∀ (l:List Nat),i∈l→l.countP (fun j=>!(listed.setIfInBounds i Xb).getD j Xc) < l.countP (fun j=>!listed.getD j Xc):=by
     have hle:∀ (l:List Nat),l.countP (fun j=>!(listed.setIfInBounds i Xb).getD j Xc)≤l.countP (fun j=>!listed.getD j Xc):=by
      intro l
      refine List.countP_mono_left fun j _ hj=>?_
      rw [hset] at hj
      split at hj
      ·simp at hj
      ·exact hj
     intro l
     induction l with
     | nil => intro h; cases h
     | cons x l ihl =>
      intro h
      rw [Uz,Uz]
      by_cases hx:x=i
      ·subst hx
       have h1:(listed.setIfInBounds x Xb).getD x Xc=Xb:=by rw [hset,if_pos rfl]
       have:=hle l
       rw [h1,hun]
       simp only [Bool.not_true,Bool.not_false,Uh,if_false,if_true]
       omega
      ·have:=ihl (by rcases Xl.1 h with h | h;exact (hx h.symm).elim;exact h)
       rw [hset x,if_neg hx]
       omega
    exact key _ (by simpa using hlt)
   omega
  ·have he:comp (fun j=>(listed.setIfInBounds i Xb).getD j Xc) 0 σ ss=Jm (comp (fun i=>listed.getD i Xc) 0 σ ss) s.ups:=by
    funext d
    rw [Js]
    by_cases hd:d∈s.ups.map (·.1)
    ·have hdF:d∈s.F:=by
      obtain ⟨u,hu,rfl⟩:=Xj.1 hd
      exact hst.1.1 u hu
     -- nothing behind i that is listed writes d
     rw [Vi (d:=d) _ (fun j=>decide (j < i+1)) ss 0 σ σ rfl fun j s' hj hdj=>?_]
     ·have:=ZaQ ss 0 σ (i+1)
      rw [XF] at this
      rw [this,List.take_add_one,hsi]
      have happ:∀ (l:List Stp) (τ:Nat→AV),Zb6 τ (l++[s])=Jm (Zb6 τ l) s.ups:=by
       intro l
       induction l with
       | nil => intro τ; rfl
       | cons x l ihl => intro τ; exact ihl _
      show Zb6 σ (ss.take i++[s]) d=_
      rw [happ,Js]
      obtain ⟨x,hx⟩:=Ve s.ups d hd
      rw [hx]
      rfl
     ·rw [XF,hset]
      rcases Ti j i with hlt' | rfl | hgt
      ·have:decide (j < i+1)=Xb:=by simp;omega
       rw [this,if_neg (by omega)]
       cases hl:listed.getD j Xc with
       | true => rfl
       | false => exact (((hind i j s s' hsi hj hlt' (hnot' j (by omega) hl)).1 d (UC _ hdj)) hdF).elim
      ·simp
      ·have:decide (j < i+1)=Xc:=by simp;omega
       rw [this,if_neg (by omega)]
       cases hl:listed.getD j Xc with
       | false => rfl
       | true => exact (((hind j i s' s hj hsi hgt (hnot j hl)).2 d (UC _ hdj)) hdF).elim
    ·rw [Y1 s.ups d hd]
     refine Vi _ _ ss 0 σ σ rfl fun j s' hj hdj=>?_
     rw [XF,hset]
     by_cases hji:j=i
     ·subst hji
      rw [hsi] at hj
      cases hj
      exact (hd hdj).elim
     ·rw [if_neg hji]
   rw [he]
   exact hs'
end
theorem ZfG {ops:Array Oper} {S:Nat→Prop} (hS:∀ k o,ops[k]? = Xa o→S k→∀ e∈o.after,Region.binds .any e=Xb→S e.on) (i j:Nat) (hi:S i)
  (hb:((Region.before ops).getD i 0).testBit j=Xb):S j:=by
 have inner:∀ (acc:Array Nat),(∀ i j,S i→(acc.getD i 0).testBit j=Xb→S j)→∀ (l:List Edge),(∀ e∈l,Region.binds .any e=Xb→S e.on)→∀ (s:Nat),(∀ j,s.testBit j=Xb→S j)→
   ∀ j,(l.foldl (fun s e=>if Region.binds .any e then s||| 2^e.on||| acc.getD e.on 0 else s) s).testBit j=Xb→S j:=by
  intro acc hacc l
  induction l with
  | nil => intro _ s hs j hj; exact hs j hj
  | cons e l ih =>
   intro hl s hs j hj
   rw [UM] at hj
   refine ih (fun e' he'=>hl e' (by simp [he'])) _ ?_ j hj
   intro j' hj'
   split at hj'
   ·rename_i hbd
    have hon:=hl e (by simp) hbd
    rw [Nat.testBit_or,Nat.testBit_or,Nat.testBit_two_pow,UA,UA,decide_eq_true_eq] at hj'
    rcases hj' with (h | h) | h
    ·exact hs j' h
    ·rw [← h];exact hon
    ·exact hacc e.on j' hon h
   ·exact hs j' hj'
 have outer:∀ (l:List Oper) (acc:Array Nat),(∀ j,l[j]? = ops[acc.size+j]?)→(∀ i j,S i→(acc.getD i 0).testBit j=Xb→S j)→
   ∀ i j,S i→((l.foldl (fun acc o=>acc.push (o.after.foldl (fun s e=>if Region.binds .any e then s||| 2^e.on||| acc.getD e.on 0 else s) 0)) acc).getD i 0).testBit j=Xb→S j:=by
  intro l
  induction l with
  | nil => intro acc _ hacc i j hi hj; exact hacc i j hi hj
  | cons o l ih =>
   intro acc hl hacc i j hi hj
   rw [UM] at hj
   refine ih _ (fun j=>?_) ?_ i j hi hj
   ·have:=hl (j+1)
    simp only [X5,Array.size_push] at this ⊢
    rw [this]
    congr 1
    omega
   ·intro i' j' hi' hj'
    have h0:ops[acc.size]? = Xa o:=by simpa using (hl 0).symm
    by_cases h:i' < acc.size
    ·refine hacc i' j' hi' ?_
     simp only [X7,Array.size_push,h,dite_true] at hj' ⊢
     rw [dif_pos (by omega)] at hj'
     simp only [Array.getInternal_eq_getElem,Array.getElem_push,h,dite_true] at hj' ⊢
     exact hj'
    ·by_cases h':i'=acc.size
     ·subst h'
      have:(acc.push (o.after.foldl (fun s e=>if Region.binds .any e then s||| 2^e.on||| acc.getD e.on 0 else s) 0)).getD acc.size 0=o.after.foldl (fun s e=>if Region.binds .any e then s||| 2^e.on||| acc.getD e.on 0 else s) 0:=by
       simp [X7]
      rw [this,← Array.foldl_toList] at hj'
      exact inner acc hacc o.after.toList (fun e he hb=>hS acc.size o h0 hi' e (by simpa using he) hb) 0 (by simp) j' hj'
     ·have:(acc.push (o.after.foldl (fun s e=>if Region.binds .any e then s||| 2^e.on||| acc.getD e.on 0 else s) 0)).getD i' 0=0:=by
       simp only [X7,Array.size_push]
       rw [dif_neg (by omega)]
      rw [this] at hj'
      simp at hj'
 have:=outer ops.toList #[] (fun j=>by simp) (fun i j _ h=>by simp at h) i j hi
 apply this
 rw [Array.foldl_toList]
 exact hb
theorem Sim.stoStep {c:Ctx} {σ:Nat→AV} {tm:Array Value} {w w':World} {lim lim':Lm} {X:Nat→Nat→Option Nat} (h:Sim c σ tm w lim X) {d:Nat} {rows rows':List (List AV)} {r:Nat→Option Nat} (hd:σ d = .store rows)
  (hw:VY w lim w' lim' (fun b=>∃ k,X d k=Xa b) Xb) (hx:YG c.P w' lim' r rows') (hr1:∀ k b,r k=Xa b→b < w'.heap.size∧(c.A b∨c.w0.heap.size≤b)∧∀ i j,i≠d→X i j≠Xa b)
  (hr2:∀ k k' b,r k=Xa b→r k'=Xa b→k=k'):Sim c (upd σ d (.store rows')) tm w' lim' (Ke X d r):=by
 have hds:(σ d).isSto=Xb:=by rw [hd];rfl
 have hone:∀ i,(σ i).isSto=Xb→i=d:=fun i hi=>h.stf.2 i d hi hds
 have hdN:d < ngN:=by
  rcases Xx d ngN with hlt | hge
  ·exact hlt
  ·have:=h.far d hge;rw [hd] at this;cases this
 have hX0:X d 0=Xe:=by
  have:=h.rel d
  rw [hd] at this
  exact this.2.1
 have kept:∀ i k b,i≠d→X i k=Xa b→Zeh w lim w' lim' b:=fun i k b hi hb=>hw.blk b (h.ours i k b hb).1 fun ⟨k',hk'⟩=>hi (h.dist i k d k' b hb hk').1
 have hnf:∀ i k,Jh (σ i) d k→False:=fun i k hr=>by
  obtain ⟨p,hp⟩:=Y4 h hr
  rw [hd] at hp
  cases k<;>cases hp
 refine ⟨fun i=>?_,h.size,fun i hi=>?_,fun i hi=>?_,fun i k i' k' b g g'=>?_,fun i k b g=>?_,h.frm.cstep hw (fun b ⟨k,hk⟩=>(h.ours d k b hk).2) (fun hc=>(by rw [h.stf.1 hc d] at hds;cases hds)),fun i v hv=>?_,fun i e xs he=>?_,fun i b hb=>?_,h.ntN,fun i hi=>?_,fun i k e xs b m1 m2 m3=>?_,fun b m b' hb=>?_,⟨fun hc=>(by rw [h.stf.1 hc d] at hds;cases hds),?_⟩⟩
 ·by_cases hi:i=d
  ·subst hi
   rw [Zs]
   show YG c.P w' lim' (Ke X i r i) rows'
   rw [Zl]
   exact hx
  ·rw [Zb σ _ hi]
   have h1:=(h.rel i).mono hw.ext (fun k b hb=>kept i k b hi hb) (fun d' k b he hb=>.of (kept d' k b (fun e=>by subst e;exact hnf i k (.inl he)) hb).1) fun rows0 hr0=>(hi (hone i (by rw [hr0];rfl))).elim
   refine h1.chg (Zc X r hi) (fun d' cs hd'=>?_) (fun d' hg=>?_) fun d' k hr=>?_
   ·have hdd:d'≠d:=fun e=>by rw [e,hd] at hd';cases hd'
    exact ⟨⟨cs,by rw [Zb σ _ hdd,hd']⟩,by rw [Zc X r hdd]⟩
   ·by_cases hdd:d'=d
    ·subst hdd
     refine ⟨by rw [Zs];rfl,?_⟩
     rw [Zl,hx.2.1,hX0]
    ·exact ⟨by rw [Zb σ _ hdd];exact hg,by rw [Zc X r hdd]⟩
   ·have hdd:d'≠d:=fun e=>by subst e;exact hnf i k hr
    exact ⟨by rw [Zb σ _ hdd];exact KO.refl _ _,by rw [Zc X r hdd]⟩
 ·by_cases hid:i=d
  ·subst hid;rw [Zs];exact .inr rfl
  ·rw [Zb σ _ hid];exact h.out i hi
 ·by_cases hid:i=d
  ·subst hid;exact h.ghost i (by rw [hd];rfl)
  ·rw [Zb σ _ hid] at hi;exact h.ghost i hi
 ·by_cases hi:i=d<;>by_cases hi':i'=d
  ·subst hi;subst hi'
   rw [Zl] at g g'
   exact ⟨rfl,hr2 k k' b g g'⟩
  ·subst hi
   rw [Zl] at g
   rw [Zc X r hi'] at g'
   exact ((hr1 k b g).2.2 i' k' hi' g').elim
  ·subst hi'
   rw [Zl] at g'
   rw [Zc X r hi] at g
   exact ((hr1 k' b g').2.2 i k hi g).elim
  ·rw [Zc X r hi] at g
   rw [Zc X r hi'] at g'
   exact h.dist i k i' k' b g g'
 ·by_cases hi:i=d
  ·subst hi
   rw [Zl] at g
   exact ⟨(hr1 k b g).1,(hr1 k b g).2.1⟩
  ·rw [Zc X r hi] at g
   exact ⟨XI (h.ours i k b g).1 hw.size,(h.ours i k b g).2⟩
 ·obtain ⟨h1,cs,h2⟩:=h.pin i v hv
  have hi:i≠d:=fun e=>by rw [e,hd] at h2;cases h2
  exact ⟨h1,cs,by rw [Zb σ _ hi,h2]⟩
 ·have hi:i≠d:=fun e=>by subst e;rw [Zs] at he;cases he
  rw [Zb σ _ hi] at he
  rw [show Ke X d r i=X i from Zc X r hi]
  exact (h.mp i e xs he).mono hw.ext fun k b hb=>kept i k b hi hb
 ·obtain ⟨h1,h2⟩:=h.gpin i b hb
  have hi:i≠d:=fun e=>by subst e;rw [hX0] at h1;cases h1
  exact ⟨by rw [Zc X r hi];exact h1,by rw [Zb σ _ hi];exact h2⟩
 ·have hid:i≠d:=by omega
  rw [Zb σ _ hid];exact h.far i hi
 ·have hi:i≠d:=fun e=>by subst e;rw [Zs] at m1;cases k<;>cases m1
  rw [Zb σ _ hi] at m1
  rw [Zc X r hi] at m3
  rw [Zc X r (by omega)]
  exact (h.nst i k e xs b m1 m2 m3).mono hw.ext (kept i k b hi m3).1 fun j b' hb'=>kept _ j b' (by omega) hb'
 ·rw [Zc X r (by omega)] at hb
  exact XI (h.yfr b m b' hb) hw.size
 ·have hall:∀ i,(upd σ d (.store rows') i).isSto=Xb→i=d:=fun i hi=>by
   by_cases hid:i=d
   ·exact hid
   ·rw [Zb σ _ hid] at hi;exact hone i hi
  exact fun i i' g g'=>(hall i g).trans (hall i' g').symm
theorem Zby {rows:List (List AV)} {j:Nat} (h:JQ (Z9 rows (j+1))=Xb):rows[j]? = Xa (Z9 rows (j+1)):=by
 simp only [Z9] at h ⊢
 cases hr:rows[j]? with
 | none => rw [hr] at h; cases h
 | some row => rfl
theorem Vh {c:Ctx} {σ:Nat→AV} {tm:Array Value} {w:World} {lim:Lm} {X:Nat→Nat→Option Nat} (h:Sim c σ tm w lim X) {d j:Nat} {rows:List (List AV)} (hd:σ d = .store rows) (hc:JQ (Z9 rows (j+1))=Xb) :
  ∃ (b cap:Nat) (arr:Array Value) (t:TypeId),X d (j+1)=Xa b∧lim.t (j+1)=Xa (b,cap,t)∧w.heap[b]? = Xa (.cells arr t (0,0))∧lim b=0∧cap≤maxLen∧arr.size=cap*c.P.cellsOf t∧(Z9 rows (j+1)).length≤arr.size∧
   (∀ x∈Z9 rows (j+1),x.isCell=Xb)∧∀ (i:Nat) (x:AV) (u:Value),(Z9 rows (j+1))[i]? = Xa x→arr[i]? = Xa u→Rep w lim x u:=by
 have hs:=h.rel d
 rw [hd] at hs
 have hr:=Zby hc
 generalize Z9 rows (j+1)=row at hc hr
 rcases hs.2.2 j row hr with rfl | ⟨b,cap,ty,h1,h2,h3,h4⟩
 ·cases hc
 ·rcases h4 with ⟨arr,g0,g1,g2,g3,g4,g5⟩ | ⟨_,_,_,_,rfl,_⟩
  ·exact ⟨b,cap,arr,ty,h2,h1,g1,h3,g0,g2,g3,g4,g5⟩
  ·cases hc
theorem K4 {w:World} {lim:Lm} {j off:Nat} {v:Value} (h:Rep w lim (.oref (j+1) off) v):∃ b cap ty,lim.t (j+1)=Xa (b,cap,ty)∧v = .pointer (Xa ⟨b,off,Xe⟩):=by
 cases h with
 | oref _ ht => exact ⟨_, _, _, ht, rfl⟩
theorem Zjb {w:World} {lim:Lm} {e:TypeId} {j n:Nat} {v:Value} (h:Rep w lim (.osl e (j+1) n) v):∃ b cap,lim.t (j+1)=Xa (b,cap,e)∧v = .slice (Xa ⟨b,0,Xe⟩) n cap∧n≤cap:=by
 cases h with
 | osl _ ht hn => exact ⟨_, _, ht, rfl, hn⟩
theorem ZgA {w:World} {lim:Lm} {e:TypeId} {j n:Nat} {v:Value} (h:Rep w lim (.osl e j n) v):∃ a cap,v = .slice a n cap∧n≤cap:=by
 cases h with
 | osl0 => exact ⟨_, _, rfl, XD _⟩
 | osl _ _ hn => exact ⟨_, _, rfl, hn⟩
theorem Za5 {w:World} {lim:Lm} {j:Nat} {v:Value} (h:Rep w lim (.omap (j+1)) v):∃ b cap ty,lim.t (j+1)=Xa (b,cap,ty)∧v = .map (Xa b):=by
 cases h with
 | omap _ ht => exact ⟨_, _, _, ht, rfl⟩
theorem ZoX {c:Ctx} {σ':Nat→AV} {tm:Array Value} {w:World} {lim:Lm} {X:Nat→Nat→Option Nat} (h:Sim c σ' tm w lim X) {d j:Nat} {rows rows':List (List AV)} (hd:σ' d = .store rows') (hp:rows <+: rows'∨rows' <+: rows) (hc:JQ (Z9 rows (j+1))=Xb) {p:Nat×Nat×TypeId} (ht:lim.t (j+1)=Xa p) :
  Z9 rows' (j+1)=Z9 rows (j+1):=by
 have hs:=h.rel d
 rw [hd] at hs
 have hr:=Zby hc
 have hlt:j < rows'.length:=by
  rcases Xx j rows'.length with h | h
  ·exact h
  ·rw [hs.1 (j+1) (by omega)] at ht;cases ht
 have hlt':=(Xi.1 hr).1
 simp only [Z9]
 rcases hp with ⟨l,rfl⟩ | ⟨l,rfl⟩
 ·rw [Xv hlt']
 ·rw [Xv hlt]
theorem Zad {P:Program} {o:Oper} {σ:Nat→AV} {T:TypeId} {a:Operand} {d j off:Nat} {rows:List (List AV)} {x:AV} (ho:o.op = .load T a) (hT:ZS P T=Xa Xc)
  (ha:Zn P σ a = .oref (j+1) off) (hd:σ d = .store rows) (hr:JQ (Z9 rows (j+1))=Xb) (hx:(Z9 rows (j+1))[off]? = Xa x):Jg P o σ x [] [d]:=by
 intro c hc σ' tm w lim X hid hag hsim next Q hn
 have hg:Zn P σ' a=Zn P σ a:=Zw fun t ht=>hid t (by simp [Zo (o:=o) (x:=a) (by rw [ho];simp [Op.operands]) ht])
 have hv:=JF hc hsim ha hg
 have hd':σ' d = .store rows:=by rw [hag d (by simp),hd]
 obtain ⟨b,cap,arr,t,g1,g2,g4,g5,g0,g6,g7,g8,g9⟩:=Vh hsim hd' hr
 obtain ⟨b2,cap2,ty2,k1,k2⟩:=K4 hv
 rw [g2] at k1
 cases k1
 have hlt:off < (Z9 rows (j+1)).length:=(Xi.1 hx).1
 have hu:arr[off]? = Xa arr[off]:=XZ (by omega)
 have hcell:w.cell? ⟨b,off,Xe⟩=Xa arr[off]:=by
  rw [Zh g4]
  simp
 obtain ⟨p1,p2⟩:=Kc (P:=P) (X:=X) (σ:=σ') (k:=0) (g8 x (Xh hx)) (g9 off x _ hx hu)
 refine Zi (v:=arr[off]) ?_ (hn _ w (Zq hsim p1 (k:=0) (by rw [hc];exact p2)))
 simp [execOp,ho,k2,Jw hT hcell]
theorem ZaM {P:Program} {o:Oper} {σ:Nat→AV} {T:TypeId} {a:Operand} {d j off:Nat} {rows:List (List AV)} (ho:o.op = .load T a) (hT:ZS P T=Xa Xb)
  (ha:Zn P σ a = .oref (j+1) off) (hd:σ d = .store rows) (hr:JQ (Z9 rows (j+1))=Xb) (hn:off+P.cellsOf T≤(Z9 rows (j+1)).length):Jg P o σ (.agg (((Z9 rows (j+1)).drop off).take (P.cellsOf T))) [] [d]:=by
 refine Zt [d] rfl fun c hc σ' tm w lim X hg hfp hsim=>?_
 rw [ho] at hg
 have hv:=JF hc hsim ha (hg a (by simp [Op.operands]))
 have hd':σ' d = .store rows:=by rw [hfp d (by simp),hd]
 obtain ⟨b,cap,arr,t,g1,g2,g4,g5,g0,g6,g7,g8,g9⟩:=Vh hsim hd' hr
 obtain ⟨b2,cap2,ty2,k1,k2⟩:=K4 hv
 rw [g2] at k1
 cases k1
 obtain ⟨us,hus⟩:∃ us,us=(arr.toList.drop off).take (P.cellsOf T):=⟨_,rfl⟩
 have hul:us.length=P.cellsOf T:=by rw [hus];simp;omega
 have hat:∀ (i:Nat) (u:Value),us[i]? = Xa u→arr[off+i]? = Xa u:=fun i u hu=>by
  rw [hus,Xw] at hu
  split at hu
  ·rw [XH] at hu;simpa using hu
  ·cases hu
 refine ⟨.agg us.toArray,?_,?_⟩
 ·have:=JW (w:=w) (b:=b) (off:=off) (us:=us) hT hul (fun i u hi=>by
   rw [Zh g4]
   simpa using hat i u hi)
  simp [execOp,ho,k2,this]
 ·refine .agg (by rw [hul];simp;omega) (fun x hx=>g8 x (XW (XO hx))) fun i x u hx hu=>?_
  rw [Xw] at hx
  split at hx
  ·rw [XH] at hx
   exact g9 (off+i) x u hx (hat i u hu)
  ·cases hx
theorem Zld {T':Odr} {P:Program} {o:Oper} {σ:Nat→AV} {T:TypeId} {a:Operand} {d j off:Nat} {rows:List (List AV)} {agg:Bool} (ho:o.op = .load T a) (hT:ZS P T=Xa agg)
  (ha:Zn P σ a = .oref (j+1) off) (hd:σ d = .store rows) (hr:JQ (Z9 rows (j+1))=Xb) (hn:off+P.cellsOf T≤(Z9 rows (j+1)).length) (h1:agg=Xc→P.cellsOf T=1) :
  ZiY T' P o σ (match agg with | true=>.agg (((Z9 rows (j+1)).drop off).take (P.cellsOf T)) | false=>((Z9 rows (j+1))[off]?).getD .dead) [] [vS d]:=by
 intro c hc σ' tm w lim X hid hag hTr hS hsim next Q hnx
 obtain ⟨rows',hd',hp⟩:=hS d (by simp) rows hd
 have hg:Zn P σ' a=Zn P σ a:=Zw fun t ht=>hid t (by simp [Zo (o:=o) (x:=a) (by rw [ho];simp [Op.operands]) ht])
 obtain ⟨b2,cap2,ty2,k1,k2⟩:=K4 (JF hc hsim ha hg)
 have hsame:=ZoX hsim hd' hp hr k1
 cases agg with
 | true =>
  have:=ZaM (σ:=σ') ho hT (hg.trans ha) hd' (by rw [hsame];exact hr) (by rw [hsame];exact hn)
  rw [hsame] at this
  exact this c hc σ' tm w lim X (fun _ _=>.inl rfl) (fun _ _=>rfl) hsim next Q hnx
 | false =>
  have h1:=h1 rfl
  have hlt:off < (Z9 rows (j+1)).length:=by omega
  have hx:(Z9 rows (j+1))[off]? = Xa ((Z9 rows (j+1))[off]):=Xp hlt
  have:=Zad (σ:=σ') ho hT (hg.trans ha) hd' (by rw [hsame];exact hr) (by rw [hsame];exact hx)
  simp only [hx,UR] at hnx ⊢
  exact this c hc σ' tm w lim X (fun _ _=>.inl rfl) (fun _ _=>rfl) hsim next Q hnx
theorem Zbc {P:Program} {o:Oper} {σ:Nat→AV} {x:Operand} {j off:Nat} (ho:o.op = .nilCheck x) (hx:Zn P σ x = .oref (j+1) off):Jg P o σ (.oref (j+1) off) [] []:=by
 refine Zt [] rfl fun c hc σ' tm w lim X hg hfp hsim=>?_
 rw [ho] at hg
 have hv:=JF hc hsim hx (hg x (by simp [Op.operands]))
 refine ⟨Act.eval ⟨tm,[]⟩ x,?_,hv⟩
 obtain ⟨b,cap,_,_,h3⟩:=K4 hv
 simp [execOp,ho,h3]
theorem Zd1 {P:Program} {o:Oper} {σ:Nat→AV} {T:TypeId} {x:Operand} {f off j p:Nat} (ho:o.op = .fieldAddr T x f) (hf:JH P T f=Xa off)
  (hx:Zn P σ x = .oref (j+1) p):Jg P o σ (.oref (j+1) (p+off)) [] []:=by
 refine Zt [] rfl fun c hc σ' tm w lim X hg hfp hsim=>?_
 rw [ho] at hg
 obtain ⟨b,cap,ty,h1,h3⟩:=K4 (JF hc hsim hx (hg x (by simp [Op.operands])))
 exact ⟨.pointer (Xa ⟨b,p+off,Xe⟩),by simp [execOp,ho,h3,KF hf],.oref (UD j) h1⟩
theorem Zej {P:Program} {o:Oper} {σ:Nat→AV} {T e e':TypeId} {x i:Operand} {j n:Nat} {k:IntKind} {z:Int} (ho:o.op = .indexAddr T x i) (hT:P.underlying T=Xa (.slice e)) (hs0:P.cellsOf e≠0)
  (hx:Zn P σ x = .osl e' j n) (hi:Zn P σ i = .val (.int k z)) (h0:0≤z) (h1:z.toNat < n):Jg P o σ (.oref j (z.toNat*P.cellsOf e)) [] []:=by
 refine Zt [] rfl fun c hc σ' tm w lim X hg hfp hsim=>?_
 rw [ho] at hg
 have hv:=JF hc hsim hx (hg x (by simp [Op.operands]))
 have hiv:=ZP hc hsim hi (hg i (by simp [Op.operands]))
 obtain ⟨inf,hinf⟩:=Zr hs0
 cases j with
 | zero =>
  have hv':Rep w lim (.osl e' 0 n) (Act.eval ⟨tm,[]⟩ x):=hv
  generalize Act.eval ⟨tm,[]⟩ x=v at hv'
  cases hv' with
  | osl0 => omega
  | osl h _ _ => omega
 | succ j =>
  obtain ⟨b,cap,h2,h3,h4⟩:=Zjb hv
  refine ⟨.pointer (Xa ⟨b,z.toNat*P.cellsOf e,Xe⟩),?_,.oref (UD j) h2⟩
  have hb:(0:Int)≤z∧z < (n:Int):=by omega
  simp [execOp,ho,h3,hiv,Instr.indexAt,asIntOf,run_underlying hT,hb,Zu hinf,Jc]
theorem Zih {P:Program} {o:Oper} {σ:Nat→AV} {cl:Call} {T e e':TypeId} {x:Operand} {j n:Nat} (ho:o.op = .call cl) (hcl:cl.callee = .builtin .len) (hargs:cl.args.toList = [x]) (hts:cl.argTypes.toList = [T]) (hT:P.underlying T=Xa (.slice e))
  (hx:Zn P σ x = .osl e' j n):Jg P o σ (.val (.int .i64 n)) [] []:=by
 have hargs':cl.args = #[x]:=by apply XG.1;rw [hargs]
 have hts':cl.argTypes = #[T]:=by apply XG.1;rw [hts]
 refine Zt [] rfl fun c hc σ' tm w lim X hg hfp hsim=>?_
 rw [ho] at hg
 obtain ⟨a,cap,h1,_⟩:=ZgA (JF hc hsim hx (hg x (by simp [Op.operands,Call.operands,hargs',hcl])))
 refine ⟨.int .i64 n,?_,.val rfl⟩
 simp [execOp,ho,hcl,resolve,hargs',hts',invoke,builtin,Builtin.len_,h1,run_underlying hT,goInt]
theorem ZgQ {P:Program} {o:Oper} {σ:Nat→AV} {T e e':TypeId} {x y:Operand} {j n:Nat} {k:IntKind} {h:Nat} (ho:o.op = .slice T x Xe (Xa y) Xe) (hT:P.underlying T=Xa (.slice e)) (hs0:P.cellsOf e≠0)
  (hx:Zn P σ x = .osl e' j n) (hy:Zn P σ y = .val (.int k h)) (hle:h≤n):Jg P o σ (.osl e' j h) [] []:=by
 refine Zt [] rfl fun c hc σ' tm w lim X hg hfp hsim=>?_
 rw [ho] at hg
 have hv:=JF hc hsim hx (hg x (by simp [Op.operands]))
 have hyv:=ZP hc hsim hy (hg y (by simp [Op.operands]))
 obtain ⟨inf,hinf⟩:=Zr hs0
 have hv':Rep w lim (.osl e' j n) (Act.eval ⟨tm,[]⟩ x):=hv
 generalize hev:Act.eval ⟨tm,[]⟩ x=v at hv'
 cases hv' with
 | @osl0 _ a =>
  have h0:h=0:=by omega
  subst h0
  refine ⟨.slice a 0 0,?_,.osl0⟩
  cases a<;>simp [execOp,ho,hev,hyv,Instr.sliceAt,Instr.slice,Instr.sliceBounds,Instr.sliceBound,asIntOf,run_underlying hT,Zu hinf]
 | @osl _ _ _ b cap hj ht hn =>
  refine ⟨.slice (Xa ⟨b,0,Xe⟩) h cap,?_,.osl hj ht (by omega)⟩
  have b1:h≤cap:=by omega
  by_cases hc0:cap=0
  ·subst hc0
   have hk0:h=0:=by omega
   subst hk0
   simp [execOp,ho,hev,hyv,Instr.sliceAt,Instr.slice,Instr.sliceBounds,Instr.sliceBound,asIntOf,run_underlying hT,Zu hinf]
  ·simp [execOp,ho,hev,hyv,Instr.sliceAt,Instr.slice,Instr.sliceBounds,Instr.sliceBound,asIntOf,run_underlying hT,Zu hinf,b1,hc0,Jc]
theorem Zez {P:Program} {o:Oper} {σ:Nat→AV} {T e e':TypeId} {x y z:Operand} {j n s:Nat} {k k':IntKind} (ho:o.op = .slice T x Xe (Xa y) (Xa z)) (hT:P.underlying T=Xa (.slice e)) (hs0:P.cellsOf e≠0)
  (hx:Zn P σ x = .osl e' j n) (hy:Zn P σ y = .val (.int k 0)) (hz:Zn P σ z = .val (.int k' 0)):Jg P o σ (.slice Xb s []) [] []:=by
 refine Zt [] rfl fun c hc σ' tm w lim X hg hfp hsim=>?_
 rw [ho] at hg
 have hv:=JF hc hsim hx (hg x (by simp [Op.operands]))
 have hyv:=ZP hc hsim hy (hg y (by simp [Op.operands]))
 have hzv:=ZP hc hsim hz (hg z (by simp [Op.operands]))
 obtain ⟨inf,hinf⟩:=Zr hs0
 obtain ⟨a,cap,h1,h2⟩:=ZgA hv
 cases a with
 | none => exact ⟨.slice Xe 0 0, by simp [execOp, ho, h1, hyv, hzv, Instr.sliceAt, Instr.slice, Instr.sliceBounds, Instr.sliceBound, asIntOf, run_underlying hT, Zu hinf], .sliceN⟩
 | some a => exact ⟨.slice (Xa a) 0 0, by simp [execOp, ho, h1, hyv, hzv, Instr.sliceAt, Instr.slice, Instr.sliceBounds, Instr.sliceBound, asIntOf, run_underlying hT, Zu hinf], .sliceE fun _ => rfl⟩
theorem Sim.stoSet {c:Ctx} {σ:Nat→AV} {tm:Array Value} {w:World} {lim:Lm} {X:Nat→Nat→Option Nat} (h:Sim c σ tm w lim X) {d j b cap:Nat} {t:TypeId} {rows:List (List AV)} {row':List AV} {arr arr':Array Value} (hd:σ d = .store rows) (hr:JQ (Z9 rows (j+1))=Xb)
  (g1:X d (j+1)=Xa b) (g2:lim.t (j+1)=Xa (b,cap,t)) (g4:w.heap[b]? = Xa (.cells arr t (0,0))) (g5:lim b=0) (g0:cap≤maxLen) (hsz:arr'.size=cap*c.P.cellsOf t) (hl:row'.length≤arr'.size) (hc:∀ x∈row',x.isCell=Xb)
  (hrel:∀ (i:Nat) (x:AV) (u:Value),row'[i]? = Xa x→arr'[i]? = Xa u→Rep w lim x u):Sim c (upd σ d (.store (rows.set j row'))) tm (w.setRow b arr') lim (Ke X d (X d)):=by
 have hw:=YJ (cs:=arr') g4 g5
 have hcs:VY w lim (w.setRow b arr') lim (fun b'=>∃ k,X d k=Xa b') Xb:=⟨hw.os,hw.tape,hw.output,hw.size,hw.frz,fun b' hb' hnn=>hw.blk b' hb' fun e=>hnn ⟨j+1,by rw [e];exact g1⟩,hw.ext,fun _=>rfl⟩
 have hsr:=h.rel d
 rw [hd] at hsr
 have hstore:YG c.P (w.setRow b arr') lim (X d) (rows.set j row'):=by
  refine ⟨fun i hi=>hsr.1 i (by simpa using hi),hsr.2.1,fun i row1 hr1=>?_⟩
  rw [Ug] at hr1
  split at hr1
  ·rename_i hij
   subst hij
   split at hr1
   ·cases hr1
    refine .inr ⟨b,cap,t,g2,g1,g5,.inl ⟨arr',g0,setRow_heap w b arr arr' t _ g4,hsz,hl,hc,fun i x u hx hu=>(hrel i x u hx hu).mono hw.ext⟩⟩
   ·cases hr1
  ·rename_i hij
   rcases hsr.2.2 i row1 hr1 with h0 | ⟨b1,cap1,t1,m1,m2,m3⟩
   ·exact .inl h0
   ·have hbb:b1≠b:=fun e=>by
     subst e
     have:=(h.dist d (i+1) d (j+1) b1 m2 g1).2
     omega
    exact .inr ⟨b1,cap1,t1,m1,m2,m3.mono hw.ext (hw.blk b1 (h.ours d (i+1) b1 m2).1 hbb)⟩
 exact h.stoStep hd hcs hstore (fun k b' hb'=>⟨XI (h.ours d k b' hb').1 hw.size,(h.ours d k b' hb').2,fun i k' hi hx'=>hi (h.dist i k' d k b' hx' hb').1⟩) (fun k k' b' hk hk'=>(h.dist d k d k' b' hk hk').2)
theorem ZdF {rows:List (List AV)} {j o:Nat} {vc:List AV} (h:JQ (Z9 rows (j+1))=Xb):ZC rows j o vc=rows.set j (setCells (Z9 rows (j+1)) o vc):=by
 have hr:=Zby h
 unfold ZC
 apply Ua
 intro i
 rw [Uy,Ug]
 by_cases hij:j=i
 ·subst hij
  rw [if_pos rfl,if_pos (Xi.1 hr).1,hr]
  simp
 ·rw [if_neg hij]
  simp [hij]
theorem Zed {P:Program} {o:Oper} {σ:Nat→AV} {T:TypeId} {a x:Operand} {d j off:Nat} {rows:List (List AV)} {vc vc':List AV} {y:AV} (ho:o.op = .store T a x) (ha:Zn P σ a = .oref (j+1) off) (hd:σ d = .store rows) (hr:JQ (Z9 rows (j+1))=Xb)
  (hx:Zn P σ x=y) (hy:y.cells? = Xa vc) (hn:vc.length=P.cellsOf T) (hn0:P.cellsOf T≠0) (hfit:off+P.cellsOf T≤(Z9 rows (j+1)).length) (hw':vc'.length=vc.length∧∀ (w:World) (lim:Lm) (us:List Value),JJ w lim vc us→JJ w lim vc' us) :
  Jg P o σ .dead [(d,.store (ZC rows j off vc'))] [d]:=by
 intro c hc σ' tm w lim X hid hag hsim next Q hnx
 have hga:Zn P σ' a=Zn P σ a:=Zw fun t ht=>hid t (by simp [Zo (o:=o) (x:=a) (by rw [ho];simp [Op.operands]) ht])
 have hgx:Zn P σ' x=Zn P σ x:=Zw fun t ht=>hid t (by simp [Zo (o:=o) (x:=x) (by rw [ho];simp [Op.operands]) ht])
 have hd':σ' d = .store rows:=by rw [hag d (by simp),hd]
 have hva:=JF hc hsim ha hga
 obtain ⟨us,h4,h5⟩:=KM hy (JF hc hsim hx hgx)
 have h5:=hw'.2 _ _ _ h5
 obtain ⟨b,cap,arr,t,g1,g2,g4,g5,g0,g6,g7,g8,g9⟩:=Vh hsim hd' hr
 obtain ⟨b2,cap2,ty2,k1,k2⟩:=K4 hva
 rw [g2] at k1
 cases k1
 obtain ⟨inf,hinf⟩:=Zr hn0
 have hlen:us.length=P.cellsOf T:=by rw [← h5.1,hw'.1,hn]
 have hst:=JY (P:=P) (T:=T) (w:=w) (b:=b) (off:=off) (v:=Act.eval ⟨tm,[]⟩ x) hinf h4 hlen g4 (by rw [hlen];omega) (fun u hu=>by
  obtain ⟨i,hi⟩:=XK.1 hu
  have hlt:i < vc'.length:=by rw [h5.1];exact (Xi.1 hi).1
  exact (h5.2.2 i _ u (Xp hlt) hi).oneCell (h5.2.1 _ (List.getElem_mem hlt)))
 have hset:=hsim.stoSet (row':=setCells (Z9 rows (j+1)) off vc') (arr':=(arr.toList.take off++us++arr.toList.drop (off+us.length)).toArray) hd' hr g1 g2 g4 g5 g0 (by rw [← g6];simp;omega) (by
  have:=h5.1
  unfold setCells;simp;omega) (fun z hz=>by
  unfold setCells at hz
  rcases Xt.1 hz with hz | hz
  ·rcases Xt.1 hz with hz | hz
   ·exact g8 z (XO hz)
   ·exact h5.2.1 z hz
  ·exact g8 z (XW hz)) (fun i z u hz hu=>by
  unfold setCells at hz
  rw [JS _ vc' off (by rw [h5.1];omega)] at hz
  have hu':(arr.toList.take off++us++arr.toList.drop (off+us.length))[i]? = Xa u:=by simpa using hu
  rw [JS arr.toList us off (by rw [hlen];simp;omega)] at hu'
  rw [h5.1] at hz
  split at hz
  ·rename_i hcnd
   rw [if_pos hcnd] at hu'
   exact h5.2.2 _ z u hz hu'
  ·rename_i hcnd
   rw [if_neg hcnd] at hu'
   exact g9 i z u hz (by simpa using hu'))
 rw [← ZdF hr] at hset
 refine JA (w':=w.setRow b (arr.toList.take off++us++arr.toList.drop (off+us.length)).toArray) ?_ (hnx undef _ ?_)
 ·simp only [execOp,ho,k2,Sem.run_bind,hst,Result.andThen_ok,Sem.run_pure]
 ·exact Zq hset rfl (k:=0) trivial
def ZdU (rows:List (List AV)) (kj:Option Nat):List (List AV):=match kj with | some j=>rows.set j [] | none=>rows
theorem Zbp (rows:List (List AV)) (kj:Option Nat):(ZdU rows kj).length=rows.length:=by cases kj<;>simp [ZdU]
theorem Sim.stoApp {c:Ctx} {σ:Nat→AV} {tm:Array Value} {w w':World} {lim lim1:Lm} {X:Nat→Nat→Option Nat} (h:Sim c σ tm w lim X) {d nb cap:Nat} {ty:TypeId} {rows:List (List AV)} {row:List AV} {kj:Option Nat} (hd:σ d = .store rows)
  (hw:ZU w lim w' lim1 (fun b=>∃ j,kj=Xa j∧X d (j+1)=Xa b)) (hnb:nb < w'.heap.size∧(c.A nb∨c.w0.heap.size≤nb)∧∀ i k,X i k=Xa nb→i=d∧∃ j,kj=Xa j∧k=j+1)
  (ho:∀ lim2:Lm,lim2.f=lim1.f→Ext w' lim1 w' lim2→Zqu c.P w' lim2 row nb cap ty) :
  ∃ lim2 X2,Sim c (upd σ d (.store (ZdU rows kj++[row]))) tm w' lim2 X2∧lim2.t (rows.length+1)=Xa (nb,cap,ty)∧lim2.f=lim1.f∧Ext w' lim1 w' lim2:=by
 have hs:=h.rel d
 rw [hd] at hs
 obtain ⟨lim2,hl2⟩:∃ lim2:Lm,lim2=⟨lim1.f,fun j=>if j=rows.length+1 then Xa (nb,cap,ty) else lim1.t j⟩:=⟨_,rfl⟩
 have hlt:lim1.t=lim.t:=hw.t
 have ht0:lim.t (rows.length+1)=Xe:=hs.1 _ (by omega)
 have hf:lim2.f=lim1.f:=by rw [hl2]
 have htn:lim2.t (rows.length+1)=Xa (nb,cap,ty):=by rw [hl2];exact if_pos rfl
 have hto:∀ j,j≠rows.length+1→lim2.t j=lim.t j:=fun j hj=>by rw [hl2];dsimp only;rw [if_neg hj,hlt]
 have hext1:Ext w' lim1 w' lim2:=⟨fun b _=>⟨by show lim1.f b≤lim2.f b;rw [hf];exact XD _,fun _ _ _ h=>h⟩,fun j p hp=>by
  by_cases hj:j=rows.length+1
  ·subst hj;rw [hlt,ht0] at hp;cases hp
  ·rw [hto j hj,← hlt];exact hp⟩
 have hext:Ext w lim w' lim2:=hw.ext.trans hext1 hw.size
 have hcs:VY w lim w' lim2 (fun b=>∃ k,X d k=Xa b) Xb:=⟨hw.os,hw.tape,hw.output,hw.size,hw.frz,fun b hb hn=>by
  obtain ⟨k1,k2⟩:=hw.blk b hb fun ⟨j,_,hj⟩=>hn ⟨_,hj⟩
  exact ⟨k1,by show lim2.f b=lim.f b;rw [hf];exact k2⟩,hext,fun h=>by cases h⟩
 have hkd:∀ k:Nat,Decidable (∃ j,kj=Xa j∧k=j+1):=fun k=>Classical.propDecidable _
 obtain ⟨r,hr⟩:∃ r:Nat→Option Nat,r=fun k=>if k=rows.length+1 then Xa nb else @ite _ (∃ j,kj=Xa j∧k=j+1) (hkd k) Xe (X d k):=⟨_,rfl⟩
 have hrn:r (rows.length+1)=Xa nb:=by rw [hr];exact if_pos rfl
 have hrk:∀ k,k≠rows.length+1→(∃ j,kj=Xa j∧k=j+1)→r k=Xe:=fun k h1 h2=>by rw [hr];dsimp only;rw [if_neg h1,if_pos h2]
 have hro:∀ k,k≠rows.length+1→(¬ ∃ j,kj=Xa j∧k=j+1)→r k=X d k:=fun k h1 h2=>by rw [hr];dsimp only;rw [if_neg h1,if_neg h2]
 have hrc:∀ k b,r k=Xa b→(k=rows.length+1∧b=nb)∨(k≠rows.length+1∧(¬ ∃ j,kj=Xa j∧k=j+1)∧X d k=Xa b):=fun k b hb=>by
  by_cases h1:k=rows.length+1
  ·subst h1;rw [hrn] at hb;cases hb;exact .inl ⟨rfl,rfl⟩
  ·by_cases h2:∃ j,kj=Xa j∧k=j+1
   ·rw [hrk k h1 h2] at hb;cases hb
   ·rw [hro k h1 h2] at hb;exact .inr ⟨h1,h2,hb⟩
 have hlen:(ZdU rows kj++[row]).length=rows.length+1:=by rw [XA,Zbp];rfl
 have hstore:YG c.P w' lim2 r (ZdU rows kj++[row]):=by
  refine ⟨fun j hj=>?_,?_,fun i row1 hr1=>?_⟩
  ·rw [hlen] at hj
   rw [hto j (by omega)];exact hs.1 j (by omega)
  ·rw [hro 0 (by omega) fun ⟨j,_,hj⟩=>by omega];exact hs.2.1
  ·rcases Ti i rows.length with hi | hi | hi
   ·rw [Xv (by rw [Zbp];exact hi)] at hr1
    by_cases hk:kj=Xa i
    ·subst hk
     simp only [ZdU,List.getElem?_set_self hi] at hr1
     cases hr1
     exact .inl rfl
    ·have hr2:rows[i]? = Xa row1:=by
      cases kj with
      | none => exact hr1
      | some j => simp only [ZdU] at hr1; rw [List.getElem?_set_ne (fun e => hk (by rw [e]))] at hr1; exact hr1
     rcases hs.2.2 i row1 hr2 with h0 | ⟨b1,cap1,t1,m1,m2,m3⟩
     ·exact .inl h0
     ·have hnk:¬ ∃ j,kj=Xa j∧i+1=j+1:=fun ⟨j,h1,h2⟩=>hk (by rw [h1];congr 1;omega)
      refine .inr ⟨b1,cap1,t1,by rw [hto _ (by omega)];exact m1,by rw [hro _ (by omega) hnk];exact m2,m3.mono hext ?_⟩
      obtain ⟨k1,k2⟩:=hw.blk b1 (h.ours d (i+1) b1 m2).1 fun ⟨j,h1,h2⟩=>hnk ⟨j,h1,(h.dist d (i+1) d (j+1) b1 m2 h2).2⟩
      exact ⟨k1,by show lim2.f b1=lim.f b1;rw [hf];exact k2⟩
   ·subst hi
    rw [Xy (by rw [Zbp];exact XD _),Zbp,Nat.sub_self] at hr1
    simp only [XB,Xf] at hr1
    subst hr1
    exact .inr ⟨nb,cap,ty,htn,hrn,ho lim2 hf hext1⟩
   ·have:=(Xi.1 hr1).1
    rw [hlen] at this;omega
 refine ⟨lim2,_,h.stoStep hd hcs hstore (fun k b hb=>?_) (fun k k' b hk hk'=>?_),htn,hf,hext1⟩
 ·rcases hrc k b hb with ⟨_,rfl⟩ | ⟨_,_,h3⟩
  ·exact ⟨hnb.1,hnb.2.1,fun i j hi hx=>hi (hnb.2.2 i j hx).1⟩
  ·exact ⟨XI (h.ours d k b h3).1 hw.size,(h.ours d k b h3).2,fun i j hi hx=>hi (h.dist i j d k b hx h3).1⟩
 ·rcases hrc k b hk with ⟨h1,h2⟩ | ⟨h1,h2,h3⟩ <;> rcases hrc k' b hk' with ⟨h1',h2'⟩ | ⟨h1',h2',h3'⟩
  ·rw [h1,h1']
  ·subst h2;exact (h2' (hnb.2.2 d k' h3').2).elim
  ·subst h2';exact (h2 (hnb.2.2 d k h3).2).elim
  ·exact (h.dist d k d k' b h3 h3').2
theorem Sim.stoNew {c:Ctx} {σ:Nat→AV} {tm:Array Value} {w:World} {lim:Lm} {X:Nat→Nat→Option Nat} (h:Sim c σ tm w lim X) {d cap:Nat} {ty:TypeId} {rows:List (List AV)} {row:List AV} (ob:Obj) (hd:σ d = .store rows)
  (ho:∀ lim2:Lm,lim2 w.heap.size=0→Ext w lim (w.alloc ob) lim2→Zqu c.P (w.alloc ob) lim2 row w.heap.size cap ty) :
  ∃ lim2 X2,Sim c (upd σ d (.store (rows++[row]))) tm (w.alloc ob) lim2 X2∧lim2.t (rows.length+1)=Xa (w.heap.size,cap,ty):=by
 have hstep:=Zdy (w:=w) (lim:=lim) ob (fun b=>∃ j,(Xe:Option Nat)=Xa j∧X d (j+1)=Xa b)
 obtain ⟨lim2,X2,h1,h2,h3,h4⟩:=h.stoApp (kj:=Xe) (row:=row) (nb:=w.heap.size) (cap:=cap) (ty:=ty) hd hstep ⟨by simp,.inr h.frm.size,fun i k hx=>(Yi h i k hx).elim⟩ (fun lim2 hf he=>ho lim2 (by show lim2.f _=0;rw [hf];exact if_pos rfl) (hstep.ext.trans he (by simp)))
 exact ⟨lim2,X2,h1,h2⟩
theorem Zbu {P:Program} {w w':World} {lim lim2:Lm} {row:List AV} {us:List Value} {b cap:Nat} {ty:TypeId} (hl:lim2 b=0) (hc:cap≤maxLen) (hg:w'.heap[b]? = Xa (.cells us.toArray ty (0,0))) (hs:us.length=cap*P.cellsOf ty) (hr:JJ w lim row us) (he:Ext w lim w' lim2):Zqu P w' lim2 row b cap ty:=
 ⟨hl,.inl ⟨us.toArray,hc,hg,by simpa using hs,by rw [hr.1];simp,hr.2.1,fun i x u hx hu=>(hr.2.2 i x u hx (by simpa using hu)).mono he⟩⟩
theorem Zif {P:Program} {o:Oper} {σ:Nat→AV} {T:TypeId} {x:Operand} {y:AV} {d:Nat} {rows:List (List AV)} {cs cs':List AV} (ho:o.op = .box T x) (hx:Zn P σ x=y) (hcs:y.cells? = Xa cs) (hd:σ d = .store rows)
  (hn:cs.length=P.cellsOf T) (hw':cs'.length=cs.length∧∀ (w:World) (lim:Lm) (us:List Value),JJ w lim cs us→JJ w lim cs' us):Jg P o σ (.oref (rows.length+1) 0) [(d,.store (rows++[cs']))] [d]:=by
 intro c hc σ' tm w lim X hid hag hsim next Q hnx
 have hg:Zn P σ' x=Zn P σ x:=Zw fun t ht=>hid t (by simp [Zo (o:=o) (x:=x) (by rw [ho];simp [Op.operands]) ht])
 have hd':σ' d = .store rows:=by rw [hag d (by simp),hd]
 obtain ⟨us,h1,h2⟩:=KM hcs (JF hc hsim hx hg)
 have h3:=hw'.2 _ _ _ h2
 obtain ⟨lim2,X2,k1,k2⟩:=hsim.stoNew (cap:=1) (ty:=T) (row:=cs') (.cells us.toArray T) hd' (fun lim2 hl he=>Zbu hl (by decide) (J9 w _ T) (by rw [← h2.1,hn,hc,Nat.one_mul]) h3 he)
 refine Zi (v:=.pointer (Xa ⟨w.heap.size,0,Xe⟩)) (w':=w.alloc (.cells us.toArray T)) ?_ (hnx _ _ (Zq k1 rfl (k:=0) (Rep.oref (UD _) k2)))
 simp [execOp,ho,Instr.box,newVar,newRow,h1]
theorem ZeE {P:Program} {o:Oper} {σ:Nat→AV} {T:TypeId} {i:TypeInfo} {z:Value} {d:Nat} {rows:List (List AV)} {cs cs':List AV} (ho:o.op = .alloc T) (hi:P.info? T=Xa i) (hz:i.zero=Xa z) (hcs:Zae z.cells.toList=Xa cs) (hd:σ d = .store rows)
  (hn:cs.length=P.cellsOf T) (hw':cs'.length=cs.length∧∀ (w:World) (lim:Lm) (us:List Value),JJ w lim cs us→JJ w lim cs' us):Jg P o σ (.oref (rows.length+1) 0) [(d,.store (rows++[cs']))] [d]:=by
 intro c hc σ' tm w lim X hid hag hsim next Q hnx
 have hd':σ' d = .store rows:=by rw [hag d (by simp),hd]
 have h2:=J6 (w:=w) (lim:=lim) hcs
 have h3:=hw'.2 _ _ _ h2
 obtain ⟨lim2,X2,k1,k2⟩:=hsim.stoNew (cap:=1) (ty:=T) (row:=cs') (.cells z.cells.toList.toArray T) hd' (fun lim2 hl he=>Zbu hl (by decide) (J9 w _ T) (by rw [← h2.1,hn,hc,Nat.one_mul]) h3 he)
 refine Zi (v:=.pointer (Xa ⟨w.heap.size,0,Xe⟩)) (w':=w.alloc (.cells z.cells.toList.toArray T)) ?_ (hnx _ _ (Zq k1 rfl (k:=0) (Rep.oref (UD _) k2)))
 simp [execOp,ho,Instr.alloc,zeroValue,typeInfo,hi,hz,newVar,newRow]
theorem ZhA {P:Program} {o:Oper} {σ:Nat→AV} {T e:TypeId} {len:Nat} {parts:Array (Nat×Operand)} {i:TypeInfo} {z:Value} {d:Nat} {rows:List (List AV)} {zc cs cs':List AV} (ho:o.op = .buildSlice T len parts)
  (hT:P.underlying T=Xa (.slice e)) (hi:P.info? e=Xa i) (hz:i.zero=Xa z) (hzc:Zae z.cells.toList=Xa zc) (hzs:z.cells.size=i.size) (hs0:0 < i.size) (hl0:0 < len) (hbig:len*i.size≤1048576) (hd:σ d = .store rows)
  (hf:Zam (fun j=>Xa (j*i.size,i.size)) ((Xm len zc).flatten) (parts.toList.map fun p=>(p.1,Zn P σ p.2))=Xa cs)
  (hw:cs'.length=cs.length∧∀ (w:World) (lim:Lm) (us:List Value),JJ w lim cs us→JJ w lim cs' us):Jg P o σ (.osl e (rows.length+1) len) [(d,.store (rows++[cs']))] [d]:=by
 intro c hc σ' tm w lim X hid hag hsim next Q hn
 have hg:∀ p∈parts.toList,Zn P σ' p.2=Zn P σ p.2:=fun p hp=>Zw fun t ht=>hid t (by
  refine Zo (x:=p.2) ?_ ht
  rw [ho]
  simp only [Op.operands,List.mem_toArray]
  exact Xj.2 ⟨p,hp,rfl⟩)
 have hd':σ' d = .store rows:=by rw [hag d (by simp),hd]
 obtain ⟨h1,h2⟩:=ZbT hc hsim parts hg
 have hz0:=J1 (J6 (w:=w) (lim:=lim) hzc) len
 obtain ⟨us',h3,h4⟩:=ZcC (P:=P) (X:=X) (σ:=σ') (k:=0) _ _ _ _ _ hz0 h1 h2 hf
 have hzl:z.cells.toList.length=i.size:=by rw [← hzs];simp
 have hcl:cs.length=len*i.size:=by
  have hinv:∀ (parts:List (Nat×AV)) (cells out:List AV),Zam (fun j=>Xa (j*i.size,i.size)) cells parts=Xa out→out.length=cells.length:=by
   intro parts
   induction parts with
   | nil => intro cells out h; simp only [Zam, Xf] at h; rw [h]
   | cons p parts ih =>
    intro cells out h
    simp only [Zam] at h
    split at h
    ·split at h
     ·rename_i hcond
      rw [ih _ _ h]
      simp
      omega
     ·cases h
    ·cases h
  rw [hinv _ _ _ hf]
  have hzcl:zc.length=i.size:=by rw [(J6 (w:=w) (lim:=lim) hzc).1,hzl]
  simp [hzcl]
 have h5:=hw.2 _ _ _ h4
 have hb:(Instr.buildSlice T len (parts.map fun p=>(p.1,Act.eval ⟨tm,[]⟩ p.2))).run P w = .ok (.slice (Xa ⟨w.heap.size,0,Xe⟩) len len) (w.alloc (.cells us'.toArray e)):=by
  have hnb:¬ (2^24 < len*i.size):=by omega
  have hnz:¬ len*i.size=0:=by
   intro h
   rcases Nat.mul_eq_zero.1 h with h | h<;>omega
  have hrep:=replicate_zero z.cells.toList len
  rw [hzl,Array.toArray_toList] at hrep
  simp only [Instr.buildSlice,Sem.run_bind,run_underlying hT,Result.andThen_ok,sizeOf,typeInfo,run_program,hi,Sem.run_pure,gt_iff_lt,if_neg hnb,if_neg hnz,zeroValue,hz]
  rw [hrep,h3]
  simp [newRow]
 have hsz:P.cellsOf e=i.size:=ZH hi
 have hlm:len≤maxLen:=by
  have:len*1≤len*i.size:=Nat.mul_le_mul_left _ hs0
  have:(1048576:Nat)≤maxLen:=by decide
  omega
 obtain ⟨lim2,X2,k1,k2⟩:=hsim.stoNew (cap:=len) (ty:=e) (row:=cs') (.cells us'.toArray e) hd' (fun lim2 hl he=>Zbu hl hlm (J9 w _ e) (by rw [← h4.1,hcl,hc,hsz]) h5 he)
 refine Zi (v:=.slice (Xa ⟨w.heap.size,0,Xe⟩) len len) (w':=w.alloc (.cells us'.toArray e)) (by simp only [execOp,ho,Sem.run_bind,hb,Result.andThen_ok,Sem.run_pure]) (hn _ _ (Zq k1 rfl (k:=0) (Rep.osl (UD _) k2 (XD _))))
theorem Zl0 {c:Ctx} {σ:Nat→AV} {tm:Array Value} {w:World} {lim:Lm} {X:Nat→Nat→Option Nat} (h:Sim c σ tm w lim X) {d j n:Nat} {e:TypeId} {rows:List (List AV)} {v:Value} (hd:σ d = .store rows) (hv:Rep w lim (.osl e (j+1) n) v)
  (hc:JQ (Z9 rows (j+1))=Xb) (hle:n*c.P.cellsOf e≤(Z9 rows (j+1)).length) :
  ∃ b,X d (j+1)=Xa b∧ZV c.P w lim Xb e (YP (c.P.cellsOf e) (Z9 rows (j+1)) n) v (Xa b):=by
 obtain ⟨b,cap,arr,t,g1,g2,g4,g5,g0,g6,g7,g8,g9⟩:=Vh h hd hc
 obtain ⟨b2,cap2,k1,k2,k3⟩:=Zjb hv
 rw [g2] at k1
 cases k1
 have hel:(YP (c.P.cellsOf e) (Z9 rows (j+1)) n).length=n:=by simp [YP]
 have hfl:(YP (c.P.cellsOf e) (Z9 rows (j+1)) n).flatten=(Z9 rows (j+1)).take (n*c.P.cellsOf e):=by
  have h1:=Vy (c.P.cellsOf e) n ((Z9 rows (j+1)).take (n*c.P.cellsOf e)) (by rw [XQ];omega)
  rw [← h1]
  congr 1
  unfold YP
  refine Wk fun q hq=>?_
  have hq':q < n:=Uv.1 hq
  have hm:q*c.P.cellsOf e+c.P.cellsOf e≤n*c.P.cellsOf e:=by rw [← X9];exact XN _ hq'
  rw [List.drop_take,List.take_take,Nat.min_eq_left (by omega)]
 have hal:(arr.toList.take (n*c.P.cellsOf e)).length=n*c.P.cellsOf e:=by rw [XQ,Uj];omega
 refine ⟨b,g1,.inl ⟨arr.toList.take (n*c.P.cellsOf e),⟨by rw [hel,hal],.inr ⟨b,cap,arr,by rw [hel,k2],Wh _,g4,by rw [hel];exact k3,g0,g6,by rw [hel]⟩⟩,by rw [k2];rfl,fun b' hb'=>?_,fun x hx=>?_,fun x hx y hy=>?_,fun q x u hx hu=>?_⟩⟩
 ·cases hb'
  rw [if_pos rfl];exact g5
 ·obtain ⟨q,hq,rfl⟩:=Xj.1 hx
  have hq':q < n:=Uv.1 hq
  have hm:q*c.P.cellsOf e+c.P.cellsOf e≤n*c.P.cellsOf e:=by rw [← X9];exact XN _ hq'
  rw [XQ,Ue];omega
 ·have:y∈(YP (c.P.cellsOf e) (Z9 rows (j+1)) n).flatten:=Uw.2 ⟨x,hx,hy⟩
  rw [hfl] at this
  exact g8 y (XO this)
 ·rw [hfl,Xw] at hx
  rw [Xw] at hu
  split at hx
  ·rename_i hlt
   rw [if_pos hlt] at hu
   exact g9 q x u hx (by simpa using hu)
  ·cases hx
theorem Zoy {P:Program} {w:World} {lim:Lm} {e:TypeId} {xs:List (List AV)} {v:Value} {ob:Option Nat} (h:ZV P w lim Xb e xs v ob) (hnm:Zj P e=Xc) (hne:xs≠[]) :
  ∃ b cap,ob=Xa b∧v = .slice (Xa ⟨b,0,Xe⟩) xs.length cap∧xs.length≤cap∧b < w.heap.size∧∀ lim2:Lm,lim2.f=lim.f→Ext w lim w lim2→Zqu P w lim2 xs.flatten b cap e:=by
 have hob:∃ b,ob=Xa b:=by
  rcases h.noMap hnm with ⟨us,hr,hb,_⟩ | ⟨h,_⟩
  ·rcases hr.2 with ⟨_,hn⟩ | ⟨g,cap,cur,hv,_⟩
   ·exact (hne (XY hn)).elim
   ·exact ⟨g,by rw [← hb,hv];rfl⟩
  ·exact (hne h).elim
 obtain ⟨b,rfl⟩:=hob
 obtain ⟨arr,cap,hv,hg,hl,hle,hcm,hcs,hxl,hxc,hxr⟩:=Va h (.inl hnm)
 have hxf:=Zg xs _ hxl
 refine ⟨b,cap,rfl,hv,hle,h.lt,fun lim2 hf he=>⟨by show lim2.f b=0;rw [hf];exact hl,.inl ⟨arr,hcm,hg,hcs,?_,fun y hy=>?_,fun q x u hx hu=>?_⟩⟩⟩
 ·rw [hxf,hcs];exact XN _ hle
 ·obtain ⟨x,hx,hy⟩:=Uw.1 hy
  exact hxc x hx y hy
 ·exact (hxr q x u hx hu).mono he
theorem ZdP {P:Program} {o:Oper} {σ:Nat→AV} {cl:Call} {T e e':TypeId} {i:TypeInfo} {z:Value} {x y:Operand} {ys:List (List AV)} {f:Bool} {d j n:Nat} {rows:List (List AV)} (ho:o.op = .call cl) (hcl:cl.callee = .builtin .append)
  (hargs:cl.args.toList = [x,y]) (hts:cl.argTypes.toList = [T,T]) (hT:P.underlying T=Xa (.slice e)) (hi:P.info? e=Xa i) (hz:i.zero=Xa z) (hzs:z.cells.size=i.size) (hnm:Zj P e=Xc)
  (hx:Zn P σ x = .osl e' j n) (hy:Zn P σ y = .slice f i.size ys) (hne:ys≠[]) (hd:σ d = .store rows) (hok:ZgG e i.size rows (.osl e' j n)=Xb) (hroom:(n+ys.length)*(i.bytes+1)≤ZZ) :
  Jg P o σ (.osl e (rows.length+1) (n+ys.length)) [(d,.store (Zoc i.size rows (.osl e' j n) ys))] [d]:=by
 have hargs':cl.args = #[x,y]:=by apply XG.1;rw [hargs]
 have hts':cl.argTypes = #[T,T]:=by apply XG.1;rw [hts]
 intro c hc σ' tm w lim X hid hag hsim next Q hnx
 subst hc
 have hgx:Zn c.P σ' x=Zn c.P σ x:=Zw fun t ht=>hid t (by simp [Zo (o:=o) (x:=x) (by rw [ho];simp [Op.operands,Call.operands,hargs',hcl]) ht])
 have hgy:Zn c.P σ' y=Zn c.P σ y:=Zw fun t ht=>hid t (by simp [Zo (o:=o) (x:=y) (by rw [ho];simp [Op.operands,Call.operands,hargs',hcl]) ht])
 have hd':σ' d = .store rows:=by rw [hag d (by simp),hd]
 have hk:c.P.cellsOf e=i.size:=ZH hi
 have hvx:Rep w lim (.osl e' j n) (Act.eval ⟨tm,[]⟩ x):=JF rfl hsim hx hgx
 have hvy:Rep w lim (.slice f i.size ys) (Act.eval ⟨tm,[]⟩ y):=JF rfl hsim hy hgy
 -- the old slice, as one of one's own
 obtain ⟨xs,kj,ob,hown,hxl,hflat,hobk,hnone,hkill⟩:∃ (xs:List (List AV)) (kj ob:Option Nat),ZV c.P w lim Xb e xs (Act.eval ⟨tm,[]⟩ x) ob∧xs.length=n∧Zoc i.size rows (.osl e' j n) ys=ZdU rows kj++[xs.flatten++ys.flatten]∧
   (∀ b,ob=Xa b→∃ q,kj=Xa q∧X d (q+1)=Xa b)∧(ob=Xe→kj=Xe)∧True:=by
  cases j with
  | zero =>
   have hn0:n=0:=by
    cases n with
    | zero => rfl
    | succ n => simp [ZgG] at hok
   subst hn0
   generalize Act.eval ⟨tm,[]⟩ x=v at hvx
   cases hvx with
   | @osl0 _ a =>
    refine ⟨[],Xe,Xe,?_,rfl,by simp [Zoc,ZdU],fun b hb=>(by cases hb),fun _=>rfl,trivial⟩
    cases a with
    | none => exact .inl ⟨[], World.ownsRow_nil _ 0 _ _, rfl, by simp, by simp, by simp, by simp⟩
    | some a => exact .inr (.inl ⟨rfl, rfl, a, rfl⟩)
   | osl h _ _ => omega
  | succ j =>
   simp only [ZgG,Xs,decide_eq_true_eq] at hok
   obtain ⟨⟨rfl,h1⟩,h2⟩:=hok
   obtain ⟨b,k1,k2⟩:=Zl0 hsim hd' hvx h1 (by rw [hk];exact h2)
   refine ⟨_,Xa j,Xa b,k2,by simp [YP],?_,fun b' hb'=>⟨j,rfl,(by cases hb';exact k1)⟩,fun h=>(by cases h),trivial⟩
   have hfl:(YP (c.P.cellsOf e') (Z9 rows (j+1)) n).flatten=(Z9 rows (j+1)).take (n*c.P.cellsOf e'):=by
    have h3:=Vy (c.P.cellsOf e') n ((Z9 rows (j+1)).take (n*c.P.cellsOf e')) (by rw [XQ,hk];omega)
    rw [← h3]
    congr 1
    unfold YP
    refine Wk fun q hq=>?_
    have hq':q < n:=Uv.1 hq
    have hm:q*c.P.cellsOf e'+c.P.cellsOf e'≤n*c.P.cellsOf e':=by rw [← X9];exact XN _ hq'
    rw [List.drop_take,List.take_take,Nat.min_eq_left (by omega)]
   rw [hfl,hk]
   rfl
 obtain ⟨v',w',lim',ob',r1,r2,r3,r4⟩:=Y9 (ty:=o.type) hT hi hz hzs hown (RdS.of (by rw [hk];exact hvy)) (by rw [hxl];exact hroom) hnm
 obtain ⟨b',cap',hob',hv',hle',hlt',hobj⟩:=Zoy r2 hnm (by
  intro h
  have:=congrArg List.length h
  simp only [XA,List.length_nil] at this
  exact hne (XY (by omega)))
 have hw2:ZU w lim w' lim' (fun b=>∃ q,kj=Xa q∧X d (q+1)=Xa b):=⟨r3.os,r3.tape,r3.output,r3.size,r3.frz,fun b hb hn=>r3.blk b hb fun h=>hn (hobk b h),r3.ext,r3.t⟩
 obtain ⟨lim2,X2,k1,k2,k3,k4⟩:=hsim.stoApp (kj:=kj) (row:=xs.flatten++ys.flatten) (nb:=b') (cap:=cap') (ty:=e) hd' hw2 (by
  rcases r4 with h | h
  ·rw [hob'] at h
   obtain ⟨q,hq1,hq2⟩:=hobk b' h.symm
   exact ⟨hlt',(hsim.ours d (q+1) b' hq2).2,fun i k hx=>⟨(hsim.dist i k d (q+1) b' hx hq2).1,q,hq1,(hsim.dist i k d (q+1) b' hx hq2).2⟩⟩
  ·rw [hob'] at h
   cases h
   exact ⟨hlt',.inr hsim.frm.size,fun i k hx=>(Yi hsim i k hx).elim⟩) (fun lim2 hf he=>by
  have:=hobj lim2 hf he
  rwa [List.flatten_append] at this)
 rw [← hflat] at k1
 refine Zi (v:=v') (w':=w') ?_ (hnx _ w' (Zq k1 rfl (k:=0) ?_))
 ·simp only [execOp,ho,resolve,hcl,hargs',hts',Wn,Xg,Xz,Sem.run_bind,Sem.run_pure,Result.andThen_ok,invoke,builtin,r1]
 ·rw [hv',XA,hxl]
  exact Rep.osl (UD _) k2 (by rw [XA,hxl] at hle';exact hle')
theorem Zqe {c:Ctx} {σ:Nat→AV} {tm:Array Value} {w:World} {lim:Lm} {X:Nat→Nat→Option Nat} (h:Sim c σ tm w lim X) {d j n:Nat} {e e':TypeId} {rows:List (List AV)} {v:Value} (hd:σ d = .store rows) (hv:Rep w lim (.osl e' j n) v) (hok:ZgG e (c.P.cellsOf e) rows (.osl e' j n)=Xb) (hnm:Zj c.P e=Xc) :
  RdS w lim (c.P.cellsOf e) (Zcd (c.P.cellsOf e) rows (.osl e' j n)) v:=by
 cases j with
 | zero =>
  have hn0:n=0:=by
   cases n with
   | zero => rfl
   | succ n => simp [ZgG] at hok
  subst hn0
  cases hv with
  | osl0 => exact .inl ⟨rfl, _, _, rfl⟩
  | osl h _ _ => omega
 | succ j =>
  simp only [ZgG,Xs,decide_eq_true_eq] at hok
  obtain ⟨⟨rfl,h1⟩,h2⟩:=hok
  obtain ⟨b,k1,k2⟩:=Zl0 h hd hv h1 h2
  show RdS w lim (c.P.cellsOf e') (YP (c.P.cellsOf e') (Z9 rows (j+1)) n) v
  obtain ⟨arr,cap,hv',hg,hl,hle,hcm,hcs,hxl,hxc,hxr⟩:=Va k2 (.inl hnm)
  have hxf:=Zg _ _ hxl
  have hln:(YP (c.P.cellsOf e') (Z9 rows (j+1)) n).length=n:=by simp [YP]
  have hm:n*c.P.cellsOf e'≤cap*c.P.cellsOf e':=XN _ (by rw [← hln];exact hle)
  refine .inr ⟨b,0,cap,arr.toList.take (n*c.P.cellsOf e'),hv',hxl,hxc,by rw [hln,XQ,Uj];omega,fun q u hu=>?_,fun q x u hx hu=>?_⟩
  ·rw [Xw] at hu
   split at hu
   ·rw [XF,Zh hg];simpa using hu
   ·cases hu
  ·rw [Xw] at hu
   split at hu
   ·exact hxr q x u hx (by simpa using hu)
   ·cases hu
theorem W5 {P:Program} {o:Oper} {σ:Nat→AV} (ex:Bool) {cl:Call} {T e e':TypeId} {i:TypeInfo} {z:Value} {x y:Operand} {d j n:Nat} {rows:List (List AV)} {s:Nat} (ho:o.op = .call cl) (hcl:cl.callee = .builtin .append)
  (hargs:cl.args.toList = [x,y]) (hts:cl.argTypes.toList = [T,T]) (hT:P.underlying T=Xa (.slice e)) (hi:P.info? e=Xa i) (hz:i.zero=Xa z) (hzs:z.cells.size=i.size)
  (hx:Zn P σ x = .slice Xb s []) (hy:Zn P σ y = .osl e' j n) (hd:σ d = .store rows) (hok:ZgG e i.size rows (.osl e' j n)=Xb) (hroom:(([] : List (List AV)).length+(Zcd i.size rows (.osl e' j n)).length)*(i.bytes+1)≤ZZ) (hnm:Zj P e=Xc) :
  Jg P o σ (.own ex e (Zcd i.size rows (.osl e' j n))) [] [d]:=by
 have hargs':cl.args = #[x,y]:=by apply XG.1;rw [hargs]
 have hts':cl.argTypes = #[T,T]:=by apply XG.1;rw [hts]
 intro c hc σ' tm w lim X hid hag hsim next Q hn
 have hgx:Zn P σ' x=Zn P σ x:=Zw fun t ht=>hid t (by simp [Zo (o:=o) (x:=x) (by rw [ho];simp [Op.operands,Call.operands,hargs',hcl]) ht])
 have hgy:Zn P σ' y=Zn P σ y:=Zw fun t ht=>hid t (by simp [Zo (o:=o) (x:=y) (by rw [ho];simp [Op.operands,Call.operands,hargs',hcl]) ht])
 have hxv:ZV P w lim ex e [] (Act.eval ⟨tm,[]⟩ x) Xe:=WJ (s:=s) (JF hc hsim hx hgx)
 have hd':σ' d = .store rows:=by rw [hag d (by simp),hd]
 have hk:P.cellsOf e=i.size:=ZH hi
 have hyv:RdS w lim (P.cellsOf e) (Zcd i.size rows (.osl e' j n)) (Act.eval ⟨tm,[]⟩ y):=by
  have hv:=JF hc hsim hy hgy
  have:=Zqe (e:=e) hsim hd' hv (by rw [hc,hk];exact hok) (by rw [hc];exact hnm)
  rw [hc,hk] at this
  rw [hk];exact this
 obtain ⟨v',w',lim',ob',r1,r2,r3,r4⟩:=Y9 (ty:=o.type) hT hi hz hzs hxv hyv hroom hnm
 have hw:=hsim.world r3 fun b hb=>by cases hb
 refine Zi (v:=v') (w':=w') ?_ (hn _ w' ?_)
 ·simp only [execOp,ho,resolve,hcl,hargs',hts',Wn,Xg,Xz,Sem.run_bind,Sem.run_pure,Result.andThen_ok,invoke,builtin,r1]
 ·rw [← hc,XX] at r2
  refine ZT hw r2 (fun b hb=>?_) (fun _=>.noMap (by rw [hc];exact hnm)) fun _ hd=>by rw [hc,ZL hnm] at hd;cases hd
  rcases r4 with r4 | r4
  ·rw [r4] at hb;cases hb
  ·rw [r4] at hb
   simp only [Xf] at hb
   subst hb
   exact ⟨.inr hsim.frm.size,fun i j=>Yi hsim i j⟩
theorem Zab {T':Odr} {P:Program} {o:Oper} {σ:Nat→AV} {cl:Call} {T e e':TypeId} {i:TypeInfo} {z:Value} {t:Nat} {y:Operand} {x:Bool} {xs:List (List AV)} {us:List (Nat×AV)} {d j n:Nat} {rows:List (List AV)} (ho:o.op = .call cl) (hcl:cl.callee = .builtin .append)
  (hargs:cl.args.toList = [.tmp t,y]) (hts:cl.argTypes.toList = [T,T]) (hT:P.underlying T=Xa (.slice e)) (hi:P.info? e=Xa i) (hz:i.zero=Xa z) (hzs:z.cells.size=i.size)
  (ht:σ t = .own x e xs) (hy:Zn P σ y = .osl e' j n) (hd:σ d = .store rows) (hok:ZgG e i.size rows (.osl e' j n)=Xb) (hroom:(xs.length+(Zcd i.size rows (.osl e' j n)).length)*(i.bytes+1)≤ZZ) (hus:(x=Xc∧us = [])∨Yc T' σ t us) (hnm:Zj P e=Xc) :
  Yz T' P o σ (.own x e (xs++Zcd i.size rows (.osl e' j n))) ((t,KX P x e xs)::us) [d]:=by
 have hargs':cl.args = #[.tmp t,y]:=by apply XG.1;rw [hargs]
 have hts':cl.argTypes = #[T,T]:=by apply XG.1;rw [hts]
 intro c hc σ' tm w lim X hid hag hTx hsim next Q hn
 have hgy:Zn P σ' y=Zn P σ y:=Zw fun t ht=>hid t (by simp [Zo (o:=o) (x:=y) (by rw [ho];simp [Op.operands,Call.operands,hargs',hcl]) ht])
 have ht':σ' t = .own x e xs:=by rw [hag t (by simp),ht]
 obtain ⟨X1,h1,h2,h3,_⟩:=hsim.freeAll (us:=us) ht' (hus.imp id fun h=>h.all hTx)
 have hd':σ' d = .store rows:=by rw [hag d (by simp),hd]
 have hk:P.cellsOf e=i.size:=ZH hi
 have hyv:RdS w lim (P.cellsOf e) (Zcd i.size rows (.osl e' j n)) (Act.eval ⟨tm,[]⟩ y):=by
  have hv:=JF hc hsim hy hgy
  have:=Zqe (e:=e) hsim hd' hv (by rw [hc,hk];exact hok) (by rw [hc];exact hnm)
  rw [hc,hk] at this
  rw [hk];exact this
 rw [hc] at h2
 obtain ⟨v',w',lim',ob',r1,r2,r3,r4⟩:=Y9 (ty:=o.type) hT hi hz hzs h2 hyv hroom hnm
 have hw:=h1.world r3 h3
 refine Zi (v:=v') (w':=w') ?_ (hn _ w' ?_)
 ·have hev:Act.eval ⟨tm,[]⟩ (.tmp t)=tm.getD t undef:=rfl
  simp only [execOp,ho,resolve,hcl,hargs',hts',Wn,Xg,Xz,Sem.run_bind,Sem.run_pure,Result.andThen_ok,invoke,builtin,hev,r1]
 ·rw [hc] at hw
  rw [← hc] at r2
  refine ZT hw r2 (fun b hb=>?_) (fun _=>.noMap (by rw [hc];exact hnm)) fun _ hd=>by rw [hc,ZL hnm] at hd;cases hd
  rcases r4 with r4 | r4
  ·rw [r4] at hb;exact h3 b hb
  ·rw [r4] at hb
   simp only [Xf] at hb
   subst hb
   exact ⟨.inr hsim.frm.size,fun i j=>Yi h1 i j⟩
theorem Zdw {T':Odr} {P:Program} {o:Oper} {σ:Nat→AV} {T e:TypeId} {a:Operand} {t d j off:Nat} {xs rows:List (List AV)} {us:List (Nat×AV)} (ho:o.op = .store T a (.tmp t)) (ha:Zn P σ a = .oref (j+1) off) (hd:σ d = .store rows) (hr:JQ (Z9 rows (j+1))=Xb)
  (ht:σ t = .own Xb e xs) (hus:Yc T' σ t us) (hdt:d≠t) (hnm:Zj P e=Xc) (hne:xs≠[]) (h1:P.cellsOf T=1) (hfit:off+1≤(Z9 rows (j+1)).length) :
  Yz T' P o σ .dead (((t,.dead)::us)++[(d,.store (ZC (rows++[xs.flatten]) j off [.osl e (rows.length+1) xs.length]))]) [d]:=by
 intro c hc σ' tm w lim X hid hag hTx hsim next Q hnx
 have hga:Zn P σ' a=Zn P σ a:=Zw fun t ht=>hid t (by simp [Zo (o:=o) (x:=a) (by rw [ho];simp [Op.operands]) ht])
 have ht':σ' t = .own Xb e xs:=by rw [hag t (by simp),ht]
 have hd':σ' d = .store rows:=by rw [hag d (by simp),hd]
 have hva:=JF hc hsim ha hga
 obtain ⟨b2,cap2,ty2,k1,k2⟩:=K4 hva
 obtain ⟨X1,m1,m2,m3,m4⟩:=hsim.freeAll (us:=us) ht' (.inr (hus.all hTx))
 have hleft:KX c.P Xb e xs = .dead:=rfl
 rw [hleft] at m1
 have hd1:Jm σ' ((t,.dead)::us) d = .store rows:=by
  obtain ⟨q1,_⟩:=hus.all hTx
  rw [Kr _ _ _ (fun u hu=>by
   rcases Xl.1 hu with rfl | hu
   ·rfl
   ·exact (q1 u hu).2.1)]
  rw [if_neg ?_,hd']
  intro hm
  obtain ⟨u,hu,hud⟩:=Xj.1 hm
  rcases Xl.1 hu with rfl | hu
  ·exact hdt hud.symm
  ·obtain ⟨_,_,q,hq⟩:=q1 u hu
   rw [hud,hd'] at hq
   rcases hq with hq | ⟨_,hq⟩ <;> cases hq
 obtain ⟨b',cap',hob',hv',hle',hlt',hobj⟩:=Zoy m2 (by rw [hc];exact hnm) hne
 obtain ⟨lim2,X2,p1,p2,p3,p4⟩:=m1.stoApp (kj:=Xe) (row:=xs.flatten) (nb:=b') (cap:=cap') (ty:=e) hd1 (ZU.refl w lim _) ⟨hlt',(m3 b' hob').1,fun i k hx=>((m3 b' hob').2 i k hx).elim⟩ (fun lim2 hf he=>hobj lim2 hf he)
 have hσ1:upd (Jm σ' ((t,.dead)::us)) d (.store (ZdU rows Xe++[xs.flatten])) d = .store (rows++[xs.flatten]):=by rw [Zs];rfl
 have hsr:Z9 (rows++[xs.flatten]) (j+1)=Z9 rows (j+1):=by
  have hlt:=(Xi.1 (Zby hr)).1
  simp only [Z9]
  rw [Xv hlt]
 obtain ⟨b,cap,arr,ty,g1,g2,g4,g5,g0,g6,g7,g8,g9⟩:=Vh p1 hσ1 (by rw [hsr];exact hr)
 rw [hsr] at g7 g8 g9
 have k1':=p4.t _ _ k1
 rw [g2] at k1'
 cases k1'
 obtain ⟨inf,hinf⟩:=Zr (P:=P) (T:=T) (by omega)
 have hrep:Rep w lim2 (.osl e (rows.length+1) xs.length) (tm.getD t undef):=by
  rw [hv'];exact Rep.osl (UD _) p2 hle'
 have h5:JJ w lim2 [.osl e (rows.length+1) xs.length] [tm.getD t undef]:=JJ.one rfl hrep
 have hcv:(tm.getD t undef).cells = [tm.getD t undef].toArray:=by rw [hv'];rfl
 have hst:=JY (P:=P) (T:=T) (w:=w) (b:=b2) (off:=off) (v:=tm.getD t undef) hinf hcv (by rw [h1];rfl) g4 (by simp;omega) (fun u hu=>by
  rw [XC] at hu
  subst hu
  rw [hv'];rfl)
 have hset:=p1.stoSet (row':=setCells (Z9 rows (j+1)) off [.osl e (rows.length+1) xs.length]) (arr':=(arr.toList.take off++[tm.getD t undef]++arr.toList.drop (off+1)).toArray) hσ1 (by rw [hsr];exact hr) g1 g2 g4 g5 g0 (by rw [← g6];simp;omega) (by unfold setCells;simp;omega) (fun z hz=>by
  unfold setCells at hz
  rcases Xt.1 hz with hz | hz
  ·rcases Xt.1 hz with hz | hz
   ·exact g8 z (XO hz)
   ·rw [XC] at hz;subst hz;rfl
  ·exact g8 z (XW hz)) (fun i z u hz hu=>by
  unfold setCells at hz
  rw [JS _ _ off (by simp;omega)] at hz
  have hu':(arr.toList.take off++[tm.getD t undef]++arr.toList.drop (off + [tm.getD t undef].length))[i]? = Xa u:=by simpa using hu
  rw [JS arr.toList _ off (by simp;omega)] at hu'
  rw [UQ] at hz hu'
  split at hz
  ·rename_i hcnd
   rw [if_pos hcnd] at hu'
   exact h5.2.2 _ z u hz hu'
  ·rename_i hcnd
   rw [if_neg hcnd] at hu'
   exact g9 i z u hz (by simpa using hu'))
 have hse:ZC (rows++[xs.flatten]) j off [.osl e (rows.length+1) xs.length]=(rows++[xs.flatten]).set j (setCells (Z9 rows (j+1)) off [.osl e (rows.length+1) xs.length]):=by
  rw [ZdF (by rw [hsr];exact hr),hsr]
 rw [← hse] at hset
 have hev:Act.eval ⟨tm,[]⟩ (.tmp t)=tm.getD t undef:=rfl
 refine JA (w':=w.setRow b2 (arr.toList.take off++[tm.getD t undef]++arr.toList.drop (off+1)).toArray) ?_ (hnx undef _ ?_)
 ·simp only [execOp,ho,k2,hev,Sem.run_bind,hst,UQ,Result.andThen_ok,Sem.run_pure]
 ·rw [Kk]
  have hup:upd (upd (Jm σ' ((t,.dead)::us)) d (.store (ZdU rows Xe++[xs.flatten]))) d (.store (ZC (rows++[xs.flatten]) j off [.osl e (rows.length+1) xs.length]))=upd (Jm σ' ((t,.dead)::us)) d (.store (ZC (rows++[xs.flatten]) j off [.osl e (rows.length+1) xs.length])):=by
   funext q
   by_cases hq:q=d
   ·subst hq;rw [Zs,Zs]
   ·rw [Zb _ _ hq,Zb _ _ hq,Zb _ _ hq]
  rw [hup] at hset
  exact Zq hset rfl (k:=0) trivial
theorem Zb5 {P:Program} {o:Oper} {σ:Nat→AV} {op:BinOp} {T T' e:TypeId} {x:Operand} {j off:Nat} (ho:o.op = .binOp op T x (.const (.pointer Xe)) T') (hop:op = .eql∨op = .neq) (hT:P.underlying T=Xa (.pointer e)) (hj:j=0→off=0)
  (hx:Zn P σ x = .oref j off):Jg P o σ (.val (.bool (match op with | .eql=>decide (j=0) | _=>decide (j≠0)))) [] []:=by
 refine Zt [] rfl fun c hc σ' tm w lim X hg hfp hsim=>?_
 rw [ho] at hg
 have hv:Rep w lim (.oref j off) (Act.eval ⟨tm,[]⟩ x):=JF hc hsim hx (hg x (by simp [Op.operands]))
 have hec:Act.eval ⟨tm,[]⟩ (.const (.pointer Xe)) = .pointer Xe:=rfl
 refine ⟨_,?_,.val rfl⟩
 generalize hev:Act.eval ⟨tm,[]⟩ x=v at hv
 cases hv with
 | oref0 =>
  have he:(Op.equal T (.pointer Xe) (.pointer Xe)).run P w = .ok Xb w:=run_eqNil0 w 9999 hT
  rcases hop with rfl | rfl<;>simp [execOp,ho,hev,hec,eqGuard,binOp,he]
 | @oref _ _ b cap ty h _ =>
  have he:(Op.equal T (.pointer (Xa ⟨b,off,Xe⟩)) (.pointer Xe)).run P w = .ok Xc w:=run_eqNilS w 9999 _ hT
  have hj0:j≠0:=by omega
  rcases hop with rfl | rfl<;>simp [execOp,ho,hev,hec,eqGuard,binOp,he,hj0]
where
 run_eqNil0 {P:Program} (w:World) (d:Nat) {t e:TypeId} (h:P.underlying t=Xa (.pointer e)):(Op.equalIn (d+1) t (.pointer Xe) (.pointer Xe)).run P w = .ok Xb w:=by
  simp [Op.equalIn,run_underlying h]
 run_eqNilS {P:Program} (w:World) (d:Nat) {t e:TypeId} (a:Addr) (h:P.underlying t=Xa (.pointer e)):(Op.equalIn (d+1) t (.pointer (Xa a)) (.pointer Xe)).run P w = .ok Xc w:=by
  simp [Op.equalIn,run_underlying h]
theorem ZgP {P:Program} {o:Oper} {σ:Nat→AV} {f:FuncId} {first captured:Array Operand} {js:List Nat} (ho:o.op = .makeFunc (.func f) first captured) (hf:first.toList = []) (hl:captured.toList.length=js.length)
  (hc:∀ (i:Nat) (x:Operand) (j:Nat),captured.toList[i]? = Xa x→js[i]? = Xa j→0 < j∧Zn P σ x = .oref j 0):Jg P o σ (.fnc f js) [] []:=by
 refine Zt [] rfl fun c hcP σ' tm w lim X hg hfp hsim=>?_
 rw [ho] at hg
 have key:∀ (xs:List Operand) (qs:List Nat),xs.length=qs.length→(∀ (i:Nat) (x:Operand) (j:Nat),xs[i]? = Xa x→qs[i]? = Xa j→∃ b,(∃ cap ty,lim.t j=Xa (b,cap,ty))∧Act.eval ⟨tm,[]⟩ x = .pointer (Xa ⟨b,0,Xe⟩))→
   ∃ bs:List Nat,bs.length=qs.length∧xs.map (Act.eval ⟨tm,[]⟩)=bs.map (fun b=>Value.pointer (Xa ⟨b,0,Xe⟩))∧∀ (i j b:Nat),qs[i]? = Xa j→bs[i]? = Xa b→∃ cap ty,lim.t j=Xa (b,cap,ty):=by
  intro xs
  induction xs with
  | nil =>
   intro qs h _
   have:qs = []:=XY h.symm
   subst this
   exact ⟨[],rfl,rfl,by simp⟩
  | cons x xs ih =>
   intro qs h hq
   cases qs with
   | nil => cases h
   | cons q qs =>
    obtain ⟨b,h1,h2⟩:=hq 0 x q rfl rfl
    obtain ⟨bs,g1,g2,g3⟩:=ih qs (by simpa using h) fun i x j hx hj=>hq (i+1) x j (by simpa using hx) (by simpa using hj)
    refine ⟨b::bs,by simp [g1],by simp [h2,g2],fun i j b' hj hb=>?_⟩
    cases i with
    | zero => simp at hj hb; subst hj; subst hb; exact h1
    | succ i => exact g3 i j b' (by simpa using hj) (by simpa using hb)
 obtain ⟨bs,h1,h2,h3⟩:=key captured.toList js hl fun i x j hx hj=>by
  obtain ⟨g1,g2⟩:=hc i x j hx hj
  obtain ⟨q,rfl⟩:∃ q,j=q+1:=⟨j-1,by omega⟩
  obtain ⟨b,cap,ty,k1,k2⟩:=K4 (JF hcP hsim g2 (hg x (by
   have:=Xh hx
   simp [Op.operands,Array.mem_toList_iff.1 this])))
  exact ⟨b,⟨cap,ty,k1⟩,k2⟩
 have hfa:first = #[]:=by apply XG.1;rw [hf]
 refine ⟨.func (.func f) #[] (bs.map fun b=>Value.pointer (Xa ⟨b,0,Xe⟩)).toArray,?_,.fnc h1 fun i j b hj hb=>⟨?_,h3 i j b hj hb⟩⟩
 ·have hmap:captured.map (Act.eval ⟨tm,[]⟩)=(bs.map fun b=>Value.pointer (Xa ⟨b,0,Xe⟩)).toArray:=by
   apply XG.1
   rw [Array.toList_map,h2]
  simp [execOp,ho,hfa,hmap,Instr.makeFunc]
 ·obtain ⟨x,hx⟩:∃ x,captured.toList[i]? = Xa x:=⟨_,Xp (by rw [hl];exact (Xi.1 hj).1)⟩
  exact (hc i x j hx hj).1
open Go.MapKept in
theorem ZfR {c:Ctx} {σ:Nat→AV} {tm:Array Value} {w:World} {lim:Lm} {X:Nat→Nat→Option Nat} (h:Sim c σ tm w lim X) {d j:Nat} {rows:List (List AV)} (hd:σ d = .store rows) (hc:Yu (Z9 rows (j+1))=Xb) :
  ∃ (b cap:Nat) (ty:TypeId) (es:Array MapEntry) (clock:Nat),X d (j+1)=Xa b∧lim.t (j+1)=Xa (b,cap,ty)∧w.heap[b]? = Xa (.map es clock)∧lim b=0∧es.size=(Kv (Z9 rows (j+1))).length∧Stamped es clock∧rows[j]? = Xa (ZX (Kv (Z9 rows (j+1))))∧
   ∀ (i:Nat) (en:MapEntry) (kv:List AV),es[i]? = Xa en→(Kv (Z9 rows (j+1)))[i]? = Xa kv→∃ (k:Int) (q:Nat),kv = [.val (.int .i64 k),.oref q 0]∧en.key = .int .i64 k∧Rep w lim (.oref q 0) en.val:=by
 have hs:=h.rel d
 rw [hd] at hs
 have hrow:∃ kvs,Z9 rows (j+1)=ZX kvs:=by
  unfold Yu at hc
  split at hc
  ·rename_i kvs h1;exact ⟨kvs,h1⟩
  ·cases hc
 obtain ⟨kvs,hk⟩:=hrow
 have hr:rows[j]? = Xa (ZX kvs):=by
  simp only [Z9] at hk
  cases hr:rows[j]? with
  | none => rw [hr] at hk; cases hk
  | some row => rw [hr] at hk; exact congrArg Xa hk
 have hkv:Kv (Z9 rows (j+1))=kvs:=by rw [hk];rfl
 rw [hkv]
 rcases hs.2.2 j _ hr with h0 | ⟨b,cap,ty,h1,h2,h3,h4⟩
 ·cases h0
 ·rcases h4 with ⟨arr,g0,g1,g2,g3,g4,g5⟩ | ⟨es,clock,kvs',g1,g2,g3,g4,g5⟩
  ·have:=g4 .dead (by simp [ZX])
   cases this
  ·have:kvs'=kvs:=by
    simp only [ZX,List.cons.injEq,AV.slice.injEq,and_true,true_and] at g2
    exact g2.symm
   subst this
   exact ⟨b,cap,ty,es,clock,h2,h1,g1,h3,g3,g4,hr,g5⟩
open Go.MapKept in
theorem Sim.stoMap {c:Ctx} {σ:Nat→AV} {tm:Array Value} {w:World} {lim:Lm} {X:Nat→Nat→Option Nat} (h:Sim c σ tm w lim X) {d j b cap:Nat} {ty:TypeId} {es es':Array MapEntry} {clock clock':Nat} {rows kvs':List (List AV)} (hd:σ d = .store rows) (hlt:j < rows.length)
  (g1:X d (j+1)=Xa b) (g2:lim.t (j+1)=Xa (b,cap,ty)) (g4:w.heap[b]? = Xa (.map es clock)) (g5:lim b=0) (hl:es'.size=kvs'.length) (hs:Stamped es' clock')
  (hrel:∀ (i:Nat) (en:MapEntry) (kv:List AV),es'[i]? = Xa en→kvs'[i]? = Xa kv→∃ (k:Int) (q:Nat),kv = [.val (.int .i64 k),.oref q 0]∧en.key = .int .i64 k∧Rep w lim (.oref q 0) en.val) :
  Sim c (upd σ d (.store (rows.set j (ZX kvs')))) tm (JN w b (.map es' clock')) lim (Ke X d (X d)):=by
 have hw:=WC (es':=es') (clock':=clock') g4 g5
 have hcs:VY w lim (JN w b (.map es' clock')) lim (fun b'=>∃ k,X d k=Xa b') Xb:=⟨hw.os,hw.tape,hw.output,hw.size,hw.frz,fun b' hb' hnn=>hw.blk b' hb' fun e=>hnn ⟨j+1,by rw [e];exact g1⟩,hw.ext,fun _=>rfl⟩
 have hsr:=h.rel d
 rw [hd] at hsr
 have hstore:YG c.P (JN w b (.map es' clock')) lim (X d) (rows.set j (ZX kvs')):=by
  refine ⟨fun i hi=>hsr.1 i (by simpa using hi),hsr.2.1,fun i row1 hr1=>?_⟩
  rw [Ug] at hr1
  split at hr1
  ·rename_i hij
   subst hij
   cases hr1
   exact .inr ⟨b,cap,ty,g2,g1,g5,.inr ⟨es',clock',kvs',YB g4,rfl,hl,hs,fun i en kv m1 m2=>by
    obtain ⟨k,q,n1,n2,n3⟩:=hrel i en kv m1 m2
    exact ⟨k,q,n1,n2,n3.mono hw.ext⟩⟩⟩
  ·rename_i hij
   rcases hsr.2.2 i row1 hr1 with h0 | ⟨b1,cap1,t1,m1,m2,m3⟩
   ·exact .inl h0
   ·have hbb:b1≠b:=fun e=>by
     subst e
     have:=(h.dist d (i+1) d (j+1) b1 m2 g1).2
     omega
    exact .inr ⟨b1,cap1,t1,m1,m2,m3.mono hw.ext (hw.blk b1 (h.ours d (i+1) b1 m2).1 hbb)⟩
 exact h.stoStep hd hcs hstore (fun k b' hb'=>⟨XI (h.ours d k b' hb').1 hw.size,(h.ours d k b' hb').2,fun i k' hi hx'=>hi (h.dist i k' d k b' hx' hb').1⟩) (fun k k' b' hk hk'=>(h.dist d k d k' b' hk hk').2)
theorem ZbE {P:Program} {T:TypeId} (h:ZdJ P T=Xb):∃ kt vt e i,P.underlying T=Xa (.map kt vt)∧P.underlying kt=Xa (.int .i64)∧P.underlying vt=Xa (.pointer e)∧P.info? vt=Xa i∧i.zero=Xa (.pointer Xe):=by
 unfold ZdJ at h
 split at h
 ·rename_i kt vt hT
  split at h
  ·rename_i e h1 h2 h3
   cases hi:P.info? vt with
   | none => rw [hi] at h3; cases h3
   | some i => rw [hi] at h3; exact ⟨kt, vt, e, i, hT, h1, h2, hi, h3⟩
  ·cases h
 ·cases h
open Go.MapKept in
theorem ZfH {P:Program} {o:Oper} {σ:Nat→AV} {T:TypeId} {d:Nat} {rows:List (List AV)} (ho:o.op = .makeMap T Xe) (hd:σ d = .store rows):Jg P o σ (.omap (rows.length+1)) [(d,.store (rows++[ZX []]))] [d]:=by
 intro c hc σ' tm w lim X hid hag hsim next Q hn
 have hd':σ' d = .store rows:=by rw [hag d (by simp),hd]
 obtain ⟨lim2,X2,k1,k2⟩:=hsim.stoNew (cap:=0) (ty:=0) (row:=ZX []) (.map #[] 0) hd' (fun lim2 hl he=>⟨hl,.inr ⟨#[],0,[],heap_alloc_new w _,rfl,rfl,stamped_empty 0,fun i en kv h=>by simp at h⟩⟩)
 refine Zi (v:=.map (Xa w.heap.size)) (w':=w.alloc (.map #[] 0)) ?_ (hn _ _ (Zq k1 rfl (k:=0) (Rep.omap (UD _) k2)))
 have hr:(Instr.makeMap T Xe).run P w = .ok (.map (Xa w.heap.size)) (w.alloc (.map #[] 0)):=rfl
 simp only [execOp,ho,Option.map_none,hr,Sem.run_bind,Result.andThen_ok,Sem.run_pure]
theorem ZhI {P:Program} {o:Oper} {σ:Nat→AV} {T:TypeId} {m kx:Operand} {d j:Nat} {rows:List (List AV)} {k:Int} (ho:o.op = .lookup T m kx Xc) (hT:ZdJ P T=Xb) (hm:Zn P σ m = .omap (j+1)) (hkx:Zn P σ kx = .val (.int .i64 k)) (hd:σ d = .store rows) (hc:Yu (Z9 rows (j+1))=Xb) :
  Jg P o σ (Zk (Zn9 rows (.omap (j+1)) k)) [] [d]:=by
 refine Zt [d] (Y5 (Q:=fun z=>z.plain=Xb) _ (fun _ _=>rfl) (fun _ _ _=>rfl) (fun _=>rfl) (fun _ _=>rfl)) fun c hcP σ' tm w lim X hg hfp hsim=>?_
 rw [ho] at hg
 have hd':σ' d = .store rows:=by rw [hfp d (by simp),hd]
 obtain ⟨b2,cap2,ty2,k1,k2⟩:=Za5 (JF hcP hsim hm (hg m (by simp [Op.operands])))
 have hkv:=ZP hcP hsim hkx (hg kx (by simp [Op.operands]))
 obtain ⟨b,cap,ty,es,clock,g1,g2,g4,g5,g6,g7,g8,g9⟩:=ZfR hsim hd' hc
 rw [g2] at k1
 obtain ⟨rfl,rfl,rfl⟩:b=b2∧cap=cap2∧ty=ty2:=by cases k1;exact ⟨rfl,rfl,rfl⟩
 obtain ⟨kt,vt,e,i,hTT,hkt,hvt,hi,hz⟩:=ZbE hT
 obtain ⟨_,hfind⟩:=Vg g6 g7 (fun i en row h1 h2=>by obtain ⟨k,q,n1,n2,_⟩:=g9 i en row h1 h2;exact ⟨k,_,n1,n2⟩) k
 have hzr:(zeroValue vt).run P w = .ok (.pointer Xe) w:=by simp [zeroValue,typeInfo,run_program,hi,hz]
 have hsm:Zn9 rows (.omap (j+1)) k=match (Kv (Z9 rows (j+1))).find? (fun r=>ZM r == Xa k) with | some (_::v::_)=>[[v]] | _=>[[.oref 0 0]]:=rfl
 rcases hfind with ⟨h1,_,h2⟩ | ⟨q,en,row,h1,h2,h3,h4,h5,h6,h7⟩
 ·have hgn:(Kv (Z9 rows (j+1))).find? (fun r=>ZM r == Xa k)=Xe:=List.find?_eq_none.2 fun r hr=>by simpa using h2 r hr
  refine ⟨.pointer Xe,?_,by rw [hsm,hgn];exact Rep.oref0⟩
  simp [execOp,ho,k2,hkv,Instr.lookup,run_underlying hTT,MapKept.run_getObj_map g4,MapKept.run_checkKey hkt (Jo k),MapKept.run_findKey hkt h1,hzr,Result.andThen]
 ·obtain ⟨k3,q2,p1,p2,p3⟩:=g9 q en row h2 h3
  refine ⟨en.val,?_,?_⟩
  ·simp [execOp,ho,k2,hkv,Instr.lookup,run_underlying hTT,MapKept.run_getObj_map g4,MapKept.run_checkKey hkt (Jo k),MapKept.run_findKey hkt h1,Result.andThen]
  ·rw [hsm,h6,p1]
   exact p3
open Go.MapKept in
theorem Zh3 {P:Program} {o:Oper} {σ:Nat→AV} {T:TypeId} {m kx vx:Operand} {d j q:Nat} {rows:List (List AV)} {k:Int} (ho:o.op = .insert T m kx vx∨o.op = .mapUpdate T m kx vx) (hT:ZdJ P T=Xb) (hm:Zn P σ m = .omap (j+1)) (hkx:Zn P σ kx = .val (.int .i64 k)) (hvx:Zn P σ vx = .oref q 0)
  (hd:σ d = .store rows) (hc:Yu (Z9 rows (j+1))=Xb):Jg P o σ .dead [(d,.store (rows.set j (ZX (YF (Kv (Z9 rows (j+1))) k (.oref q 0)))))] [d]:=by
 intro c hcP σ' tm w lim X hid hag hsim next Q hn
 have hg:∀ y∈o.op.operands,Zn P σ' y=Zn P σ y:=fun y hy=>Zw fun t ht=>hid t (by simp [Zo hy ht])
 have hgm:=hg m (by rcases ho with ho | ho<;>rw [ho]<;>simp [Op.operands])
 have hgk:=hg kx (by rcases ho with ho | ho<;>rw [ho]<;>simp [Op.operands])
 have hgv:=hg vx (by rcases ho with ho | ho<;>rw [ho]<;>simp [Op.operands])
 have hd':σ' d = .store rows:=by rw [hag d (by simp),hd]
 obtain ⟨b2,cap2,ty2,k1,k2⟩:=Za5 (JF hcP hsim hm hgm)
 have hkv:=ZP hcP hsim hkx hgk
 have hvv:Rep w lim (.oref q 0) (Act.eval ⟨tm,[]⟩ vx):=JF hcP hsim hvx hgv
 obtain ⟨b,cap,ty,es,clock,g1,g2,g4,g5,hl,hs,g8,hr⟩:=ZfR hsim hd' hc
 rw [g2] at k1
 obtain ⟨rfl,rfl,rfl⟩:b=b2∧cap=cap2∧ty=ty2:=by cases k1;exact ⟨rfl,rfl,rfl⟩
 generalize hkvs:Kv (Z9 rows (j+1))=kvs at *
 obtain ⟨kt,vt,e,i,hTT,hkt,hvt,hi,hz⟩:=ZbE hT
 obtain ⟨hkeys,hfind⟩:=Vg hl hs (fun i en row h1 h2=>by obtain ⟨k,q,n1,n2,_⟩:=hr i en row h1 h2;exact ⟨k,_,n1,n2⟩) k
 have hlt:=(Xi.1 g8).1
 have step:∃ es' clock',(Instr.mapUpdate T (.map (Xa b)) (.int .i64 k) (Act.eval ⟨tm,[]⟩ vx)).run P w = .ok () (JN w b (.map es' clock'))∧es'.size=(YF kvs k (.oref q 0)).length∧Stamped es' clock'∧
   ∀ (i:Nat) (en:MapEntry) (kv:List AV),es'[i]? = Xa en→(YF kvs k (.oref q 0))[i]? = Xa kv→∃ (k:Int) (q:Nat),kv = [.val (.int .i64 k),.oref q 0]∧en.key = .int .i64 k∧Rep w lim (.oref q 0) en.val:=by
  rcases hfind with ⟨h1,h2,h3⟩ | ⟨jj,en,row,h1,h2,h3,h4,h5,h6,h7⟩
  ·refine ⟨es.push ⟨.int .i64 k,Act.eval ⟨tm,[]⟩ vx,clock⟩,clock+1,?_,by rw [put_new h3];simp [hl],stamped_push hs h2,fun i en row m1 m2=>?_⟩
   ·simp [Instr.mapUpdate,run_underlying hTT,MapKept.run_getObj_map g4,MapKept.run_checkKey hkt (Jo k),MapKept.run_findKey hkt h1,MapKept.run_setObj_map _ g4,Result.andThen,JN]
   ·rw [put_new h3] at m2
    by_cases hij:i=es.size
    ·subst hij
     rw [Te,if_pos rfl] at m1
     rw [Xy (by omega)] at m2
     simp [hl] at m2
     cases m1
     exact ⟨k,q,m2.symm,rfl,hvv⟩
    ·have hlt:i < es.size:=by
      have:=(Wa.1 m1).1
      simp at this
      omega
     rw [Te,if_neg (by omega)] at m1
     rw [Xv (by omega)] at m2
     exact hr i en row m1 m2
  ·have hj:es[jj]? = Xa en:=h2
   have hjl:jj < es.size:=(Wa.1 h2).1
   have hkeyf:∀ e',es[jj]? = Xa e'→({ e' with key:=.int .i64 k,val:=Act.eval ⟨tm,[]⟩ vx } : MapEntry).key=e'.key:=fun e' he'=>by rw [hj] at he';cases he';exact h4.symm
   have hlen:=ZfJ (cl:=.oref q 0) h3 h5
   refine ⟨es.modify jj fun e'=>{ e' with key:=.int .i64 k,val:=Act.eval ⟨tm,[]⟩ vx },clock,?_,by rw [Array.size_modify,hl,hlen],stamped_modify hs _ _ (fun _ _=>rfl) (fun e' _ he'=>hkeyf e' he'),fun i en' row' m1 m2=>?_⟩
   ·simp [Instr.mapUpdate,run_underlying hTT,MapKept.run_getObj_map g4,MapKept.run_checkKey hkt (Jo k),MapKept.run_findKey hkt h1,hj,h4,MapKept.run_keyThatStays (Jo k),MapKept.run_setObj_map _ g4,Result.andThen,JN]
   ·have m3:=Zco (cl:=.oref q 0) h3 h5 h7 i row' m2
    by_cases hij:i=jj
    ·subst hij
     rw [if_pos rfl] at m3
     rw [U0,if_pos rfl,hj] at m1
     simp only [Xo,Xf] at m1
     subst m1
     exact ⟨k,q,m3,rfl,hvv⟩
    ·rw [if_neg hij] at m3
     rw [U0,if_neg (by omega)] at m1
     exact hr i en' row' m1 m3.1
 obtain ⟨es',clock',r1,r2,r3,r4⟩:=step
 have hset:=hsim.stoMap (kvs':=YF kvs k (.oref q 0)) hd' hlt g1 g2 g4 g5 r2 r3 r4
 refine JA (w':=JN w b (.map es' clock')) ?_ (hn undef _ (Zq hset rfl (k:=0) trivial))
 rcases ho with ho | ho<;>simp only [execOp,ho,k2,hkv,r1,Sem.run_bind,Result.andThen_ok,Sem.run_pure]
theorem ZdV {k:Int} : ∀ {kvs:List (List AV)} {j:Nat} {row:List AV},kvs[j]? = Xa row→ZM row=Xa k→(∀ i r,kvs[i]? = Xa r→i≠j→ZM r≠Xa k)→Za9 kvs k=kvs.eraseIdx j
 | [], j, row, h, _, _ => by simp at h
 | r :: kvs, 0, row, h, hk, hu => by
  simp only [XB,Xf] at h
  subst h
  have hrest:kvs.filter (fun r=>!(ZM r == Xa k))=kvs:=US.2 fun x hx=>by
   obtain ⟨i,hi⟩:=XK.1 hx
   have:=hu (i+1) x (by simpa using hi) (by omega)
   simpa using this
  simp [Za9,hk,hrest]
 | r :: kvs, j + 1, row, h, hk, hu => by
  have hr:=hu 0 r rfl (by omega)
  have ih:=ZdV (kvs:=kvs) (j:=j) (row:=row) (by simpa using h) hk fun i x hx hi=>hu (i+1) x (by simpa using hx) (by omega)
  simp only [Za9] at ih
  simp [Za9,hr,ih]
theorem Ze1 {k:Int} {kvs:List (List AV)} (h:∀ r∈kvs,ZM r≠Xa k):Za9 kvs k=kvs:=US.2 fun x hx=>by simpa using h x hx
open Go.MapKept in
theorem Zhr {P:Program} {o:Oper} {σ:Nat→AV} {cl:Call} {T T':TypeId} {ts:List TypeId} {m kx:Operand} {d j:Nat} {rows:List (List AV)} {k:Int} (ho:o.op = .call cl) (hcl:cl.callee = .builtin .delete) (hargs:cl.args.toList = [m,kx]) (hts:cl.argTypes.toList=T::ts) (hT:ZdJ P T=Xb)
  (hm:Zn P σ m = .omap (j+1)) (hkx:Zn P σ kx = .val (.int .i64 k)) (hd:σ d = .store rows) (hc:Yu (Z9 rows (j+1))=Xb):Jg P o σ .dead [(d,.store (rows.set j (ZX (Za9 (Kv (Z9 rows (j+1))) k))))] [d]:=by
 have hargs':cl.args = #[m,kx]:=by apply XG.1;rw [hargs]
 have hts':cl.argTypes=(T::ts).toArray:=by apply XG.1;rw [hts]
 intro c hcP σ' tm w lim X hid hag hsim next Q hn
 have hg:∀ y∈o.op.operands,Zn P σ' y=Zn P σ y:=fun y hy=>Zw fun t ht=>hid t (by simp [Zo hy ht])
 have hgm:=hg m (by rw [ho];simp [Op.operands,Call.operands,hargs',hcl])
 have hgk:=hg kx (by rw [ho];simp [Op.operands,Call.operands,hargs',hcl])
 have hd':σ' d = .store rows:=by rw [hag d (by simp),hd]
 obtain ⟨b2,cap2,ty2,k1,k2⟩:=Za5 (JF hcP hsim hm hgm)
 have hkv:=ZP hcP hsim hkx hgk
 obtain ⟨b,cap,ty,es,clock,g1,g2,g4,g5,hl,hs,g8,hr⟩:=ZfR hsim hd' hc
 rw [g2] at k1
 obtain ⟨rfl,rfl,rfl⟩:b=b2∧cap=cap2∧ty=ty2:=by cases k1;exact ⟨rfl,rfl,rfl⟩
 generalize hkvs:Kv (Z9 rows (j+1))=kvs at *
 obtain ⟨kt,vt,e,i,hTT,hkt,hvt,hi,hz⟩:=ZbE hT
 obtain ⟨hkeys,hfind⟩:=Vg hl hs (fun i en row h1 h2=>by obtain ⟨k,q,n1,n2,_⟩:=hr i en row h1 h2;exact ⟨k,_,n1,n2⟩) k
 have hlt:=(Xi.1 g8).1
 have step:∃ es',(∀ ty,(Builtin.delete_ cl.argTypes ty #[.map (Xa b),.int .i64 k]).run P w = .ok (.tuple #[]) (JN w b (.map es' clock)))∧es'.size=(Za9 kvs k).length∧Stamped es' clock∧
   ∀ (i:Nat) (en:MapEntry) (kv:List AV),es'[i]? = Xa en→(Za9 kvs k)[i]? = Xa kv→∃ (k:Int) (q:Nat),kv = [.val (.int .i64 k),.oref q 0]∧en.key = .int .i64 k∧Rep w lim (.oref q 0) en.val:=by
  rcases hfind with ⟨h1,h2,h3⟩ | ⟨jj,en,row,h1,h2,h3,h4,h5,h6,h7⟩
  ·refine ⟨es,fun ty=>?_,by rw [Ze1 h3,hl],hs,by rw [Ze1 h3];exact hr⟩
   simp [hts',Builtin.delete_,run_underlying hTT,MapKept.run_getObj_map g4,MapKept.run_checkKey hkt (Jo k),MapKept.run_findKey hkt h1,MapKept.run_setObj_map _ g4,Result.andThen,JN]
  ·have hjs:jj < es.size:=(Wa.1 h2).1
   have hel:(es.eraseIdxIfInBounds jj).toList=es.toList.eraseIdx jj:=by
    unfold Array.eraseIdxIfInBounds
    rw [dif_pos hjs]
    simp
   have hat:∀ i,(es.eraseIdxIfInBounds jj)[i]? = if i < jj then es[i]? else es[i+1]?:=fun i=>by
    rw [← Ud,hel,List.getElem?_eraseIdx]
    split<;>rw [Ud]
   have hsz:(es.eraseIdxIfInBounds jj).size=es.size-1:=by
    rw [← Uj,hel,List.length_eraseIdx_of_lt (by simpa using hjs),Uj]
   have hke:=ZdV h3 h5 h7
   refine ⟨es.eraseIdxIfInBounds jj,fun ty=>?_,?_,stamped_erase hs jj,fun i en' row' m1 m2=>?_⟩
   ·simp [hts',Builtin.delete_,run_underlying hTT,MapKept.run_getObj_map g4,MapKept.run_checkKey hkt (Jo k),MapKept.run_findKey hkt h1,MapKept.run_setObj_map _ g4,Result.andThen,JN]
   ·rw [hke,hsz,List.length_eraseIdx_of_lt (by omega),hl]
   ·rw [hke,List.getElem?_eraseIdx] at m2
    rw [hat] at m1
    split at m1
    ·rename_i hlt'
     rw [if_pos hlt'] at m2
     exact hr i en' row' m1 m2
    ·rename_i hlt'
     rw [if_neg hlt'] at m2
     exact hr (i+1) en' row' m1 m2
 obtain ⟨es',r1,r2,r3,r4⟩:=step
 have hset:=hsim.stoMap (kvs':=Za9 kvs k) hd' hlt g1 g2 g4 g5 r2 r3 r4
 cases hdst:o.dst with
 | none =>
  refine Zi (v:=.tuple #[]) (w':=JN w b (.map es' clock)) ?_ (hn _ _ (Zq hset rfl (k:=0) trivial))
  simp only [execOp,ho,resolve,hcl,hargs',Wn,Xg,Xz,Sem.run_bind,Sem.run_pure,Result.andThen_ok,invoke,builtin,k2,hkv,r1]
 | some dd =>
  refine Zi (v:=.tuple #[]) (w':=JN w b (.map es' clock)) ?_ (hn _ _ (Zq hset rfl (k:=0) trivial))
  simp only [execOp,ho,resolve,hcl,hargs',Wn,Xg,Xz,Sem.run_bind,Sem.run_pure,Result.andThen_ok,invoke,builtin,k2,hkv,r1]
theorem Znp {P:Program} {o:Oper} {σ:Nat→AV} {cl:Call} {T kt vt:TypeId} {x:Operand} {d j:Nat} {rows:List (List AV)} (ho:o.op = .call cl) (hcl:cl.callee = .builtin .len) (hargs:cl.args.toList = [x]) (hts:cl.argTypes.toList = [T]) (hT:P.underlying T=Xa (.map kt vt))
  (hx:Zn P σ x = .omap (j+1)) (hd:σ d = .store rows) (hc:Yu (Z9 rows (j+1))=Xb):Jg P o σ (.val (.int .i64 (Kv (Z9 rows (j+1))).length)) [] [d]:=by
 have hargs':cl.args = #[x]:=by apply XG.1;rw [hargs]
 have hts':cl.argTypes = #[T]:=by apply XG.1;rw [hts]
 refine Zt [d] rfl fun c hcP σ' tm w lim X hg hfp hsim=>?_
 rw [ho] at hg
 have hd':σ' d = .store rows:=by rw [hfp d (by simp),hd]
 obtain ⟨b2,cap2,ty2,k1,k2⟩:=Za5 (JF hcP hsim hx (hg x (by simp [Op.operands,Call.operands,hargs',hcl])))
 obtain ⟨b,cap,ty,es,clock,g1,g2,g4,g5,g6,g7,g8,g9⟩:=ZfR hsim hd' hc
 rw [g2] at k1
 obtain ⟨rfl,rfl,rfl⟩:b=b2∧cap=cap2∧ty=ty2:=by cases k1;exact ⟨rfl,rfl,rfl⟩
 refine ⟨.int .i64 (Kv (Z9 rows (j+1))).length,?_,.val rfl⟩
 simp [execOp,ho,hcl,resolve,hargs',hts',invoke,builtin,Builtin.len_,k2,run_underlying hT,goInt,MapKept.run_getObj_map g4,Result.andThen,g6]
theorem Zk2 {rows:List (List AV)} {j:Nat} {row:List AV} (f:List AV→List AV) (h:rows[j]? = Xa row):rows.modify j f=rows.set j (f row):=by
 apply Ua
 intro i
 rw [Uy,Ug]
 by_cases hij:j=i
 ·subst hij
  rw [if_pos rfl,if_pos (Xi.1 h).1,h]
  simp
 ·rw [if_neg hij]
  simp [hij]
theorem Zj0 {σ:Nat→AV} {d:Nat} {v:AV} (h:σ d=v):upd σ d v=σ:=by
 funext i
 by_cases hi:i=d
 ·subst hi;rw [Zs,h]
 ·rw [Zb σ _ hi]
theorem Zlv {c:Ctx} {σ:Nat→AV} {tm:Array Value} {w:World} {lim:Lm} {X:Nat→Nat→Option Nat} (h:Sim c σ tm w lim X) {d x n:Nat} {T e:TypeId} {inf:TypeInfo} {z:Value} {zc:List AV} {rows:List (List AV)} {cc:AV} (hd:σ d = .store rows) (hx:Rep w lim cc (tm.getD x undef)) (hcc:JC cc=Xb) (hok:ZgG e inf.size rows cc=Xb)
  (hT:c.P.underlying T=Xa (.slice e)) (hi:c.P.info? e=Xa inf) (hz:inf.zero=Xa z) (hzs:z.cells.size=inf.size) (hzr:∀ (w:World) (lim:Lm),JJ w lim zc z.cells.toList) (h1z:∀ v∈z.cells.toList,v.oneCell'=Xb) (hn:n≤pO cc) :
  ∃ v2 w' X',(Instr.sliceAt T (tm.getD x undef) (Xa (.int .i64 n)) Xe Xe).run c.P w = .ok v2 w∧(∀ ty,(Builtin.clear_ #[T] ty #[v2]).run c.P w = .ok (.tuple #[]) w')∧
   Sim c (upd σ d (.store (Zry inf.size rows cc n zc))) tm w' lim X':=by
 have hk:c.P.cellsOf e=inf.size:=ZH hi
 have hsz:∀ w,(sizeOf e).run c.P w = .ok inf.size w:=fun w=>by rw [Zu hi,hk]
 rcases YH hcc with ⟨j,o,rfl⟩ | ⟨e',j,m,rfl⟩ | ⟨j,rfl⟩ | ⟨g,js,rfl⟩
 ·cases hok
 ·cases j with
  | zero =>
   have hm:m=0:=by
    cases m with
    | zero => rfl
    | succ m => cases hok
   subst hm
   have hn0:n=0:=Nat.le_zero.1 hn
   subst hn0
   obtain ⟨a,cap,hv,_⟩:∃ a cap,tm.getD x undef = .slice a 0 cap∧cap=0:=by
    generalize hg:tm.getD x undef=v at hx
    cases hx with
    | osl0 => exact ⟨_, _, rfl, rfl⟩
    | osl h => exact (Nat.lt_irrefl 0 h).elim
   subst cap
   refine ⟨.slice a 0 0,w,X,?_,fun ty=>Kh hT,by rw [show Zry inf.size rows (.osl e' 0 0) 0 zc=rows from rfl,Zj0 hd];exact h⟩
   rw [hv]
   cases a<;>simp [Instr.sliceAt,Instr.slice,Instr.sliceBounds,Instr.sliceBound,asIntOf,run_underlying hT,hsz]
  | succ j =>
   simp only [ZgG,Xs,decide_eq_true_eq] at hok
   obtain ⟨⟨rfl,hc⟩,hfit⟩:=hok
   obtain ⟨b,cap,arr,t,g1,g2,g4,g5,g0,g6,g7,g8,g9⟩:=Vh h hd hc
   obtain ⟨b2,cap2,k1,k2,k3⟩:=Zjb hx
   rw [g2] at k1
   cases k1
   rw [hk] at g6
   have hrow:=Zby hc
   have hn:n≤m:=hn
   have hnc:n≤cap:=by omega
   have hzl:z.cells.toList.length=inf.size:=by rw [← hzs];simp
   have hslice:(Instr.sliceAt T (tm.getD x undef) (Xa (.int .i64 n)) Xe Xe).run c.P w = .ok (.slice (if cap=n then Xa ⟨b,0,Xe⟩ else Xa ⟨b,n*inf.size,Xe⟩) (m-n) (cap-n)) w:=by
    rw [k2]
    simp [Instr.sliceAt,Instr.slice,Instr.sliceBounds,Instr.sliceBound,asIntOf,run_underlying hT,hsz,hn,hnc,k3,Jc]
   have hsc:Zry inf.size rows (.osl e' (j+1) m) n zc=rows.set j ((Z9 rows (j+1)).take (n*inf.size)++(Xm (m-n) zc).flatten++(Z9 rows (j+1)).drop (m*inf.size)):=Zk2 (fun row=>row.take (n*inf.size)++(Xm (m-n) zc).flatten++row.drop (m*inf.size)) hrow
   by_cases hend:n=m
   ·subst hend
    refine ⟨_,w,X,hslice,fun ty=>?_,?_⟩
    ·rw [Nat.sub_self]
     exact Kh hT
    ·have:rows.set j ((Z9 rows (j+1)).take (n*inf.size)++(Xm (n-n) zc).flatten++(Z9 rows (j+1)).drop (n*inf.size))=rows:=by
      rw [Nat.sub_self]
      simp only [List.replicate_zero,List.flatten_nil,Wc,List.take_append_drop]
      apply Ua
      intro i
      rw [Ug]
      by_cases hij:j=i
      ·subst hij
       rw [if_pos rfl,if_pos (Xi.1 hrow).1,hrow]
      ·rw [if_neg hij]
     rw [hsc,this,Zj0 hd]
     exact h
   ·obtain ⟨p,hp⟩:∃ p,m-n=p+1:=⟨m-n-1,by omega⟩
    have hmn:n*inf.size+(p+1)*inf.size=m*inf.size:=by rw [← Nat.add_mul];congr 1;omega
    have hm1:m*inf.size≤cap*inf.size:=XN _ k3
    have hcn:¬ cap=n:=by omega
    rw [if_neg hcn,hp] at hslice
    have hclr:=fun ty=>ZaH (P:=c.P) (w:=w) (ty:=ty) (o:=n*inf.size) (n:=p) (c:=cap-n) hT hi hz g4 (by rw [hzs,g6];omega) h1z
    have hrl:=J1 (hzr w lim) (p+1)
    have hfl:((Xm (p+1) z.cells.toList).flatten).length=(p+1)*inf.size:=by simp [hzl,← hzs]
    have hfz:((Xm (p+1) zc).flatten).length=(p+1)*inf.size:=by rw [hrl.1,hfl]
    have hal:arr.toList.length=cap*inf.size:=by simpa using g6
    have hrw:(Z9 rows (j+1)).take (n*inf.size)++(Xm (m-n) zc).flatten++(Z9 rows (j+1)).drop (m*inf.size)=setCells (Z9 rows (j+1)) (n*inf.size) ((Xm (p+1) zc).flatten):=by
     unfold setCells
     rw [hp,hfz,hmn]
    have hset:=h.stoSet (row':=setCells (Z9 rows (j+1)) (n*inf.size) ((Xm (p+1) zc).flatten)) (arr':=(arr.toList.take (n*inf.size)++(Xm (p+1) z.cells.toList).flatten++arr.toList.drop (n*inf.size+(p+1)*z.cells.size)).toArray) hd hc g1 g2 g4 g5 g0
     (by rw [hk,Uu,XA,XA,hfl,XQ,Ue,hal,hzs];omega)
     (by unfold setCells;rw [Uu];simp only [XA,hfl,hfz,XQ,Ue,hal,hzs];omega)
     (fun y hy=>by
      unfold setCells at hy
      rcases Xt.1 hy with hy | hy
      ·rcases Xt.1 hy with hy | hy
       ·exact g8 y (XO hy)
       ·exact hrl.2.1 y hy
      ·exact g8 y (XW hy))
     (fun i y u hy hu=>by
      unfold setCells at hy
      rw [JS _ _ _ (by rw [hfz];omega)] at hy
      have hu':(arr.toList.take (n*inf.size)++(Xm (p+1) z.cells.toList).flatten++arr.toList.drop (n*inf.size+((Xm (p+1) z.cells.toList).flatten).length))[i]? = Xa u:=by
       rw [hfl,← hzs]
       rw [← hzs] at hu
       simpa using hu
      rw [JS arr.toList _ _ (by rw [hfl,hal];omega)] at hu'
      rw [hfz] at hy
      rw [hfl] at hu'
      split at hy
      ·rename_i hcnd
       rw [if_pos hcnd] at hu'
       exact hrl.2.2 _ y u hy hu'
      ·rename_i hcnd
       rw [if_neg hcnd] at hu'
       exact g9 i y u hy (by simpa using hu'))
    rw [← hrw,← hsc] at hset
    exact ⟨_,_,_,hslice,hclr,hset⟩
 ·cases hok
 ·cases hok
def ZaS (tx:Odr) (P:Program) (R:AV→List AV→Prop) (A:Nat→List V→Prop) (ρ:Nat→V) (g:Nat→SV) (o:Oper) (n:Nat) (k:KS):Prop:=
 ∃ ρ' n' gr x us fp,n≤n'∧(∀ m,m < n→ρ' m=ρ m)∧x.bd n'∧(∀ u∈us,u.2.bd n')∧(k gr x us fp n').wp P R A ρ'∧
  ZiY tx P o (fun d=>(g d).den ρ) (x.den ρ') (us.map fun u=>(u.1,u.2.den ρ')) fp∧
  (gr=Xb→∀ u∈us,∀ rows rows',(g u.1).den ρ = .store rows→u.2.den ρ' = .store rows'→rows <+: rows')
theorem Zac {E:Env} {g:Nat→SV} {d:Nat} {l:LE} (h:ZfS E g=Xa (d,l)):g d = .store l:=by
 unfold ZfS at h
 split at h
 ·split at h
  ·simp only [Xf,Xn] at h
   obtain ⟨rfl,rfl⟩:=h
   assumption
  ·cases h
 ·cases h
theorem Znd {P:Program} {g:Nat→SV} {x:Operand} {p:LE} (h:Zbr P g x=Xa p):Z8 P g x = .c (.cel p):=by
 unfold Zbr at h
 split at h
 ·simp only [Xf] at h
  subst h
  assumption
 ·cases h
theorem WM {P:Program} {E:Env} {T:TypeId} {sh:List Sh} (h:ZaC P E T=Xa sh):sh.length=P.cellsOf T∧0 < sh.length:=by
 unfold ZaC at h
 split at h
 ·split at h
  ·simp only [Xf] at h
   subst h
   assumption
  ·cases h
 ·cases h
theorem Za7 {b:Bool} (h:okL b≠[]):b=Xb:=by cases b with | true=>rfl | false=>exact (h rfl).elim
theorem Znv {w:World} {lim:Lm} {c:AV} {cs:List AV} {us:List Value} (h:JJ w lim (c::cs) us):∃ u us',us=u::us'∧c.isCell=Xb∧Rep w lim c u∧JJ w lim cs us':=by
 cases us with
 | nil => have := h.1; cases this
 | cons u us =>
  refine ⟨u,us,rfl,h.2.1 c (by simp),h.2.2 0 c u rfl rfl,by simpa using h.1,fun x hx=>h.2.1 x (by simp [hx]),fun i x v hx hv=>h.2.2 (i+1) x v (by simpa using hx) (by simpa using hv)⟩
theorem Zrx {w:World} {lim:Lm} {c:AV} {cs:List AV} {u:Value} {us:List Value} (hc:c.isCell=Xb) (hr:Rep w lim c u) (h:JJ w lim cs us):JJ w lim (c::cs) (u::us):=by
 have:=(JJ.one hc hr).append h
 exact this
theorem ZrS (ρ:Nat→V) {s:Sh} {c c':SC} (h:Zsx s c=Xa c'):∀ (w:World) (lim:Lm) (u:Value),Rep w lim (c.den ρ) u→Rep w lim (c'.den ρ) u:=by
 intro w lim u hr
 unfold Zsx at h
 split at h
 ·simp only [Xf] at h;subst h;exact hr
 ·simp only [Xf] at h
  subst h
  have h1:Rep w lim (.slice Xb _ []) u:=hr
  have h2:(SC.cel (ptE (.pnil 1) .nil)).den ρ = .osl 0 0 0:=rfl
  rw [h2]
  cases h1 with
  | sliceN => exact .osl0
  | sliceE hf => rw [hf rfl]; exact .osl0
  | sliceC _ _ hf => 
   have:=hf rfl
   subst this
   exact .osl0
 ·split at h
  ·simp only [Xf] at h
   rename_i hk
   subst hk
   subst h
   exact ZfA hr
  ·split at h
   ·simp only [Xf] at h
    subst h
    exact VJ (fun h=>by cases h) hr
   ·cases h
 ·simp only [Xf] at h;subst h;exact hr
 ·simp only [Xf] at h;subst h;exact hr
 ·simp only [Xf] at h;subst h;exact hr
 ·cases h
theorem Zq3 {s:Sh} {c c':SC} {n:Nat} (h:Zsx s c=Xa c') (hb:c.bd n):c'.bd n:=by
 unfold Zsx at h
 split at h
 ·simp only [Xf] at h;subst h;exact hb
 ·simp only [Xf] at h;subst h;exact ⟨trivial,trivial,trivial,trivial⟩
 ·split at h
  ·simp only [Xf] at h;subst h;exact hb
  ·split at h
   ·simp only [Xf] at h;subst h;trivial
   ·cases h
 ·simp only [Xf] at h;subst h;exact hb
 ·simp only [Xf] at h;subst h;exact hb
 ·simp only [Xf] at h;subst h;exact hb
 ·cases h
theorem WP {n:Nat} : ∀ (l:List Sh) (cs cs':List SC),Zas l cs=Xa cs'→(∀ c∈cs,c.bd n)→∀ c∈cs',c.bd n
 | [], [], cs', h, _ => by simp only [Zas, Xf] at h; subst h; simp
 | [], _ :: _, _, h, _ => by cases h
 | _ :: _, [], _, h, _ => by cases h
 | s :: l, c :: cs, cs', h, hb => by
  simp only [Zas] at h
  split at h
  ·rename_i v vs h1 h2
   simp only [Xf] at h
   subst h
   intro x hx
   rcases Xl.1 hx with rfl | hx
   ·exact Zq3 h1 (hb c (by simp))
   ·exact WP l cs vs h2 (fun y hy=>hb y (by simp [hy])) x hx
  ·cases h
theorem V9:∀ (l:List Sh) (cs cs':List SC),Zas l cs=Xa cs'→cs.length=l.length∧cs'.length=cs.length
 | [], [], cs', h => by simp only [Zas, Xf] at h; subst h; exact ⟨rfl, rfl⟩
 | [], _ :: _, _, h => by cases h
 | _ :: _, [], _, h => by cases h
 | s :: l, c :: cs, cs', h => by
  simp only [Zas] at h
  split at h
  ·rename_i v vs h1 h2
   simp only [Xf] at h
   subst h
   obtain ⟨k1,k2⟩:=V9 l cs vs h2
   exact ⟨by simp [k1],by simp [k2]⟩
  ·cases h
theorem Zdk (ρ:Nat→V):∀ (l:List Sh) (cs cs':List SC),Zas l cs=Xa cs'→∀ (w:World) (lim:Lm) (us:List Value),JJ w lim (cs.map (SC.den ρ)) us→JJ w lim (cs'.map (SC.den ρ)) us
 | [], [], cs', h => by simp only [Zas, Xf] at h; subst h; exact fun _ _ _ h => h
 | [], _ :: _, _, h => by cases h
 | _ :: _, [], _, h => by cases h
 | s :: l, c :: cs, cs', h => by
  simp only [Zas] at h
  split at h
  ·rename_i v vs h1 h2
   simp only [Xf] at h
   subst h
   intro w lim us hr
   obtain ⟨u,us',rfl,_,k2,k3⟩:=Znv hr
   exact Zrx (J5 ρ v) (ZrS ρ h1 w lim u k2) (Zdk ρ l cs vs h2 w lim us' k3)
  ·cases h
theorem Zct (ρ:Nat→V) {l:List Sh} {cs cs':List SC} (h:Zas l cs=Xa cs'):(cs'.map (SC.den ρ)).length=(cs.map (SC.den ρ)).length∧∀ (w:World) (lim:Lm) (us:List Value),JJ w lim (cs.map (SC.den ρ)) us→JJ w lim (cs'.map (SC.den ρ)) us:=
 ⟨by rw [Xq,Xq,(V9 l cs cs' h).2],Zdk ρ l cs cs' h⟩
theorem Zgj {P:Program} {g:Nat→SV} {top:Nat} {txt:Odr} {x:Bool} {t:Nat} {e:TypeId} {l:LE} {us:Ups} (h:YO P txt g top t x e l=Xa us):∀ u∈us,∀ (ρ:Nat→V) rows,u.2.den ρ = .store rows→False:=by
 intro u hu ρ rows hs
 unfold YO at h
 split at h
 ·simp only [Xf] at h
  subst h
  rw [XC] at hu
  subst hu
  cases hs
 ·split at h
  case isFalse=>cases h
  split at h
  ·simp only [Xf] at h
   subst h
   rcases Xl.1 hu with rfl | hu
   ·cases hs
   ·rw [((Jl _ u).1 hu).1] at hs;cases hs
  ·split at h
   ·simp only [Xf] at h
    subst h
    simp only [XC] at hu
    subst hu
    cases hs
   ·cases h
theorem Znh {n:Nat} {l:List (List AV)} {c:AV} {r:List AV} (h:(ZoG n l c)[0]? = Xa r):∃ j off,c = .oref (j+1) off∧JQ (Z9 l (j+1))=Xb∧off+n≤(Z9 l (j+1)).length∧r=((Z9 l (j+1)).drop off).take n:=by
 unfold ZoG at h
 split at h
 ·rename_i j off
  split at h
  ·rename_i hb
   simp only [Xs,decide_eq_true_eq] at hb
   simp only [XB,Xf] at h
   exact ⟨j,off,rfl,hb.1,hb.2,h.symm⟩
  ·simp at h
 ·simp at h
theorem ZmA {n:Nat} {l:List (List AV)} {c:AV} (h:ZoG n l c≠[]):∃ j off,c = .oref (j+1) off∧JQ (Z9 l (j+1))=Xb∧off+n≤(Z9 l (j+1)).length:=by
 cases hl:ZoG n l c with
 | nil => exact (h hl).elim
 | cons r rs =>
  obtain ⟨j,off,h1,h2,h3,_⟩:=Znh (n:=n) (l:=l) (c:=c) (r:=r) (by rw [hl];rfl)
  exact ⟨j,off,h1,h2,h3⟩
section
variable {tx:Odr} {P:Program} {E:Env} {R:AV→List AV→Prop} {A:Nat→List V→Prop} {ρ:Nat→V} {g:Nat→SV} {o:Oper} {n:Nat} {k:KS}
theorem ZaG {x:SV} {us:Ups} {fp:List Nat} {gr:Bool} (hk:(k gr x us fp n).wp P R A ρ) (hx:x.bd n) (hus:∀ u∈us,u.2.bd n)
  (hex:Jg P o (fun d=>(g d).den ρ) (x.den ρ) (us.map fun u=>(u.1,u.2.den ρ)) fp) (hgr:gr=Xb→∀ u∈us,∀ rows rows',(g u.1).den ρ = .store rows→u.2.den ρ = .store rows'→rows <+: rows'):ZaS tx P R A ρ g o n k:=
 ⟨ρ,n,gr,x,us,fp,XD _,fun _ _=>rfl,hx,hus,hk,hex.t.s,hgr⟩
theorem VV {x:SV} {fp:List Nat} {gr:Bool} (hk:(k gr x [] fp n).wp P R A ρ) (hx:x.bd n) (hex:Jg P o (fun d=>(g d).den ρ) (x.den ρ) [] fp):ZaS tx P R A ρ g o n k:=
 ZaG hk hx (by simp) hex (fun _ u hu=>by cases hu)
theorem Zs7 {K:K} (h:YN tx P R A ρ g o n K) {gr:Bool} (hK:∀ x us fp n',K x us fp n'=k gr x us fp n') (hgr:gr=Xc):ZaS tx P R A ρ g o n k:=by
 obtain ⟨ρ',n',x,us,fp,h1,h2,h3,h4,h5,h6⟩:=h
 exact ⟨ρ',n',gr,x,us,fp,h1,h2,h3,h4,by rw [← hK];exact h5,h6,fun h=>by rw [hgr] at h;cases h⟩
theorem JT {x:Operand} {p:LE} (h:Zbr P g x=Xa p):Zn P (fun d=>(g d).den ρ) x=Zk (p.den ρ):=Zd ρ (Znd h)
theorem Ku (hg:∀ d,(g d).bd n) {x:Operand} {p:LE} (h:Zbr P g x=Xa p):p.bd n:=by
 have:=Zz (P:=P) hg x
 rw [Znd h] at this
 exact this
theorem YC {d:Nat} {l:LE} (h:ZfS E g=Xa (d,l)):(fun d=>(g d).den ρ) d = .store (l.den ρ):=by show (g d).den ρ=_;rw [Zac h];rfl
theorem Wu (hg:∀ d,(g d).bd n) {d:Nat} {l:LE} (h:ZfS E g=Xa (d,l)):l.bd n:=by
 have:=hg d
 rw [Zac h] at this
 exact this
theorem ZpS {T:TypeId} {a:Operand} {p:LE} (hg:∀ d,(g d).bd n) (ho:o.op = .load T a) (hp:Zbr P g a=Xa p) (h:(ZqA P E g T p n k).wp P R A ρ):ZaS tx P R A ρ g o n k:=by
 unfold ZqA at h
 split at h
 ·rename_i d l sh agg hl hsh hT
  split at h
  ·rename_i h1
   obtain ⟨vs,-,h2,h3⟩:=h
   obtain ⟨s1,s2⟩:=WM hsh
   have h2':(ZoG sh.length (l.den ρ) (Zk (p.den ρ)))[0]? = Xa ((Zv sh n).map (SC.den (bind ρ n vs))):=h2
   obtain ⟨j,off,e1,e2,e3,e4⟩:=Znh h2'
   have hbd:=Jr sh n
   have hlen:=Kl sh n
   refine ⟨bind ρ n vs,n+sh.length,Xb,_,[],[vS d],XR _ _,Yx ρ n vs,?_,by simp,h3,?_,fun _ u hu=>by cases hu⟩
   ·cases agg with
    | true => exact hbd
    | false =>
     show SV.bd _ (match Zv sh n with | [x]=>.c x | _=>.dead)
     split
     ·rename_i x hx
      exact hbd x (by rw [hx];simp)
     ·trivial
   ·have:=Zld (T':=tx) (σ:=fun d=>(g d).den ρ) ho hT ((JT (ρ:=ρ) hp).trans e1) (YC (ρ:=ρ) hl) e2 (by rw [← s1];exact e3) (fun ha=>by
     rcases h1 with h1 | h1
     ·rw [h1] at ha;cases ha
     ·rw [← s1,h1])
    cases agg with
    | true =>
     have he:(SV.agg (Zv sh n)).den (bind ρ n vs) = .agg (((Z9 (l.den ρ) (j+1)).drop off).take (P.cellsOf T)):=by
      simp only [SV.den]
      rw [e4,s1]
     show ZiY tx P o _ ((SV.agg (Zv sh n)).den (bind ρ n vs)) _ _
     rw [he]
     exact this
    | false =>
     have h1:sh.length=1:=by
      rcases h1 with h1 | h1
      ·cases h1
      ·exact h1
     obtain ⟨x,hx⟩:∃ x,Zv sh n = [x]:=UF.1 (by rw [hlen,h1])
     have he:(match Zv sh n with | [x]=>SV.c x | _=>.dead).den (bind ρ n vs)=((Z9 (l.den ρ) (j+1))[off]?).getD .dead:=by
      rw [hx] at e4 ⊢
      have h0:([x].map (SC.den (bind ρ n vs)))[0]? = (((Z9 (l.den ρ) (j+1)).drop off).take sh.length)[0]?:=by rw [e4]
      rw [h1,Xw,if_pos (by omega),XH] at h0
      rw [show (Z9 (l.den ρ) (j+1))[off]? = _ from h0.symm]
      rfl
     show ZiY tx P o _ ((match Zv sh n with | [x]=>SV.c x | _=>.dead).den (bind ρ n vs)) _ _
     rw [he]
     exact this
  ·exact h.elim
 ·exact h.elim
theorem Zl6 {T:TypeId} {a x:Operand} {p:LE} (hg:∀ d,(g d).bd n) (htop:∀ i,E.top≤i→g i = .dead) (ho:o.op = .store T a x) (hp:Zbr P g a=Xa p) (h:(ZnE P E tx g T p x n k).wp P R A ρ):ZaS tx P R A ρ g o n k:=by
 have bp:=Ku hg hp
 unfold ZnE at h
 split at h
 ·rename_i d l sh hl hsh
  have bl:=Wu hg hl
  obtain ⟨s1,s2⟩:=WM hsh
  split at h
  ·rename_i t e xs how
   obtain ⟨rfl,hgt,rfl⟩:x = .tmp t∧g t = .own Xb e xs∧sh = [.cel]:=by
    unfold ZsR at how
    split at how
    ·rename_i t' e' xs' h1 h2
     simp only [Xf,Xn] at how
     obtain ⟨rfl,rfl,rfl⟩:=how
     have hx:x = .tmp t':=by cases x<;>simp [ZK] at h1;rw [h1]
     subst hx
     simp only [ZK,Xo,Xf] at h2
     exact ⟨rfl,h2,rfl⟩
    ·cases how
   split at h
   ·rename_i us hus
    split at h
    ·rename_i hh
     obtain ⟨hnm,hdt⟩:=hh
     obtain ⟨r1,r2,h3⟩:=h
     have r2':ZoG 1 (l.den ρ) (Zk (p.den ρ))≠[]:=r2
     obtain ⟨j,off,e1,e2,e3⟩:=ZmA r2'
     obtain ⟨us',rfl,q1,q2,q3⟩:=J3 ρ htop hgt hus
     have bx:=hg t
     rw [hgt] at bx
     refine ⟨ρ,n,Xc,.dead,_,[d],XD _,fun _ _=>rfl,trivial,fun u hu=>?_,h3,?_,fun h=>by cases h⟩
     ·rcases Xt.1 hu with hu | hu
      ·exact J2 hus bx u hu
      ·rw [XC] at hu
       subst hu
       exact ⟨⟨bl,trivial,bx,trivial⟩,trivial,bp,⟨bl,bx,trivial,trivial⟩,trivial⟩
     ·have q2':Yc tx (fun d=>(g d).den ρ) t (us.tail.map fun u=>(u.1,u.2.den ρ)):=by
       rcases q2 with ⟨h0,_⟩ | h0
       ·cases h0
       ·exact h0
      have:=Zdw (T':=tx) (σ:=fun d=>(g d).den ρ) (t:=t) (xs:=xs.den ρ) ho ((JT (ρ:=ρ) hp).trans e1) (YC (ρ:=ρ) hl) e2 (by show (g t).den ρ=_;rw [hgt];rfl) q2' hdt hnm r1 (by rw [← s1];rfl) e3
      rw [XL,q1]
      have hsd:(SV.store (stE .set (stE .push l (.lit 0) xs .nil) (.lit 0) p (.cons (.cel (stE (.parr e) l (.len xs) .nil .nil)) .nil))).den ρ = .store (ZC (l.den ρ++[(xs.den ρ).flatten]) j off [.osl e ((l.den ρ).length+1) (xs.den ρ).length]):=by
       show AV.store (Ztn (l.den ρ++[(xs.den ρ).flatten]) (Zk (p.den ρ)) [.osl e ((l.den ρ).length+1) (((xs.den ρ).length:Int)).toNat])=_
       rw [e1,UI]
       rfl
      simp only [Xg,Xz]
      rw [hsd]
      exact this.s
    ·exact h.elim
   ·exact h.elim
  ·split at h
   ·rename_i vc hvc
    split at h
    ·rename_i vc' hvc'
     obtain ⟨r1,h3⟩:=h
     have r1':ZoG sh.length (l.den ρ) (Zk (p.den ρ))≠[]:=r1
     obtain ⟨j,off,e1,e2,e3⟩:=ZmA r1'
     refine ZaG h3 trivial (us1 ⟨bl,trivial,bp,Ka _ (WP _ _ _ hvc' (Vw hvc (Zz hg x)))⟩) ?_ (fun h=>by cases h)
     have:=Zed (σ:=fun d=>(g d).den ρ) ho ((JT (ρ:=ρ) hp).trans e1) (YC (ρ:=ρ) hl) e2 (JV P g ρ x).symm (Ki ρ hvc) (by rw [Xq,(V9 _ _ _ hvc').1,s1]) (by rw [← s1];omega) (by rw [← s1];exact e3) (Zct ρ hvc')
     have hsd:(SV.store (stE .set l (.lit 0) p (Zaj vc'))).den ρ = .store (ZC (l.den ρ) j off (vc'.map (SC.den ρ))):=by
      show AV.store (Ztn (l.den ρ) (Zk (p.den ρ)) ((Zaj vc').den ρ))=_
      rw [e1,Yh]
      rfl
     simp only [Xg,Xz]
     rw [hsd]
     exact this
    ·exact h.elim
   ·exact h.elim
 ·exact h.elim
theorem Zq4 {d:Nat} {l:LE} {c:CE} (hl:g d = .store l):∀ u∈[(d,SV.store (.snoc l c))],∀ rows rows',(g u.1).den ρ = .store rows→u.2.den ρ = .store rows'→rows <+: rows':=by
 intro u hu rows rows' h1 h2
 rw [XC] at hu
 subst hu
 rw [show (g (d,SV.store (.snoc l c)).1) = .store l from hl] at h1
 have h1':AV.store (l.den ρ) = .store rows:=h1
 have h2':AV.store (l.den ρ++[c.den ρ]) = .store rows':=h2
 cases h1'
 cases h2'
 exact List.prefix_append _ _
theorem Zk9 {T:TypeId} {x:Operand} (hg:∀ d,(g d).bd n) (ho:o.op = .box T x) (h:(ZrY P E g T (Z8 P g x).cells n k).wp P R A ρ):ZaS tx P R A ρ g o n k:=by
 unfold ZrY at h
 split at h
 ·rename_i d l sh vc hl hsh hvc
  split at h
  ·rename_i vc' hvc'
   obtain ⟨s1,s2⟩:=WM hsh
   have bl:=Wu hg hl
   refine ZaG h ⟨bl,trivial,trivial,trivial⟩ (us1 ⟨bl,Ka _ (WP _ _ _ hvc' (Vw hvc (Zz hg x)))⟩) ?_ (fun _=>Zq4 (Zac hl))
   have:=Zif (σ:=fun d=>(g d).den ρ) ho (JV P g ρ x).symm (Ki ρ hvc) (YC (ρ:=ρ) hl) (by rw [Xq,(V9 _ _ _ hvc').1,s1]) (Zct ρ hvc')
   simp only [Xg,Xz]
   show Jg P o _ (.oref ((l.den ρ).length+1) 0) [(d,.store (l.den ρ++[(Zaj vc').den ρ]))] [d]
   rw [Yh]
   exact this
  ·exact h.elim
 ·exact h.elim
theorem ZhV {T:TypeId} (hg:∀ d,(g d).bd n) (ho:o.op = .alloc T) (h:(ZrY P E g T (Zrb P T) n k).wp P R A ρ):ZaS tx P R A ρ g o n k:=by
 unfold ZrY at h
 split at h
 ·rename_i d l sh vc hl hsh hvc
  split at h
  ·rename_i vc' hvc'
   obtain ⟨s1,s2⟩:=WM hsh
   have bl:=Wu hg hl
   unfold Zrb at hvc
   cases hi:P.info? T with
   | none => rw [hi] at hvc; cases hvc
   | some i =>
    cases hz:i.zero with
    | none => rw [hi] at hvc; simp only [XM, hz, Option.bind_none] at hvc; cases hvc
    | some z =>
     rw [hi] at hvc
     simp only [XM,hz] at hvc
     have hzd:=YV ρ z.cells.toList
     rw [hvc] at hzd
     refine ZaG h ⟨bl,trivial,trivial,trivial⟩ (us1 ⟨bl,Ka _ (WP _ _ _ hvc' (KR hvc))⟩) ?_ (fun _=>Zq4 (Zac hl))
     have:=ZeE (σ:=fun d=>(g d).den ρ) ho hi hz hzd.symm (YC (ρ:=ρ) hl) (by rw [Xq,(V9 _ _ _ hvc').1,s1]) (Zct ρ hvc')
     simp only [Xg,Xz]
     show Jg P o _ (.oref ((l.den ρ).length+1) 0) [(d,.store (l.den ρ++[(Zaj vc').den ρ]))] [d]
     rw [Yh]
     exact this
  ·exact h.elim
 ·exact h.elim
theorem ZrB {T:TypeId} {len:Nat} {parts:Array (Nat×Operand)} (hg:∀ d,(g d).bd n) (ho:o.op = .buildSlice T len parts) (h:(Ztu P E g T len parts.toList n k).wp P R A ρ):ZaS tx P R A ρ g o n k:=by
 unfold Ztu at h
 split at h
 ·rename_i e hT
  split at h
  ·rename_i i hi
   split at h
   ·rename_i z d l sh hz hl hsh
    split at h
    ·rename_i zc hzc
     split at h
     ·rename_i hh
      obtain ⟨h1,h2,h3,h4⟩:=hh
      split at h
      ·rename_i cs hf
       split at h
       ·rename_i cs' hcs'
        have bl:=Wu hg hl
        have hzd:=YV ρ z.cells.toList
        rw [hzc] at hzd
        have hfd:=Zbd ρ (fun j=>Xa (j*i.size,i.size)) (parts.toList.map fun p=>(p.1,Z8 P g p.2)) _ _ hf
        have hbcs:∀ c∈cs,c.bd n:=Zcp _ _ _ _ (fun c hc=>by
         obtain ⟨y,hy,hc⟩:=Uw.1 hc
         rw [(Wd.1 hy).2] at hc
         exact KR hzc c hc) (fun p hp=>by
         obtain ⟨q,_,rfl⟩:=Xj.1 hp
         exact Zz hg q.2) hf
        refine ZaG h ⟨bl,trivial,trivial,trivial⟩ (us1 ⟨bl,Ka _ (WP _ _ _ hcs' hbcs)⟩) ?_ (fun _=>Zq4 (Zac hl))
        have:=ZhA (σ:=fun d=>(g d).den ρ) (zc:=zc.map (SC.den ρ)) (cs:=cs.map (SC.den ρ)) ho hT hi hz hzd.symm h1 h2 h3 h4 (YC (ρ:=ρ) hl) (by
         rw [← hfd,X6,List.map_flatten,List.map_replicate]
         congr 1
         refine Wk fun p _=>?_
         show _=(p.1,(Z8 P g p.2).den ρ)
         rw [JV]) (Zct ρ hcs')
        simp only [Xg,Xz]
        show Jg P o _ (.osl e ((l.den ρ).length+1) ((len:Int)).toNat) [(d,.store (l.den ρ++[(Zaj cs').den ρ]))] [d]
        rw [Yh,UI]
        exact this
       ·exact h.elim
      ·exact h.elim
     ·exact h.elim
    ·exact h.elim
   ·exact h.elim
  ·exact h.elim
 ·exact h.elim
theorem Zgu {e:TypeId} {s:Nat} {l:List (List AV)} {c:AV} (h:ZgG e s l c=Xb):∃ e' j m,c = .osl e' j m:=by
 unfold ZgG at h
 split at h
 ·exact ⟨_,_,_,rfl⟩
 ·exact ⟨_,_,_,rfl⟩
 ·cases h
theorem WH {p:LE} {e':TypeId} {j m:Nat} (h:Zk (p.den ρ) = .osl e' j m):((ptE .plen p).den ρ).length=m:=by
 show (match Zk (p.den ρ) with | .osl _ _ n=>Xm n [] | _=>[]).length=m
 rw [h]
 simp
theorem ZqE {c:Call} {T:TypeId} {x y:Operand} {p:LE} (hg:∀ d,(g d).bd n) (ho:o.op = .call c) (hc:c.callee = .builtin .append) (hargs:c.args.toList = [x,y]) (hts:c.argTypes.toList = [T,T]) (hp:Zbr P g x=Xa p)
  (h:(ZtE P E g T p y n k).wp P R A ρ):ZaS tx P R A ρ g o n k:=by
 have bp:=Ku hg hp
 unfold ZtE at h
 split at h
 ·rename_i e d l f s ys hT hl hy
  split at h
  ·rename_i i hi
   split at h
   ·rename_i z hz
    split at h
    ·rename_i hh
     obtain ⟨h1,h2,rfl,hnm⟩:=hh
     obtain ⟨r1,r2,r3,h⟩:=h
     have bl:=Wu hg hl
     have by':=Zz (P:=P) hg y
     rw [hy] at by'
     have r2':okL (ZgG e i.size (l.den ρ) (Zk (p.den ρ)))≠[]:=r2
     have hok:=Za7 r2'
     obtain ⟨e',j,m,hce⟩:=Zgu hok
     have r3':(((ptE .plen p).den ρ).length+(ys.den ρ).length)*(i.bytes+1)≤ZZ:=r3
     rw [WH hce] at r3'
     rw [hce] at hok
     have:=ZdP (σ:=fun d=>(g d).den ρ) ho hc hargs hts hT hi hz h1 hnm ((JT (ρ:=ρ) hp).trans hce) (Zd ρ hy) r1 (YC (ρ:=ρ) hl) hok r3'
     refine ZaG h ⟨bl,trivial,bp,by',trivial⟩ (us1 ⟨bl,trivial,bp,by',trivial⟩) ?_ (fun h=>by cases h)
     simp only [Xg,Xz]
     show Jg P o _ (.osl e ((l.den ρ).length+1) (pO (Zk (p.den ρ))+(ys.den ρ).length)) [(d,.store (Zoc i.size (l.den ρ) (Zk (p.den ρ)) (ys.den ρ)))] [d]
     rw [hce]
     exact this
    ·exact h.elim
   ·exact h.elim
  ·exact h.elim
 ·exact h.elim
theorem ZnK {c:Call} {T:TypeId} {x y:Operand} {p:LE} {ex:Bool} (hg:∀ d,(g d).bd n) (htop:∀ i,E.top≤i→g i = .dead) (ho:o.op = .call c) (hc:c.callee = .builtin .append) (hargs:c.args.toList = [x,y]) (hts:c.argTypes.toList = [T,T]) (hp:Zbr P g y=Xa p)
  (h:(Zmo P E tx g ex T x p n k).wp P R A ρ):ZaS tx P R A ρ g o n k:=by
 have bp:=Ku hg hp
 unfold Zmo at h
 split at h
 case h_2=>exact h.elim
 rename_i e d l hT hl
 obtain ⟨r2,h⟩:=h
 have bl:=Wu hg hl
 have r2':okL (ZgG e (P.cellsOf e) (l.den ρ) (Zk (p.den ρ)))≠[]:=r2
 have hok:=Za7 r2'
 obtain ⟨e',j,m,hce⟩:=Zgu hok
 have hyo:=(JT (ρ:=ρ) hp).trans hce
 rw [hce] at hok
 have hxv:(match ZK x with | some t=>g t | none=>Z8 P g x).bd n:=by
  split
  ·exact hg _
  ·exact Zz hg x
 have hsrc:∀ t,ZK x=Xa t→x = .tmp t:=fun t ht=>by cases x<;>simp [ZK] at ht;rw [ht]
 have hvd:(stE (.view (P.cellsOf e)) l (.lit 0) p .nil).den ρ=Zcd (P.cellsOf e) (l.den ρ) (.osl e' j m):=by
  show Zcd (P.cellsOf e) (l.den ρ) (Zk (p.den ρ))=_
  rw [hce]
 have bv:(stE (.view (P.cellsOf e)) l (.lit 0) p .nil).bd n:=⟨bl,trivial,bp,trivial⟩
 unfold WF at h
 rw [hT] at h
 dsimp only at h
 split at h
 ·rename_i i hi
  have hk:P.cellsOf e=i.size:=ZH hi
  split at h
  ·rename_i z hz
   split at h
   ·rename_i hh
    split at h
    ·rename_i b e2 xs f s ys hxs hys
     simp only [SV.c.injEq,SC.slice.injEq] at hys
     obtain ⟨rfl,rfl,rfl⟩:=hys
     split at h
     ·rename_i t hst
      have hx0:=hsrc t hst
      subst hx0
      simp only [ZK] at hxs
      split at h
      ·rename_i us hus
       split at h
       ·rename_i he
        obtain ⟨rfl,_⟩:=he
        obtain ⟨us',rfl,q1,q2,q3⟩:=J3 ρ htop (t:=t) hxs hus
        have bx:=hg t
        rw [hxs] at bx
        refine ⟨ρ,n,Xb,.own b e2 (.app xs (stE (.view (P.cellsOf e2)) l (.lit 0) p .nil)),_,[d],XD _,fun _ _=>rfl,⟨bx,bv⟩,J2 hus bx,h.2,?_,fun _ u hu rows rows' g1 g2=>?_⟩
        ·rw [q1]
         have hroom:((xs.den ρ).length+((stE (.view (P.cellsOf e2)) l (.lit 0) p .nil).den ρ).length)*(i.bytes+1)≤ZZ:=h.1
         rw [hvd,hk] at hroom
         have:=Zab (T':=tx) (σ:=fun d=>(g d).den ρ) ho hc hargs hts hT hi hz hh.1 (by show (g t).den ρ=_;rw [hxs];rfl) hyo (YC (ρ:=ρ) hl) (by rw [← hk];exact hok) hroom q2 hh.2.2
         show ZiY tx P o _ (.own b e2 (xs.den ρ++(stE (.view (P.cellsOf e2)) l (.lit 0) p .nil).den ρ)) _ [d]
         rw [hvd,hk]
         exact this.s
        ·have hu':(u.1,u.2.den ρ)∈us.map fun u=>(u.1,u.2.den ρ):=Xj.2 ⟨u,hu,rfl⟩
         exfalso
         exact Zgj hus u hu ρ rows' g2
       ·exact h.elim
      ·exact h.elim
     ·exact h.elim
    ·rename_i s0 f s ys hxs hys
     simp only [SV.c.injEq,SC.slice.injEq] at hys
     obtain ⟨rfl,rfl,rfl⟩:=hys
     ·rw [if_pos hk] at h
      refine VV h.2 bv ?_
      have hx:Zn P (fun d=>(g d).den ρ) x = .slice Xb s0 []:=by
       split at hxs
       ·rename_i t ht
        rw [hsrc t ht]
        simp only [Zn,hxs]
        rfl
       ·exact Zd ρ hxs
      have hroom:((([] : List (List AV))).length+((stE (.view (P.cellsOf e)) l (.lit 0) p .nil).den ρ).length)*(i.bytes+1)≤ZZ:=h.1
      rw [hvd,hk] at hroom
      have:=W5 (σ:=fun d=>(g d).den ρ) ex ho hc hargs hts hT hi hz hh.1 hx hyo (YC (ρ:=ρ) hl) (by rw [← hk];exact hok) hroom hh.2.2
      show Jg P o _ (.own ex e ((stE (.view (P.cellsOf e)) l (.lit 0) p .nil).den ρ)) _ [d]
      rw [hvd,hk]
      exact this
    ·exact h.elim
   ·exact h.elim
  ·exact h.elim
 ·exact h.elim
theorem Zh5 {aZ bs:List AK} (h:ZnY aZ) (hb:∀ b∈bs,∀ f ds gs,b≠.clo f ds gs):ZnY (aZ++bs):=by
 intro i f ds gs hi
 rcases Xx i aZ.length with hlt | hge
 ·rw [Xv hlt] at hi
  obtain ⟨h1,h2⟩:=h i f ds gs hi
  refine ⟨h1,fun k d j hk hj=>?_⟩
  obtain ⟨fr,cs,h3⟩:=h2 k d j hk hj
  exact ⟨fr,cs,by rw [Xv (Xi.1 h3).1];exact h3⟩
 ·rw [Xy hge] at hi
  exact (hb _ (Xh hi) f ds gs rfl).elim
theorem ZhC {aZ bs:List AK} (h:Znn aZ) (hb:∀ b∈bs,∀ t d q j,b≠.ref t d q j):Znn (aZ++bs):=by
 intro i t d q j hi
 rcases Xx i aZ.length with hlt | hge
 ·rw [Xv hlt] at hi
  obtain ⟨fr,cs,h3⟩:=h i t d q j hi
  exact ⟨fr,cs,by rw [Xv (Xi.1 h3).1];exact h3⟩
 ·rw [Xy hge] at hi
  exact (hb _ (Xh hi) t d q j rfl).elim
theorem Zj3 {c:Call} {f:FuncId} {cps:List KW} {as0:Option (List SAK)} (htop:∀ i,E.top≤i→g i = .dead) (ho:o.op = .call c)
  (hc:(c.callee = .value (.func f)∧cps = [])∨∃ t,c.callee = .value (.tmp t)∧((∃ ds,(g t).den ρ = .clo f ds∧cps=ds.map KW.cap)∨∃ js,(g t).den ρ = .fnc f js∧js≠[]∧cps=js.map KW.obj))
  (ha:∀ aZ,as0=Xa aZ→Kn P g ρ (c.args.toList.map KW.op++cps) aZ∧Raw aZ) (h:(Zpi P E tx g f c.args.toList as0 n k).wp P R A ρ):ZaS tx P R A ρ g o n k:=by
 unfold Zpi at h
 split at h
 case h_2=>exact h.elim
 rename_i d l hl
 split at h
 case isFalse=>exact h.elim
 rename_i hbor
 rw [U3] at hbor
 cases as0 with
 | none => exact h.elim
 | some aZ =>
  obtain ⟨ha1,ha2⟩:=ha aZ rfl
  cases hs:VG g (E.pad P f) aZ with
  | none => simp only [Ziw, hs] at h; exact h.elim
  | some saks =>
   obtain ⟨tail,a1,a2,a3,a4,a5,a6⟩:=Ze6 ρ ha1 ha2 hs
   simp only [Ziw,hs,Xo] at h
   refine Zs7 (gr:=Xc) (K:=fun x us fp n'=>k Xc x us fp n') ?_ (fun _ _ _ _=>rfl) rfl
   have hpad:Kn P g ρ (Xm (E.pad P f-saks.length) KW.pad) (Xm (E.pad P f-saks.length) SAK.pad):=by
    refine ⟨by simp,fun i x a hx ha=>?_⟩
    have h1:=Xh hx
    have h2:=Xh ha
    rw [(Wd.1 h1).2,(Wd.1 h2).2]
    trivial
   have hsto:Kn P g ρ [KW.ghost] [SAK.sto d l]:=by
    refine ⟨rfl,fun i x a hx ha=>?_⟩
    cases i with
    | zero =>
     simp only [XB,Xf] at hx ha
     subst hx
     subst ha
     exact YC (ρ:=ρ) hl
    | succ i => simp at hx
   refine Zj6 (f:=f) (cps:=cps) (rf:=[]) (tail:=tail++Xm (E.pad P f-saks.length) KW.pad++[KW.ghost]) (saks:=saks++Xm (E.pad P f-saks.length) .pad++[.sto d l]) htop ho hc ?_ ?_ ?_ ?_ ?_ (fun i x _ h=>by simp at h) (by rw [hbor];exact h)
   ·have e1:c.args.toList.map KW.op++cps++(tail++Xm (E.pad P f-saks.length) KW.pad++[KW.ghost])=(c.args.toList.map KW.op++cps++tail++Xm (E.pad P f-saks.length) KW.pad)++[KW.ghost]:=by simp only [Xu]
    rw [e1]
    exact (a1.append hpad).append hsto
   ·intro x hx
    rcases Xt.1 hx with hx | hx
    ·rcases Xt.1 hx with hx | hx
     ·exact a2 x hx
     ·exact .inl (Wd.1 hx).2
    ·rw [XC] at hx
     exact .inr hx
   ·have hz:((((Xm (E.pad P f-saks.length) SAK.pad).map (SAK.den ρ)).map AK.av).countP AV.isG)=0:=KG ρ _ fun a ha=>by
     rw [(Wd.1 ha).2];rfl
    have h1:((([SAK.sto d l].map (SAK.den ρ)).map AK.av).countP AV.isG)=1:=rfl
    rw [XL,XL,XL,XL,U2,U2,hz,h1,XA,XA]
    simp only [XA,List.length_replicate,UQ,Xq] at a3 ⊢
    omega
   ·rw [XL,XL]
    refine Zh5 (Zh5 a4 fun b hb f ds gs=>?_) fun b hb f ds gs=>?_
    ·obtain ⟨a,ha,rfl⟩:=Xj.1 hb
     rw [(Wd.1 ha).2]
     intro h;cases h
    ·obtain ⟨a,ha,rfl⟩:=Xj.1 hb
     rw [XC] at ha
     subst ha
     intro h;cases h
   ·rw [XL,XL]
    refine ZhC (ZhC a5 fun b hb f ds gs j=>?_) fun b hb f ds gs j=>?_
    ·obtain ⟨a,ha,rfl⟩:=Xj.1 hb
     rw [(Wd.1 ha).2]
     intro h;cases h
    ·obtain ⟨a,ha,rfl⟩:=Xj.1 hb
     rw [XC] at ha
     subst ha
     intro h;cases h
theorem Zof {p:LE} (h:(ptE .pnn p).den ρ≠[]):∃ j off,Zk (p.den ρ) = .oref (j+1) off:=by
 have h':okL (match Zk (p.den ρ) with | .oref (_+1) _=>Xb | _=>Xc)≠[]:=h
 have:=Za7 h'
 split at this
 ·rename_i j off hc;exact ⟨j,off,hc⟩
 ·cases this
theorem ZnX {p:LE} {j off:Nat} (h:Zk (p.den ρ) = .oref j off):(((ptE .pnn p).den ρ).length:Int)=if j=0 then 0 else 1:=by
 show ((okL (match Zk (p.den ρ) with | .oref (_+1) _=>Xb | _=>Xc)).length:Int)=_
 rw [h]
 cases j with
 | zero => rfl
 | succ j => rfl
theorem Zoj {p:LE} (h:(ptE .pisr p).den ρ≠[]):∃ j off,Zk (p.den ρ) = .oref j off∧(j=0→off=0):=by
 have h':okL (match Zk (p.den ρ) with | .oref 0 0=>Xb | .oref (_+1) _=>Xb | _=>Xc)≠[]:=h
 have:=Za7 h'
 split at this
 ·rename_i hc;exact ⟨0,0,hc,fun _=>rfl⟩
 ·rename_i j off hc;exact ⟨j+1,off,hc,fun h=>by omega⟩
 ·cases this
theorem ZlY {p:LE} (h:(ptE .pis0 p).den ρ≠[]):∃ j,Zk (p.den ρ) = .oref j 0:=by
 have h':okL (match Zk (p.den ρ) with | .oref _ 0=>Xb | _=>Xc)≠[]:=h
 have:=Za7 h'
 split at this
 ·rename_i j hc;exact ⟨j,hc⟩
 ·cases this
theorem ZfZ {p:LE} (h:(ptE .pisl p).den ρ≠[]):∃ e j m,Zk (p.den ρ) = .osl e j m:=by
 have h':okL (match Zk (p.den ρ) with | .osl _ _ _=>Xb | _=>Xc)≠[]:=h
 have:=Za7 h'
 split at this
 ·rename_i e j m hc;exact ⟨e,j,m,hc⟩
 ·cases this
theorem ZrQ {p:LE} {f:FuncId} {m:Nat} (h:(ptE (.pisf f m) p).den ρ≠[]):∃ js,Zk (p.den ρ) = .fnc f js∧js.length=m:=by
 have h':okL (match Zk (p.den ρ) with | .fnc g' js=>decide (g'=f∧js.length=m) | _=>Xc)≠[]:=h
 have:=Za7 h'
 split at this
 ·rename_i g' js hc
  have:=of_decide_eq_true this
  obtain ⟨rfl,h2⟩:=this
  exact ⟨js,hc,h2⟩
 ·cases this
theorem ZfM {l p:LE} (h:(stE .mchk l (.lit 0) p .nil).den ρ≠[]):∃ j,Zk (p.den ρ) = .omap (j+1)∧Yu (Z9 (l.den ρ) (j+1))=Xb:=by
 have h':okL (Zso (l.den ρ) (Zk (p.den ρ)))≠[]:=h
 have:=Za7 h'
 unfold Zso at this
 split at this
 ·rename_i j hc;exact ⟨j,hc,this⟩
 ·cases this
theorem Zko:∀ (xs:List Operand) (cs:List SC),ZlM P g xs=Xa cs→cs.length=xs.length∧∀ (i:Nat) (x:Operand) (c:SC),xs[i]? = Xa x→cs[i]? = Xa c→∃ p,c = .cel p∧Zbr P g x=Xa p
 | [], cs, h => by simp only [ZlM, Xf] at h; subst h; exact ⟨rfl, by simp⟩
 | x :: xs, cs, h => by
  simp only [ZlM] at h
  split at h
  ·rename_i p ps h1 h2
   simp only [Xf] at h
   subst h
   obtain ⟨k1,k2⟩:=Zko xs ps h2
   refine ⟨by simp [k1],fun i y c hy hc=>?_⟩
   cases i with
   | zero =>
    simp only [XB,Xf] at hy hc
    subst hy
    subst hc
    exact ⟨p,rfl,h1⟩
   | succ i => exact k2 i y c (by simpa using hy) (by simpa using hc)
  ·cases h
theorem ZbB {q:Zr2} {t:STree} : ∀ (cs:List SC),(ZfL q cs t).wp P R A ρ→t.wp P R A ρ∧∀ c∈cs,∃ p,c = .cel p∧(ptE q p).den ρ≠[]
 | [], h => ⟨h, by simp⟩
 | .cel p :: cs, h => by
  obtain ⟨h1,h2⟩:=h
  obtain ⟨k1,k2⟩:=ZbB cs h2
  refine ⟨k1,fun c hc=>?_⟩
  rcases Xl.1 hc with rfl | hc
  ·exact ⟨p,rfl,h1⟩
  ·exact k2 c hc
 | .int _ _ :: _, h => h.elim
 | .bool _ :: _, h => h.elim
 | .str _ :: _, h => h.elim
 | .slice _ _ _ :: _, h => h.elim
theorem ZeJ {p:LE} {f:FuncId} {js:List Nat} (hp:Zk (p.den ρ) = .fnc f js):∀ (m i:Nat),i+m=js.length→Kn P g ρ ((js.drop i).map KW.obj) (Zau p i m)
 | 0, i, h => by
  rw [Ut (by omega)]
  exact ⟨rfl,by simp⟩
 | m + 1, i, h => by
  have hlt:i < js.length:=by omega
  rw [List.drop_eq_getElem_cons hlt]
  obtain ⟨k1,k2⟩:=ZeJ hp m (i+1) (by omega)
  refine ⟨by
   simp only [Xg,Zau,XJ]
   exact congrArg (· + 1) k1,fun q x a hx ha=>?_⟩
  cases q with
  | zero =>
   simp only [Xg,Zau,XB,Xf] at hx ha
   subst hx
   subst ha
   show Zk [[AV.oref (ZtF (Zk (p.den ρ)) i) 0]] = .oref js[i] 0
   rw [hp]
   simp only [ZtF,Xp hlt,UR]
   rfl
  | succ q => exact k2 q x a (by simpa only [Xg, X5] using hx) (by simpa only [Zau, X5] using ha)
theorem Zdf {p:LE} : ∀ (m i:Nat),Raw (Zau p i m)
 | 0, _ => by intro a ha; cases ha
 | m + 1, i => by
  intro a ha
  rcases Xl.1 ha with rfl | ha
  ·exact ⟨rfl,fun _ _ _ h=>by cases h⟩
  ·exact Zdf m (i+1) a ha
theorem map_some {α β:Type} {f:α→β} {x:Option α} {y:β} (h:x.map f=Xa y):∃ a,x=Xa a∧f a=y:=by
 cases x with
 | none => cases h
 | some a => exact ⟨a, rfl, by simpa using h⟩
theorem Zn1 {T:TypeId} {m kx v:Operand} {p:LE} (hg:∀ d,(g d).bd n) (ho:o.op = .insert T m kx v∨o.op = .mapUpdate T m kx v) (hp:Zbr P g m=Xa p)
  (h:(match ZfS E g,Z8 P g kx,Zbr P g v with
   | some (d, l), .c (.int .i64 ke), Xa q => if ZdJ P T = Xb then STree.req (.cons (stE .mchk l (.lit 0) p .nil)) (.req (.cons (ptE .pis0 q)) (k Xc .dead [(d, .store (stE .mput l ke p (.cons (.cel q) .nil)))] [d] n)) else .stuck 328
   | _, _, _ => .stuck 329).wp P R A ρ) : ZaS tx P R A ρ g o n k := by
 have bp:=Ku hg hp
 split at h
 ·rename_i d l ke q hl hk hq
  split at h
  ·rename_i hT
   obtain ⟨r1,r2,h⟩:=h
   have bl:=Wu hg hl
   have bk:=Zz (P:=P) hg kx
   rw [hk] at bk
   obtain ⟨j,e1,e2⟩:=ZfM r1
   obtain ⟨jq,e3⟩:=ZlY r2
   refine ZaG h trivial (us1 ⟨bl,bk,bp,Ku hg hq,trivial⟩) ?_ (fun h=>by cases h)
   have:=Zh3 (σ:=fun d=>(g d).den ρ) ho hT ((JT (ρ:=ρ) hp).trans e1) (Zd ρ hk) ((JT (ρ:=ρ) hq).trans e3) (YC (ρ:=ρ) hl) e2
   simp only [Xg,Xz]
   show Jg P o _ .dead [(d,.store (ZkN (l.den ρ) (Zk (p.den ρ)) fun kvs=>YF kvs (ke.den ρ) (Zk (q.den ρ))))] [d]
   rw [e1,e3]
   exact this
  ·exact h.elim
 ·exact h.elim
theorem Zjh {t:STree} (hps:EnvSound P E) (hg:∀ d,(g d).bd n) (htop:∀ i,E.top≤i→g i = .dead) (hs:ZoY P E tx g o n k=Xa t) (h:t.wp P R A ρ):ZaS tx P R A ρ g o n k:=by
 unfold ZoY at hs
 split at hs
 ·cases hs
 split at hs
 ·-- load
  rename_i T a ho
  obtain ⟨p,hp,rfl⟩:=map_some hs
  exact ZpS hg ho hp h
 ·-- store
  rename_i T a x ho
  obtain ⟨p,hp,rfl⟩:=map_some hs
  exact Zl6 hg htop ho hp h
 ·-- nilCheck
  rename_i x ho
  obtain ⟨p,hp,rfl⟩:=map_some hs
  obtain ⟨r1,h⟩:=h
  obtain ⟨j,off,e⟩:=Zof r1
  refine VV h (Ku hg hp) ?_
  show Jg P o _ (Zk (p.den ρ)) _ _
  rw [e]
  exact Zbc ho ((JT (ρ:=ρ) hp).trans e)
 ·-- fieldAddr
  rename_i T x f ho
  obtain ⟨p,hp,rfl⟩:=map_some hs
  split at h
  ·rename_i off hf
   obtain ⟨r1,h⟩:=h
   obtain ⟨j,q,e⟩:=Zof r1
   refine VV h ⟨Ku hg hp,trivial,trivial,trivial⟩ ?_
   show Jg P o _ (.oref (pJ (Zk (p.den ρ))) (pO (Zk (p.den ρ))+off)) _ _
   rw [e]
   exact Zd1 ho hf ((JT (ρ:=ρ) hp).trans e)
  ·exact h.elim
 ·-- indexAddr
  rename_i T x i ho
  obtain ⟨p,hp,rfl⟩:=map_some hs
  split at h
  ·rename_i e kd ix hT hi
   split at h
   ·rename_i h0
    obtain ⟨r1,r2,h⟩:=h
    have r1':(0:Int)≤ix.den ρ:=r1
    have r2':ix.den ρ < (((ptE .plen p).den ρ).length:Int):=r2
    have bi:=Zz (P:=P) hg i
    rw [hi] at bi
    obtain ⟨e',j,m,hce⟩:∃ e' j m,Zk (p.den ρ) = .osl e' j m:=by
     rcases YD (p.den ρ) with ⟨a,b,hc⟩ | hc | ⟨a,hc⟩ | ⟨a,b,hc⟩
     ·have:((ptE .plen p).den ρ).length=0:=by
       show (match Zk (p.den ρ) with | .osl _ _ n=>Xm n [] | _=>[]).length=0
       rw [hc];rfl
      omega
     ·exact hc
     ·have:((ptE .plen p).den ρ).length=0:=by
       show (match Zk (p.den ρ) with | .osl _ _ n=>Xm n [] | _=>[]).length=0
       rw [hc];rfl
      omega
     ·have:((ptE .plen p).den ρ).length=0:=by
       show (match Zk (p.den ρ) with | .osl _ _ n=>Xm n [] | _=>[]).length=0
       rw [hc];rfl
      omega
    rw [WH hce] at r2'
    refine VV h ⟨Ku hg hp,bi,trivial,trivial⟩ ?_
    show Jg P o _ (.oref (pJ (Zk (p.den ρ))) ((ix.den ρ).toNat*P.cellsOf e)) _ _
    rw [hce]
    exact Zej ho hT (by omega) ((JT (ρ:=ρ) hp).trans hce) (Zd ρ hi) r1' (by omega)
   ·exact h.elim
  ·exact h.elim
 ·-- slice
  rename_i T x lo hi mx ho
  obtain ⟨p,hp,rfl⟩:=map_some hs
  split at h
  ·rename_i e k1 k2 hT hh hm
   split at h
   ·rename_i h0
    obtain ⟨r1,h⟩:=h
    obtain ⟨y,rfl,hy⟩:=map_some hh
    obtain ⟨z,rfl,hz⟩:=map_some hm
    obtain ⟨e',j,m,hce⟩:=ZfZ r1
    refine VV h trivial ?_
    exact Zez ho hT (by omega) ((JT (ρ:=ρ) hp).trans hce) (Zd ρ hy) (Zd ρ hz)
   ·exact h.elim
  ·rename_i e k1 hx hT hh hm
   split at h
   ·rename_i h0
    obtain ⟨r1,r2,r3,h⟩:=h
    obtain ⟨y,rfl,hy⟩:=map_some hh
    obtain ⟨e',j,m,hce⟩:=ZfZ r1
    have hmx:mx=Xe:=by cases mx with | none=>rfl | some _=>cases hm
    subst hmx
    have r2':(0:Int)≤hx.den ρ:=r2
    have r3':hx.den ρ≤(((ptE .plen p).den ρ).length:Int):=r3
    rw [WH hce] at r3'
    have bi:=Zz (P:=P) hg y
    rw [hy] at bi
    refine VV h ⟨Ku hg hp,bi,trivial,trivial⟩ ?_
    show Jg P o _ (.osl (pE (Zk (p.den ρ))) (pJ (Zk (p.den ρ))) (hx.den ρ).toNat) _ _
    rw [hce]
    have hyv:Zn P (fun d=>(g d).den ρ) y = .val (.int k1 ((hx.den ρ).toNat:Int)):=by
     rw [U4 r2']
     exact Zd ρ hy
    exact ZgQ ho hT (by omega) ((JT (ρ:=ρ) hp).trans hce) hyv (by omega)
   ·exact h.elim
  ·exact h.elim
 ·-- box
  rename_i T x ho
  split at hs
  ·simp only [Xf] at hs
   subst hs
   exact Zk9 hg ho h
  ·cases hs
 ·-- alloc
  rename_i T ho
  split at hs
  ·simp only [Xf] at hs
   subst hs
   exact ZhV hg ho h
  ·cases hs
 ·-- buildSlice
  rename_i T len parts ho
  split at hs
  ·simp only [Xf] at hs
   subst hs
   exact ZrB hg ho h
  ·cases hs
 ·-- makeMap
  rename_i T r ho
  split at hs
  ·rename_i hT
   simp only [Xf] at hs
   subst hs
   split at h
   ·rename_i d l hl
    have bl:=Wu hg hl
    refine ZaG h ⟨bl,trivial,trivial,trivial⟩ (us1 ⟨bl,trivial,trivial,trivial⟩) ?_ (fun _ u hu rows rows' h1 h2=>?_)
    ·exact ZfH (σ:=fun d=>(g d).den ρ) ho (YC (ρ:=ρ) hl)
    ·rw [XC] at hu
     subst hu
     rw [show (g (d,SV.store (ptE .newm l)).1) = .store l from Zac hl] at h1
     have h1':AV.store (l.den ρ) = .store rows:=h1
     have h2':AV.store (l.den ρ++[ZX []]) = .store rows':=h2
     cases h1'
     cases h2'
     exact List.prefix_append _ _
   ·exact h.elim
  ·cases hs
 ·-- insert
  rename_i T m kx v ho
  obtain ⟨p,hp,rfl⟩:=map_some hs
  exact Zn1 hg (.inl ho) hp h
 ·rename_i T m kx v ho
  obtain ⟨p,hp,rfl⟩:=map_some hs
  exact Zn1 hg (.inr ho) hp h
 ·-- lookup
  rename_i T m kx ok ho
  obtain ⟨p,hp,rfl⟩:=map_some hs
  split at h
  ·rename_i d l ke hl hk
   split at h
   ·rename_i hT
    obtain ⟨r1,h⟩:=h
    have bl:=Wu hg hl
    have bk:=Zz (P:=P) hg kx
    rw [hk] at bk
    obtain ⟨j,e1,e2⟩:=ZfM r1
    refine VV h ⟨bl,bk,Ku hg hp,trivial⟩ ?_
    show Jg P o _ (Zk (Zn9 (l.den ρ) (Zk (p.den ρ)) (ke.den ρ))) _ _
    rw [e1]
    exact ZhI (σ:=fun d=>(g d).den ρ) ho hT ((JT (ρ:=ρ) hp).trans e1) (Zd ρ hk) (YC (ρ:=ρ) hl) e2
   ·exact h.elim
  ·exact h.elim
 ·-- binOp
  rename_i op T x y T' ho
  split at hs
  ·rename_i p e hp hT hy
   have hyk:y = .const (.pointer Xe):=by
    unfold Zqq at hy
    split at hy
    ·rfl
    ·cases hy
   subst hyk
   split at hs
   ·simp only [Xf] at hs
    subst hs
    obtain ⟨r1,h⟩:=h
    obtain ⟨j,off,e1,e2⟩:=Zoj r1
    refine VV h ⟨⟨Ku hg hp,trivial,trivial,trivial⟩,trivial⟩ ?_
    have:=Zb5 (σ:=fun d=>(g d).den ρ) ho (.inl rfl) hT e2 ((JT (ρ:=ρ) hp).trans e1)
    have hv:(SV.c (.bool (.cmp .eql (.len (ptE .pnn p)) (.lit 0)))).den ρ = .val (.bool (decide (j=0))):=by
     show AV.val (.bool (cop .eql (((ptE .pnn p).den ρ).length:Int) 0))=_
     rw [ZnX e1]
     cases j<;>rfl
    rw [hv]
    exact this
   ·simp only [Xf] at hs
    subst hs
    obtain ⟨r1,h⟩:=h
    obtain ⟨j,off,e1,e2⟩:=Zoj r1
    refine VV h ⟨⟨Ku hg hp,trivial,trivial,trivial⟩,trivial⟩ ?_
    have:=Zb5 (σ:=fun d=>(g d).den ρ) ho (.inr rfl) hT e2 ((JT (ρ:=ρ) hp).trans e1)
    have hv:(SV.c (.bool (.cmp .neq (.len (ptE .pnn p)) (.lit 0)))).den ρ = .val (.bool (decide (j≠0))):=by
     show AV.val (.bool (cop .neq (((ptE .pnn p).den ρ).length:Int) 0))=_
     rw [ZnX e1]
     cases j<;>rfl
    rw [hv]
    exact this
   ·cases hs
  ·cases hs
 ·-- makeFunc
  rename_i fn first captured ho
  split at hs
  ·rename_i f c cs hf hcs
   simp only [Xf] at hs
   subst hs
   obtain ⟨h,q1⟩:=ZbB _ h
   obtain ⟨h,q2⟩:=ZbB _ h
   obtain ⟨k1,k2⟩:=Zko _ _ hcs
   have bc:∀ x∈c::cs,x.bd n:=fun x hx=>by
    obtain ⟨i,hi⟩:=XK.1 hx
    have hlt:i < captured.toList.length:=by rw [← k1];exact (Xi.1 hi).1
    obtain ⟨p,rfl,hp⟩:=k2 i _ x (Xp hlt) hi
    exact Ku hg hp
   refine VV h ⟨trivial,trivial,trivial,Ka _ bc⟩ ?_
   have:=ZgP (σ:=fun d=>(g d).den ρ) (js:=((c::cs).map (SC.den ρ)).map pJ) ho hf (by rw [Xq,Xq,k1]) (fun i x j hx hj=>by
    rw [Xk,Xk] at hj
    cases hci:(c::cs)[i]? with
    | none => rw [hci] at hj; cases hj
    | some c0 =>
     rw [hci] at hj
     simp only [Xo,Xf] at hj
     obtain ⟨p,rfl,hp⟩:=k2 i x c0 hx hci
     obtain ⟨p1,hp1,w1⟩:=q1 _ (Xh hci)
     obtain ⟨p2,hp2,w2⟩:=q2 _ (Xh hci)
     cases hp1
     cases hp2
     obtain ⟨j1,e1⟩:=ZlY w1
     obtain ⟨j2,off2,e2⟩:=Zof w2
     have hcd:(SC.cel p).den ρ = .oref j1 0:=e1
     rw [hcd] at hj
     have hj:j1=j:=hj
     subst hj
     rw [e1] at e2
     cases e2
     exact ⟨UD _,(JT (ρ:=ρ) hp).trans e1⟩)
   show Jg P o _ (.fnc f (((Zaj (c::cs)).den ρ).map pJ)) _ _
   rw [Yh]
   exact this
  ·cases hs
 ·-- call
  rename_i c ho
  split at hs
  ·rename_i hc
   split at hs
   ·rename_i x T hargs hts
    obtain ⟨p,hp,rfl⟩:=map_some hs
    split at h
    ·rename_i _ e hT
     obtain ⟨r1,h⟩:=h
     obtain ⟨e',j,m,hce⟩:=ZfZ r1
     refine VV h ⟨Ku hg hp,trivial,trivial,trivial⟩ ?_
     show Jg P o _ (.val (.int .i64 (((ptE .plen p).den ρ).length:Int))) _ _
     rw [WH hce]
     exact Zih ho hc hargs hts hT ((JT (ρ:=ρ) hp).trans hce)
    ·rename_i kt vt d l hT hl
     obtain ⟨r1,h⟩:=h
     obtain ⟨j,e1,e2⟩:=ZfM r1
     refine VV h ⟨Wu hg hl,trivial,Ku hg hp,trivial⟩ ?_
     show Jg P o _ (.val (.int .i64 ((ZrZ (l.den ρ) (Zk (p.den ρ))).length:Int))) _ _
     rw [e1]
     exact Znp (σ:=fun d=>(g d).den ρ) ho hc hargs hts hT ((JT (ρ:=ρ) hp).trans e1) (YC (ρ:=ρ) hl) e2
    ·exact h.elim
   ·cases hs
  ·rename_i hc
   split at hs
   ·rename_i x y T T' hargs hts
    split at hs
    ·rename_i p hp _
     simp only [Xf] at hs
     subst hs
     split at h
     ·rename_i hTT
      subst hTT
      exact ZqE hg ho hc hargs hts hp h
     ·exact h.elim
    ·rename_i q _ hq
     simp only [Xf] at hs
     subst hs
     split at h
     ·rename_i hTT
      subst hTT
      exact ZnK hg htop ho hc hargs hts hq h
     ·exact h.elim
    ·simp only [Xf] at hs
     subst hs
     exact h.elim
    ·cases hs
   ·cases hs
  ·rename_i hc
   split at hs
   ·rename_i m kx T ts hargs hts
    obtain ⟨p,hp,rfl⟩:=map_some hs
    split at h
    ·rename_i d l ke hl hk
     split at h
     ·rename_i hT
      obtain ⟨r1,h⟩:=h
      have bl:=Wu hg hl
      have bk:=Zz (P:=P) hg kx
      rw [hk] at bk
      obtain ⟨j,e1,e2⟩:=ZfM r1
      refine ZaG h trivial (us1 ⟨bl,bk,Ku hg hp,trivial⟩) ?_ (fun h=>by cases h)
      have:=Zhr (σ:=fun d=>(g d).den ρ) (T':=0) ho hc hargs hts hT ((JT (ρ:=ρ) hp).trans e1) (Zd ρ hk) (YC (ρ:=ρ) hl) e2
      simp only [Xg,Xz]
      show Jg P o _ .dead [(d,.store (ZkN (l.den ρ) (Zk (p.den ρ)) fun kvs=>Za9 kvs (ke.den ρ)))] [d]
      rw [e1]
      exact this
     ·exact h.elim
    ·exact h.elim
   ·cases hs
  ·rename_i f hc
   split at hs
   ·simp only [Xf] at hs
    subst hs
    refine Zj3 htop ho (.inl ⟨hc,rfl⟩) (fun aZ has=>?_) h
    obtain ⟨k1,k2,_⟩:=Vs ρ _ _ _ has
    exact ⟨by rw [Wc];exact k1,k2⟩
   ·cases hs
  ·rename_i t0 hc
   split at hs
   ·rename_i f m p _ hgt
    simp only [Xf] at hs
    subst hs
    obtain ⟨r1,h⟩:=h
    obtain ⟨js,e1,e2⟩:=ZrQ r1
    refine Zj3 (cps:=js.map KW.obj) htop ho (.inr ⟨t0,hc,.inr ⟨js,by rw [hgt];exact e1,fun e=>(by rw [e] at e2;cases e2),rfl⟩⟩) (fun aZ has=>?_) h
    obtain ⟨as1,h1,rfl⟩:=map_some has
    obtain ⟨k1,k2,_⟩:=Vs ρ _ _ _ h1
    refine ⟨k1.append (by have:=ZeJ (P:=P) (g:=g) e1 (m+1) 0 (by omega);rw [UH] at this;exact this),fun a ha=>?_⟩
    rcases Xt.1 ha with ha | ha
    ·exact k2 a ha
    ·exact Zdf _ _ a ha
   ·cases hs
  ·cases hs
 ·cases hs
end
end Go.AM
