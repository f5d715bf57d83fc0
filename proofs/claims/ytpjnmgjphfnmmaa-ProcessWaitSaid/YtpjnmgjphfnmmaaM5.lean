import Derived.Test.YtpjnmgjphfnmmaaM4
import Derived.Test.YtpjnmgjphfnmmaaM3
import Derived.Orders
import Derived.LoopN
import Derived.Scope
import Derived.Laws.Cover3
open Option renaming some→Xa,none→Xe,map_some→Xo,bind_some→XM,map_none→Tf,isNone_iff_eq_none→Tj
open Bool renaming true→Xb,false→Xc,and_eq_true→Xs,false_eq_true→Uh,or_eq_true→UA,not_eq_true'→UG
open Option.some renaming injEq→Xf,inj→Xr
open List renaming map_cons→Xg,mem_of_getElem?→Xh,getElem?_eq_some_iff→Xi,mem_map→Xj,getElem?_map→Xk,mem_cons→Xl,replicate→Xm,getElem?_eq_getElem→Xp,length_map→Xq,mem_append→Xt,append_assoc→Xu,getElem?_append_left→Xv,getElem?_take→Xw,getElem?_append_right→Xy,map_nil→Xz,length_append→XA,getElem?_cons_zero→XB,mem_singleton→XC,all_eq_true→XE,getElem?_drop→XH,length_cons→XJ,mem_iff_getElem?→XK,map_append→XL,mem_of_mem_take→XO,cons_append→XP,length_take→XQ,nodup_cons→XS,mem_of_mem_drop→XW,nil_append→XX,eq_nil_of_length_eq_zero→XY,getElem?_cons_succ→X5,map_map→X6,append_nil→Wc,mem_cons_of_mem→We,range→Wf,getElem?_set_ne→Wg,length_nil→Wi,getElem_mem→Wl,map_toArray→Wn,mem_or_eq_of_mem_set→Wo,getElem?_eq_none→Uc,length_drop→Ue,getElem?_set→Ug,any_eq_true→Uk,take_of_length_le→Um,all_cons→Ur,length_set→Ux,countP_cons→Uz,map_set→UB,drop_zero→UH,foldl_cons→UM,isEmpty_iff→U3,getElem?_toArray→Tc,contains_iff_mem→To,mem_zipIdx_iff_getElem?→Tz
open Prod.mk renaming injEq→Xn
open Nat renaming lt_or_ge→Xx,le_refl→XD,zero_add→XF,lt_of_lt_of_le→XI,mul_le_mul_right→XN,le_add_right→XR,le_trans→XV,succ_mul→X9,add_mul→Wb,zero_le→Wh,lt_succ_self→Wp,add_zero→Wq,mod_two_eq_zero_or_one→Tq
open Array renaming toList_inj→XG,getElem?_eq_getElem→XZ,getD→X7,getElem?_eq_some_iff→Wa,getElem?_toList→Ud,toArray_toList→Ui,length_toList→Uj,size_setIfInBounds→U6
open Classical renaming axiomOfChoice→Td
set_option linter.unusedVariables false
set_option linter.unusedSimpArgs false
set_option linter.defProp false
namespace Go.AM
theorem Tr.get_set:∀ (k:Nat) (t:Tr) (d i:Nat) (x:SV),d < 2^k→i < 2^k→(Tr.set k t d x).get i=if i=d then x else t.get i
 | 0, t, d, i, x, hd, hi => by
  have h1:d=0:=by simpa using hd
  have h2:i=0:=by simpa using hi
  subst h1
  subst h2
  rfl
 | k + 1, .node l r, d, i, x, hd, hi => by
  have hd2:d / 2 < 2^k:=by rw [Nat.pow_succ] at hd;omega
  have hi2:i / 2 < 2^k:=by rw [Nat.pow_succ] at hi;omega
  have ihl:=Tr.get_set k l (d / 2) (i / 2) x hd2 hi2
  have ihr:=Tr.get_set k r (d / 2) (i / 2) x hd2 hi2
  rcases Tq d with h | h<;>rcases Tq i with h' | h'
  ·simp only [Tr.set,h,Tr.get,h',ihl]
   by_cases he:i=d
   ·simp [he]
   ·rw [if_neg he,if_neg (by omega)]
  ·simp only [Tr.set,h,Tr.get,h']
   rw [if_neg (by omega)]
  ·simp only [Tr.set,h,Tr.get,h']
   rw [if_neg (by omega)]
  ·simp only [Tr.set,h,Tr.get,h',ihr]
   by_cases he:i=d
   ·simp [he]
   ·rw [if_neg he,if_neg (by omega)]
 | k + 1, .leaf y, d, i, x, hd, hi => by
  have hd2:d / 2 < 2^k:=by rw [Nat.pow_succ] at hd;omega
  have hi2:i / 2 < 2^k:=by rw [Nat.pow_succ] at hi;omega
  have ih:=Tr.get_set k (.leaf y) (d / 2) (i / 2) x hd2 hi2
  rcases Tq d with h | h<;>rcases Tq i with h' | h'
  ·simp only [Tr.set,h,Tr.get,h',ih]
   by_cases he:i=d
   ·simp [he]
   ·rw [if_neg he,if_neg (by omega)]
  ·simp only [Tr.set,h,Tr.get,h']
   rw [if_neg (by omega)]
  ·simp only [Tr.set,h,Tr.get,h']
   rw [if_neg (by omega)]
  ·simp only [Tr.set,h,Tr.get,h',ih]
   by_cases he:i=d
   ·simp [he]
   ·rw [if_neg he,if_neg (by omega)]
def ZE (E:Env) (s:Tr) (ρ:Nat→V):Nat→AV:=fun d=>(gE E s d).den ρ
def YY (E:Env) (s:Tr) (n:Nat):Prop:=∀ d,(gE E s d).bd n
section
variable {P:Program} {E:Env} {R:AV→List AV→Prop} {A:Nat→List V→Prop}
theorem Jt {d:Nat} (h:d < E.nt):d < E.top:=XI h (XR _ _)
theorem Zqk (hnt:E.top≤1024) {d:Nat} (hd:d < E.top) (s:Tr) (x:SV) (i:Nat):gE E (s.set depth d x) i=if i=d then x else gE E s i:=by
 unfold gE
 by_cases hi:i < E.top
 ·rw [if_pos hi,if_pos hi]
  exact Tr.get_set 10 s d i x (by omega) (by omega)
 ·rw [if_neg hi,if_neg hi,if_neg (by omega)]
theorem JX (hnt:E.top≤1024) {d:Nat} (hd:d < E.top) (s:Tr) (x:SV) (ρ:Nat→V):ZE E (s.set depth d x) ρ=upd (ZE E s ρ) d (x.den ρ):=by
 funext i
 simp only [ZE,Zqk hnt hd,upd]
 split<;>rfl
theorem JI (hnt:E.top≤1024) {d n:Nat} (hd:d < E.top) {s:Tr} {x:SV} (hs:YY E s n) (hx:x.bd n):YY E (s.set depth d x) n:=by
 intro i
 rw [Zqk hnt hd]
 split
 ·exact hx
 ·exact hs i
def YL (E:Env) (us:Ups):Prop:=us.all (fun u=>decide (u.1 < E.top))=Xb
theorem Jk (hnt:E.top≤1024) (ρ:Nat→V):∀ (us:Ups) (s:Tr),YL E us→ZE E (Z0 us s) ρ=Jm (ZE E s ρ) (us.map fun u=>(u.1,u.2.den ρ))
 | [], _, _ => rfl
 | (d, x) :: us, s, h => by
  simp only [YL,Ur,Xs,decide_eq_true_eq] at h
  simp only [Z0,Xg,Jm]
  rw [Jk hnt ρ us _ h.2,JX hnt h.1]
theorem Jf (hnt:E.top≤1024) {n:Nat} : ∀ (us:Ups) (s:Tr),YL E us→YY E s n→(∀ u∈us,u.2.bd n)→YY E (Z0 us s) n
 | [], _, _, hs, _ => hs
 | (d, x) :: us, s, h, hs, hu => by
  simp only [YL,Ur,Xs,decide_eq_true_eq] at h
  exact Jf hnt us _ h.2 (JI hnt h.1 hs (hu (d,x) (by simp))) fun u h'=>hu u (by simp [h'])
theorem Zdj {s:Tr} {n n':Nat} (h:YY E s n) (hn:n≤n'):YY E s n':=fun d=>SV.bd_mono hn _ (h d)
theorem ZbW {s:Tr} {n:Nat} {ρ ρ':Nat→V} (h:YY E s n) (hρ:∀ m,m < n→ρ' m=ρ m):ZE E s ρ'=ZE E s ρ:=by
 funext d
 exact SV.den_congr hρ _ (h d)
theorem Ze8 {x:SV} (ρ:Nat→V) (h:∀ cs,x≠.box cs):∀ cs,x.den ρ≠.box cs:=by
 intro cs he
 cases x with
 | box ds => exact h ds rfl
 | c y => cases y <;> first | cases he | exact (Z6 he rfl).elim
 | _ => cases he
theorem Zf9 {x:SV} (ρ:Nat→V) (h:∀ cs,x≠.gbox cs) (h':x.isSto=Xc):(x.den ρ).isG=Xc:=by
 cases x with
 | gbox cs => exact (h cs rfl).elim
 | store l => cases h'
 | c y => exact KC ρ y
 | _ => rfl
theorem Ko (x:SV) (ρ:Nat→V):(x.den ρ).isSto=x.isSto:=by
 cases x with
 | c y => exact VO (KC ρ y)
 | _ => rfl
theorem Zla {a b:AV} (ga:a.isG=Xc) (gb:b.isG=Xc) (ha:Kz a) (hb:(∀ cs,b≠.box cs)∨a = .dead):Zaf a b=Xb:=by
 unfold Zaf
 split
 ·cases ga
 ·cases gb
 ·cases ga
 ·cases gb
 ·exact (ha.1 _ rfl).elim
 ·exact (ha.2.1 _ _ rfl).elim
 ·rfl
 ·rename_i h1 h2
  rcases hb with hb | hb
  ·exact (hb _ rfl).elim
  ·exact (h2 hb).elim
 ·rfl
theorem Zm8 {x:SV} (ρ:Nat→V) (h:∀ cs,x≠.box cs) (h':∀ e l,x≠.own Xb e l) (h3:∀ cs,x≠.gbox cs) (h4:x.isSto=Xc):Kz (x.den ρ):=by
 refine ⟨Ze8 ρ h,fun e xs he=>?_,fun cs he=>by have:=Zf9 ρ h3 h4;rw [he] at this;cases this⟩
 cases x with
 | own b e' l =>
  cases b with
  | true => exact h' _ _ rfl
  | false => cases he
 | c y => cases y <;> first | cases he | exact (Z6 he rfl).elim
 | _ => cases he
theorem ZbD {a b:SV} (h:W7 a b=Xb):a.isSto=Xc∧b.isSto=Xc:=by
 cases a<;>cases b<;>first | exact ⟨rfl,rfl⟩ | cases h
theorem JP {a b:SV} (ρ:Nat→V) (h:W7 a b=Xb):Zaf (a.den ρ) (b.den ρ)=Xb:=by
 have h1:∀ cs,a≠.box cs:=by
  rintro cs rfl
  cases b<;>first | cases h | exact (Z6 h rfl).elim
 have h2:∀ e l,a≠.own Xb e l:=by
  rintro e l rfl
  cases b<;>first | cases h | exact (Z6 h rfl).elim
 have h3:∀ cs,a≠.gbox cs:=by
  rintro cs rfl
  cases b<;>first | cases h | exact (Z6 h rfl).elim
 have h4:∀ cs,b≠.gbox cs:=by
  rintro cs rfl
  cases a with
  | own x e l => cases x <;> first | cases h | exact (Z6 h rfl).elim
  | _ => cases h
 obtain ⟨h5,h6⟩:=ZbD h
 refine Zla (Zf9 ρ h3 h5) (Zf9 ρ h4 h6) (Zm8 ρ h1 h2 h3 h5) ?_
 by_cases hd:a = .dead
 ·subst hd;exact .inr rfl
 ·refine .inl (Ze8 ρ ?_)
  rintro cs rfl
  cases a with
  | dead => exact hd rfl
  | own x e l => cases x <;> first | cases h | exact (Z6 h rfl).elim
  | _ => cases h
theorem ZkU {c:Ctx} {σ:Nat→AV} {tm:Array Value} {w:World} {lim:Lm} {X:Nat→Nat→Option Nat} (h:Sim c σ tm w lim X) {ops:Array Oper} {j gd:Nat} {b:Bool}
  (hd:(ops[j]?).bind (·.dst)=Xa gd) (hb:σ gd = .val (.bool b)):yielded ops tm j=Xa b:=by
 have hlt:gd < tm.size:=by
  rcases Xx gd c.nt with h1 | h1
  ·rw [h.size];exact h1
  ·have:=h.out gd h1;rw [hb] at this;rcases this with h2 | h2<;>cases h2
 have hr:=h.rel gd
 rw [hb] at hr
 have hv:tm.getD gd undef = .bool b:=YR hr
 have h2:tm[gd]? = Xa (.bool b):=by
  simp only [X7,hlt,dite_true] at hv
  rw [XZ hlt]
  exact congrArg Xa hv
 unfold yielded
 simp only [hd,XM,h2]
theorem Zib {c:Ctx} {σ:Nat→AV} {tm:Array Value} {w:World} {lim:Lm} {X:Nat→Nat→Option Nat} (h:Sim c σ tm w lim X) {ops:Array Oper} {j gd:Nat}
  (hd:(ops[j]?).bind (·.dst)=Xa gd) (hb:σ gd = .tuple []):yielded ops tm j=Xe:=by
 have hr:=h.rel gd
 rw [hb] at hr
 obtain ⟨us,h1,h2,_⟩:=hr
 have:us = []:=XY h2
 subst this
 unfold yielded
 simp only [hd,XM]
 by_cases hlt:gd < tm.size
 ·simp only [X7,hlt,dite_true] at h1
  have h3:tm[gd]? = Xa (.tuple #[]):=by
   rw [XZ hlt]
   exact congrArg Xa h1
  simp only [h3]
 ·simp only [Array.getElem?_eq_none (Nat.le_of_not_lt hlt)]
theorem Sim.putUndef {c:Ctx} {σ:Nat→AV} {tm:Array Value} {w:World} {lim:Lm} {X:Nat→Nat→Option Nat} (h:Sim c σ tm w lim X) {d:Nat} (hd:d < c.nt) (hb:Kz (σ d)) :
  ∃ X',Sim c (upd σ d (.tuple [])) (tm.setIfInBounds d undef) w lim X':=
 ⟨_,h.putRow Jz (ZU.refl w lim (fun _=>False)) (fun _ hs=>hs.elim) hd (by simp) (fun i hi=>ZD tm d i undef hi) (.inl hb.1) (fun i q hi hr=>(h.noRefs hb.none i q hi hr).elim)
  ⟨[],by rw [Jp tm d undef (by rw [h.size];exact hd)];rfl,rfl,by simp⟩ (fun k b hk=>by simp [Jz] at hk) (fun k k' b hk=>by simp [Jz] at hk)⟩
def ZiW (ops:Array Oper) (o:Oper) (σ:Nat→AV) (gs:List Nat) (v:Bool):Prop:=
 (o.guard=Xe∧v=Xb)∨(∃ j want gd b,o.guard=Xa (j,want)∧(ops[j]?).bind (·.dst)=Xa gd∧gd∈gs∧σ gd = .val (.bool b)∧(v=Xb↔want=b))∨
 ∃ j want gd,o.guard=Xa (j,want)∧(ops[j]?).bind (·.dst)=Xa gd∧gd∈gs∧σ gd = .tuple []∧v=Xc
theorem Za6 {ops:Array Oper} {o:Oper} {σ:Nat→AV} {gs:List Nat} {v:Bool} (hg:ZiW ops o σ gs v) {c:Ctx} {σ':Nat→AV} {tm:Array Value} {w:World} {lim:Lm} {X:Nat→Nat→Option Nat}
  (h:Sim c σ' tm w lim X) (hag:∀ d∈gs,σ' d=σ d):Region.wanted o (yielded ops tm)=v:=by
 rcases hg with ⟨h1,h2⟩ | ⟨j,want,gd,b,h1,h2,h3,h4,h5⟩ | ⟨j,want,gd,h1,h2,h3,h4,h5⟩
 ·unfold Region.wanted;rw [h1,h2]
 ·have hy:=ZkU h h2 ((hag gd h3).trans h4)
  unfold Region.wanted
  rw [h1]
  simp only [hy]
  cases v<;>cases want<;>cases b<;>simp_all
 ·have hy:=Zib h h2 ((hag gd h3).trans h4)
  unfold Region.wanted
  rw [h1,h5]
  simp only [hy]
  rfl
theorem WR {x:SV} (ρ:Nat→V) (h:ZoB x=Xb):ZeI (x.den ρ):=by
 unfold ZoB at h
 split at h
 ·rename_i cs;exact ⟨_,rfl⟩
 ·cases h
theorem ZcY {T:Odr} {i:Nat} {x:SV} (ρ:Nat→V) (h:Zd7 T i x=Xb):∀ d k,T.nr d i=Xb→¬ Jh (x.den ρ) d k:=by
 intro d k hd hr
 cases x with
 | mref d' k' =>
  rcases hr with hr | ⟨_,hr⟩ <;> cases hr
  simp [Zd7,hd] at h
 | eref d' k' i s o =>
  rcases hr with hr | ⟨_,hr⟩ <;> cases hr
  simp [Zd7,hd] at h
 | c y => rcases hr with hr | ⟨_, hr⟩ <;> cases y <;> first | cases hr | exact (Z6 hr rfl).elim
 | _ => rcases hr with hr | ⟨_, hr⟩ <;> cases hr
def WV (T:Odr) (P:Program) (E:Env) (R:AV→List AV→Prop) (A:Nat→List V→Prop) (B:Nat→Bool) (ops:Array Oper) (i:Nat) (s:Tr) (ρ:Nat→V) (cont:Tr→Nat→Log→STree):Prop:=
 ∃ (st:Stp) (ρ':Nat→V) (n':Nat) (s':Tr),YY E s' n'∧(cont s' n' ⟨i,st.F,st.D⟩).wp P R A ρ'∧Zq5 T P E.nt ops (fun d=>B d=Xb) i (ZE E s ρ) st∧ZE E s' ρ'=Jm (ZE E s ρ) st.ups
variable {ops:Array Oper} {o:Oper} {i:Nat} {s:Tr} {n:Nat} {ρ:Nat→V} {cont:Tr→Nat→Log→STree} {gs:List Nat} {tx:Odr} {tk:Bool} {B:Nat→Bool}
theorem Zho {P:Program} {R:AV→List AV→Prop} {A:Nat→List V→Prop} {ρ:Nat→V} : ∀ (q:List (IE×IE)) (t:STree),(Zn4 q t).wp P R A ρ→(∀ p∈q,p.1.den ρ=p.2.den ρ)∧t.wp P R A ρ
 | [], t, h => ⟨by simp, h⟩
 | (a, b) :: q, t, h => by
  obtain ⟨h1,h2,h3⟩:=h
  obtain ⟨h4,h5⟩:=Zho q t h3
  refine ⟨fun p hp=>?_,h5⟩
  rcases Xl.1 hp with rfl | hp
  ·exact Int.le_antisymm h1 h2
  ·exact h4 p hp
theorem ZcE (ρ:Nat→V) {kp:Nat→Bool} : ∀ {cs' cs:List BC} {j:Nat} {r:List BC} {q:List (IE×IE)},Zb9 kp j cs' cs=Xa (r,q)→(∀ p∈q,p.1.den ρ=p.2.den ρ)→
  r.map (BC.den ρ)=cs'.map (BC.den ρ)∧∀ i,kp (j+i)=Xb→((r.map (BC.den ρ))[i]?).map Yp=((cs.map (BC.den ρ))[i]?).map Yp
 | [], [], j, r, q, h, _ => by
  simp only [Zb9,Xf,Xn] at h
  obtain ⟨rfl,rfl⟩:=h
  exact ⟨rfl,fun _ _=>rfl⟩
 | [], _ :: _, _, _, _, h, _ => by simp [Zb9] at h
 | _ :: _, [], _, _, _, h, _ => by simp [Zb9] at h
 | c' :: cs', c :: cs, j, r, q, h, hq => by
  simp only [Zb9] at h
  split at h
  ·rename_i r1 q1 h1
   split at h
   ·rename_i hk
    split at h
    ·rename_i k' e' k e
     split at h
     ·rename_i hkk
      subst hkk
      simp only [Xf,Xn] at h
      obtain ⟨rfl,rfl⟩:=h
      obtain ⟨g1,g2⟩:=ZcE ρ h1 fun p hp=>hq p (by simp [hp])
      have he:e'.den ρ=e.den ρ:=hq (e',e) (by simp)
      refine ⟨?_,fun i hi=>?_⟩
      ·simp only [Xg,g1,BC.den,SC.den,he]
      ·cases i with
       | zero => rfl
       | succ i => simpa using g2 i (by rw [show j + 1 + i = j + (i + 1) by omega]; exact hi)
     ·cases h
    ·rename_i t' l' t l
     split at h
     ·rename_i hkk
      subst hkk
      simp only [Xf,Xn] at h
      obtain ⟨rfl,rfl⟩:=h
      obtain ⟨g1,g2⟩:=ZcE ρ h1 hq
      refine ⟨by simp only [Xg,g1],fun i hi=>?_⟩
      cases i with
      | zero => rfl
      | succ i => simpa using g2 i (by rw [show j + 1 + i = j + (i + 1) by omega]; exact hi)
     ·cases h
    ·cases h
   ·rename_i hk
    simp only [Xf,Xn] at h
    obtain ⟨rfl,rfl⟩:=h
    obtain ⟨g1,g2⟩:=ZcE ρ h1 hq
    refine ⟨by simp only [Xg,g1],fun i hi=>?_⟩
    cases i with
    | zero => rw [Wq, hk] at hi; cases hi
    | succ i => simpa using g2 i (by rw [show j + 1 + i = j + (i + 1) by omega]; exact hi)
  ·cases h
theorem ZhG {kp:Nat→Bool} : ∀ {cs' cs:List BC} {j:Nat} {r:List BC} {q:List (IE×IE)},Zb9 kp j cs' cs=Xa (r,q)→∀ b∈r,b∈cs'∨b∈cs
 | [], [], j, r, q, h => by
  simp only [Zb9,Xf,Xn] at h
  obtain ⟨rfl,rfl⟩:=h
  simp
 | [], _ :: _, _, _, _, h => by simp [Zb9] at h
 | _ :: _, [], _, _, _, h => by simp [Zb9] at h
 | c' :: cs', c :: cs, j, r, q, h => by
  simp only [Zb9] at h
  split at h
  ·rename_i r1 q1 h1
   have ih:=ZhG h1
   have key:∀ b∈r1,b∈c'::cs'∨b∈c::cs:=fun b hb=>by
    rcases ih b hb with h2 | h2
    ·exact .inl (by simp [h2])
    ·exact .inr (by simp [h2])
   split at h
   ·split at h
    ·split at h
     ·simp only [Xf,Xn] at h
      obtain ⟨rfl,rfl⟩:=h
      intro b hb
      rcases Xl.1 hb with rfl | hb
      ·exact .inr (by simp)
      ·exact key b hb
     ·cases h
    ·split at h
     ·simp only [Xf,Xn] at h
      obtain ⟨rfl,rfl⟩:=h
      intro b hb
      rcases Xl.1 hb with rfl | hb
      ·exact .inl (by simp)
      ·exact key b hb
     ·cases h
    ·cases h
   ·simp only [Xf,Xn] at h
    obtain ⟨rfl,rfl⟩:=h
    intro b hb
    rcases Xl.1 hb with rfl | hb
    ·exact .inl (by simp)
    ·exact key b hb
  ·cases h
theorem ZtA {T:Odr} {d j:Nat} (h:T.kp d j=Xb):T.kpAt d=Xb:=by
 cases T with
 | text => cases h
 | any N M K =>
  simp only [Odr.kp,Odr.kpAt,To,Uk] at h ⊢
  exact ⟨_,h,by simp⟩
theorem ZlQ (ρ:Nat→V) {T:Odr} {g:Nat→SV} {u u':Nat×SV} {q:List (IE×IE)} (h:Zoo T g u=Xa (u',q)) (hq:∀ p∈q,p.1.den ρ=p.2.den ρ) :
  (u'.1,u'.2.den ρ)=(u.1,u.2.den ρ)∧(∀ j,T.kp u'.1 j=Xb→Jx (u'.2.den ρ) j=Jx ((g u'.1).den ρ) j)∧∀ n,u.2.bd n→(∀ i,(g i).bd n)→u'.2.bd n:=by
 unfold Zoo at h
 split at h
 ·split at h
  ·rename_i cs' cs hu hgu
   split at h
   ·rename_i r q1 h1
    simp only [Xf,Xn] at h
    obtain ⟨rfl,rfl⟩:=h
    obtain ⟨g1,g2⟩:=ZcE ρ h1 hq
    refine ⟨?_,fun j hj=>?_,fun n hb hg=>?_⟩
    ·rw [hu];simp only [SV.den,g1]
    ·rw [hgu]
     exact g2 j (by rw [XF];exact hj)
    ·rw [hu] at hb
     have hb2:=hg u.1
     rw [hgu] at hb2
     intro b hbr
     rcases ZhG h1 b hbr with h2 | h2
     ·exact hb b h2
     ·exact hb2 b h2
   ·cases h
  ·cases h
 ·rename_i hk
  simp only [Xf,Xn] at h
  obtain ⟨rfl,rfl⟩:=h
  exact ⟨rfl,fun j hj=>(by rw [ZtA hj] at hk;cases hk),fun n hb _=>hb⟩
theorem Zfc (ρ:Nat→V) {T:Odr} {g:Nat→SV} : ∀ {us us':Ups} {q:List (IE×IE)},ZbO T g us=Xa (us',q)→(∀ p∈q,p.1.den ρ=p.2.den ρ)→
  (us'.map fun u=>(u.1,u.2.den ρ))=(us.map fun u=>(u.1,u.2.den ρ))∧(∀ u∈us',∀ j,T.kp u.1 j=Xb→Jx (u.2.den ρ) j=Jx ((g u.1).den ρ) j)∧∀ n,(∀ u∈us,u.2.bd n)→(∀ i,(g i).bd n)→∀ u∈us',u.2.bd n
 | [], us', q, h, _ => by
  simp only [ZbO,Xf,Xn] at h
  obtain ⟨rfl,rfl⟩:=h
  exact ⟨rfl,by simp,by simp⟩
 | u :: us, us', q, h, hq => by
  simp only [ZbO] at h
  split at h
  ·rename_i u1 q1 us1 q2 h1 h2
   simp only [Xf,Xn] at h
   obtain ⟨rfl,rfl⟩:=h
   obtain ⟨a1,a2,a3⟩:=ZlQ ρ h1 fun p hp=>hq p (by simp [hp])
   obtain ⟨b1,b2,b3⟩:=Zfc ρ h2 fun p hp=>hq p (by simp [hp])
   refine ⟨by simp only [Xg,a1,b1],fun v hv=>?_,fun n hb hg v hv=>?_⟩
   ·rcases Xl.1 hv with rfl | hv
    ·exact a2
    ·exact b2 v hv
   ·rcases Xl.1 hv with rfl | hv
    ·exact a3 n (hb u (by simp)) hg
    ·exact b3 n (fun w hw=>hb w (by simp [hw])) hg v hv
  ·cases h
theorem Zak (hps:EnvSound P E) (hnt:E.top≤1024) (hKB:∀ d j,tx.kp d j=Xb→B d=Xb) (hB:∀ d,B d=Xb→ZeI (ZE E s ρ d)) (hi:ops[i]? = Xa o) (hs:YY E s n) (hg:ZiW ops o (ZE E s ρ) gs Xb) (h:(Zio P E tx tk B o i s gs n cont).wp P R A ρ) :
  WV tx P E R A B ops i s ρ cont:=by
 have htop0:∀ i,E.top≤i→gE E s i = .dead:=fun i hi=>by unfold gE;rw [if_neg (by omega)]
 obtain ⟨ρ',n',gr,x,us0,fp,h1,h2,h3,h40,h50,h60,hgr0⟩:ZaS tx P R A ρ (gE E s) o n (Zmd E tx B o i s gs cont):=by
  unfold Zio at h
  cases hso:ZoY P E tx (gE E s) o n (Zmd E tx B o i s gs cont) with
  | some t => rw [hso] at h; exact Zjh hps hs htop0 hso h
  | none =>
   rw [hso] at h
   obtain ⟨ρ',n',x,us0,fp,h1,h2,h3,h40,h50,h60⟩:=ZlE hps hs htop0 h
   exact ⟨ρ',n',Xc,x,us0,fp,h1,h2,h3,h40,h50,h60,fun h=>by cases h⟩
 have hσ:(fun d=>(gE E s d).den ρ)=ZE E s ρ:=rfl
 rw [hσ] at h60
 have hs':YY E s n':=Zdj hs h1
 have hc:=ZbW hs h2
 unfold Zmd at h50
 cases hst:ZbO tx (gE E s) us0 with
 | none => rw [hst] at h50; exact h50.elim
 | some rq =>
 obtain ⟨us,qs⟩:=rq
 rw [hst] at h50
 obtain ⟨hq,h5⟩:=Zho qs _ h50
 obtain ⟨hus,hkp0,hbd⟩:=Zfc ρ' hst hq
 have h4:=hbd n' h40 hs'
 have h6:=h60
 rw [← hus] at h6
 have hgr:gr=Xb→∀ u∈(us.map fun u=>(u.1,u.2.den ρ')),∀ rows rows',ZE E s ρ u.1 = .store rows→u.2 = .store rows'→rows <+: rows':=by
  intro hg u hu rows rows' k1 k2
  rw [hus] at hu
  obtain ⟨v,hv,rfl⟩:=Xj.1 hu
  exact hgr0 hg v hv rows rows' k1 k2
 have hkp:∀ u∈(us.map fun u=>(u.1,u.2.den ρ')),∀ j,tx.kp u.1 j=Xb→Jx u.2 j=Jx (ZE E s ρ u.1) j:=by
  intro u hu j hj
  obtain ⟨v,hv,rfl⟩:=Xj.1 hu
  rw [← hc]
  exact hkp0 v hv j hj
 clear h60 h50 h40 hus hkp0 hgr0
 split at h5
 case isFalse=>exact h5.elim
 rename_i hall0
 obtain ⟨hall,hnx⟩:=hall0
 rw [XE] at hall
 have hlow:YL E us:=by
  unfold YL
  rw [XE]
  intro u hu
  have:=hall u hu
  rw [Xs,Xs,Xs] at this
  exact this.1.1.1
 have hups:∀ u∈(us.map fun u=>(u.1,u.2.den ρ')),B u.1=Xb→ZeI u.2:=by
  intro u hu hb
  obtain ⟨v,hv,rfl⟩:=Xj.1 hu
  have:=hall v hv
  simp only [Xs,UA,UG] at this
  rcases this.1.1.2 with h0 | h0
  ·have hb':B v.1=Xb:=hb
   rw [hb'] at h0;cases h0
  ·exact WR ρ' h0
 have hnr:∀ u∈(us.map fun u=>(u.1,u.2.den ρ')),∀ d k,tx.nr d u.1=Xb→¬ Jh u.2 d k:=by
  intro u hu
  obtain ⟨v,hv,rfl⟩:=Xj.1 hu
  have:=hall v hv
  rw [Xs,Xs] at this
  exact ZcY ρ' this.1.2
 have hsts:∀ u∈us,(gE E s u.1).isSto=u.2.isSto:=by
  intro u hu
  have:=hall u hu
  rw [Xs] at this
  exact eq_of_beq this.2
 have hstp:Zt6 (ZE E s ρ) ⟨[],us.map fun u=>(u.1,u.2.den ρ'),vOf gr (gE E s) us⟩:=by
  intro u hu
  obtain ⟨v,hv,rfl⟩:=Xj.1 hu
  refine ⟨by rw [Ko,show ZE E s ρ v.1=(gE E s v.1).den ρ from rfl,Ko,hsts v hv],fun rows rows' k1 k2=>?_⟩
  cases hg0:gr with
  | true => exact .inr (hgr hg0 _ hu rows rows' k1 k2)
  | false =>
   refine .inl (List.mem_filterMap.2 ⟨v,hv,?_⟩)
   have:(gE E s v.1).isSto=Xb:=by
    rw [← Ko (gE E s v.1) ρ,show (gE E s v.1).den ρ=_ from k1];rfl
   rw [if_pos this]
 have hids:∀ (σ':Nat→AV),(∀ d∈(Vn o).filter (fun t=>!B t),σ' d=ZE E s ρ d)→(∀ d,B d=Xb→ZeI (σ' d))→∀ d∈Vn o,Zee (ZE E s ρ d) (σ' d):=by
  intro σ' h0 h1 d hd
  cases hb:B d with
  | true => exact .inr ⟨hB d hb, h1 d hb⟩
  | false => exact .inl (h0 d (List.mem_filter.2 ⟨hd, by simp [hb]⟩))
 have hfst:(us.map fun u=>(u.1,u.2.den ρ')).map (·.1)=us.map (·.1):=by rw [X6];rfl
 have hden:ZE E (Z0 us s) ρ'=Jm (ZE E s ρ) (us.map fun u=>(u.1,u.2.den ρ')):=by rw [Jk hnt ρ' us s hlow,hc]
 split at h5
 ·rename_i d hd
  split at h5
  ·rename_i hh
   refine ⟨⟨(Vn o).filter (fun t=>!B t)++gs++fp++us.map (·.1)++vOf gr (gE E s) us++[d],(us.map fun u=>(u.1,u.2.den ρ'))++[(d,x.den ρ')],vOf gr (gE E s) us⟩,ρ',n',(Z0 us s).set depth d x,JI hnt (Jt hh.1) (Jf hnt us s hlow hs' h4) h3,?_,⟨⟨?_,?_⟩,?_,?_,?_,?_⟩,?_⟩
   ·show (cont _ n' ⟨i,_,((us.map fun u=>(u.1,u.2.den ρ'))++[(d,x.den ρ')]).map (·.1)++vOf gr (gE E s) us⟩).wp P R A ρ'
    rw [XL,hfst]
    exact h5
   ·intro u hu
    rcases Xt.1 hu with hu | hu
    ·refine Xt.2 (.inl (Xt.2 (.inl (Xt.2 (.inr ?_)))))
     rw [← hfst]
     exact Xj.2 ⟨u,hu,rfl⟩
    ·rw [XC] at hu
     subst hu
     simp
   ·intro u hu
    rcases Xt.1 hu with hu | hu
    ·exact hstp u hu
    ·rw [XC] at hu
     subst hu
     obtain ⟨m1,m2⟩:=ZbD hh.2.1
     have hpre:(ZE E s ρ d).isSto=Xc:=by
      by_cases hdu:d∈us.map (·.1)
      ·obtain ⟨u,hu,hud⟩:=Xj.1 hdu
       have hx:=congrFun hden d
       rw [Js] at hx
       obtain ⟨y,hy⟩:=Ve (us.map fun u=>(u.1,u.2.den ρ')) d (by rw [hfst];exact hdu)
       rw [hy] at hx
       have hm:=ZbA _ _ _ hy
       have h8:=(hstp _ hm).1
       dsimp only at h8
       rw [← h8]
       have hx':(gE E (Z0 us s) d).den ρ'=y:=hx
       rw [← hx',Ko]
       exact m1
      ·have hx:=congrFun hden d
       rw [Js,Y1 _ d (by rw [hfst];exact hdu)] at hx
       have hx':(gE E (Z0 us s) d).den ρ'=ZE E s ρ d:=hx
       rw [← hx',Ko]
       exact m1
     exact ⟨by rw [Ko];exact m2.trans hpre.symm,fun rows rows' k1 _=>by rw [k1] at hpre;cases hpre⟩
   ·intro u hu hb
    rcases Xt.1 hu with hu | hu
    ·exact hups u hu hb
    ·rw [XC] at hu
     subst hu
     have hb':B d=Xb:=hb
     rw [hh.2.2] at hb'
     cases hb'
   ·intro u hu
    rcases Xt.1 hu with hu | hu
    ·exact hnr u hu
    ·rw [XC] at hu
     subst hu
     unfold Zkl at hnx
     rw [hd] at hnx
     exact ZcY ρ' hnx
   ·intro u hu j hj
    rcases Xt.1 hu with hu | hu
    ·exact hkp u hu j hj
    ·rw [XC] at hu
     subst hu
     have hb':=hKB _ j hj
     rw [hh.2.2] at hb'
     cases hb'
   ·intro c hcP hcn σ' tm w lim X hag hpb hT hSt hsim Q K hK
    unfold wpOp
    simp only [hi]
    rw [Za6 hg hsim fun d' hd'=>hag d' (by simp [hd'])]
    rw [if_pos rfl]
    refine .inl (h6 c hcP σ' tm w lim X (hids σ' (fun d' hd'=>hag d' (by simp only [Xt];exact .inl (.inl (.inl (.inl (.inl hd')))))) hpb) (fun d' hd'=>hag d' (by
     rw [hfst] at hd'
     simp only [Xt] at hd' ⊢
     rcases hd' with hd' | hd'
     ·exact .inl (.inl (.inl (.inr hd')))
     ·exact .inl (.inl (.inr hd')))) hT (fun d' hd'=>hSt d' (by simp only [Xt];exact .inl (.inl (.inl (.inr hd'))))) hsim K Q fun v w' ha=>?_)
    rw [hd] at ha ⊢
    obtain ⟨lim',X',hsim'⟩:=ha (by rw [hcn];exact hh.1) (by
     have:Jm σ' (us.map fun u=>(u.1,u.2.den ρ')) d=(gE E (Z0 us s) d).den ρ':=by
      have h7:=congrFun hden d
      rw [Js] at h7 ⊢
      rw [hag d (by simp)]
      exact h7.symm
     rw [this]
     exact JP ρ' hh.2.1)
    refine hK _ w' lim' X' ?_
    rw [VM]
    exact hsim'
   ·rw [JX hnt (Jt hh.1),hden,VM]
    rfl
  ·exact h5.elim
 ·rename_i hd
  refine ⟨⟨(Vn o).filter (fun t=>!B t)++gs++fp++us.map (·.1)++vOf gr (gE E s) us,us.map fun u=>(u.1,u.2.den ρ'),vOf gr (gE E s) us⟩,ρ',n',Z0 us s,Jf hnt us s hlow hs' h4,?_,⟨⟨?_,fun u hu=>hstp u hu⟩,hups,hnr,hkp,?_⟩,hden⟩
  ·show (cont _ n' ⟨i,_,(us.map fun u=>(u.1,u.2.den ρ')).map (·.1)++vOf gr (gE E s) us⟩).wp P R A ρ'
   rw [hfst]
   exact h5
  ·intro u hu
   refine Xt.2 (.inl (Xt.2 (.inr ?_)))
   rw [← hfst]
   exact Xj.2 ⟨u,hu,rfl⟩
  ·intro c hcP hcn σ' tm w lim X hag hpb hT hSt hsim Q K hK
   unfold wpOp
   simp only [hi]
   rw [Za6 hg hsim fun d' hd'=>hag d' (by simp [hd'])]
   rw [if_pos rfl]
   refine .inl (h6 c hcP σ' tm w lim X (hids σ' (fun d' hd'=>hag d' (by simp only [Xt];exact .inl (.inl (.inl (.inl hd'))))) hpb) (fun d' hd'=>hag d' (by
    rw [hfst] at hd'
    simp only [Xt] at hd' ⊢
    rcases hd' with hd' | hd'
    ·exact .inl (.inl (.inr hd'))
    ·exact .inl (.inr hd'))) hT (fun d' hd'=>hSt d' (by simp only [Xt];exact .inl (.inl (.inr hd')))) hsim K Q fun v w' ha=>?_)
   rw [hd] at ha ⊢
   obtain ⟨lim',X',hsim'⟩:=ha
   exact hK _ w' lim' X' hsim'
theorem V5 (hnt:E.top≤1024) (hKB:∀ d j,tx.kp d j=Xb→B d=Xb) (hi:ops[i]? = Xa o) (hs:YY E s n) (hg:ZiW ops o (ZE E s ρ) gs Xc) (h:(Zdu E B o i s gs n cont).wp P R A ρ) :
  WV tx P E R A B ops i s ρ cont:=by
 unfold Zdu at h
 split at h
 ·rename_i d hd
  split at h
  ·rename_i hh
   refine ⟨⟨gs++[d],[(d,.tuple [])],[]⟩,ρ,n,s.set depth d (.tuple []),JI hnt (Jt hh.1) hs (by simp [SV.bd]),h,⟨⟨by simp,fun u hu=>?_⟩,fun u hu hb=>?_,fun u hu d k _ hr=>?_,fun u hu j hj=>?_,?_⟩,JX hnt (Jt hh.1) _ _ _⟩
   ·rw [XC] at hu
    subst hu
    have hpre:(ZE E s ρ d).isSto=Xc:=by rw [show ZE E s ρ d=(gE E s d).den ρ from rfl,Ko];exact (ZbD hh.2.1).1
    exact ⟨hpre.symm,fun rows rows' k1 _=>by rw [k1] at hpre;cases hpre⟩
   ·rw [XC] at hu
    subst hu
    have hb':B d=Xb:=hb
    rw [hh.2.2] at hb'
    cases hb'
   ·rw [XC] at hu
    subst hu
    rcases hr with hr | ⟨_,hr⟩ <;> cases hr
   ·rw [XC] at hu
    subst hu
    have hb':=hKB _ j hj
    rw [hh.2.2] at hb'
    cases hb'
   intro c hcP hcn σ' tm w lim X hag hpb hT _ hsim Q K hK
   unfold wpOp
   simp only [hi]
   rw [Za6 hg hsim fun d' hd'=>hag d' (by simp [hd'])]
   rw [if_neg (by simp),hd]
   obtain ⟨X',hs'⟩:=hsim.putUndef (d:=d) (by rw [hcn];exact hh.1) (by
    rw [hag d (by simp)]
    exact ZA (JP ρ hh.2.1))
   exact hK _ w lim X' hs'
  ·exact h.elim
 ·rename_i hd
  refine ⟨⟨gs,[],[]⟩,ρ,n,s,hs,h,⟨⟨by simp,fun u hu=>by cases hu⟩,by simp,by simp,by simp,?_⟩,rfl⟩
  intro c hcP hcn σ' tm w lim X hag hpb hT _ hsim Q K hK
  unfold wpOp
  simp only [hi]
  rw [Za6 hg hsim hag]
  rw [if_neg (by simp),hd]
  exact hK _ w lim X hsim
theorem Zag (hnt:E.top≤1024) {t:Nat} {b:BE} {v:Bool} (hb:gE E s t = .c (.bool b)) (hv:b.den ρ=v):t < E.top∧ZE E (s.set depth t (.c (.bool (.lit v)))) ρ=ZE E s ρ:=by
 have hlt:t < E.top:=by
  unfold gE at hb
  split at hb
  ·assumption
  ·cases hb
 refine ⟨hlt,?_⟩
 rw [JX hnt hlt]
 funext d
 by_cases hd:d=t
 ·subst hd
  rw [Zs]
  simp only [ZE,hb,SV.den,SC.den,hv,BE.den]
 ·rw [Zb _ _ hd]
theorem ZhS (hps:EnvSound P E) (hnt:E.top≤1024) (hKB:∀ d j,tx.kp d j=Xb→B d=Xb) (hB:∀ d,B d=Xb→ZeI (ZE E s ρ d)) (hi:ops[i]? = Xa o) (hs:YY E s n) (h:(ZmR P E tx tk B ops o i s n cont).wp P R A ρ):WV tx P E R A B ops i s ρ cont:=by
 unfold ZmR at h
 split at h
 ·rename_i hg
  exact Zak hps hnt hKB hB hi hs (.inl ⟨hg,rfl⟩) h
 ·rename_i j want hg
  split at h
  ·exact h.elim
  ·rename_i gd hgd
   split at h
   ·rename_i hb
    have hv:ZE E s ρ gd = .tuple []:=by simp only [ZE,hb];rfl
    exact V5 hnt hKB hi hs (.inr (.inr ⟨j,want,gd,hg,hgd,by simp,hv,rfl⟩)) h
   ·rename_i b hb
    have hv:ZE E s ρ gd = .val (.bool b):=by simp only [ZE,hb];rfl
    split at h
    ·rename_i hw
     exact Zak hps hnt hKB hB hi hs (.inr (.inl ⟨j,want,gd,b,hg,hgd,by simp,hv,by simp [hw]⟩)) h
    ·rename_i hw
     exact V5 hnt hKB hi hs (.inr (.inl ⟨j,want,gd,b,hg,hgd,by simp,hv,by simp [hw]⟩)) h
   ·rename_i b _ hb
    obtain ⟨ht,hf⟩:=h
    have hcase:∀ v,b.den ρ=v→(if want=v then Zio P E tx tk B o i (s.set depth gd (.c (.bool (.lit v)))) [gd] n cont else Zdu E B o i (s.set depth gd (.c (.bool (.lit v)))) [gd] n cont).wp P R A ρ→WV tx P E R A B ops i s ρ cont:=by
     intro v hv hw
     obtain ⟨hlt,hsame⟩:=Zag hnt hb hv
     have hbd:YY E (s.set depth gd (.c (.bool (.lit v)))) n:=JI hnt hlt hs trivial
     have hval:ZE E (s.set depth gd (.c (.bool (.lit v)))) ρ gd = .val (.bool v):=by rw [hsame];simp only [ZE,hb,SV.den,SC.den,hv]
     have hgoal:WV tx P E R A B ops i (s.set depth gd (.c (.bool (.lit v)))) ρ cont:=by
      split at hw
      ·rename_i hw'
       exact Zak hps hnt hKB (by rw [hsame];exact hB) hi hbd (.inr (.inl ⟨j,want,gd,v,hg,hgd,by simp,hval,by simp [hw']⟩)) hw
      ·rename_i hw'
       exact V5 hnt hKB hi hbd (.inr (.inl ⟨j,want,gd,v,hg,hgd,by simp,hval,by simp [hw']⟩)) hw
     unfold WV at hgoal ⊢
     rw [hsame] at hgoal
     exact hgoal
    cases hv:b.den ρ with
    | true => exact hcase true hv (ht hv)
    | false => exact hcase false hv (hf hv)
   ·exact h.elim
def Zic:Nat→List Stp→List Log
 | _, [] => []
 | i, s :: ss => Zic (i + 1) ss ++ [⟨i, s.F, s.D⟩]
theorem Zbs:∀ (ss:List Stp) (i j:Nat) (s:Stp),ss[j]? = Xa s→(⟨i+j,s.F,s.D⟩:Log)∈Zic i ss
 | [], i, j, s, h => by simp at h
 | s0 :: ss, i, 0, s, h => by
  simp only [XB,Xf] at h
  subst h
  simp [Zic]
 | s0 :: ss, i, j + 1, s, h => by
  have:=Zbs ss (i+1) j s (by simpa using h)
  rw [show i+(j+1)=i+1+j by omega]
  exact Xt.2 (.inl this)
theorem VN (hps:EnvSound P E) (hnt:E.top≤1024) (hKB:∀ d j,tx.kp d j=Xb→B d=Xb) {tks:Nat→Bool} {k:Tr→Nat→List Log→STree} : ∀ (l:List Oper) (i:Nat) (s:Tr) (n:Nat) (logs:List Log) (ρ:Nat→V),(∀ j,l[j]? = ops[i+j]?)→(∀ d,B d=Xb→ZeI (ZE E s ρ d))→YY E s n→
  (ZkP P E tx tks B ops l i s n logs k).wp P R A ρ→∃ (ss:List Stp) (ρ':Nat→V) (n':Nat) (s':Tr),ss.length=l.length∧YY E s' n'∧(k s' n' (Zic i ss++logs)).wp P R A ρ'∧
   ZgC tx P E.nt ops (fun d=>B d=Xb) i (ZE E s ρ) ss∧ZE E s' ρ'=Zb6 (ZE E s ρ) ss
 | [], i, s, n, logs, ρ, _, _, hs, h => ⟨[], ρ, n, s, rfl, hs, h, trivial, rfl⟩
 | o :: l, i, s, n, logs, ρ, hl, hB, hs, h => by
  have h0:ops[i]? = Xa o:=by simpa using (hl 0).symm
  obtain ⟨st,ρ1,n1,s1,g1,g2,g3,g4⟩:=ZhS hps hnt hKB hB h0 hs h
  obtain ⟨ss,ρ2,n2,s2,k1,k2,k3,k4,k5⟩:=VN hps hnt hKB l (i+1) s1 n1 _ ρ1 (fun j=>by
   have:=hl (j+1)
   rw [show i+(j+1)=i+1+j by omega] at this
   simpa using this) (by rw [g4];exact Zge _ _ g3.2.1 hB) g1 g2
  refine ⟨st::ss,ρ2,n2,s2,by simp [k1],k2,?_,⟨g3,?_⟩,?_⟩
  ·simp only [Zic,Xu,List.singleton_append]
   exact k3
  ·rw [← g4];exact k4
  ·simp only [Zb6]
   rw [← g4];exact k5
theorem ZmI {a b:List Nat} (h:Ztr a b=Xb):∀ d∈a,d∉b:=by
 intro d hd
 simp only [Ztr,XE] at h
 simpa using h d hd
theorem Zaa {E:Env} (s:Tr):∀ i,E.top≤i→gE E s i = .dead:=fun i hi=>by unfold gE;rw [if_neg (by omega)]
theorem Zpu {c:Ctx} {σ:Nat→AV} {tm:Array Value} {w:World} {lim:Lm} {X:Nat→Nat→Option Nat} (h:Sim c σ tm w lim X) {i k:Nat} (hr:Jh (σ i) i k):False:=by
 obtain ⟨p,hp⟩:=Y4 h hr
 rcases hr with hr | ⟨_,hr⟩ <;> rw [hr] at hp<;>cases hp
theorem ZsB {draw:Bool} {d j:Nat} (h:(ZlX P E draw ops s).kp d j=Xb):ZoB (gE E s d)=Xb:=by
 cases draw with
 | false => cases h
 | true =>
  simp only [ZlX,Odr.kp,To,List.mem_filter] at h
  exact h.2
theorem Zhb (hm:P.follows .mixedOrders=Xb) (hps:EnvSound P E) (hnt:E.top≤1024) {id:Nat} {draw:Bool} {k:Tr→Nat→STree} {tks:Nat→Bool} (hKB:∀ d j,(ZlX P E draw ops s).kp d j=Xb→B d=Xb) (hB:∀ d,B d=Xb→ZeI (ZE E s ρ d)) (hs:YY E s n)
  (h:(ZkP P E (ZlX P E draw ops s) tks B ops ops.toList 0 s n [] fun s' n' logs=>if draw=Xb then (if ZiC ops logs=Xb then k s' n' else .stuck 114) else k s' n').wp P R A ρ)
  {c:Ctx} (hcP:c.P=P) (hcn:c.nt=E.nt) {tm:Array Value} {w:World} {lim:Lm} {X:Nat→Nat→Option Nat} (hsim:Sim c (ZE E s ρ) tm w lim X) {Q:Exit→Act→World→Prop}
  (hk:∀ s' n' ρ',YY E s' n'→(k s' n').wp P R A ρ'→∀ tm' w' lim' X',Sim c (ZE E s' ρ') tm' w' lim' X'→Q .normal ⟨tm',[]⟩ w'):(Code.region id ops draw).wp P Q ⟨tm,[]⟩ w:=by
 obtain ⟨ss,ρ',n',s',h1,h2,h3,h4,h5⟩:=VN hps hnt hKB ops.toList 0 s n [] ρ (by simp) hB hs h
 have hlen:ss.length=ops.size:=by simpa using h1
 cases draw with
 | false =>
  refine wp_region ?_
  rw [List.range_eq_range',← hlen]
  refine WT hcP hcn ss 0 _ tm w lim X h4 hB hsim fun tm' w' lim' X' hs'=>hk s' n' ρ' h2 (by simpa using h3) tm' w' lim' X' ?_
  rw [h5];exact hs'
 | true =>
  simp only [if_true] at h3
  split at h3
  ·rename_i hi
   rw [Wc] at hi
   simp only [ZiC,Xs,CheckFast.beforeF_eq] at hi
   obtain ⟨hlow,hind⟩:=hi
   refine wp_region_any hm ?_
   have hsd:Sim c (ZE E s ρ) tm w.drew lim X:=hsim.world (ZU.refl w lim fun _=>False).drew fun b hb=>hb.elim
   refine Zoh hcP hcn h4 (fun d i k hd hr=>?_) hB hlen ?_ ?_ (fun tm' w' lim' X' hs'=>hk s' n' ρ' h2 h3 tm' w' lim' X' (by rw [h5];exact hs')) ops.size _ tm w.drew lim X (by simp) ?_ ?_ ?_
   ·have hd':(ZJ (gE E s) d E.top).isEmpty=Xb:=by
     rcases Bool.or_eq_true_iff.1 hd with h0 | h0
     ·simp only [Xs] at h0
      exact h0.1.2
     ·by_cases he:(ZJ (gE E s) d E.top).isEmpty=Xb
      ·exact he
      ·dsimp only at h0;rw [if_neg he] at h0;cases h0
    rw [U3] at hd'
    have hda:=(JB (g:=gE E s) ρ (Zaa s) (d:=d)).2 i k
    by_cases hid:i=d
    ·subst hid
     exact Zpu hsim hr
    ·have:=hda hid hr
     rw [hd'] at this
     cases this
   ·intro i o hio e he hb
    rw [XE] at hlow
    have:=hlow (o,i) (by
     rw [Tz]
     simpa using hio)
    rw [Array.all_eq_true_iff_forall_mem] at this
    have:=this e he
    simpa [hb] using this
   ·rintro i j a b hia hjb hji ⟨S,hS,hSi,hSj⟩
    rw [XE] at hind
    have m1:=Zbs ss 0 i a hia
    have m2:=Zbs ss 0 j b hjb
    rw [XF] at m1 m2
    have:=hind _ m1
    rw [XE] at this
    have:=this _ m2
    simp only [UA,Xs,UG,decide_eq_false_iff_not] at this
    rcases this with (this | this) | this
    ·exact (this hji).elim
    ·exact (hSj (ZfG hS i j hSi this)).elim
    ·exact ⟨ZmI this.1,ZmI this.2⟩
   ·intro k o hk hl
    have hlt:=(Wa.1 hk).1
    simp [X7,hlt] at hl
   ·have:=List.countP_le_length (p:=fun i=>!(Array.replicate ops.size Xc).getD i Xc) (l:=Wf ops.size)
    simpa using this
   ·rw [ZdN]
    ·exact hsd
    ·intro j _ hj
     simp [X7]
  ·exact h3.elim
end
inductive Y2 (P:Program):AV→AV→Prop
 | same {x : AV} (h : x.isCell = Xb ∨ ∃ b e xs, x = .own b e xs) : Y2 P x x
 | nil {s s' : Nat} {f : Bool} : Y2 P (.slice Xb s []) (.slice f s' [])
 | imm {f : Bool} {s : Nat} {xs : List (List AV)} : Y2 P (.slice f s xs) (.slice Xc s xs)
 | immN {f : Bool} {s s' : Nat} : Y2 P (.slice f s []) (.slice Xc s' [])
 | own {e : TypeId} {xs : List (List AV)} : Y2 P (.own Xc e xs) (.slice Xc (P.cellsOf e) xs)
 | ownN {b b' : Bool} {e : TypeId} (h : e < 2097152) : Y2 P (.own b e []) (.own b' e [])
 | ownZ {b : Bool} {e : TypeId} {s : Nat} : Y2 P (.own b e []) (.slice Xc s [])
 | give {b : Bool} {s : Nat} {e : TypeId} (h : e < 2097152) : Y2 P (.slice Xb s []) (.own b e [])
theorem ZiV {w:World} {lim:Lm} {b:Bool} {e:TypeId} {xs:List (List AV)} {v:Value} (h:Rep w lim (.own b e xs) v):False:=by cases h
theorem WL {P:Program} {w:World} {lim:Lm} {b b':Bool} {e:TypeId} {v:Value} {ob:Option Nat} (h:VQ P w lim b e [] v ob):VQ P w lim b' e [] v ob:=by
 rcases h with ⟨us,h1,h2,h3,h4,h5,h6⟩ | h
 ·have hu:us = []:=XY (by rw [h1.1];simp)
  subst hu
  refine .inl ⟨[],h1,h2,fun b0 hb=>?_,h4,h5,h6⟩
  have:=h3 b0 hb
  rw [this]
  simp
 ·exact .inr h
theorem Zf6 {P:Program} {w:World} {lim:Lm} {b:Bool} {e:TypeId} {v:Value} {ob:Option Nat} (h:ZV P w lim b e [] v ob):VQ P w lim b e [] v ob∨VQ P w lim Xb (bT e) [] v ob∧Ze P e=Xb:=by
 rcases h with h | h | ⟨_,⟨_,_,_,_,_,_,_,_,_,_,_,h,_⟩ | h | ⟨_,_,_,_,_,_,_,_,_,_,_,h,_⟩⟩
 ·exact .inl (.inl h)
 ·exact .inl (.inr h)
 ·obtain ⟨_,h⟩:=h;cases h
 ·exact .inr ⟨h.2.2,h.1⟩
 ·cases h
theorem Zov {P:Program} {w:World} {lim:Lm} {b b':Bool} {e:TypeId} {v:Value} {ob:Option Nat} (he:e < 2097152) (h:ZV P w lim b e [] v ob):ZV P w lim b' e [] v ob:=by
 rcases Zf6 h with h | ⟨_,h⟩
 ·exact (WL h).own
 ·rw [YS he] at h;cases h
theorem ZqU {P:Program} {w:World} {lim:Lm} {b:Bool} {e:TypeId} {s:Nat} {v:Value} {ob:Option Nat} (h:ZV P w lim b e [] v ob):Rep w lim (.slice Xc s []) v:=by
 rcases Zf6 h with h | ⟨h,_⟩
 ·exact VJ (f:=Xc) (fun h=>h) (ZV.rep (WL (b':=Xc) h).own Xc rfl)
 ·exact VJ (f:=Xc) (fun h=>h) (ZV.rep (WL (b':=Xc) h).own Xc rfl)
theorem ZpI {P:Program} {w:World} {lim:Lm} {x y:AV} {v:Value} (h:Rep w lim x v) (hw:Y2 P x y) (hy:y.isCell=Xb):Rep w lim y v:=by
 cases hw with
 | same _ => exact h
 | nil => exact VJ (fun _ => rfl) h
 | imm => exact ZfA h
 | immN => exact VJ (fun h => by cases h) h
 | own => exact (ZiV h).elim
 | ownN _ => exact (ZiV h).elim
 | ownZ => exact (ZiV h).elim
 | give _ => cases hy
theorem Zob {P:Program} {w:World} {lim:Lm} {ob:Option Nat} {x y:AV} {v:Value} (h:J8 P w lim ob x v) (hw:Y2 P x y):∃ ob',(ob'=ob∨ob'=Xe)∧((∃ b e xs,x = .own b e xs)→ob'=ob)∧J8 P w lim ob' y v:=by
 cases hw with
 | same _ => exact ⟨ob, .inl rfl, fun _ => rfl, h⟩
 | nil => exact ⟨ob, .inl rfl, fun _ => rfl, VJ (fun _ => rfl) h⟩
 | imm => exact ⟨ob, .inl rfl, fun _ => rfl, ZfA h⟩
 | immN => exact ⟨ob, .inl rfl, fun _ => rfl, VJ (fun h => by cases h) h⟩
 | own => exact ⟨ob, .inl rfl, fun _ => rfl, ZV.rep h Xc rfl⟩
 | ownN he => exact ⟨ob, .inl rfl, fun _ => rfl, Zov he h⟩
 | ownZ => exact ⟨ob, .inl rfl, fun _ => rfl, ZqU h⟩
 | give _ => exact ⟨Xe, .inr rfl, fun ⟨_, _, _, h⟩ => (by cases h), WJ h⟩
inductive Zcl (P:Program):AV→AV→Prop
 | cell {x y : AV} (h : Y2 P x y) : Zcl P x y
 | agg {cs cs' : List AV} (hl : cs.length = cs'.length) (hc : ∀ c ∈ cs', c.isCell = Xb) (h : ∀ (i : Nat) (c c' : AV), cs[i]? = Xa c → cs'[i]? = Xa c' → Y2 P c c') : Zcl P (.agg cs) (.agg cs')
theorem Zrw {w:World} {lim:Lm} {cs:List AV} {v:Value} (h:Rep w lim (.agg cs) v):∃ vs:List Value,v = .agg vs.toArray∧cs.length=vs.length∧
  ∀ (i:Nat) (c:AV) (v:Value),cs[i]? = Xa c→vs[i]? = Xa v→Rep w lim c v:=by
 cases h with
 | agg hl hc hr => exact ⟨_, rfl, hl, hr⟩
theorem Zh8 {P:Program} {w:World} {lim:Lm} {ob:Option Nat} {x y:AV} {v:Value} (h:J8 P w lim ob x v) (hw:Zcl P x y):∃ ob',(ob'=ob∨ob'=Xe)∧((∃ b e xs,x = .own b e xs)→ob'=ob)∧J8 P w lim ob' y v:=by
 cases hw with
 | cell hw => exact Zob h hw
 | @agg cs cs' hl hc hp =>
  refine ⟨ob,.inl rfl,fun _=>rfl,?_⟩
  obtain ⟨vs,rfl,h1,h2⟩:=Zrw (show Rep w lim (.agg cs) v from h)
  refine Rep.agg (by omega) hc fun i c' u hc' hu=>?_
  obtain ⟨c,hcc⟩:∃ c,cs[i]? = Xa c:=⟨_,Xp (by rw [hl];exact (Xi.1 hc').1)⟩
  exact ZpI (h2 i c u hcc hu) (hp i c c' hcc hc') (hc c' (Xh hc'))
theorem ZbC {P:Program} {w:World} {lim:Lm} {cs cs':List AV} {us:List Value} {Y:Nat→Option Nat} (hl:cs.length=cs'.length) (h:∀ (i:Nat) (c:AV) (u:Value),cs[i]? = Xa c→us[i]? = Xa u→J8 P w lim (Y i) c u)
  (hw:∀ (i:Nat) (c c':AV),cs[i]? = Xa c→cs'[i]? = Xa c'→Zcl P c c') :
  ∃ r:Nat→Option Nat,(∀ i,r i=Y i∨r i=Xe)∧(∀ (i:Nat) (c':AV),i < us.length→cs'[i]? = Xa c'→(∃ b e xs,cs[i]? = Xa (.own b e xs))→r i=Y i)∧∀ (i:Nat) (c':AV) (u:Value),cs'[i]? = Xa c'→us[i]? = Xa u→J8 P w lim (r i) c' u:=by
 have key:∀ i,∃ ob:Option Nat,(ob=Y i∨ob=Xe)∧(∀ (c':AV),i < us.length→cs'[i]? = Xa c'→(∃ b e xs,cs[i]? = Xa (.own b e xs))→ob=Y i)∧∀ (c':AV) (u:Value),cs'[i]? = Xa c'→us[i]? = Xa u→J8 P w lim ob c' u:=by
  intro i
  cases hc':cs'[i]? with
  | none => exact ⟨Xe, .inr rfl, fun c' _ h => (by cases h), fun c' u h => by cases h⟩
  | some c' =>
   cases hu:us[i]? with
   | none => exact ⟨Xe, .inr rfl, fun c' hlt _ => (by have := List.getElem?_eq_none_iff.1 hu; omega), fun c' u _ h => by cases h⟩
   | some u =>
    obtain ⟨c,hc⟩:∃ c,cs[i]? = Xa c:=⟨_,Xp (by rw [hl];exact (Xi.1 hc').1)⟩
    obtain ⟨ob,h1,h3,h2⟩:=Zh8 (h i c u hc hu) (hw i c c' hc hc')
    refine ⟨ob,h1,fun _ _ _ ⟨b,e,xs,hx⟩=>h3 ⟨b,e,xs,by rw [hc] at hx;exact Xr hx⟩,fun c2 u2 e1 e2=>?_⟩
    cases e1
    cases e2
    exact h2
 obtain ⟨r,hr⟩:=Td key
 exact ⟨r,fun i=>(hr i).1,fun i=>(hr i).2.1,fun i=>(hr i).2.2⟩
inductive YX (P:Program):AV→AV→Prop
 | dead {x : AV} : YX P x .dead
 | comp {x y : AV} (h : Zcl P x y) : YX P x y
 | tuple {cs cs' : List AV} (hl : cs.length = cs'.length) (h : ∀ (i : Nat) (c c' : AV), cs[i]? = Xa c → cs'[i]? = Xa c' → Zcl P c c') : YX P (.tuple cs) (.tuple cs')
 | box {cs cs' : List AV} (hl : cs.length = cs'.length) (h : ∀ (i : Nat) (c c' : AV), cs[i]? = Xa c → cs'[i]? = Xa c' → Y2 P c c') : YX P (.box cs) (.box cs')
 | gbox {cs cs' : List AV} (hl : cs.length = cs'.length) (h : ∀ (i : Nat) (c c' : AV), cs[i]? = Xa c → cs'[i]? = Xa c' → Y2 P c c') : YX P (.gbox cs) (.gbox cs')
 | aggo {cs cs' : List AV} (hl : cs.length = cs'.length) (h : ∀ (i : Nat) (c c' : AV), cs[i]? = Xa c → cs'[i]? = Xa c' → Y2 P c c') : YX P (.aggo cs) (.aggo cs')
 | store {rows : List (List AV)} : YX P (.store rows) (.store rows)
theorem Y6 {P:Program} {x y:AV} (h:Y2 P x y):y.isCell=Xb∨∃ b e xs,y = .own b e xs:=by
 cases h with
 | same h => exact h
 | nil => exact .inl rfl
 | imm => exact .inl rfl
 | immN => exact .inl rfl
 | own => exact .inl rfl
 | ownN _ => exact .inr ⟨_, _, _, rfl⟩
 | ownZ => exact .inl rfl
 | give _ => exact .inr ⟨_, _, _, rfl⟩
theorem ZbG {P:Program} {x y:AV} (h:Y2 P x y):x.isCell=Xb∨∃ b e xs,x = .own b e xs:=by
 cases h with
 | same h => exact h
 | nil => exact .inl rfl
 | imm => exact .inl rfl
 | immN => exact .inl rfl
 | own => exact .inr ⟨_, _, _, rfl⟩
 | ownN _ => exact .inr ⟨_, _, _, rfl⟩
 | ownZ => exact .inr ⟨_, _, _, rfl⟩
 | give _ => exact .inl rfl
theorem Zd5 {P:Program} {e e':TypeId} {xs xs':List (List AV)} (h:Y2 P (.own Xb e xs) (.own Xb e' xs')):e'=e∧xs'=xs:=by
 cases h with
 | same _ => exact ⟨rfl, rfl⟩
 | ownN _ => exact ⟨rfl, rfl⟩
theorem ZeY {P:Program} {x:AV} {e:TypeId} {xs:List (List AV)} (h:Y2 P x (.own Xb e xs)) (hd:Ze P e=Xb):x = .own Xb e xs:=by
 cases h with
 | same _ => rfl
 | ownN he => rw [YS he] at hd; cases hd
 | give he => rw [YS he] at hd; cases hd
theorem Zk0 {P:Program} {x:AV} {e:TypeId} {xs:List (List AV)} (h:Zcl P x (.own Xb e xs)) (hd:Ze P e=Xb):x = .own Xb e xs:=by
 cases h with
 | cell h => exact ZeY h hd
theorem WK {P:Program} {cs cs':List AV} (hl:cs.length=cs'.length) (h:∀ (i:Nat) (c c':AV),cs[i]? = Xa c→cs'[i]? = Xa c'→Zcl P c c') {k:Nat} {e:TypeId} {xs:List (List AV)}
  (hy:(match cs'[k]? with | some (.own Xb e xs)=>Xa (e,xs) | _=>Xe)=Xa (e,xs)) (hd:Ze P e=Xb):(match cs[k]? with | some (.own Xb e xs)=>Xa (e,xs) | _=>Xe)=Xa (e,xs):=by
 split at hy
 ·rename_i e' xs' hk
  simp only [Xf,Xn] at hy
  obtain ⟨rfl,rfl⟩:=hy
  obtain ⟨c,hc⟩:∃ c,cs[k]? = Xa c:=⟨_,Xp (by rw [hl];exact (Xi.1 hk).1)⟩
  have:=Zk0 (h k c _ hc hk) hd
  subst this
  rw [hc]
 ·cases hy
theorem ZeQ {P:Program} {x y:AV} (h:YX P x y) {k:Nat} {e:TypeId} {xs:List (List AV)} (hy:ZY y k=Xa (e,xs)) (hd:Ze P e=Xb):ZY x k=Xa (e,xs):=by
 cases h with
 | dead => cases k <;> first | cases hy | exact (Z6 hy rfl).elim
 | comp h =>
  cases h with
  | agg _ _ _ => cases k <;> first | cases hy | exact (Z6 hy rfl).elim
  | cell h =>
   rcases Y6 h with hc | ⟨b,e',xs',rfl⟩
   ·cases y<;>simp [AV.isCell] at hc<;>(cases k<;>first | cases hy | exact (Z6 hy rfl).elim)
   ·cases b with
    | false => cases k <;> first | cases hy | exact (Z6 hy rfl).elim
    | true =>
     cases k with
     | zero =>
      simp only [ZY,Xf,Xn] at hy
      obtain ⟨rfl,rfl⟩:=hy
      rw [ZeY h hd]
      rfl
     | succ k => cases hy
 | tuple hl h => cases k with | zero => cases hy | succ k => exact WK hl h hy hd
 | box hl h => cases k with | zero => cases hy | succ k => exact WK hl (fun i c c' h1 h2 => .cell (h i c c' h1 h2)) hy hd
 | gbox hl h => cases k with | zero => cases hy | succ k => exact WK hl (fun i c c' h1 h2 => .cell (h i c c' h1 h2)) hy hd
 | aggo hl h => cases k with | zero => cases hy | succ k => exact WK hl (fun i c c' h1 h2 => .cell (h i c c' h1 h2)) hy hd
 | store => exact hy
theorem Zfg {P:Program} {w:World} {lim:Lm} {Y:Nat→Option Nat} {cs cs':List AV} {v:Value} (h:ZG P w lim Y cs v) (hl:cs.length=cs'.length)
  (hp:∀ (i:Nat) (c c':AV),cs[i]? = Xa c→cs'[i]? = Xa c'→Y2 P c c'):∃ r:Nat→Option Nat,(∀ k,r k=Y k∨r k=Xe)∧r 0=Y 0∧(∀ k,(∃ p,Zp (.box cs) k=Xa p)→r k=Y k)∧ZG P w lim r cs' v:=by
 obtain ⟨b,arr,t,h1,rfl,h3,h4,h5,h6,h7⟩:=h
 obtain ⟨r,g1,g3,g2⟩:=ZbC (P:=P) (w:=w) (lim:=lim) (us:=arr.toList) (Y:=fun i=>Y (i+1)) hl (fun i c u hc hu=>h7 i c u hc (by simpa using hu)) (fun i c c' hc hc'=>.cell (hp i c c' hc hc'))
 refine ⟨fun k=>match k with | 0=>Y 0 | k+1=>r k,fun k=>?_,rfl,fun k hk=>?_,?_⟩
 ·cases k with
  | zero => exact .inl rfl
  | succ k => exact g1 k
 ·obtain ⟨⟨e,xs⟩,hk⟩:=hk
  rcases ZB hk with ⟨h,_⟩ | ⟨ds,q,hd,rfl,hq⟩ | ⟨_,_,h,_⟩
  case inr.inr=>cases h
  ·cases h
  ·cases hd
   have hlt:=(Xi.1 hq).1
   exact g3 q _ (by simp;omega) (Xp (by rw [← hl];exact hlt)) ⟨_,_,_,hq⟩
 ·refine ⟨b,arr,t,h1,rfl,h3,by rw [h4,hl],h5,fun c hc=>?_,fun i c u hc hu=>g2 i c u hc (by simpa using hu)⟩
  obtain ⟨i,hi⟩:=XK.1 hc
  obtain ⟨c0,hc0⟩:∃ c0,cs[i]? = Xa c0:=⟨_,Xp (by rw [hl];exact (Xi.1 hi).1)⟩
  exact (Y6 (hp i c0 c hc0 hi)).imp id .inl
theorem Yy {P:Program} {x y:AV} (h:Zcl P x y):y.isB=Xc:=by
 cases h with
 | agg _ _ _ => rfl
 | cell h =>
  rcases Y6 h with hy | ⟨_,_,_,rfl⟩
  ·cases y<;>first | rfl | (simp [AV.isCell] at hy)
  ·rfl
theorem ZmE {x:AV} (h:x.isSto=Xb):x.isB=Xb:=by cases x<;>first | rfl | cases h
theorem ZhW {P:Program} {x y:AV} (h:YX P x y) (hy:y.isSto=Xb):x.isSto=Xb:=by
 cases h with
 | store => rfl
 | comp h => have := Yy h; rw [ZmE hy] at this; cases this
 | _ => cases hy
theorem Zop {P:Program} {x y:AV} (h:YX P x y) (hy:y.isG=Xb):x.isG=Xb:=by
 cases h with
 | store => rfl
 | gbox _ _ => rfl
 | comp h => have := Yy h; rw [ZbJ hy] at this; cases this
 | _ => cases hy
theorem Zpl {P:Program} {x y:AV} (h:Zcl P x y):(∀ d o,y≠.ptr d o)∧(∀ d k,y≠.mref d k)∧(∀ g ds,y≠.clo g ds)∧∀ d k o,y≠.eref d k o:=by
 cases h with
 | agg _ _ _ => exact ⟨fun _ _ h => (by cases h), fun _ _ h => (by cases h), fun _ _ h => (by cases h), fun _ _ _ h => (by cases h)⟩
 | cell hw =>
  refine ⟨fun _ _ e=>?_,fun _ _ e=>?_,fun _ _ e=>?_,fun _ _ _ e=>?_⟩ <;> subst e<;>rcases Y6 hw with h | ⟨_,_,_,h⟩ <;> cases h
theorem WG {P:Program} {x y:AV} (h:YX P x y):(∀ d o,y≠.ptr d o)∧(∀ d k,y≠.mref d k)∧(∀ g ds,y≠.clo g ds)∧∀ d k o,y≠.eref d k o:=by
 cases h with
 | comp hw => exact Zpl hw
 | _ => exact ⟨fun _ _ h => (by cases h), fun _ _ h => (by cases h), fun _ _ h => (by cases h), fun _ _ _ h => (by cases h)⟩
theorem Zea {P:Program} {x y:AV} (h:YX P x y) {k:Nat} {e e':TypeId} {xs xs':List (List AV)} (hx:Zp x k=Xa (e,xs)) (hy:Zp y k=Xa (e',xs')):e'=e∧xs'=xs:=by
 rcases ZB hx with ⟨rfl,rfl⟩ | ⟨cs,q,rfl,rfl,hq⟩ | ⟨cs,q,rfl,rfl,hq⟩
 ·rcases ZB hy with ⟨rfl,_⟩ | ⟨_,_,_,h0,_⟩ | ⟨_,_,_,h0,_⟩
  ·cases h with
   | comp hw =>
    cases hw with
    | cell hc => exact Zd5 hc
  ·cases h0
  ·cases h0
 ·rcases ZB hy with ⟨_,h0⟩ | ⟨cs',q',rfl,h0,hq'⟩ | ⟨cs',q',rfl,h0,hq'⟩
  ·cases h0
  ·cases h0
   cases h with
   | comp hw => have := Yy hw; cases this
   | box hl hp => exact Zd5 (hp q _ _ hq hq')
  ·cases h with
   | comp hw => have := Yy hw; cases this
 ·rcases ZB hy with ⟨_,h0⟩ | ⟨cs',q',rfl,h0,hq'⟩ | ⟨cs',q',rfl,h0,hq'⟩
  ·cases h0
  ·cases h with
   | comp hw => have := Yy hw; cases this
  ·cases h0
   cases h with
   | comp hw => have := Yy hw; cases this
   | gbox hl hp => exact Zd5 (hp q _ _ hq hq')
theorem Zha {P:Program} {w:World} {lim:Lm} {X:Nat→Nat→Option Nat} {σ:Nat→AV} {d:Nat} {x y:AV} {v:Value} (h:ZQ P w lim X σ d x v) (hw:YX P x y) :
  ∃ r:Nat→Option Nat,(∀ k,r k=X d k∨r k=Xe)∧(y.isB=Xb→r 0=X d 0)∧(∀ k,(∃ p,Zp x k=Xa p)→(∃ p,Zp y k=Xa p)→r k=X d k)∧∀ (X':Nat→Nat→Option Nat) (σ':Nat→AV) (d':Nat),X' d'=r→ZQ P w lim X' σ' d' y v:=by
 cases hw with
 | dead => exact ⟨fun _ => Xe, fun _ => .inr rfl, fun h => (by cases h), fun k _ ⟨p, hp⟩ => (by rcases ZB (e := p.1) (xs := p.2) hp with ⟨h, _⟩ | ⟨_, _, h, _⟩ | ⟨_, _, h, _⟩ <;> cases h), fun _ _ _ _ => trivial⟩
 | comp hw =>
  have hnb:=Yy hw
  have hc:J8 P w lim (X d 0) x v:=by
   cases hw with
   | agg hl hc hp => exact h
   | cell hw =>
    rcases ZbG hw with hx | ⟨b,e,xs,rfl⟩
    ·cases x<;>simp [AV.isCell] at hx<;>exact h
    ·exact h
  obtain ⟨ob,h1,h4,h2⟩:=Zh8 hc hw
  refine ⟨fun k=>if k=0 then ob else Xe,fun k=>?_,fun h=>by (rw [hnb] at h;cases h),fun k ⟨p,hp⟩ _=>?_,fun X' σ' d' hX=>?_⟩
  ·dsimp only
   split
   ·rename_i hk;subst hk;exact h1
   ·exact .inr rfl
  ·rcases ZB (e:=p.1) (xs:=p.2) hp with ⟨hx,rfl⟩ | ⟨cs,q,hx,_⟩ | ⟨cs,q,hx,_⟩
   case inr.inr=>
    subst hx
    cases hw with
    | cell hw => rcases ZbG hw with h | ⟨_, _, _, h⟩ <;> cases h
   ·exact h4 ⟨_,_,_,hx⟩
   ·subst hx
    cases hw with
    | cell hw => rcases ZbG hw with h | ⟨_, _, _, h⟩ <;> cases h
  ·have h3:X' d' 0=ob:=by rw [hX];rfl
   cases hw with
   | agg hl hc hp => exact h2
   | cell hw =>
    rcases Y6 hw with hy | ⟨b,e,xs,rfl⟩
    ·cases y<;>simp [AV.isCell] at hy<;>exact h2
    ·show ZV P w lim b e xs v (X' d' 0)
     rw [h3]
     exact h2
 | @tuple cs cs' hl hp =>
  obtain ⟨us,rfl,h2,h3⟩:=h
  obtain ⟨r,g1,_,g2⟩:=ZbC (Y:=fun i=>X d (i+1)) hl h3 hp
  refine ⟨fun k=>match k with | 0=>Xe | k+1=>r k,fun k=>?_,fun h=>(by cases h),fun k ⟨p,hp⟩ _=>(by rcases ZB (e:=p.1) (xs:=p.2) hp with ⟨h,_⟩ | ⟨_,_,h,_⟩ | ⟨_,_,h,_⟩ <;> cases h),fun X' σ' d' hX=>?_⟩
  ·cases k with
   | zero => exact .inr rfl
   | succ k => exact g1 k
  ·refine ⟨us,rfl,by rw [h2,hl],fun i c u hc hu=>?_⟩
   have:X' d' (i+1)=r i:=by rw [hX]
   rw [this]
   exact g2 i c u hc hu
 | @box cs cs' hl hp =>
  obtain ⟨r,g1,g2,g4,g3⟩:=Zfg h hl hp
  exact ⟨r,g1,fun _=>g2,fun k hk _=>g4 k hk,fun X' σ' d' hX=>by (show ZG P w lim (X' d') cs' v;rw [hX];exact g3)⟩
 | store => exact ⟨X d, fun _ => .inl rfl, fun _ => rfl, fun _ _ _ => rfl, fun X' σ' d' hX => by (show YG P w lim (X' d') _; rw [hX]; exact h)⟩
 | @gbox cs cs' hl hp =>
  obtain ⟨v',h⟩:=h
  obtain ⟨r,g1,g2,g4,g3⟩:=Zfg h hl hp
  exact ⟨r,g1,fun _=>g2,fun k hk _=>g4 k (by cases k<;>exact hk),fun X' σ' d' hX=>⟨v',by rw [hX];exact g3⟩⟩
 | @aggo cs cs' hl hp =>
  obtain ⟨us,rfl,h2,h4,h3⟩:=h
  obtain ⟨r,g1,_,g2⟩:=ZbC (Y:=fun i=>X d (i+1)) hl h3 (fun i c c' h1 h2=>.cell (hp i c c' h1 h2))
  refine ⟨fun k=>match k with | 0=>Xe | k+1=>r k,fun k=>?_,fun h=>(by cases h),fun k ⟨p,hp⟩ _=>(by rcases ZB (e:=p.1) (xs:=p.2) hp with ⟨h,_⟩ | ⟨_,_,h,_⟩ | ⟨_,_,h,_⟩ <;> cases h),fun X' σ' d' hX=>?_⟩
  ·cases k with
   | zero => exact .inr rfl
   | succ k => exact g1 k
  ·refine ⟨us,rfl,by rw [h2,hl],⟨fun c hc=>?_,h4.2⟩,fun i c u hc hu=>?_⟩
   ·obtain ⟨i,hi⟩:=XK.1 hc
    obtain ⟨c0,hc0⟩:∃ c0,cs[i]? = Xa c0:=⟨_,Xp (by rw [hl];exact (Xi.1 hi).1)⟩
    exact (Y6 (hp i c0 c hc0 hi)).imp id .inl
   ·have:X' d' (i+1)=r i:=by rw [hX]
    rw [this]
    exact g2 i c u hc hu
theorem ZU.wider {w:World} {lim:Lm} {w':World} {lim':Lm} {S S':Nat→Prop} (h:ZU w lim w' lim' S) (hs:∀ b,S b→S' b):ZU w lim w' lim' S':=
 ⟨h.os,h.tape,h.output,h.size,h.frz,fun b hb hn=>h.blk b hb fun hS=>hn (hs b hS),h.ext,h.t⟩
def Zt7 (bs:List AV) (a b:AV):Prop:=∃ g ds,a = .clo g ds∧b = .clo g ds∧∀ d∈ds,(ZI bs d).isB=Xb
def Zr8 (bs:List AV) (a b:AV):Prop:=∃ j q,a = .mref j q∧b = .mref j q∧∃ p,Zp (ZI bs j) q=Xa p
def Vv (P:Program) (aZ bs:List AV):Prop:=aZ.length=bs.length∧∀ (i:Nat) (a b:AV),aZ[i]? = Xa a→bs[i]? = Xa b→YX P a b∨Zt7 bs a b∨Zr8 bs a b
theorem Wz {P:Program} {aZ bs:List AV} (h:Vv P aZ bs) (i:Nat):YX P (ZI aZ i) (ZI bs i)∨Zt7 bs (ZI aZ i) (ZI bs i)∨Zr8 bs (ZI aZ i) (ZI bs i):=by
 cases hb:bs[i]? with
 | none =>
  have:ZI bs i = .dead:=by simp [ZI,hb]
  rw [this]
  exact .inl .dead
 | some b =>
  obtain ⟨a,ha⟩:∃ a,aZ[i]? = Xa a:=⟨_,Xp (by rw [h.1];exact (Xi.1 hb).1)⟩
  have h1:ZI aZ i=a:=by simp [ZI,ha]
  have h2:ZI bs i=b:=by simp [ZI,hb]
  rw [h1,h2]
  exact h.2 i a b ha hb
theorem Zgi {P:Program} {aZ bs:List AV} (h:Vv P aZ bs) {i:Nat} (hi:(ZI bs i).isG=Xb):(ZI aZ i).isG=Xb:=by
 rcases Wz h i with h1 | ⟨g,ds,_,h1,_⟩ | ⟨_,_,_,h1,_⟩
 ·exact Zop h1 hi
 ·rw [h1] at hi;cases hi
 ·rw [h1] at hi;cases hi
theorem Zid:∀ (aZ bs:List AV),aZ.length=bs.length→(∀ (i:Nat) (a b:AV),aZ[i]? = Xa a→bs[i]? = Xa b→b.isG=Xb→a.isG=Xb)→bs.countP AV.isG≤aZ.countP AV.isG
 | [], [], _, _ => XD _
 | [], _ :: _, h, _ => by simp at h
 | _ :: _, [], h, _ => by simp at h
 | a :: aZ, b :: bs, hl, h => by
  have ih:=Zid aZ bs (by simpa using hl) fun i x y hx hy=>h (i+1) x y (by simpa using hx) (by simpa using hy)
  have h0:=h 0 a b rfl rfl
  rw [Uz,Uz]
  by_cases hb:b.isG=Xb
  ·rw [if_pos hb,if_pos (h0 hb)];omega
  ·rw [if_neg hb];split<;>omega
theorem ZgW {P:Program} {aZ bs:List AV} (h:Vv P aZ bs):bs.countP AV.isG≤aZ.countP AV.isG:=
 Zid aZ bs h.1 fun i a b ha hb hg=>by
  have h1:ZI aZ i=a:=by simp [ZI,ha]
  have h2:ZI bs i=b:=by simp [ZI,hb]
  have:=Zgi h (i:=i) (by rw [h2];exact hg)
  rwa [h1] at this
theorem Zfj {P:Program} {w:World} {lim:Lm} {X:Nat→Nat→Option Nat} {aZ bs:List AV} {vs:Nat→Value} (h:∀ i,ZQ P w lim X (ZI aZ) i (ZI aZ i) (vs i)) (hw:Vv P aZ bs) :
  ∃ X':Nat→Nat→Option Nat,(∀ i k,X' i k=X i k∨X' i k=Xe)∧(∀ i,(ZI bs i).isB=Xb→X' i 0=X i 0)∧(∀ i,ZQ P w lim X' (ZI bs) i (ZI bs i) (vs i))∧∀ i,aZ.length≤i→X' i=X i:=by
 have key:∀ i,∃ r:Nat→Option Nat,(aZ.length≤i→r=X i)∧(∀ k,r k=X i k∨r k=Xe)∧((ZI bs i).isB=Xb→r 0=X i 0)∧((∀ g ds,ZI bs i≠.clo g ds)→(∀ j q,ZI bs i≠.mref j q)→∀ X':Nat→Nat→Option Nat,X' i=r→ZQ P w lim X' (ZI bs) i (ZI bs i) (vs i))∧
   ∀ k e xs e' xs',Zp (ZI aZ i) k=Xa (e,xs)→Zp (ZI bs i) k=Xa (e',xs')→e'=e∧xs'=xs∧r k=X i k:=by
  intro i
  by_cases hli:aZ.length≤i
  ·have hdb:ZI bs i = .dead:=by
    have:bs[i]? = Xe:=Uc (by rw [← hw.1];exact hli)
    simp [ZI,this]
   exact ⟨X i,fun _=>rfl,fun _=>.inl rfl,fun _=>rfl,fun _ _ X' _=>by rw [hdb];trivial,fun k e xs e' xs' _ hy=>by (rw [hdb] at hy;cases hy)⟩
  rcases Wz hw i with h1 | ⟨g,ds,_,h1,_⟩ | ⟨_,_,_,h1,_⟩
  ·obtain ⟨r,g1,g2,g4,g3⟩:=Zha (h i) h1
   refine ⟨r,fun h=>(hli h).elim,g1,g2,fun _ _ X' hX=>g3 X' _ _ hX,fun k e xs e' xs' hx hy=>?_⟩
   obtain ⟨h2,h3⟩:=Zea h1 hx hy
   exact ⟨h2,h3,g4 k ⟨_,hx⟩ ⟨_,hy⟩⟩
  ·exact ⟨fun _=>Xe,fun h=>(hli h).elim,fun _=>.inr rfl,fun hb=>by (rw [h1] at hb;cases hb),fun hn _=>(hn g ds h1).elim,fun k e xs e' xs' _ hy=>by (rw [h1] at hy;cases hy)⟩
  ·exact ⟨fun _=>Xe,fun h=>(hli h).elim,fun _=>.inr rfl,fun hb=>by (rw [h1] at hb;cases hb),fun _ hn=>(hn _ _ h1).elim,fun k e xs e' xs' _ hy=>by (rw [h1] at hy;cases hy)⟩
 obtain ⟨X',hX⟩:=Td key
 refine ⟨X',fun i=>(hX i).2.1,fun i=>(hX i).2.2.1,fun i=>?_,fun i=>(hX i).1⟩
 rcases Wz hw i with h1 | ⟨g',ds',h0,h1,h2⟩ | ⟨j,q,h0,h1,p,h2⟩
 ·exact (hX i).2.2.2.1 (fun g ds e=>(WG h1).2.2.1 g ds e) (fun j q e=>(WG h1).2.1 j q e) X' rfl
 ·have hi:=h i
  rw [h0] at hi
  rw [h1]
  obtain ⟨bs',m1,m2,m3⟩:=hi
  refine ⟨bs',m1,m2,fun k d b hd hb=>?_⟩
  have hB:=h2 d (Xh hd)
  exact ⟨((hX d).2.2.1 hB).trans (m3 k d b hd hb).1,hB⟩
 ·have hi:=h i
  rw [h0] at hi
  rw [h1]
  obtain ⟨e,xs,m1,m2⟩:=hi
  obtain ⟨e',xs'⟩:=p
  obtain ⟨n1,n2,n3⟩:=(hX j).2.2.2.2 q e xs e' xs' m1 h2
  subst n1
  subst n2
  exact ⟨e',xs',h2,by rw [n3];exact m2⟩
theorem VY.wider {w:World} {lim:Lm} {w':World} {lim':Lm} {S S':Nat→Prop} {st st':Bool} (h:VY w lim w' lim' S st) (hs:∀ b,S b→S' b) (ht:st'=Xc→st=Xc):VY w lim w' lim' S' st':=
 ⟨h.os,h.tape,h.output,h.size,h.frz,fun b hb hn=>h.blk b hb fun hS=>hn (hs b hS),h.ext,fun h'=>h.t (ht h')⟩
theorem Zlk {P:Program} {aZ bs:List AV} (ha:Vv P aZ bs) (h:aZ.any AV.isSto=Xc):bs.any AV.isSto=Xc:=by
 rw [List.any_eq_false] at h ⊢
 intro y hy
 obtain ⟨i,hi⟩:=XK.1 hy
 have hb:ZI bs i=y:=by simp [ZI,hi]
 intro hs
 have hx:(ZI aZ i).isSto=Xb:=by
  rcases Wz ha i with h2 | h2 | h2
  ·rw [hb] at h2;exact ZhW h2 hs
  ·obtain ⟨_,_,_,h3,_⟩:=h2;rw [hb] at h3;rw [h3] at hs;cases hs
  ·rw [hb] at h2
   obtain ⟨_,_,_,h3,_⟩:=h2;rw [h3] at hs;cases hs
 unfold ZI at hx
 cases hai:aZ[i]? with
 | none => rw [hai] at hx; cases hx
 | some x => rw [hai] at hx; exact h x (Xh hai) hx
theorem Zg3 {X X':Nat→Nat→Option Nat} (h:ZlI X) (hX:∀ i k,X' i k=X i k∨X' i k=Xe):ZlI X':=by
 intro d k d' k' b h1 h2
 rcases hX d k with e1 | e1
 ·rcases hX d' k' with e2 | e2
  ·exact h d k d' k' b (e1.symm.trans h1) (e2.symm.trans h2)
  ·rw [e2] at h2;cases h2
 ·rw [e1] at h1;cases h1
theorem ZdK {P:Program} {aZ bs:List AV} (h:Vv P aZ bs) {i k:Nat} {e:TypeId} {xs:List (List AV)} (hy:ZY (ZI bs i) k=Xa (e,xs)) (hd:Ze P e=Xb):ZY (ZI aZ i) k=Xa (e,xs):=by
 rcases Wz h i with h1 | ⟨g,ds,_,h1,_⟩ | ⟨_,_,_,h1,_⟩
 ·exact ZeQ h1 hy hd
 ·rw [h1] at hy;cases k<;>first | cases hy | exact (Z6 hy rfl).elim
 ·rw [h1] at hy;cases k<;>first | cases hy | exact (Z6 hy rfl).elim
theorem Zg6 {aZ:List AV} {x:AV} {i:Nat} (h:i < aZ.length):ZI (aZ++[x]) i=ZI aZ i:=by
 simp only [ZI];rw [Xv h]
theorem Zg0 {aZ:List AV} {x:AV} : ZI (aZ++[x]) aZ.length=x:=by simp [ZI]
theorem Zi8 {P:Program} {res res':AV} {outs outs':List AV} (ho:Vv P (outs++[res]) (outs'++[res'])) (h:V8 P outs):V8 P outs':=by
 have hll:outs.length=outs'.length:=by have:=ho.1;simpa using this
 intro i k e xs hi
 cases hd:Ze P e with
 | false => rfl
 | true =>
  have hlt:i < outs'.length:=by
   rcases Xx i outs'.length with hlt | hge
   ·exact hlt
   ·have:outs'[i]? = Xe:=Uc hge
    simp only [ZI,this,Option.getD_none] at hi
    cases k<;>first | cases hi | exact (Z6 hi rfl).elim
  rw [← Zg6 (x:=res') hlt] at hi
  have h1:=ZdK ho hi hd
  rw [Zg6 (by omega)] at h1
  rw [h i k e xs h1] at hd
  exact hd.symm
theorem Yo.stronger {P:Program} {f:FuncId} {aZ bs:List AV} {res:AV} {outs:List AV} (h:Yo P f bs res outs) (ha:Vv P aZ bs):Yo P f aZ res outs:=by
 refine ⟨h.1,by rw [ha.1];exact h.2.1,fun w lim X cargs hcl hrel hdist hsize hfar=>?_⟩
 obtain ⟨X2,g1,g3,g2,g4⟩:=Zfj hrel ha
 have hX2:∀ i k b,X2 i k=Xa b→X i k=Xa b:=by
  intro i k b hb
  rcases g1 i k with e | e
  ·rw [← e];exact hb
  ·rw [e] at hb;cases hb
 refine (h.2.2 w lim X2 cargs (by have:=ZgW ha;have:=ha.1;omega) g2 (Zg3 hdist g1) (fun i k b hb=>hsize i k b (hX2 i k b hb)) fun i hi k=>by rw [g4 i (by rw [ha.1];exact hi)];exact hfar i (by rw [ha.1];exact hi) k).mono ?_
 rintro e w' ⟨v,lim',X',he,hst,hol,hr,hd,hin,hgh,hnl,hnr⟩
 refine ⟨v,lim',X',he,hst.wider (fun b ⟨i,k,hb⟩=>⟨i,k,hX2 i k b hb⟩) (Zlk ha),by rw [hol,ha.1],fun i=>by (rw [ha.1];exact hr i),hd,fun i k b hb=>?_,fun i hi=>?_,hnl,by rw [ha.1];exact hnr⟩
 ·obtain ⟨m1,m2⟩:=hin i k b hb
  exact ⟨m1,m2.imp (fun ⟨i,k,h⟩=>⟨i,k,hX2 i k b h⟩) id⟩
 ·obtain ⟨m1,m2⟩:=hgh i hi
  exact ⟨Zgi ha m1,by rw [m2,g3 i (ZbJ m1)]⟩
def ZjD (ρ:Nat→V) (n:Nat) (l:List V):Prop:=∀ (j:Nat) (v:V),l[j]? = Xa v→ρ (n+j)=v
theorem ZjD.tail {ρ:Nat→V} {n:Nat} {v:V} {l:List V} (h:ZjD ρ n (v::l)):ρ n=v∧ZjD ρ (n+1) l:=
 ⟨h 0 v rfl,fun j u hj=>by rw [show n+1+j=n+(j+1) by omega];exact h (j+1) u (by simpa using hj)⟩
theorem ZjD.app {ρ:Nat→V} {n:Nat} {l l':List V} (h:ZjD ρ n (l++l')):ZjD ρ n l∧ZjD ρ (n+l.length) l':=
  ⟨fun j v hj=>h j v (by rw [Xv (Xi.1 hj).1];exact hj),
   fun j v hj=>by
    rw [show n+l.length+j=n+(l.length+j) by omega]
    exact h _ v (by rw [Xy (by omega)];simpa using hj)⟩
theorem ZjD.bind (ρ:Nat→V) (n:Nat) (vs:List V):ZjD (bind ρ n vs) n vs:=by
 intro j v hj
 unfold AM.bind
 rw [if_neg (by omega),show n+j-n=j by omega,hj]
 rfl
def vAt (us:List V) (j:Nat):V:=(us[j]?).getD (.i 0)
def Kb:Sh→V→AV
 | .int k, v => .val (.int k v.int)
 | .bool, v => .val (.bool v.bool)
 | .str, v => .val (.string v.str)
 | .slice s, v => .slice Xc s v.list
 | .own x e, v => .own x e v.list
 | .cel, v => Zk v.list
def Jb:List Sh→List V→Nat→List AV
 | [], _, _ => []
 | s :: ss, us, j => Kb s (vAt us j) :: Jb ss us (j + 1)
theorem Zlx {s:Sh} (h:s.imm=Xb) (v:V):(Kb s v).isCell=Xb:=by
 cases s with
 | own _ _ => simp [Sh.imm] at h
 | cel => exact KN (YT _)
 | _ => rfl
theorem Y8 (pre post:List V) (v:V):vAt (pre++v::post) pre.length=v:=by simp [vAt]
theorem JG:∀ (l:List Sh) (us:List V) (j:Nat),(Jb l us j).length=l.length
 | [], _, _ => rfl
 | _ :: ss, us, j => by simp [Jb, JG ss us (j + 1)]
theorem Vz:∀ (l:List Sh) (us:List V) (j:Nat),l.all Sh.imm=Xb→∀ c∈Jb l us j,c.isCell=Xb
 | [], _, _, _ => by simp [Jb]
 | s :: ss, us, j, h => by
  rw [Ur,Xs] at h
  intro c hc
  rcases Xl.1 hc with rfl | hc
  ·exact Zlx h.1 _
  ·exact Vz ss us (j+1) h.2 c hc
section
variable {P:Program} {ρ:Nat→V}
theorem ZfQ {s:Sh} {x:SC} {v:VE} (h:Zqs s x=Xa v):Y2 P (x.den ρ) (Kb s (v.den ρ)):=by
 unfold Zqs at h
 split at h
 ·split at h
  ·simp only [Xf] at h;subst h;rename_i hk;subst hk;exact .same (.inl rfl)
  ·cases h
 ·simp only [Xf] at h;subst h;exact .same (.inl rfl)
 ·simp only [Xf] at h;subst h;exact .same (.inl rfl)
 ·split at h
  ·simp only [Xf] at h;subst h;rename_i hk;subst hk;exact .imm
  ·split at h
   ·simp only [Xf] at h;subst h;exact .immN
   ·cases h
 ·simp only [Xf] at h;subst h;exact .same (.inl (KN (YT _)))
 ·split at h
  ·split at h
   ·rename_i hlt
    simp only [Xf] at h;subst h;exact .give hlt
   ·cases h
  ·cases h
 ·cases h
theorem ZhM {l:LE} (h:l.isNil=Xb):l = .nil:=by cases l<;>first | rfl | cases h
theorem Zdd {s:Sh} {x:Bool} {e:TypeId} {l:LE} {v:VE} (h:ZdY P s x e l=Xa v):Y2 P (.own x e (l.den ρ)) (Kb s (v.den ρ)):=by
 unfold ZdY at h
 split at h
 ·split at h
  ·simp only [Xf] at h
   subst h
   rename_i hk
   obtain ⟨rfl,hk⟩:=hk
   rcases hk with rfl | hk
   ·exact .same (.inr ⟨_,_,_,rfl⟩)
   ·have:=ZhM hk.1
    subst this
    exact .ownN hk.2
  ·cases h
 ·split at h
  ·simp only [Xf] at h
   subst h
   rename_i hk
   obtain ⟨rfl,hk⟩:=hk
   rcases hk with rfl | hk
   ·exact .own
   ·have:=ZhM hk
    subst this
    exact .ownZ
  ·cases h
 ·cases h
theorem ZfY:∀ (l:List Sh) (cs:List SC) (vs:List VE),Zhh l cs=Xa vs→vs.length=l.length∧cs.length=l.length∧∀ pre post:List V,
  ∀ (i:Nat) (c c':AV),(cs.map (SC.den ρ))[i]? = Xa c→(Jb l (pre++vs.map (VE.den ρ)++post) pre.length)[i]? = Xa c'→Y2 P c c'
 | [], [], vs, h => by
  simp only [Zhh,Xf] at h
  subst h
  exact ⟨rfl,rfl,fun _ _ i c c' h=>by simp at h⟩
 | [], _ :: _, _, h => by simp [Zhh] at h
 | _ :: _, [], _, h => by simp [Zhh] at h
 | s :: ss, c :: cs, us, h => by
  simp only [Zhh] at h
  split at h
  ·rename_i v vs hv hvs
   simp only [Xf] at h
   subst h
   obtain ⟨h1,h2,h3⟩:=ZfY ss cs vs hvs
   refine ⟨by simp [h1],by simp [h2],fun pre post i c1 c2 hc1 hc2=>?_⟩
   cases i with
   | zero =>
    simp only [Jb,Xg,XB,Xf] at hc1 hc2
    subst hc1
    subst hc2
    rw [Xu,XP,Y8]
    exact ZfQ hv
   | succ i =>
    have:=h3 (pre++[v.den ρ]) post i c1 c2 (by simpa using hc1)
    simp only [Xu,XP,XX,XA,XJ,Wi] at this
    simp only [Jb,Xg,X5,Xu,XP] at hc2
    exact this hc2
  ·cases h
theorem Zq1 {s:Sh} {x:BC} {v:VE} (h:ZtJ P s x=Xa v):Y2 P (x.den ρ) (Kb s (v.den ρ)):=by
 unfold ZtJ at h
 split at h
 ·exact ZfQ h
 ·exact Zdd h
 ·cases h
theorem VC:∀ (l:List Sh) (cs:List BC) (vs:List VE),Zch P l cs=Xa vs→vs.length=l.length∧cs.length=l.length∧∀ pre post:List V,
  ∀ (i:Nat) (c c':AV),(cs.map (BC.den ρ))[i]? = Xa c→(Jb l (pre++vs.map (VE.den ρ)++post) pre.length)[i]? = Xa c'→Y2 P c c'
 | [], [], vs, h => by
  simp only [Zch,Xf] at h
  subst h
  exact ⟨rfl,rfl,fun _ _ i c c' h=>by simp at h⟩
 | [], _ :: _, _, h => by simp [Zch] at h
 | _ :: _, [], _, h => by simp [Zch] at h
 | s :: ss, c :: cs, us, h => by
  simp only [Zch] at h
  split at h
  ·rename_i v vs hv hvs
   simp only [Xf] at h
   subst h
   obtain ⟨h1,h2,h3⟩:=VC ss cs vs hvs
   refine ⟨by simp [h1],by simp [h2],fun pre post i c1 c2 hc1 hc2=>?_⟩
   cases i with
   | zero =>
    simp only [Jb,Xg,XB,Xf] at hc1 hc2
    subst hc1
    subst hc2
    rw [Xu,XP,Y8]
    exact Zq1 hv
   | succ i =>
    have:=h3 (pre++[v.den ρ]) post i c1 c2 (by simpa using hc1)
    simp only [Xu,XP,XX,XA,XJ,Wi] at this
    simp only [Jb,Xg,X5,Xu,XP] at hc2
    exact this hc2
  ·cases h
end
theorem Zk6 {s:Sh} (hs:s.imm=Xb) {n:Nat} {ρ:Nat→V} {v:V} (h:ρ n=v):(Ji s n).den ρ=Kb s v:=by
 subst h
 cases s with
 | own _ _ => simp [Sh.imm] at hs
 | cel => simp only [Ji, SC.den, LE.den, Kb]
 | _ => rfl
theorem ZdI:∀ (l:List Sh) (n m:Nat) (ρ:Nat→V) (us:List V),l.all Sh.imm=Xb→(∀ j,j < l.length→ρ (n+j)=vAt us (m+j))→(Zv l n).map (SC.den ρ)=Jb l us m
 | [], _, _, _, _, _, _ => rfl
 | s :: ss, n, m, ρ, us, hi, h => by
  rw [Ur,Xs] at hi
  rw [Zv,Xg,Jb,Zk6 hi.1 (show ρ n=vAt us m from h 0 (by simp)),ZdI ss (n+1) (m+1) ρ us hi.2 fun j hj=>by
   have:=h (j+1) (by simp;omega)
   rw [show n+1+j=n+(j+1) by omega,show m+1+j=m+(j+1) by omega]
   exact this]
theorem ZoT {s:Sh} {n:Nat} {ρ:Nat→V} {v:V} (h:ρ n=v):(Zpb s n).den ρ=Kb s v:=by
 subst h
 cases s with
 | cel => simp only [Zpb, BC.den, Ji, SC.den, LE.den, Kb]
 | _ => rfl
theorem Zbx:∀ (l:List Sh) (n m:Nat) (ρ:Nat→V) (us:List V),(∀ j,j < l.length→ρ (n+j)=vAt us (m+j))→(KT l n).map (BC.den ρ)=Jb l us m
 | [], _, _, _, _, _ => rfl
 | s :: ss, n, m, ρ, us, h => by
  rw [KT,Xg,Jb,ZoT (show ρ n=vAt us m from h 0 (by simp)),Zbx ss (n+1) (m+1) ρ us fun j hj=>by
   have:=h (j+1) (by simp;omega)
   rw [show n+1+j=n+(j+1) by omega,show m+1+j=m+(j+1) by omega]
   exact this]
def KE (h:HP) (us:List V) (j:Nat):AV:=
 match h with
 | .c s => Kb s (vAt us j)
 | .agg l => .agg (Jb l us j)
 | .box l => .box (Jb l us j)
 | .mref d k => .mref d k
 | .ptr d o => .ptr d o
 | .dead => .dead
 | .gbox l => .gbox (Jb l us j)
 | .clo g ds => .clo g ds
 | .eref d k s o => .eref d k ((vAt us j).int.toNat * s + o)
 | .sto => .store (vAt us j).list
def HP.fine:HP→Bool
 | .agg l => l.all Sh.imm
 | _ => Xb
theorem ZlR {h:HP} (hf:h.fine=Xb) {n m:Nat} {ρ:Nat→V} {us:List V} (hρ:∀ j,j < h.n→ρ (n+j)=vAt us (m+j)):(ZlJ h n).den ρ=KE h us m:=by
 cases h with
 | c s =>
  have h0:=hρ 0 (Nat.zero_lt_one)
  simp only [Wq] at h0
  cases s<;>simp only [ZlJ,KE,SV.den,Ji,SC.den,IE.den,BE.den,SE.den,LE.den,h0,Kb]
 | agg l => simp only [ZlJ, KE, SV.den, ZdI l n m ρ us hf hρ]
 | box l => simp only [ZlJ, KE, SV.den, Zbx l n m ρ us hρ]
 | gbox l => simp only [ZlJ, KE, SV.den, Zbx l n m ρ us hρ]
 | clo g ds => rfl
 | mref d k => rfl
 | ptr d o => rfl
 | dead => rfl
 | sto =>
  have h0:=hρ 0 (Nat.zero_lt_one)
  simp only [Wq] at h0
  simp only [ZlJ,KE,SV.den,LE.den,h0]
 | eref d k s o =>
  have h0:=hρ 0 (Nat.zero_lt_one)
  simp only [Wq] at h0
  simp only [ZlJ,KE,SV.den,IE.den,h0]
def ZtN (h:HP) (x y:AV):Prop:=(∃ d o,h = .ptr d o∧x = .ptr d o)∨(∃ d k,h = .mref d k∧x = .mref d k)∨(∃ g ds,h = .clo g ds∧x = .clo g ds)∨∃ d k s o q,h = .eref d k s o∧x = .eref d k q∧y = .eref d k q
theorem Zmh {P:Program} {ρ:Nat→V} {h:HP} {x:SV} {vs:List VE} (hv:ZjK P h x=Xa vs):vs.length=h.n∧h.fine=Xb∧∀ pre post:List V,
  ZtN h (x.den ρ) (KE h (pre++vs.map (VE.den ρ)++post) pre.length)∨YX P (x.den ρ) (KE h (pre++vs.map (VE.den ρ)++post) pre.length):=by
 unfold ZjK at hv
 split at hv
 ·cases hd:Zqs _ _ with
  | none => rw [hd] at hv; cases hv
  | some v =>
   rw [hd] at hv
   simp only [Xo,Xf] at hv
   subst hv
   refine ⟨rfl,rfl,fun pre post=>.inr ?_⟩
   simp only [KE,Xg,Xz,Xu,XP,XX,Y8]
   exact .comp (.cell (ZfQ hd))
 ·cases hd:ZdY P _ _ _ _ with
  | none => rw [hd] at hv; cases hv
  | some v =>
   rw [hd] at hv
   simp only [Xo,Xf] at hv
   subst hv
   refine ⟨rfl,rfl,fun pre post=>.inr ?_⟩
   simp only [KE,Xg,Xz,Xu,XP,XX,Y8]
   exact .comp (.cell (Zdd hd))
 ·split at hv
  ·rename_i hi
   obtain ⟨h1,h2,h3⟩:=ZfY (P:=P) (ρ:=ρ) _ _ _ hv
   exact ⟨h1,hi,fun pre post=>.inr (.comp (.agg (by rw [Xq,h2,JG]) (Vz _ _ _ hi) (h3 pre post)))⟩
  ·cases hv
 ·obtain ⟨h1,h2,h3⟩:=VC (P:=P) (ρ:=ρ) _ _ _ hv
  exact ⟨h1,rfl,fun pre post=>.inr (.box (by rw [Xq,h2,JG]) (h3 pre post))⟩
 ·split at hv
  ·rename_i hh
   simp only [Xf] at hv
   subst hv
   obtain ⟨rfl,rfl⟩:=hh
   exact ⟨rfl,rfl,fun _ _=>.inl (.inr (.inl ⟨_,_,rfl,rfl⟩))⟩
  ·cases hv
 ·split at hv
  ·rename_i hh
   simp only [Xf] at hv
   subst hv
   obtain ⟨rfl,rfl⟩:=hh
   exact ⟨rfl,rfl,fun _ _=>.inl (.inl ⟨_,_,rfl,rfl⟩)⟩
  ·cases hv
 ·simp only [Xf] at hv
  subst hv
  exact ⟨rfl,rfl,fun _ _=>.inr .dead⟩
 ·obtain ⟨h1,h2,h3⟩:=VC (P:=P) (ρ:=ρ) _ _ _ hv
  exact ⟨h1,rfl,fun pre post=>.inr (.gbox (by rw [Xq,h2,JG]) (h3 pre post))⟩
 ·simp only [Xf] at hv
  subst hv
  refine ⟨rfl,rfl,fun pre post=>.inr ?_⟩
  simp only [KE,Xg,Xz,Xu,XP,XX,Y8]
  exact .store
 ·split at hv
  ·rename_i hh
   simp only [Xf] at hv
   subst hv
   obtain ⟨rfl,rfl⟩:=hh
   exact ⟨rfl,rfl,fun _ _=>.inl (.inr (.inr (.inl ⟨_,_,rfl,rfl⟩)))⟩
  ·cases hv
 ·split at hv
  ·rename_i hh
   simp only [Xf] at hv
   subst hv
   obtain ⟨rfl,rfl,rfl,rfl⟩:=hh
   refine ⟨rfl,rfl,fun pre post=>.inl (.inr (.inr (.inr ⟨_,_,_,_,_,rfl,rfl,?_⟩)))⟩
   simp only [KE,Xg,Xz,Xu,XP,XX,Y8]
   rfl
  ·cases hv
 ·cases hv
theorem VH {P:Program} {g:Nat→SV} {ρ:Nat→V} : ∀ (hs:List (Nat×HP)) (n:Nat) (ves:List VE) (pre:List V),Ky P g hs=Xa ves→pre.length=n→
  (Jd hs n).2=n+ves.length∧(Jd hs n).1.map (·.1)=hs.map (·.1)∧∀ u∈(Jd hs n).1,∃ h,(u.1,h)∈hs∧∃ m,u.2=ZlJ h m∧m+h.n≤n+ves.length∧h.fine=Xb∧
   ∀ post:List V,ZtN h ((g u.1).den ρ) (KE h (pre++ves.map (VE.den ρ)++post) m)∨YX P ((g u.1).den ρ) (KE h (pre++ves.map (VE.den ρ)++post) m)
 | [], n, ves, pre, h, hp => by
  simp only [Ky,Xf] at h
  subst h
  exact ⟨rfl,rfl,by simp [Jd]⟩
 | p :: r, n, ves, pre, h, hp => by
  simp only [Ky] at h
  split at h
  ·rename_i v vs hv hvs
   simp only [Xf] at h
   subst h
   obtain ⟨h1,h2,h3⟩:=Zmh (P:=P) (ρ:=ρ) hv
   obtain ⟨g1,g2,g3⟩:=VH r (n+p.2.n) vs (pre++v.map (VE.den ρ)) hvs (by simp [hp,h1])
   refine ⟨by simp only [Jd,g1,XA,h1];omega,by simp only [Jd,Xg,g2],fun u hu=>?_⟩
   simp only [Jd,Xl] at hu
   rcases hu with rfl | hu
   ·refine ⟨p.2,by simp,n,rfl,by simp only [XA,h1];omega,h2,fun post=>?_⟩
    have:=h3 pre (vs.map (VE.den ρ)++post)
    rw [hp] at this
    simpa [Xu] using this
   ·obtain ⟨h,k1,m,k2,k3,k4,k5⟩:=g3 u hu
    refine ⟨h,by simp [k1],m,k2,by simp only [XA,h1];omega,k4,fun post=>?_⟩
    have:=k5 post
    simpa [Xu] using this
  ·cases h
theorem Zfu:∀ (hs:List (Nat×HP)) (n:Nat),n≤(Jd hs n).2∧∀ u∈(Jd hs n).1,u.2.bd (Jd hs n).2
 | [], n => ⟨XD _, by simp [Jd]⟩
 | p :: r, n => by
  obtain ⟨h1,h2⟩:=Zfu r (n+p.2.n)
  refine ⟨by simp only [Jd];omega,fun u hu=>?_⟩
  simp only [Jd,Xl] at hu
  rcases hu with rfl | hu
  ·have hb:(ZlJ p.2 n).bd (n+p.2.n):=by
    cases hp:p.2 with
    | c s => cases s <;> exact Wp n
    | agg l => exact Jr l n
    | box l => exact Yk l n
    | mref d k => trivial
    | ptr d o => trivial
    | dead => trivial
    | gbox l => exact Yk l n
    | clo g ds => trivial
    | eref d k s o => exact Wp n
    | sto => exact Wp n
   exact SV.bd_mono (by simpa [Jd] using h1) _ hb
  ·exact h2 u hu
def ZqB (P:Program) (σ σ':Nat→AV) (d:Nat):Prop:=
 YX P (σ d) (σ' d)∨(∃ d' o,σ d = .ptr d' o∧σ' d = .ptr d' o∧(∃ cs,σ' d' = .box cs))∨(∃ d' k,σ d = .mref d' k∧σ' d = .mref d' k∧∃ p,Zp (σ' d') k=Xa p)∨
  (∃ g ds,σ d = .clo g ds∧σ' d = .clo g ds∧∀ d'∈ds,(σ' d').isB=Xb)∨∃ d' k o,σ d = .eref d' k o∧σ' d = .eref d' k o∧∃ p,Zp (σ' d') k=Xa p
theorem Zlb {P:Program} {x:AV} {e:TypeId} {xs:List (List AV)} (h:YX P x (.own Xb e xs)):x = .own Xb e xs∨xs = []:=by
 cases h with
 | comp h =>
  cases h with
  | cell h =>
   cases h with
   | same _ => exact .inl rfl
   | ownN _ => exact .inr rfl
   | give _ => exact .inr rfl
theorem Sim.head {c:Ctx} {σ σ':Nat→AV} {tm:Array Value} {w:World} {lim:Lm} {X:Nat→Nat→Option Nat} (h:Sim c σ tm w lim X) (hw:∀ d,ZqB c.P σ σ' d) (hout:∀ d,c.nt≤d→σ' d = .dead∨(σ' d).isG=Xb)
  (hpin:∀ d v,c.pin d=Xa v→∃ cs,σ' d = .box cs) (hgpin:∀ d b,c.gpin d=Xa b→(σ' d).isG=Xb):∃ X',Sim c σ' tm w lim X':=by
 have hG:∀ d,(σ' d).isG=Xb→(σ d).isG=Xb:=by
  intro d hd
  rcases hw d with hs | ⟨d',o,_,h2,_⟩ | ⟨d',k,_,h2,_⟩ | ⟨g,ds,_,h2,_⟩ | ⟨d',k,o,_,h2,_⟩
  ·exact Zop hs hd
  all_goals (rw [h2] at hd;cases hd)
 have hfar:∀ d,ngN≤d→σ' d = .dead:=by
  intro d hd
  rcases hout d (XV h.ntN hd) with h1 | h1
  ·exact h1
  ·have:=hG d h1
   rw [h.far d hd] at this
   cases this
 have key:∀ d,∃ r:Nat→Option Nat,(ngN≤d→r=X d)∧(∀ k,r k=X d k∨r k=Xe)∧((σ' d).isB=Xb→r 0=X d 0)∧(∀ k,(∃ p,Zp (σ d) k=Xa p)→(∃ p,Zp (σ' d) k=Xa p)→r k=X d k)∧
   (YX c.P (σ d) (σ' d)→∀ X':Nat→Nat→Option Nat,X' d=r→ZQ c.P w lim X' σ' d (σ' d) (tm.getD d undef))∧(∀ e xs,σ d = .own Xb e xs→σ' d = .own Xb e xs→r=X d):=by
  intro d
  have hd:=h.rel d
  by_cases hdf:ngN≤d
  ·exact ⟨X d,fun _=>rfl,fun _=>.inl rfl,fun _=>rfl,fun _ _ _=>rfl,fun _ X' _=>by rw [hfar d hdf];trivial,fun _ _ _ _=>rfl⟩
  by_cases hsame:∃ e xs,σ d = .own Xb e xs∧σ' d = .own Xb e xs
  ·obtain ⟨e,xs,h1,h2⟩:=hsame
   refine ⟨X d,fun _=>rfl,fun _=>.inl rfl,fun _=>rfl,fun _ _ _=>rfl,fun _ X' hX=>?_,fun _ _ _ _=>rfl⟩
   rw [h1] at hd
   rw [h2]
   show ZV c.P w lim Xb e xs _ (X' d 0)
   rw [hX]
   exact hd
  have hsm:∀ {r:Nat→Option Nat} (e:TypeId) (xs:List (List AV)),σ d = .own Xb e xs→σ' d = .own Xb e xs→r=X d:=fun e xs h1 h2=>(hsame ⟨e,xs,h1,h2⟩).elim
  have hno:∀ {y:AV},σ d=y→(∀ k,Zp y k=Xe)→∀ k,(∃ p,Zp (σ d) k=Xa p)→(∃ p,Zp (σ' d) k=Xa p)→(Xe:Option Nat)=X d k:=by
   rintro y he hy k ⟨p,hp⟩ _
   rw [he,hy k] at hp
   cases hp
  rcases hw d with hs | ⟨d',o,h1,h2,_⟩ | ⟨d',k,h1,h2,_⟩ | ⟨g,ds,h1,h2,_⟩ | ⟨d',k,o,h1,h2,_⟩
  ·obtain ⟨r,g1,g2,g4,g3⟩:=Zha hd hs
   exact ⟨r,fun h=>(hdf h).elim,g1,g2,g4,fun _ X' hX=>g3 X' σ' d hX,hsm⟩
  ·exact ⟨fun _=>Xe,fun h=>(hdf h).elim,fun _=>.inr rfl,fun hb=>by (rw [h2] at hb;cases hb),hno h1 (fun _=>rfl),fun hs=>((WG hs).1 d' o h2).elim,hsm⟩
  ·exact ⟨fun _=>Xe,fun h=>(hdf h).elim,fun _=>.inr rfl,fun hb=>by (rw [h2] at hb;cases hb),hno h1 (fun _=>rfl),fun hs=>((WG hs).2.1 d' k h2).elim,hsm⟩
  ·exact ⟨fun _=>Xe,fun h=>(hdf h).elim,fun _=>.inr rfl,fun hb=>by (rw [h2] at hb;cases hb),hno h1 (fun _=>rfl),fun hs=>((WG hs).2.2.1 g ds h2).elim,hsm⟩
  ·exact ⟨fun _=>Xe,fun h=>(hdf h).elim,fun _=>.inr rfl,fun hb=>by (rw [h2] at hb;cases hb),hno h1 (fun _=>rfl),fun hs=>((WG hs).2.2.2 d' k o h2).elim,hsm⟩
 obtain ⟨X',hX⟩:=Td key
 have hle:∀ d k b,X' d k=Xa b→X d k=Xa b:=by
  intro d k b hb
  rcases (hX d).2.1 k with e | e
  ·rw [← e];exact hb
  ·rw [e] at hb;cases hb
 have hstW:∀ i,(σ' i).isSto=Xb→(σ i).isSto=Xb:=fun d hd=>by
  rcases hw d with hs | ⟨_,_,_,h2,_⟩ | ⟨_,_,_,h2,_⟩ | ⟨_,_,_,h2,_⟩ | ⟨_,_,_,_,h2,_⟩
  ·exact ZhW hs hd
  all_goals (rw [h2] at hd;cases hd)
 refine ⟨X',⟨fun d=>?_,h.size,hout,fun d hd=>h.ghost d (hG d hd),fun d k d' k' b h1 h2=>h.dist d k d' k' b (hle _ _ _ h1) (hle _ _ _ h2),fun d k b hb=>h.ours d k b (hle _ _ _ hb),h.frm,fun d v hv=>⟨(h.pin d v hv).1,hpin d v hv⟩,fun d e xs hdo=>?_,
  fun d b hb=>⟨((hX d).2.2.1 (ZbJ (hgpin d b hb))).trans (h.gpin d b hb).1,hgpin d b hb⟩,h.ntN,hfar,fun d k e xs b m1 m2 m3=>?_,fun b m b' hb=>h.yfr b m b' (hle _ _ _ hb),h.stfW hstW⟩⟩
 rotate_left
 ·have hs:YX c.P (σ d) (.own Xb e xs):=by
   rcases hw d with hs | ⟨_,_,_,h2,_⟩ | ⟨_,_,_,h2,_⟩ | ⟨_,_,_,h2,_⟩ | ⟨_,_,_,_,h2,_⟩
   ·rw [hdo] at hs;exact hs
   all_goals (rw [hdo] at h2;cases h2)
  rcases Zlb hs with h1 | rfl
  ·rw [(hX d).2.2.2.2.2 e xs h1 hdo];exact h.mp d e xs h1
  ·intro _ _ _ _ _ _ _ _ _ _ h3;cases h3
 ·rw [(hX (ngN+b)).1 (XR _ _)]
  refine h.nst d k e xs b ?_ m2 (hle _ _ _ m3)
  rcases hw d with hs | ⟨_,_,_,h2,_⟩ | ⟨_,_,_,h2,_⟩ | ⟨_,_,_,h2,_⟩ | ⟨_,_,_,_,h2,_⟩
  ·exact ZeQ hs m1 m2
  all_goals (rw [h2] at m1;cases k<;>first | cases m1 | exact (Z6 m1 rfl).elim)
 have hd:=h.rel d
 rcases hw d with hs | ⟨d2,o2,h1,h2,cs',h3⟩ | ⟨d2,k2,h1,h2,p2,h3⟩ | ⟨g,ds,h1,h2,h3⟩ | ⟨d2,k2,o2,h1,h2,p2,h3⟩
 ·exact (hX d).2.2.2.2.1 hs X' rfl
 ·rw [h1] at hd
  obtain ⟨b,cs,g1,g2,g3⟩:=hd
  rw [h2]
  exact ⟨b,cs',by rw [(hX d2).2.2.1 (by rw [h3];rfl),g1],h3,g3⟩
 ·rw [h1] at hd
  obtain ⟨e,xs,g1,g2⟩:=hd
  rw [h2]
  refine ⟨e,xs,?_,by rw [(hX d2).2.2.2.1 k2 ⟨_,g1⟩ ⟨_,h3⟩];exact g2⟩
  rcases hw d2 with hs | ⟨d3,o3,q1,q2,_⟩ | ⟨d3,k3,q1,q2,_⟩ | ⟨g,ds,q1,q2,_⟩ | ⟨_,_,_,q1,q2,_⟩
  ·obtain ⟨m1,m2⟩:=Zea hs g1 (e':=p2.1) (xs':=p2.2) h3
   rw [h3,← m1,← m2]
  all_goals (rw [q1] at g1;cases g1)
 ·rw [h1] at hd
  obtain ⟨bs,g1,g2,g3⟩:=hd
  rw [h2]
  refine ⟨bs,g1,g2,fun i d' b hd' hb=>?_⟩
  have hB:=h3 d' (Xh hd')
  exact ⟨((hX d').2.2.1 hB).trans (g3 i d' b hd' hb).1,hB⟩
 ·rw [h1] at hd
  obtain ⟨b,e,xs,g1,g2,g3⟩:=hd
  rw [h2]
  refine ⟨b,e,xs,?_,by rw [(hX d2).2.2.2.1 k2 ⟨_,g1⟩ ⟨_,h3⟩];exact g2,g3⟩
  rcases hw d2 with hs | ⟨d3,o3,q1,q2,_⟩ | ⟨d3,k3,q1,q2,_⟩ | ⟨g,ds,q1,q2,_⟩ | ⟨_,_,_,q1,q2,_⟩
  ·obtain ⟨m1,m2⟩:=Zea hs g1 (e':=p2.1) (xs':=p2.2) h3
   rw [h3,← m1,← m2]
  all_goals (rw [q1] at g1;cases g1)
section
variable {P:Program} {tm:Array Value} {w:World} {o:Oper}
theorem KK {x:Nat} (ho:o.op = .move (.tmp x)):(execOp (Act.eval ⟨tm,[]⟩) o).run P w = .ok (.value (tm.getD x undef)) w:=by
 have he:Act.eval ⟨tm,[]⟩ (.tmp x)=tm.getD x undef:=rfl
 simp [execOp,ho,he]
theorem Zdi {x:Nat} {a:Addr} (ho:o.op = .nilCheck (.tmp x)) (hx:tm.getD x undef = .pointer (Xa a)):(execOp (Act.eval ⟨tm,[]⟩) o).run P w = .ok (.value (.pointer (Xa a))) w:=by
 have he:Act.eval ⟨tm,[]⟩ (.tmp x)=tm.getD x undef:=rfl
 simp [execOp,ho,he,hx]
theorem Zb0 {T:TypeId} {x f off b p:Nat} (ho:o.op = .fieldAddr T (.tmp x) f) (hf:JH P T f=Xa off) (hx:tm.getD x undef = .pointer (Xa ⟨b,p,Xe⟩)) :
  (execOp (Act.eval ⟨tm,[]⟩) o).run P w = .ok (.value (.pointer (Xa ⟨b,p+off,Xe⟩))) w:=by
 have he:Act.eval ⟨tm,[]⟩ (.tmp x)=tm.getD x undef:=rfl
 simp [execOp,ho,he,hx,KF hf]
theorem ZbV {T:TypeId} {x b p:Nat} {u:Value} (ho:o.op = .load T (.tmp x)) (hT:ZS P T=Xa Xc) (hx:tm.getD x undef = .pointer (Xa ⟨b,p,Xe⟩)) (hc:w.cell? ⟨b,p,Xe⟩=Xa u) :
  (execOp (Act.eval ⟨tm,[]⟩) o).run P w = .ok (.value u) w:=by
 have he:Act.eval ⟨tm,[]⟩ (.tmp x)=tm.getD x undef:=rfl
 simp [execOp,ho,he,hx,Jw hT hc]
theorem Zo4 {T:TypeId} {x b p:Nat} {us:List Value} (ho:o.op = .load T (.tmp x)) (hT:ZS P T=Xa Xb) (hn:us.length=P.cellsOf T) (hx:tm.getD x undef = .pointer (Xa ⟨b,p,Xe⟩)) (hc:∀ (j:Nat) (u:Value),us[j]? = Xa u→w.cell? ⟨b,p+j,Xe⟩=Xa u) :
  (execOp (Act.eval ⟨tm,[]⟩) o).run P w = .ok (.value (.agg us.toArray)) w:=by
 have he:Act.eval ⟨tm,[]⟩ (.tmp x)=tm.getD x undef:=rfl
 simp [execOp,ho,he,hx,JW hT hn hc]
theorem ZsJ {cl:Call} {T e:TypeId} {x n cap:Nat} {a:Option Addr} (ho:o.op = .call cl) (hcl:cl.callee = .builtin .len) (hargs:cl.args.toList = [.tmp x]) (hts:cl.argTypes.toList = [T]) (hT:P.underlying T=Xa (.slice e)) (hx:tm.getD x undef = .slice a n cap) :
  (execOp (Act.eval ⟨tm,[]⟩) o).run P w = .ok (.value (.int .i64 n)) w:=by
 have he:Act.eval ⟨tm,[]⟩ (.tmp x)=tm.getD x undef:=rfl
 have hargs':cl.args = #[.tmp x]:=by apply XG.1;rw [hargs]
 have hts':cl.argTypes = #[T]:=by apply XG.1;rw [hts]
 simp [execOp,ho,hcl,resolve,hargs',hts',invoke,builtin,Builtin.len_,he,hx,run_underlying hT,goInt]
theorem Zms {T T':TypeId} {x:Nat} {a:Int} (ho:o.op = .binOp .add T (.tmp x) (.const (.int .i64 1)) T') (hx:tm.getD x undef = .int .i64 a) :
  (execOp (Act.eval ⟨tm,[]⟩) o).run P w = .ok (.value (.int .i64 (iop .add .i64 a 1))) w:=by
 have h1:Act.eval ⟨tm,[]⟩ (.tmp x) = .int .i64 a:=hx
 have h2:Act.eval ⟨tm,[]⟩ (.const (.int .i64 1)) = .int .i64 1:=rfl
 simp [execOp,ho,h1,h2,eqGuard,binOp,Op.intArith,iop]
theorem Zsg {T e:TypeId} {x i b n cap k:Nat} (ho:o.op = .indexAddr T (.tmp x) (.tmp i)) (hT:P.underlying T=Xa (.slice e)) (hs0:P.cellsOf e≠0) (hx:tm.getD x undef = .slice (Xa ⟨b,0,Xe⟩) n cap) (hi:tm.getD i undef = .int .i64 k) (hk:k < n) :
  (execOp (Act.eval ⟨tm,[]⟩) o).run P w = .ok (.value (.pointer (Xa ⟨b,k*P.cellsOf e,Xe⟩))) w:=by
 have h1:Act.eval ⟨tm,[]⟩ (.tmp x) = .slice (Xa ⟨b,0,Xe⟩) n cap:=hx
 have h2:Act.eval ⟨tm,[]⟩ (.tmp i) = .int .i64 k:=hi
 obtain ⟨inf,hinf⟩:=Zr hs0
 have hb:(0:Int)≤(k:Int)∧(k:Int) < (n:Int):=by omega
 simp [execOp,ho,h1,h2,Instr.indexAt,asIntOf,run_underlying hT,hb,hk,Zu hinf,Jc]
theorem ZsO {T e:TypeId} {x i b n cap k:Nat} (ho:o.op = .slice T (.tmp x) Xe (Xa (.tmp i)) Xe) (hT:P.underlying T=Xa (.slice e)) (hs0:P.cellsOf e≠0) (hx:tm.getD x undef = .slice (Xa ⟨b,0,Xe⟩) n cap) (hi:tm.getD i undef = .int .i64 k) (hk:k≤n) (hn:n≤cap) :
  (execOp (Act.eval ⟨tm,[]⟩) o).run P w = .ok (.value (.slice (Xa ⟨b,0,Xe⟩) k cap)) w:=by
 have h1:Act.eval ⟨tm,[]⟩ (.tmp x) = .slice (Xa ⟨b,0,Xe⟩) n cap:=hx
 have h2:Act.eval ⟨tm,[]⟩ (.tmp i) = .int .i64 k:=hi
 obtain ⟨inf,hinf⟩:=Zr hs0
 have b1:k≤cap:=by omega
 by_cases hc:cap=0
 ·subst hc
  have hk0:k=0:=by omega
  subst hk0
  simp [execOp,ho,h1,h2,Instr.sliceAt,Instr.slice,Instr.sliceBounds,Instr.sliceBound,asIntOf,run_underlying hT,Zu hinf]
 ·simp [execOp,ho,h1,h2,Instr.sliceAt,Instr.slice,Instr.sliceBounds,Instr.sliceBound,asIntOf,run_underlying hT,Zu hinf,b1,hc,Jc]
theorem Zsr {T e:TypeId} {x i b n cap k:Nat} (ho:o.op = .slice T (.tmp x) (Xa (.tmp i)) Xe Xe) (hT:P.underlying T=Xa (.slice e)) (hs0:P.cellsOf e≠0) (hx:tm.getD x undef = .slice (Xa ⟨b,0,Xe⟩) n cap) (hi:tm.getD i undef = .int .i64 k) (hk:k≤n) (hn:n≤cap) :
  (execOp (Act.eval ⟨tm,[]⟩) o).run P w = .ok (.value (.slice (Xa (if cap=k then ⟨b,0,Xe⟩ else ⟨b,k*P.cellsOf e,Xe⟩)) (n-k) (cap-k))) w:=by
 have h1:Act.eval ⟨tm,[]⟩ (.tmp x) = .slice (Xa ⟨b,0,Xe⟩) n cap:=hx
 have h2:Act.eval ⟨tm,[]⟩ (.tmp i) = .int .i64 k:=hi
 obtain ⟨inf,hinf⟩:=Zr hs0
 have b1:k≤cap:=by omega
 by_cases hc:cap=k
 ·simp [execOp,ho,h1,h2,Instr.sliceAt,Instr.slice,Instr.sliceBounds,Instr.sliceBound,asIntOf,run_underlying hT,Zu hinf,b1,hk,hn,hc]
 ·simp [execOp,ho,h1,h2,Instr.sliceAt,Instr.slice,Instr.sliceBounds,Instr.sliceBound,asIntOf,run_underlying hT,Zu hinf,b1,hk,hn,hc,Jc]
theorem Zqt {cl:Call} {T:TypeId} {x y:Nat} {v u v':Value} {w':World} (ho:o.op = .call cl) (hcl:cl.callee = .builtin .append) (hargs:cl.args.toList = [.tmp x,.tmp y]) (hts:cl.argTypes.toList = [T,T]) (hx:tm.getD x undef=v) (hy:tm.getD y undef=u)
  (hr:(Builtin.append_ #[T,T] o.type #[v,u]).run P w = .ok v' w'):(execOp (Act.eval ⟨tm,[]⟩) o).run P w = .ok (.value v') w':=by
 have hargs':cl.args = #[.tmp x,.tmp y]:=by apply XG.1;rw [hargs]
 have hts':cl.argTypes = #[T,T]:=by apply XG.1;rw [hts]
 have h1:Act.eval ⟨tm,[]⟩ (.tmp x)=v:=hx
 have h2:Act.eval ⟨tm,[]⟩ (.tmp y)=u:=hy
 simp only [execOp,ho,resolve,hcl,hargs',hts',Wn,Xg,Xz,Sem.run_bind,Sem.run_pure,Result.andThen_ok,invoke,builtin,h1,h2,hr]
theorem Zj2 {T:TypeId} {a x b p:Nat} {u:Value} {arr:Array Value} {t:TypeId} {i:TypeInfo} (ho:o.op = .store T (.tmp a) (.tmp x)) (hi:P.info? T=Xa i) (h1:P.cellsOf T=1) (ha:tm.getD a undef = .pointer (Xa ⟨b,p,Xe⟩)) (hx:tm.getD x undef=u) (hc:u.cells = #[u]) (hu:u.oneCell'=Xb)
  (hg:w.heap[b]? = Xa (.cells arr t (0,0))) (hp:p < arr.size) :
  (execOp (Act.eval ⟨tm,[]⟩) o).run P w = .ok .skip (w.setRow b (arr.toList.set p u).toArray):=by
 have e1:Act.eval ⟨tm,[]⟩ (.tmp a) = .pointer (Xa ⟨b,p,Xe⟩):=ha
 have e2:Act.eval ⟨tm,[]⟩ (.tmp x)=u:=hx
 have hst:=JY (P:=P) (T:=T) (us:=[u]) (arr:=arr) (off:=p) hi (by rw [hc]) (by simp [h1]) hg (by simp;omega) (by intro v hv;rw [XC.1 hv];exact hu)
 have hset:arr.toList.take p++[u]++arr.toList.drop (p + [u].length)=arr.toList.set p u:=by
  have:=set_take_dropV arr.toList p u (by simpa using hp)
  simpa using this
 rw [hset] at hst
 simp [execOp,ho,e1,e2,hst]
where
 set_take_dropV (cs:List Value) (off:Nat) (x:Value) (h:off < cs.length):cs.take off++[x]++cs.drop (off+1)=cs.set off x:=by
  rw [List.set_eq_take_append_cons_drop,if_pos h]
  simp
end
def Ran (P:Program) (o:Oper) (tm:Array Value) (w:World) (v:Value) (w':World):Prop:=(execOp (Act.eval ⟨tm,[]⟩) o).run P w = .ok (.value v) w'∨(v=undef∧(execOp (Act.eval ⟨tm,[]⟩) o).run P w = .ok .skip w')
theorem Ran.wp {P:Program} {o:Oper} {tm:Array Value} {w w':World} {v:Value} {next:Act→World→Prop} {Q:Exit→Act→World→Prop} (h:Ran P o tm w v w') (hn:next (Act.put ⟨tm,[]⟩ o.dst v) w'):o.wp P ⟨tm,[]⟩ w next Q:=by
 rcases h with h | ⟨rfl,h⟩
 ·exact Zi h hn
 ·exact JA h hn
section
variable {P:Program} {ops:Array Oper} {Q:Exit→Act→World→Prop}
theorem ZpL {rest:List Nat} {i:Nat} {o:Oper} {tm:Array Value} {w w':World} {v:Value} (ho:ops[i]? = Xa o) (hg:o.guard=Xe) (hr:Ran P o tm w v w') (hk:wpOps P ops Q rest (Act.put ⟨tm,[]⟩ o.dst v) w') :
  wpOps P ops Q (i::rest) ⟨tm,[]⟩ w:=by
 rw [wpOps_cons]
 unfold wpOp
 simp only [ho,Region.wanted,hg]
 simp only [if_true]
 exact .inl (hr.wp hk)
theorem Zrd {i:Nat} {o:Oper} {tm:Array Value} {w w':World} {v:Value} {K:Act→World→Prop} (ho:ops[i]? = Xa o) (hg:o.guard=Xe) (hr:Ran P o tm w v w') (hk:K (Act.put ⟨tm,[]⟩ o.dst v) w') :
  wpOp P ops Q i K ⟨tm,[]⟩ w:=by
 unfold wpOp
 simp only [ho,Region.wanted,hg]
 simp only [if_true]
 exact .inl (hr.wp hk)
def Zjf (ops:Array Oper) (L:Nat→Bool):Prop:=∀ (k:Nat) (o:Oper),ops[k]? = Xa o→L k=Xb→∀ e∈o.after,Region.binds .any e=Xb→L e.on=Xb
theorem Zra {I:(Nat→Bool)→Array Value→World→Prop} (hlow:∀ (i:Nat) (o:Oper),ops[i]? = Xa o→∀ e∈o.after,Region.binds .any e=Xb→e.on < i)
  (step:∀ (L:Nat→Bool) (tm:Array Value) (w:World) (i:Nat) (o:Oper),ops[i]? = Xa o→L i=Xc→(∀ e∈o.after,Region.binds .any e=Xb→L e.on=Xb)→Zjf ops L→I L tm w→
   ∀ K:Act→World→Prop,(∀ tm' w',I (fun j=>decide (j=i)||L j) tm' w'→K ⟨tm',[]⟩ w')→wpOp P ops Q i K ⟨tm,[]⟩ w)
  (fin:∀ (L:Nat→Bool) (tm:Array Value) (w:World),(∀ i,i < ops.size→L i=Xb)→I L tm w→Q .normal ⟨tm,[]⟩ w) :
  ∀ (fuel:Nat) (listed:Array Bool) (tm:Array Value) (w:World),listed.size=ops.size→Zjf ops (fun i=>listed.getD i Xc)→((Wf ops.size).countP (fun i=>!listed.getD i Xc)≤fuel)→
   I (fun i=>listed.getD i Xc) tm w→wpAny P .any ops Q fuel listed ⟨tm,[]⟩ w:=by
 have hdone:∀ (listed:Array Bool),listed.size=ops.size→Region.ready .any ops listed = []→∀ j,j < ops.size→listed.getD j Xc=Xb:=by
  intro listed hsz hr j
  induction j using Nat.strongRecOn with
  | _ j ih =>
   intro hj
   cases hl:listed.getD j Xc with
   | true => rfl
   | false =>
    have:j∈Region.ready .any ops listed:=by
     rw [mem_ready]
     refine ⟨?_,ops[j],XZ hj,fun e he hb=>?_⟩
     ·simp only [X7,hsz,hj,dite_true] at hl ⊢
      exact hl
     ·have hlt:=hlow j _ (XZ hj) e he hb
      exact ih e.on hlt (by omega)
    rw [hr] at this
    cases this
 intro fuel
 induction fuel with
 | zero =>
  intro listed tm w hsz hcl hcnt hs
  have hall:∀ j,j < ops.size→listed.getD j Xc=Xb:=by
   intro j hj
   have h0:(Wf ops.size).countP (fun i=>!listed.getD i Xc)=0:=by omega
   have:=(List.countP_eq_zero.1 h0) j (by simpa using hj)
   simpa using this
  have hr:Region.ready .any ops listed = []:=by
   refine List.eq_nil_iff_forall_not_mem.2 fun j hj=>?_
   obtain ⟨h1,o,h2,_⟩:=mem_ready.1 hj
   have hlt:=(Wa.1 h2).1
   have:=hall j hlt
   simp only [X7,hsz,hlt,dite_true] at h1 this
   rw [h1] at this
   cases this
  exact ⟨hr,fin _ tm w hall hs⟩
 | succ fuel ih =>
  intro listed tm w hsz hcl hcnt hs
  refine ⟨fun hr=>fin _ tm w (hdone listed hsz hr) hs,fun i hi=>?_⟩
  obtain ⟨h1,o,h2,h3⟩:=mem_ready.1 hi
  have hlt:=(Wa.1 h2).1
  have hun:listed.getD i Xc=Xc:=by
   simp only [X7,hsz,hlt,dite_true] at h1 ⊢
   exact h1
  have hset:∀ j,(listed.setIfInBounds i Xb).getD j Xc=(decide (j=i)||listed.getD j Xc):=by
   intro j
   by_cases hji:j=i
   ·subst hji
    simp [X7,hsz,hlt]
   ·rw [getD_set_ne Xc (Ne.symm hji)]
    simp [hji]
  have hsf:(fun j=>(listed.setIfInBounds i Xb).getD j Xc)=fun j=>decide (j=i)||listed.getD j Xc:=funext hset
  refine step _ tm w i o h2 hun h3 hcl hs _ fun tm' w' hI=>ih (listed.setIfInBounds i Xb) tm' w' (by simpa using hsz) ?_ ?_ (by rw [hsf];exact hI)
  ·intro k o' hk hl e he hb
   dsimp only at hl ⊢
   rw [hset] at hl ⊢
   rw [UA] at hl ⊢
   rcases hl with hl | hl
   ·simp only [decide_eq_true_eq] at hl
    subst hl
    rw [h2] at hk
    cases hk
    exact .inr (h3 e he hb)
   ·exact .inr (hcl k o' hk hl e he hb)
  ·have hlt2:(Wf ops.size).countP (fun j=>!(listed.setIfInBounds i Xb).getD j Xc) < (Wf ops.size).countP (fun j=>!listed.getD j Xc):=by
    have hle:∀ (l:List Nat),l.countP (fun j=>!(listed.setIfInBounds i Xb).getD j Xc)≤l.countP (fun j=>!listed.getD j Xc):=by
     intro l
     refine List.countP_mono_left fun j _ hj=>?_
     rw [hset] at hj
     cases hx:listed.getD j Xc with
     | false => rfl
     | true => rw [hx] at hj; simp at hj
    have key:∀ (l:List Nat),i∈l→l.countP (fun j=>!(listed.setIfInBounds i Xb).getD j Xc) < l.countP (fun j=>!listed.getD j Xc):=by
     intro l
     induction l with
     | nil => intro h; cases h
     | cons x l ihl =>
      intro h
      rw [Uz,Uz]
      by_cases hx:x=i
      ·subst hx
       have h1:(listed.setIfInBounds x Xb).getD x Xc=Xb:=by rw [hset];simp
       have:=hle l
       rw [h1,hun]
       simp only [Bool.not_true,Bool.not_false,Uh,if_false,if_true]
       omega
      ·have:=ihl (by rcases Xl.1 h with h | h;exact (hx h.symm).elim;exact h)
       rw [hset x]
       simp only [hx,decide_false,Bool.false_or]
       omega
    exact key _ (by simpa using hlt)
   omega
structure Zt1 (nt:Nat) (tm0:Array Value) (D:Nat→Option Nat) (v:Nat→Value) (m l:Nat) (w0 w1 w2:World) (L:Nat→Bool) (tm:Array Value) (w:World):Prop where
 size:tm.size=nt
 old:∀ d,(∀ i,D i≠Xa d)→tm.getD d undef=tm0.getD d undef
 new:∀ i d,L i=Xb→D i=Xa d→tm.getD d undef=v i
 wrl:w=if L l=Xb then w2 else if L m=Xb then w1 else w0
theorem ZnB {nt:Nat} {tm0:Array Value} {D:Nat→Option Nat} {v:Nat→Value} {m l:Nat} {w0 w1 w2:World} {id:Nat} {w:World} (hm:P.follows .mixedOrders=Xb) (hw:w.drew=w0)
  (hlow:∀ (i:Nat) (o:Oper),ops[i]? = Xa o→∀ e∈o.after,Region.binds .any e=Xb→e.on < i) (hgd:∀ (i:Nat) (o:Oper),ops[i]? = Xa o→o.guard=Xe∧o.dst=D i)
  (hD:∀ i j d,D i=Xa d→D j=Xa d→i=j) (hDn:∀ i d,D i=Xa d→d < nt) (hsz:tm0.size=nt)
  (hex:∀ (i:Nat) (o:Oper),ops[i]? = Xa o→∀ (L:Nat→Bool) (tm:Array Value) (w:World),L i=Xc→(∀ e∈o.after,Region.binds .any e=Xb→L e.on=Xb)→Zjf ops L→Zt1 nt tm0 D v m l w0 w1 w2 L tm w→
   Ran P o tm w (v i) (if i=l then w2 else if i=m then w1 else w)∧(i=m→L l=Xc))
  (hfin:∀ tm,tm.size=nt→(∀ d,(∀ i,D i≠Xa d)→tm.getD d undef=tm0.getD d undef)→(∀ i d,i < ops.size→D i=Xa d→tm.getD d undef=v i)→Q .normal ⟨tm,[]⟩ (if l < ops.size then w2 else if m < ops.size then w1 else w0)) :
  (Code.region id ops Xb).wp P Q ⟨tm0,[]⟩ w:=by
 refine wp_region_any hm ?_
 have hdr:({ w with drawn:=w.drawn+1 } : World)=w0:=hw
 rw [hdr]
 refine Zra (I:=fun L tm w=>(∀ i,ops.size≤i→L i=Xc)∧Zt1 nt tm0 D v m l w0 w1 w2 L tm w) hlow (fun L tm w i o ho hL hdep hcl hI K hK=>?_) (fun L tm w hall hI=>?_) ops.size _ tm0 w0 (by simp) (fun k o hk hl=>?_) (by simpa using List.countP_le_length (p:=fun i=>!(Array.replicate ops.size Xc).getD i Xc) (l:=Wf ops.size)) ⟨fun i hi=>?_,?_⟩
 ·obtain ⟨hI0,hI⟩:=hI
  obtain ⟨hg,hdst⟩:=hgd i o ho
  obtain ⟨hr,hml⟩:=hex i o ho L tm w hL hdep hcl hI
  refine Zrd ho hg hr ?_
  have hio:i < ops.size:=(Wa.1 ho).1
  rw [hdst]
  cases hDi:D i with
  | none =>
   refine hK tm _ ⟨fun j hj=>?_,hI.size,hI.old,fun j d hj hd=>?_,?_⟩
   ·have:j≠i:=by omega
    simp [this,hI0 j hj]
   ·rw [UA,decide_eq_true_eq] at hj
    rcases hj with rfl | hj
    ·rw [hDi] at hd;cases hd
    ·exact hI.new j d hj hd
   ·rw [hI.wrl]
    by_cases h1:i=l
    ·subst h1;simp
    ·by_cases h2:i=m
     ·subst h2
      have:=hml rfl
      simp [h1,this,Ne.symm h1]
     ·simp [h1,h2,Ne.symm h1,Ne.symm h2]
  | some d0 =>
   have hd0:=hDn i d0 hDi
   show K ⟨tm.setIfInBounds d0 (v i),[]⟩ _
   refine hK _ _ ⟨fun j hj=>?_,by simp [hI.size],fun d hd=>?_,fun j d hj hd=>?_,?_⟩
   ·have:j≠i:=by omega
    simp [this,hI0 j hj]
   ·rw [ZD tm d0 d _ (fun h=>hd i (by rw [h];exact hDi))]
    exact hI.old d hd
   ·rw [UA,decide_eq_true_eq] at hj
    by_cases hji:j=i
    ·subst hji
     rw [hDi] at hd
     cases hd
     exact Jp tm d0 _ (by rw [hI.size];exact hd0)
    ·rw [ZD tm d0 d _ (fun h=>hji (hD j i d hd (by rw [h];exact hDi)))]
     exact hI.new j d (hj.resolve_left hji) hd
   ·rw [hI.wrl]
    by_cases h1:i=l
    ·subst h1;simp
    ·by_cases h2:i=m
     ·subst h2
      have:=hml rfl
      simp [h1,this,Ne.symm h1]
     ·simp [h1,h2,Ne.symm h1,Ne.symm h2]
 ·obtain ⟨hI0,hI⟩:=hI
  have hl:∀ i,L i=decide (i < ops.size):=fun i=>by
   by_cases hi:i < ops.size
   ·simp [hi,hall i hi]
   ·simp [hi,hI0 i (by omega)]
  rw [hI.wrl,hl l,hl m]
  simp only [decide_eq_true_eq]
  exact hfin tm hI.size hI.old fun i d hi hd=>hI.new i d (hall i hi) hd
 ·simp [X7] at hl
 ·simp [X7]
 ·refine ⟨hsz,fun d _=>rfl,fun i d hi=>?_,?_⟩
  ·simp [X7] at hi
  ·simp [X7]
end
theorem Sim.tm {c:Ctx} {σ:Nat→AV} {tm tm':Array Value} {w:World} {lim:Lm} {X:Nat→Nat→Option Nat} (h:Sim c σ tm w lim X) (hs:tm'.size=tm.size) (hd:∀ d,σ d≠.dead→tm'.getD d undef=tm.getD d undef):Sim c σ tm' w lim X where
 rel d:=by
  by_cases h0:σ d = .dead
  ·rw [h0];trivial
  ·rw [hd d h0];exact h.rel d
 size:=by rw [hs,h.size]
 out:=h.out
 ghost:=h.ghost
 dist:=h.dist
 ours:=h.ours
 frm:=h.frm
 pin d v hv:=by
  obtain ⟨h1,cs,h2⟩:=h.pin d v hv
  exact ⟨by rw [hd d (by rw [h2];exact fun h=>by cases h)];exact h1,cs,h2⟩
 mp:=h.mp
 gpin:=h.gpin
 ntN:=h.ntN
 far:=h.far
 nst:=h.nst
 yfr:=h.yfr
 stf:=h.stf
theorem Kz.dead:Kz .dead:=⟨fun _ h=>(by cases h),fun _ _ h=>(by cases h),fun _ h=>(by cases h)⟩
theorem Sim.forget {c:Ctx} {tm:Array Value} {w:World} {lim:Lm} : ∀ (ds:List Nat) {σ:Nat→AV} {X:Nat→Nat→Option Nat},Sim c σ tm w lim X→(∀ d∈ds,d < c.nt∧Kz (σ d))→
  ∃ X',Sim c (Jm σ (ds.map fun d=>(d,.dead))) tm w lim X'∧(∀ d,d∉ds→X' d=X d)
 | [], σ, X, h, _ => ⟨X, h, fun _ _ => rfl⟩
 | d :: ds, σ, X, h, hd => by
  obtain ⟨h1,h2⟩:=hd d (by simp)
  have hs:=h.weaken (k:=0) (x:=.dead) h1 h2.1 (h.noRefs h2.none) rfl (fun i q hr=>by rcases hr with hr | ⟨_,hr⟩ <;> cases hr) trivial
  obtain ⟨X',g1,g2⟩:=Sim.forget ds hs fun d' hd'=>by
   refine ⟨(hd d' (by simp [hd'])).1,?_⟩
   by_cases he:d'=d
   ·subst he;rw [Zs];exact Kz.dead
   ·rw [Zb _ _ he];exact (hd d' (by simp [hd'])).2
  refine ⟨X',g1,fun d' hd'=>?_⟩
  simp only [Xl,not_or] at hd'
  rw [g2 d' hd'.2,Zc X Jz hd'.1]
theorem Zi2 {c:Ctx} {σ:Nat→AV} {tm:Array Value} {w:World} {lim:Lm} {X:Nat→Nat→Option Nat} (h:Sim c σ tm w lim X) {d q i off s k:Nat} {D e:TypeId} {xs ys:List (List AV)} {row:List AV} {v:Value}
  (hd:Zp (σ d) q=Xa (D,xs)) (hdp:Ze c.P D=Xb) (hv:ZQ c.P w lim X σ k (.eref d q (i*c.P.cellsOf (bT D))) v) (hrow:xs[i]? = Xa row) (hz:row[off]? = Xa (.nest s Xb e ys)) :
  ∃ b arr u,X d q=Xa b∧v = .pointer (Xa ⟨b,i*c.P.cellsOf (bT D),Xe⟩)∧w.heap[b]? = Xa (.cells arr (bT D) (0,0))∧lim b=0∧arr[i*c.P.cellsOf (bT D)+off]? = Xa u∧s=c.P.cellsOf e∧Zj c.P e=Xc∧
   VQ c.P w lim Xb e ys u (X (ngN+b) (i*c.P.cellsOf (bT D)+off))∧(∀ x∈xs,x.length=c.P.cellsOf (bT D))∧(∀ x∈xs,∀ z∈x,z.isCell=Xb)∧(∀ (j:Nat) (z:AV) (u:Value),xs.flatten[j]? = Xa z→arr[j]? = Xa u→Rep w lim z u)∧
   xs.flatten[i*c.P.cellsOf (bT D)+off]? = Xa (.nest s Xb e ys)∧xs.length*c.P.cellsOf (bT D)≤arr.size:=by
 obtain ⟨b,arr,cap,g1,g2,g3,g4,g5,g6,g7,g8,g9,g10⟩:=KL h hd hv (.inr hdp)
 have hflat:=ZfN g8 hrow hz
 have hxl:=Zg xs _ g8
 have hlt:=(Xi.1 hflat).1
 have hcap:xs.length*c.P.cellsOf (bT D)≤cap*c.P.cellsOf (bT D):=XN _ g5
 obtain ⟨u,hu⟩:∃ u,arr[i*c.P.cellsOf (bT D)+off]? = Xa u:=⟨arr[i*c.P.cellsOf (bT D)+off]'(by omega),XZ (by omega)⟩
 obtain ⟨n1,n2,n3⟩:=(h.nst d q D xs b (Z4 hd) hdp g1).2 _ s e ys u hflat (by rw [Zh g3];exact hu)
 exact ⟨b,arr,u,g1,g2,g3,g4,hu,n1,n2,n3,g8,g9,g10,hflat,by omega⟩
section
variable {o:Oper}
theorem Ya {x d:Nat} (h:Vm o=Xa (x,d)):o.op = .move (.tmp x)∧o.dst=Xa d∧o.guard=Xe:=by
 unfold Vm at h
 split at h
 ·rename_i h1 h2 h3;cases h;exact ⟨h1,h2,h3⟩
 ·cases h
theorem Ws {x d:Nat} (h:ZdW o=Xa (x,d)):o.op = .nilCheck (.tmp x)∧o.dst=Xa d∧o.guard=Xe:=by
 unfold ZdW at h
 split at h
 ·rename_i h1 h2 h3;cases h;exact ⟨h1,h2,h3⟩
 ·cases h
theorem K0 {T:TypeId} {x f d:Nat} (h:Zem o=Xa (T,x,f,d)):o.op = .fieldAddr T (.tmp x) f∧o.dst=Xa d∧o.guard=Xe:=by
 unfold Zem at h
 split at h
 ·rename_i h1 h2 h3;cases h;exact ⟨h1,h2,h3⟩
 ·cases h
theorem KU {T:TypeId} {x d:Nat} (h:Zbj o=Xa (T,x,d)):o.op = .load T (.tmp x)∧o.dst=Xa d∧o.guard=Xe:=by
 unfold Zbj at h
 split at h
 ·rename_i h1 h2 h3;cases h;exact ⟨h1,h2,h3⟩
 ·cases h
theorem ZpD {T:TypeId} {x i d:Nat} (h:ZrK o=Xa (T,x,i,d)):o.op = .indexAddr T (.tmp x) (.tmp i)∧o.dst=Xa d∧o.guard=Xe:=by
 unfold ZrK at h
 split at h
 ·rename_i h1 h2 h3;cases h;exact ⟨h1,h2,h3⟩
 ·cases h
theorem ZjL {T:TypeId} {a x:Nat} (h:isSto o=Xa (T,a,x)):o.op = .store T (.tmp a) (.tmp x)∧o.dst=Xe∧o.guard=Xe:=by
 unfold isSto at h
 split at h
 ·rename_i h1 h2 h3;cases h;exact ⟨h1,h2,h3⟩
 ·cases h
theorem Zl5 {T:TypeId} {x i d:Nat} (h:Ztk o=Xa (T,x,i,d)):o.op = .slice T (.tmp x) Xe (Xa (.tmp i)) Xe∧o.dst=Xa d∧o.guard=Xe:=by
 unfold Ztk at h
 split at h
 ·rename_i h1 h2 h3;cases h;exact ⟨h1,h2,h3⟩
 ·cases h
theorem Znj {T:TypeId} {x i d:Nat} (h:Zth o=Xa (T,x,i,d)):o.op = .slice T (.tmp x) (Xa (.tmp i)) Xe Xe∧o.dst=Xa d∧o.guard=Xe:=by
 unfold Zth at h
 split at h
 ·rename_i h1 h2 h3;cases h;exact ⟨h1,h2,h3⟩
 ·cases h
theorem ZhN {x d:Nat} (h:ZjT o=Xa (x,d)):(∃ T T',o.op = .binOp .add T (.tmp x) (.const (.int .i64 1)) T')∧o.dst=Xa d∧o.guard=Xe:=by
 unfold ZjT at h
 split at h
 ·rename_i h1 h2 h3;cases h;exact ⟨⟨_,_,h1⟩,h2,h3⟩
 ·cases h
theorem Zok {T:TypeId} {x d:Nat} (h:Zl9 o=Xa (T,x,d)):(∃ c,o.op = .call c∧c.callee = .builtin .len∧c.args.toList = [.tmp x]∧c.argTypes.toList = [T])∧o.dst=Xa d∧o.guard=Xe:=by
 unfold Zl9 at h
 split at h
 ·rename_i c d' h1 h2 h3
  split at h
  ·rename_i k1 k2 k3;cases h;exact ⟨⟨c,h1,k1,k2,k3⟩,h2,h3⟩
  ·cases h
 ·cases h
theorem Zkg {T:TypeId} {x y d:Nat} (h:ZpM o=Xa (T,x,y,d)):(∃ c,o.op = .call c∧c.callee = .builtin .append∧c.args.toList = [.tmp x,.tmp y]∧c.argTypes.toList = [T,T])∧o.dst=Xa d∧o.guard=Xe:=by
 unfold ZpM at h
 split at h
 ·rename_i c d' h1 h2 h3
  split at h
  ·rename_i k1 k2 k3
   split at h
   ·rename_i he;cases h;subst he;exact ⟨⟨c,h1,k1,k2,k3⟩,h2,h3⟩
   ·cases h
  ·cases h
 ·cases h
theorem Zx {js:List Nat} (h:Yn o js=Xb) {L:Nat→Bool} (hL:∀ e∈o.after,Region.binds .any e=Xb→L e.on=Xb):∀ j∈js,L j=Xb:=by
 intro j hj
 simp only [Yn,XE] at h
 have:=h j hj
 rw [Array.any_eq_true] at this
 obtain ⟨m,hm,hb⟩:=this
 simp only [Xs,decide_eq_true_eq] at hb
 rw [← hb.1]
 exact hL _ (Array.getElem_mem hm) hb.2
end
theorem Zmu {ops:Array Oper} (h:Zte ops=Xb):∀ (i:Nat) (o:Oper),ops[i]? = Xa o→∀ e∈o.after,Region.binds .any e=Xb→e.on < i:=by
 intro i o hio e he hb
 simp only [Zte,XE] at h
 have:=h (o,i) (by rw [Tz];simpa using hio)
 rw [Array.all_eq_true_iff_forall_mem] at this
 have:=this e he
 simpa [hb] using this
theorem ZoV {P:Program} {w:World} {lim:Lm} {x:Bool} {e:TypeId} {xs:List (List AV)} {v:Value} {ob:Option Nat} (h:VQ P w lim x e xs v ob):∃ a cap,v = .slice a xs.length cap:=by
 rcases h with ⟨us,hr,_⟩ | ⟨rfl,_,a,rfl⟩
 ·rcases hr.2 with ⟨hv,hn⟩ | ⟨g,cap,cur,hv,_⟩
  ·exact ⟨Xe,0,by rw [hv,hn]⟩
  ·exact ⟨_,_,hv⟩
 ·exact ⟨_,_,rfl⟩
theorem ZbH {P:Program} {w:World} {lim:Lm} {e:TypeId} {xs:List (List AV)} {v:Value} {ob:Option Nat} (h:VQ P w lim Xb e xs v ob) (hne:xs≠[]) :
  ∃ b arr cap,ob=Xa b∧v = .slice (Xa ⟨b,0,Xe⟩) xs.length cap∧w.heap[b]? = Xa (.cells arr e (0,0))∧lim b=0∧xs.length≤cap∧cap≤maxLen∧arr.size=cap*P.cellsOf e∧(∀ x∈xs,x.length=P.cellsOf e)∧(∀ x∈xs,∀ c∈x,c.isCell=Xb)∧
   ∀ (j:Nat) (c:AV) (u:Value),xs.flatten[j]? = Xa c→arr[j]? = Xa u→Rep w lim c u:=by
 rcases h with ⟨us,h1,h2,h3,h4,h5,h6⟩ | ⟨h,_⟩
 ·rcases h1.2 with ⟨_,hn⟩ | ⟨g,cap,cur,hv,hbg,hg,hnc,hcm,hcs,htake⟩
  ·exact (hne (XY hn)).elim
  ·have hob:ob=Xa g:=by rw [← h2,hv];rfl
   refine ⟨g,cur,cap,hob,hv,hg,by have:=h3 g hob;simpa using this,hnc,hcm,hcs,h4,h5,fun j c u hc hu=>?_⟩
   refine h6 j c u hc ?_
   have hlt:=(Xi.1 hc).1
   rw [Zg xs _ h4] at hlt
   rw [← htake,Xw,if_pos hlt]
   simpa using hu
 ·exact (hne h).elim
section
variable {P:Program} {E:Env}
theorem Zc0 {g:Nat→SV} {nt:Nat} {ds:List Nat} (h:ZqW nt g ds=Xb) (ρ:Nat→V):∀ d∈ds,d < nt∧Kz ((g d).den ρ):=by
 intro d hd
 simp only [ZqW,XE,Xs,decide_eq_true_eq] at h
 obtain ⟨h1,h2⟩:=h d hd
 exact ⟨h1,ZA (JP (b:=.dead) ρ h2)⟩
theorem Zc9 {ds:List Nat} (h:∀ d∈ds,d < E.nt):YL E (V3 ds):=by
 unfold YL V3
 rw [XE]
 intro u hu
 obtain ⟨d,hd,rfl⟩:=Xj.1 hu
 simpa using Jt (h d hd)
theorem ZdR (ρ:Nat→V) (ds:List Nat):(V3 ds).map (fun u=>(u.1,u.2.den ρ))=ds.map fun d=>(d,AV.dead):=by
 unfold V3
 rw [X6]
 rfl
theorem Yv (σ:Nat→AV):∀ (ds:List Nat) (d:Nat),Jm σ (ds.map fun d=>(d,AV.dead)) d=if d∈ds then .dead else σ d:=fun ds d=>by
 have:=Kr (ds.map fun d=>(d,AV.dead)) σ d (fun u hu=>by obtain ⟨d',_,rfl⟩:=Xj.1 hu;rfl)
 rw [this]
 have hm:d∈(ds.map fun d=>(d,AV.dead)).map (·.1)↔d∈ds:=by simp
 by_cases h:d∈ds
 ·rw [if_pos (hm.2 h),if_pos h]
 ·rw [if_neg (fun h'=>h (hm.1 h')),if_neg h]
theorem Zhi (hnt:E.top≤1024) {c:Ctx} (hcn:c.nt=E.nt) {s:Tr} {n:Nat} {ρ:Nat→V} {tm tm':Array Value} {w:World} {lim:Lm} {X:Nat→Nat→Option Nat} {ds:List Nat} (hs:YY E s n) (h:Sim c (ZE E s ρ) tm w lim X) (hf:ZqW E.nt (gE E s) ds=Xb)
  (hsz:tm'.size=tm.size) (ht:∀ d,d∉ds→tm'.getD d undef=tm.getD d undef) :
  YY E (Z0 (V3 ds) s) n∧ZE E (Z0 (V3 ds) s) ρ=Jm (ZE E s ρ) (ds.map fun d=>(d,.dead))∧∃ X',Sim c (ZE E (Z0 (V3 ds) s) ρ) tm' w lim X'∧∀ d,d∉ds→X' d=X d:=by
 have hfr:=Zc0 hf ρ
 have hlow:=Zc9 (E:=E) fun d hd=>(hfr d hd).1
 have hσ:ZE E (Z0 (V3 ds) s) ρ=Jm (ZE E s ρ) (ds.map fun d=>(d,.dead)):=by rw [Jk hnt ρ _ _ hlow,ZdR]
 refine ⟨Jf hnt _ _ hlow hs fun u hu=>?_,hσ,?_⟩
 ·unfold V3 at hu
  obtain ⟨d,_,rfl⟩:=Xj.1 hu
  trivial
 ·obtain ⟨X',h1,h2⟩:=h.forget ds fun d hd=>⟨by rw [hcn];exact (hfr d hd).1,(hfr d hd).2⟩
  refine ⟨X',?_,h2⟩
  rw [hσ]
  refine h1.tm hsz fun d hd=>ht d fun hm=>hd ?_
  rw [Yv,if_pos hm]
theorem tell (hnt:E.top≤1024) {c:Ctx} (hcn:c.nt=E.nt) {s:Tr} {n:Nat} {ρ:Nat→V} {tm:Array Value} {w:World} {lim:Lm} {X:Nat→Nat→Option Nat} {d:Nat} {x:SV} (hs:YY E s n) (h:Sim c (ZE E s ρ) tm w lim X) (hd:d < E.nt) (h0:ZE E s ρ d = .dead) (hx:x.bd n)
  (hp:(x.den ρ).plain=Xb) (hnr:∀ i q,¬ Jh (x.den ρ) i q) (hr:ZQ c.P w lim X (ZE E s ρ) 0 (x.den ρ) (tm.getD d undef)) :
  YY E (s.set depth d x) n∧ZE E (s.set depth d x) ρ=upd (ZE E s ρ) d (x.den ρ)∧Sim c (ZE E (s.set depth d x) ρ) tm w lim (Ke X d Jz):=by
 have hσ:=JX (E:=E) hnt (Jt hd) s x ρ
 refine ⟨JI hnt (Jt hd) hs hx,hσ,?_⟩
 rw [hσ]
 exact h.weaken (k:=0) (by rw [hcn];exact hd) (fun cs he=>by rw [h0] at he;cases he) (h.noRefs fun k=>by rw [h0];rfl) hp hnr hr
theorem Zdz {g:Nat→SV} {p:Nat} {TS:TypeId} {f:Nat} {T:TypeId} {d q:Nat} {D:TypeId} {l:LE} {i:IE} {off:Nat} {e:TypeId} (h:Zhs P g p TS f T=Xa (d,q,D,l,i,off,e)) :
  g p = .eref d q i (P.cellsOf (bT D)) 0∧Ja (g d) q=Xa (D,l)∧JH P TS f=Xa off∧P.underlying T=Xa (.slice e)∧Ze P D=Xb∧(g d).isG=Xc:=by
 unfold Zhs at h
 split at h
 ·rename_i d' q' i' s hp
  split at h
  ·rename_i D' l' off' e' h1 h2 h3
   split at h
   ·rename_i hh
    simp only [Xf,Xn] at h
    obtain ⟨rfl,rfl,rfl,rfl,rfl,rfl,rfl⟩:=h
    exact ⟨by rw [hp,hh.2.1],h1,h2,h3,hh.1,hh.2.2⟩
   ·cases h
  ·cases h
 ·cases h
theorem Y7 {T e:TypeId} (h:P.underlying T=Xa (.slice e)):ZS P T=Xa Xc:=by unfold ZS;rw [h]
end
def ZbQ (tm:Array Value) (F:List (Nat×Value)) (j:Nat):Array Value:=(F.take j).foldl (fun tm p=>tm.setIfInBounds p.1 p.2) tm
theorem ZeS:∀ (l:List (Nat×Value)) (tm:Array Value),(l.foldl (fun tm p=>tm.setIfInBounds p.1 p.2) tm).size=tm.size
 | [], _ => rfl
 | p :: l, tm => by rw [UM, ZeS l]; simp
theorem Ze9 (tm:Array Value) (F:List (Nat×Value)) (j:Nat):(ZbQ tm F j).size=tm.size:=ZeS _ _
theorem Zly {tm:Array Value} {F:List (Nat×Value)} {j d:Nat} {v:Value} (h:F[j]? = Xa (d,v)):ZbQ tm F (j+1)=(ZbQ tm F j).setIfInBounds d v:=by
 unfold ZbQ
 rw [List.take_add_one,h]
 simp [List.foldl_append]
theorem Zdv:∀ (l:List (Nat×Value)) (tm:Array Value) (x:Nat),x∉l.map (·.1)→(l.foldl (fun tm p=>tm.setIfInBounds p.1 p.2) tm).getD x undef=tm.getD x undef
 | [], _, _, _ => rfl
 | p :: l, tm, x, h => by
  simp only [Xg,Xl,not_or] at h
  rw [UM,Zdv l _ x h.2,ZD tm p.1 x p.2 h.1]
theorem Vf {tm:Array Value} {F:List (Nat×Value)} {j x:Nat} (h:x∉F.map (·.1)):(ZbQ tm F j).getD x undef=tm.getD x undef:=
 Zdv _ _ _ fun hm=>h (by
  obtain ⟨p,hp,he⟩:=Xj.1 hm
  exact Xj.2 ⟨p,XO hp,he⟩)
theorem Zkr:∀ (l:List (Nat×Value)) (tm:Array Value) (x:Nat) (v:Value),(l.map (·.1)).Nodup→(x,v)∈l→x < tm.size→(l.foldl (fun tm p=>tm.setIfInBounds p.1 p.2) tm).getD x undef=v
 | [], _, _, _, _, h, _ => by cases h
 | p :: l, tm, x, v, hn, h, hx => by
  rw [Xg,XS] at hn
  rw [UM]
  rcases Xl.1 h with rfl | h
  ·rw [Zdv l _ x hn.1]
   exact Jp tm x v hx
  ·exact Zkr l _ x v hn.2 h (by simpa using hx)
theorem Yl {tm:Array Value} {F:List (Nat×Value)} {i j x:Nat} {v:Value} (hn:(F.map (·.1)).Nodup) (hi:F[i]? = Xa (x,v)) (hij:i < j) (hx:x < tm.size):(ZbQ tm F j).getD x undef=v:=by
 refine Zkr _ _ x v ?_ ?_ hx
 ·rw [List.map_take];exact hn.sublist (List.take_sublist _ _)
 ·refine Xh (i:=i) ?_
  rw [Xw,if_pos hij]
  exact hi
theorem ZlC {P:Program} {ops:Array Oper} {Q:Exit→Act→World→Prop} {rest:List Nat} {i:Nat} {o:Oper} {tm:Array Value} {F:List (Nat×Value)} {w w':World} {v:Value} {d:Nat} (ho:ops[i]? = Xa o) (hg:o.dst=Xa d∧o.guard=Xe) (hF:F[i]? = Xa (d,v)) (hr:Ran P o (ZbQ tm F i) w v w')
  (hk:wpOps P ops Q rest ⟨ZbQ tm F (i+1),[]⟩ w'):wpOps P ops Q (i::rest) ⟨ZbQ tm F i,[]⟩ w:=by
 refine ZpL ho hg.2 hr ?_
 rw [hg.1]
 rw [Zly hF] at hk
 exact hk
section
variable {P:Program} {E:Env} {R:AV→List AV→Prop} {A:Nat→List V→Prop}
theorem ZgV (hps:EnvSound P E) (hnt:E.top≤1024) {ops:Array Oper} {r:Nat×Nat×TypeId×Nat×TypeId×List Nat} (hp:Znm ops=Xa r) {id:Nat} {c:Ctx} (hcP:c.P=P) (hcn:c.nt=E.nt) {s:Tr} {n:Nat} {kn:Tr→Nat→STree} {ρ:Nat→V} {tm:Array Value} {w:World}
  {lim:Lm} {X:Nat→Nat→Option Nat} {Q:Exit→Act→World→Prop} (hs:YY E s n) (h:(ZmJ P E ops r s n kn).wp P R A ρ) (hsim:Sim c (ZE E s ρ) tm w lim X)
  (hk:∀ s' n' ρ',YY E s' n'→(kn s' n').wp P R A ρ'→∀ tm' w' lim' X',Sim c (ZE E s' ρ') tm' w' lim' X'→Q .normal ⟨tm',[]⟩ w'):(Code.region id ops Xc).wp P Q ⟨tm,[]⟩ w:=by
 unfold Znm at hp
 split at hp
 case h_2=>cases hp
 rename_i o0 o1 o2 o3 o4 o5 rest hops
 split at hp
 case h_2=>cases hp
 rename_i a d0 p d1 x2 d2 TS x3 f d3 T x4 d4 T5 x5 d5 e0 e1 e2 e3 e4 e5
 split at hp
 case isFalse=>cases hp
 rename_i hh
 obtain ⟨⟨rfl,rfl,rfl,rfl,rfl⟩,hnd⟩:=hh
 cases hp
 have hnd:=Kj _ hnd
 obtain ⟨q0,g0⟩:=Ya e0
 obtain ⟨q1,g1⟩:=Ya e1
 obtain ⟨q2,g2⟩:=Ws e2
 obtain ⟨q3,g3⟩:=K0 e3
 obtain ⟨q4,g4⟩:=KU e4
 obtain ⟨⟨cl,q5,q6,q7,q8⟩,g5⟩:=Zok e5
 simp only [ZmJ] at h
 split at h
 case h_2=>exact h.elim
 rename_i d q D l i off e k d0' d1' d2' d3' d4' d5' hno hga hds
 simp only [List.cons.injEq,and_true] at hds
 obtain ⟨rfl,rfl,rfl,rfl,rfl,rfl⟩:=hds
 split at h
 case isFalse=>exact h.elim
 rename_i hfr
 obtain ⟨r1,r2,h⟩:=h
 obtain ⟨n1,n2,n3,n4,n5,n6⟩:=Zdz hno
 obtain ⟨row,ys,hrow,hz,hget⟩:=Zh1 (show qop (.nst off (P.cellsOf e) e) (l.den ρ) (i.den ρ)=Xb from r2)
 have hrelp:=hsim.rel p
 rw [show ZE E s ρ p = .eref d q ((i.den ρ).toNat*c.P.cellsOf (bT D)) from by show (gE E s p).den ρ=_;rw [n1,hcP];rfl] at hrelp
 obtain ⟨b,arr,u,b1,b2,b3,b4,b5,_,b7,b8,_⟩:=Zi2 hsim (show Zp (ZE E s ρ d) q=Xa (D,l.den ρ) from ZN ρ n2) (by rw [hcP];exact n5) hrelp hrow hz
 obtain ⟨ua,ucap,rfl⟩:=ZoV b8
 have hka:tm.getD a undef = .int .i64 (k.den ρ):=by
  have:=hsim.rel a
  rw [show ZE E s ρ a = .val (.int .i64 (k.den ρ)) from by show (gE E s a).den ρ=_;rw [hga];rfl] at this
  exact YR (show Rep w lim _ _ from this)
 obtain ⟨F,hF⟩:∃ F:List (Nat×Value),F = [(d0,.int .i64 (k.den ρ)),(x2,.pointer (Xa ⟨b,(i.den ρ).toNat*c.P.cellsOf (bT D),Xe⟩)),(x3,.pointer (Xa ⟨b,(i.den ρ).toNat*c.P.cellsOf (bT D),Xe⟩)),
  (x4,.pointer (Xa ⟨b,(i.den ρ).toNat*c.P.cellsOf (bT D)+off,Xe⟩)),(x5,.slice ua ys.length ucap),(d5,.int .i64 (ys.length:Int))]:=⟨_,rfl⟩
 have hFm:F.map (·.1) = [d0,x2,x3,x4,x5,d5]:=by rw [hF];rfl
 have hFn:(F.map (·.1)).Nodup:=by rw [hFm];exact hnd.sublist (by simp)
 have hao:a∉F.map (·.1):=by
  rw [hFm]
  rw [XS] at hnd
  exact fun hm=>hnd.1 (We _ hm)
 have hpo:p∉F.map (·.1):=by
  rw [hFm]
  rw [XS,XS] at hnd
  exact hnd.2.1
 have hsz:tm.size=E.nt:=by rw [hsim.size,hcn]
 have hfr':=Zc0 hfr ρ
 have hlt:∀ x∈[d0,x2,x3,x4,x5,d5],x < tm.size:=fun x hx=>by rw [hsz];exact (hfr' x hx).1
 have hsize:ops.size=rest.length+6:=by rw [← Uj,hops];rfl
 have hat:∀ j,ops[j]? = ops.toList[j]?:=fun j=>(Ud ..).symm
 refine wp_region ?_
 rw [hsize,List.range_eq_range']
 show wpOps P ops Q (0::1::2::3::4::5::List.range' 6 rest.length) ⟨ZbQ tm F 0,[]⟩ w
 refine ZlC (by rw [hat,hops];rfl) g0 (by rw [hF];rfl) (.inl (by rw [KK q0,Vf hao,hka])) ?_
 refine ZlC (by rw [hat,hops];rfl) g1 (by rw [hF];rfl) (.inl (by rw [KK q1,Vf hpo,b2])) ?_
 refine ZlC (by rw [hat,hops];rfl) g2 (by rw [hF];rfl) (.inl (Zdi q2 (Yl (i:=1) hFn (by rw [hF];rfl) (by omega) (hlt _ (by simp))))) ?_
 refine ZlC (by rw [hat,hops];rfl) g3 (by rw [hF];rfl) (.inl (Zb0 q3 n3 (Yl (i:=2) hFn (by rw [hF];rfl) (by omega) (hlt _ (by simp))))) ?_
 refine ZlC (by rw [hat,hops];rfl) g4 (by rw [hF];rfl) (.inl (ZbV q4 (Y7 n4) (Yl (i:=3) hFn (by rw [hF];rfl) (by omega) (hlt _ (by simp))) (by rw [Zh b3];exact b5))) ?_
 refine ZlC (by rw [hat,hops];rfl) g5 (by rw [hF];rfl) (.inl (ZsJ q5 q6 q7 q8 n4 (Yl (i:=4) hFn (by rw [hF];rfl) (by omega) (hlt _ (by simp))))) ?_
 -- what is known of the slots behind
 obtain ⟨t1,t2,X1,t3,t4⟩:=Zhi hnt hcn (tm':=ZbQ tm F 6) hs hsim hfr (Ze9 ..) fun x hx=>Vf (by rw [hFm];exact hx)
 have hd0:d0 < E.nt:=(hfr' d0 (by simp)).1
 have hd5:d5 < E.nt:=(hfr' d5 (by simp)).1
 have hd05:d5≠d0:=by
  intro he
  have h1:=(hnd.sublist (show List.Sublist [d0,x2,x3,x4,x5,d5] _ by simp))
  rw [XS] at h1
  exact h1.1 (by simp [he])
 have bk:=hs a
 rw [hga] at bk
 have bl:l.bd n:=Jy n2 (hs d)
 have bi:i.bd n:=by have:=hs p;rw [n1] at this;exact this
 obtain ⟨u1,u2,u3⟩:=tell hnt hcn (d:=d0) (x:=.c (.int .i64 k)) t1 t3 hd0 (by rw [t2,Yv];simp) bk rfl (fun _ _ hr=>by rcases hr with hr | ⟨_,hr⟩ <;> cases hr)
  (by rw [Yl (i:=0) hFn (by rw [hF];rfl) (by omega) (hlt _ (by simp))];exact Rep.val rfl)
 obtain ⟨v1,v2,v3⟩:=tell hnt hcn (d:=d5) (x:=.c (.int .i64 (.len (.fn (.dget off) l i .nil .nil)))) u1 u3 hd5 (by rw [u2,Zb _ _ hd05,t2,Yv];simp) ⟨bl,bi,trivial,trivial⟩ rfl (fun _ _ hr=>by rcases hr with hr | ⟨_,hr⟩ <;> cases hr)
  (by
   rw [Yl (i:=5) hFn (by rw [hF];rfl) (by omega) (hlt _ (by simp))]
   show Rep w lim (.val (.int .i64 ((Zqg (l.den ρ) (i.den ρ).toNat off).length:Int))) _
   rw [hget]
   exact Rep.val rfl)
 obtain ⟨ss,ρ',n',s',k1,k2,k3,k4,k5⟩:=VN hps hnt (fun _ _ hh=>by cases hh) (ops.toList.drop 6) 6 _ n [] ρ (fun j=>by rw [XH,hat]) (fun d hd=>WR ρ hd) v1 h
 have hlen:ss.length=rest.length:=by rw [k1,hops];rfl
 rw [← hlen]
 exact WT hcP hcn ss 6 _ _ w lim _ k4 (fun d hd=>WR ρ hd) v3 fun tm' w' lim' X' hs'=>hk s' n' ρ' k2 k3 tm' w' lim' X' (by rw [k5];exact hs')
theorem Zg2 (hps:EnvSound P E) (hnt:E.top≤1024) {ops:Array Oper} {r:Nat×Nat×TypeId×Nat×TypeId×TypeId×List Nat} (hp:ZkA ops=Xa r) {id:Nat} {c:Ctx} (hcP:c.P=P) (hcn:c.nt=E.nt) {s:Tr} {n:Nat} {kn:Tr→Nat→STree} {ρ:Nat→V} {tm:Array Value} {w:World}
  {lim:Lm} {X:Nat→Nat→Option Nat} {Q:Exit→Act→World→Prop} (hs:YY E s n) (h:(Zm1 P E ops r s n kn).wp P R A ρ) (hsim:Sim c (ZE E s ρ) tm w lim X)
  (hk:∀ s' n' ρ',YY E s' n'→(kn s' n').wp P R A ρ'→∀ tm' w' lim' X',Sim c (ZE E s' ρ') tm' w' lim' X'→Q .normal ⟨tm',[]⟩ w'):(Code.region id ops Xc).wp P Q ⟨tm,[]⟩ w:=by
 unfold ZkA at hp
 split at hp
 case h_2=>cases hp
 rename_i o0 o1 o2 o3 o4 o5 o6 rest hops
 split at hp
 case h_2=>cases hp
 rename_i p d0 x1 d1 TS x2 f d2 T x3 d3 a d4 T5 x5 y5 d5 T6 x6 d6 e0 e1 e2 e3 e4 e5 e6
 split at hp
 case isFalse=>cases hp
 rename_i hh
 obtain ⟨⟨rfl,rfl,rfl,rfl,rfl,rfl,rfl⟩,hnd⟩:=hh
 cases hp
 have hnd:=Kj _ hnd
 obtain ⟨q0,g0⟩:=Ya e0
 obtain ⟨q1,g1⟩:=Ws e1
 obtain ⟨q2,g2⟩:=K0 e2
 obtain ⟨q3,g3⟩:=KU e3
 obtain ⟨q4,g4⟩:=Ya e4
 obtain ⟨q5,g5⟩:=ZpD e5
 obtain ⟨q6,g6⟩:=KU e6
 simp only [Zm1] at h
 split at h
 case h_2=>exact h.elim
 rename_i d q D l i off e k c0 c1 c2 c3 c4 c5 c6 hno hga hds
 simp only [List.cons.injEq,and_true] at hds
 obtain ⟨rfl,rfl,rfl,rfl,rfl,rfl,rfl⟩:=hds
 split at h
 case h_2=>exact h.elim
 rename_i sh hsh
 split at h
 case isFalse=>exact h.elim
 rename_i hh
 obtain ⟨hfr,hag,hc6,hshl,hs0⟩:=hh
 obtain ⟨r1,r2,vs,k0,kel,h⟩:=h
 obtain ⟨n1,n2,n3,n4,n5,n6⟩:=Zdz hno
 obtain ⟨row,ys,hrow,hz,hget⟩:=Zh1 (show qop (.nst off (P.cellsOf e) e) (l.den ρ) (i.den ρ)=Xb from r2)
 have hrelp:=hsim.rel p
 rw [show ZE E s ρ p = .eref d q ((i.den ρ).toNat*c.P.cellsOf (bT D)) from by show (gE E s p).den ρ=_;rw [n1,hcP];rfl] at hrelp
 obtain ⟨b,arr,u,b1,b2,b3,b4,b5,_,b7,b8,_⟩:=Zi2 hsim (show Zp (ZE E s ρ d) q=Xa (D,l.den ρ) from ZN ρ n2) (by rw [hcP];exact n5) hrelp hrow hz
 obtain ⟨kN,hkN⟩:∃ kN:Nat,k.den ρ=(kN:Int):=⟨(k.den ρ).toNat,by omega⟩
 have hka:tm.getD a undef = .int .i64 (kN:Int):=by
  have:=hsim.rel a
  rw [show ZE E s ρ a = .val (.int .i64 (k.den ρ)) from by show (gE E s a).den ρ=_;rw [hga];rfl] at this
  rw [← hkN]
  exact YR (show Rep w lim _ _ from this)
 have hel:ys[kN]? = Xa ((Zv sh n).map (SC.den (bind ρ n vs))):=by
  have:(Zqg (l.den ρ) (i.den ρ).toNat off)[(k.den ρ).toNat]? = _:=kel
  rw [hget,hkN] at this
  exact this
 have hkl:=(Xi.1 hel).1
 obtain ⟨bb,arr3,cap3,w1,w2,w3,w4,w5,w6,w7,w8,w9,w10⟩:=ZbH b8 (by intro he;rw [he] at hkl;simp at hkl)
 subst w2
 rw [hcP] at w7 w8
 obtain ⟨us,hus⟩:∃ us:List Value,us=(arr3.toList.drop (kN*P.cellsOf e)).take (P.cellsOf e):=⟨_,rfl⟩
 have hm1:kN*P.cellsOf e+P.cellsOf e≤ys.length*P.cellsOf e:=by rw [← X9];exact XN _ hkl
 have hm2:ys.length*P.cellsOf e≤cap3*P.cellsOf e:=XN _ w5
 have hul:us.length=P.cellsOf e:=by rw [hus];simp [w7];omega
 have huat:∀ (j:Nat) (u:Value),us[j]? = Xa u→j < P.cellsOf e∧arr3[kN*P.cellsOf e+j]? = Xa u:=fun j u hj=>by
  rw [hus,Xw] at hj
  split at hj
  ·rename_i hlt
   rw [XH] at hj
   exact ⟨hlt,by simpa using hj⟩
  ·cases hj
 obtain ⟨F,hF⟩:∃ F:List (Nat×Value),F = [(x1,.pointer (Xa ⟨b,(i.den ρ).toNat*c.P.cellsOf (bT D),Xe⟩)),(x2,.pointer (Xa ⟨b,(i.den ρ).toNat*c.P.cellsOf (bT D),Xe⟩)),(x3,.pointer (Xa ⟨b,(i.den ρ).toNat*c.P.cellsOf (bT D)+off,Xe⟩)),
  (x5,.slice (Xa ⟨bb,0,Xe⟩) ys.length cap3),(y5,.int .i64 (kN:Int)),(x6,.pointer (Xa ⟨bb,kN*P.cellsOf e,Xe⟩)),(d6,.agg us.toArray)]:=⟨_,rfl⟩
 have hFm:F.map (·.1) = [x1,x2,x3,x5,y5,x6,d6]:=by rw [hF];rfl
 have hFn:(F.map (·.1)).Nodup:=by rw [hFm];exact hnd.sublist (by simp)
 have hao:a∉F.map (·.1):=by
  rw [hFm]
  rw [XS] at hnd
  exact fun hm=>hnd.1 (We _ hm)
 have hpo:p∉F.map (·.1):=by
  rw [hFm]
  rw [XS,XS] at hnd
  exact hnd.2.1
 have hsz:tm.size=E.nt:=by rw [hsim.size,hcn]
 have hfr':=Zc0 hfr ρ
 have hlt:∀ x∈[x1,x2,x3,x5,y5,x6,d6],x < tm.size:=fun x hx=>by rw [hsz];exact (hfr' x hx).1
 have hsize:ops.size=rest.length+7:=by rw [← Uj,hops];rfl
 have hat:∀ j,ops[j]? = ops.toList[j]?:=fun j=>(Ud ..).symm
 refine wp_region ?_
 rw [hsize,List.range_eq_range']
 show wpOps P ops Q (0::1::2::3::4::5::6::List.range' 7 rest.length) ⟨ZbQ tm F 0,[]⟩ w
 refine ZlC (by rw [hat,hops];rfl) g0 (by rw [hF];rfl) (.inl (by rw [KK q0,Vf hpo,b2])) ?_
 refine ZlC (by rw [hat,hops];rfl) g1 (by rw [hF];rfl) (.inl (Zdi q1 (Yl (i:=0) hFn (by rw [hF];rfl) (by omega) (hlt _ (by simp))))) ?_
 refine ZlC (by rw [hat,hops];rfl) g2 (by rw [hF];rfl) (.inl (Zb0 q2 n3 (Yl (i:=1) hFn (by rw [hF];rfl) (by omega) (hlt _ (by simp))))) ?_
 refine ZlC (by rw [hat,hops];rfl) g3 (by rw [hF];rfl) (.inl (ZbV q3 (Y7 n4) (Yl (i:=2) hFn (by rw [hF];rfl) (by omega) (hlt _ (by simp))) (by rw [Zh b3];exact b5))) ?_
 refine ZlC (by rw [hat,hops];rfl) g4 (by rw [hF];rfl) (.inl (by rw [KK q4,Vf hao,hka])) ?_
 refine ZlC (by rw [hat,hops];rfl) g5 (by rw [hF];rfl) (.inl (Zsg q5 n4 (by omega) (Yl (i:=3) hFn (by rw [hF];rfl) (by omega) (hlt _ (by simp))) (Yl (i:=4) hFn (by rw [hF];rfl) (by omega) (hlt _ (by simp))) hkl)) ?_
 refine ZlC (by rw [hat,hops];rfl) g6 (by rw [hF];rfl) (.inl (Zo4 q6 hag (by rw [hul,hc6]) (Yl (i:=5) hFn (by rw [hF];rfl) (by omega) (hlt _ (by simp))) (fun j u hj=>by rw [Zh w3];exact (huat j u hj).2))) ?_
 -- what is known of the slots behind
 have hcg:ZE E s (bind ρ n vs)=ZE E s ρ:=ZbW hs (Yx ρ n vs)
 have hs2:YY E s (n+sh.length):=Zdj hs (XR _ _)
 obtain ⟨t1,t2,X1,t3,t4⟩:=Zhi hnt hcn (ρ:=bind ρ n vs) (tm':=ZbQ tm F 7) hs2 (by rw [hcg];exact hsim) hfr (Ze9 ..) fun x hx=>Vf (by rw [hFm];exact hx)
 have hd6:d6 < E.nt:=(hfr' d6 (by simp)).1
 obtain ⟨v1,v2,v3⟩:=tell hnt hcn (d:=d6) (x:=.agg (Zv sh n)) t1 t3 hd6 (by rw [t2,Yv];simp) (Jr sh n) rfl (fun _ _ hr=>by rcases hr with hr | ⟨_,hr⟩ <;> cases hr)
  (by
   rw [Yl (i:=6) hFn (by rw [hF];rfl) (by omega) (hlt _ (by simp))]
   show Rep w lim (.agg ((Zv sh n).map (SC.den (bind ρ n vs)))) _
   refine Rep.agg (by rw [Xq,Kl,hul,hshl]) (fun c hc=>w9 _ (Xh hel) c hc) fun j z u hz hu=>?_
   obtain ⟨hj,hu'⟩:=huat j u hu
   exact w10 _ z u (ZfN w8 hel hz) hu')
 obtain ⟨ss,ρ',n',s',k1,k2,k3,k4,k5⟩:=VN hps hnt (fun _ _ hh=>by cases hh) (ops.toList.drop 7) 7 _ (n+sh.length) [] (bind ρ n vs) (fun j=>by rw [XH,hat]) (fun d hd=>WR _ hd) v1 h
 have hlen:ss.length=rest.length:=by rw [k1,hops];rfl
 rw [← hlen]
 exact WT hcP hcn ss 7 _ _ w lim _ k4 (fun d hd=>WR _ hd) v3 fun tm' w' lim' X' hs'=>hk s' n' ρ' k2 k3 tm' w' lim' X' (by rw [k5];exact hs')
def ZlH (U:List Value) (s k n:Nat):List Value:=U.take (k*s)++(U.drop ((k+1)*s)).take ((n-(k+1))*s)++U.drop (k*s+(n-(k+1))*s)
theorem ZpK {U:List Value} {s k n cap:Nat} (hU:U.length=cap*s) (hk:k < n) (hn:n≤cap):(ZlH U s k n).length=cap*s:=by
 have h1:(k+1)*s+(n-(k+1))*s=n*s:=by rw [← Wb];congr 1;omega
 have h2:k*s+s=(k+1)*s:=(X9 k s).symm
 have h3:n*s≤cap*s:=XN _ hn
 simp only [ZlH,XA,XQ,Ue,hU]
 omega
theorem Zno {w0:World} {T ty e:TypeId} {i:TypeInfo} {b n cap k:Nat} {cur:Array Value} (hT:P.underlying T=Xa (.slice e)) (hi:P.info? e=Xa i) (hg:w0.heap[b]? = Xa (.cells cur e (0,0))) (hcs:cur.size=cap*P.cellsOf e) (hk:k < n) (hn:n≤cap)
  (h1:∀ v∈cur.toList.take (n*P.cellsOf e),v.oneCell'=Xb) :
  (Builtin.append_ #[T,T] ty #[.slice (Xa ⟨b,0,Xe⟩) k cap,.slice (Xa (if cap=k+1 then ⟨b,0,Xe⟩ else ⟨b,(k+1)*P.cellsOf e,Xe⟩)) (n-(k+1)) (cap-(k+1))]).run P w0 =
   .ok (.slice (Xa ⟨b,0,Xe⟩) (n-1) cap) (w0.setRow b (ZlH cur.toList (P.cellsOf e) k n).toArray):=by
 obtain ⟨sz,hsz⟩:∃ sz,sz=P.cellsOf e:=⟨_,rfl⟩
 have hiz:i.size=sz:=by rw [hsz];exact (ZH hi).symm
 rw [← hsz] at hcs h1 ⊢
 have hcl:cur.toList.length=cap*sz:=by simpa using hcs
 have m1:(k+1)*sz+(n-(k+1))*sz=n*sz:=by rw [← Wb];congr 1;omega
 have m2:k*sz+sz=(k+1)*sz:=(X9 k sz).symm
 have m3:n*sz≤cap*sz:=XN _ hn
 have hl:((cur.toList.drop ((k+1)*sz)).take ((n-(k+1))*sz)).length=(n-(k+1))*sz:=by rw [XQ,Ue,hcl];omega
 have:=run_append_room (P:=P) w0 T ty e i hT hi b k cap cur hg (if cap=k+1 then ⟨b,0,Xe⟩ else ⟨b,(k+1)*sz,Xe⟩) (n-(k+1)) (cap-(k+1)) ((cur.toList.drop ((k+1)*sz)).take ((n-(k+1))*sz)) (by rw [hl,hiz]) (fun t u ht=>by
   have hlt:=(Xi.1 ht).1
   rw [hl] at hlt
   have hne:cap≠k+1:=by
    intro h0
    have:n-(k+1)=0:=by omega
    rw [this] at hlt
    simp at hlt
   rw [if_neg hne,Jc,Zh hg]
   rw [Xw,if_pos hlt,XH] at ht
   simpa using ht) (fun v hv=>h1 v (by
   have h0:(n-(k+1))*sz=n*sz-(k+1)*sz:=by omega
   rw [h0,← List.drop_take] at hv
   exact XW hv)) (by omega) (by rw [hl,hiz,hcs];omega)
 rw [hl,hiz,show k+(n-(k+1))=n-1 by omega] at this
 exact this
theorem Zkx {P:Program} {w:World} {lim:Lm} {e:TypeId} {ys:List (List AV)} {b cap k:Nat} {arr:Array Value} {w':World} {lim':Lm} (hs:arr.size=cap*P.cellsOf e) (hn:ys.length≤cap) (hcm:cap≤maxLen) (hk:k < ys.length) (hl:∀ x∈ys,x.length=P.cellsOf e) (hc:∀ x∈ys,∀ c∈x,c.isCell=Xb)
  (hr:∀ (j:Nat) (c:AV) (u:Value),ys.flatten[j]? = Xa c→arr[j]? = Xa u→Rep w lim c u) (he:Ext w lim w' lim') (hg:w'.heap[b]? = Xa (.cells (ZlH arr.toList (P.cellsOf e) k ys.length).toArray e (0,0))) (h0:lim' b=0) :
  VQ P w' lim' Xb e (ys.take k++ys.drop (k+1)) (.slice (Xa ⟨b,0,Xe⟩) (ys.length-1) cap) (Xa b):=by
 obtain ⟨sz,hsz⟩:∃ sz,sz=P.cellsOf e:=⟨_,rfl⟩
 rw [← hsz] at hs hl hg
 have hcl:arr.toList.length=cap*sz:=by simpa using hs
 have m1:(k+1)*sz+(ys.length-(k+1))*sz=ys.length*sz:=by rw [← Wb];congr 1;omega
 have m2:k*sz+sz=(k+1)*sz:=(X9 k sz).symm
 have m3:ys.length*sz≤cap*sz:=XN _ hn
 have m4:(ys.length-1)*sz=k*sz+(ys.length-(k+1))*sz:=by rw [← Wb];congr 1;omega
 have hyl:(ys.take k++ys.drop (k+1)).length=ys.length-1:=by simp;omega
 have hmem:∀ x∈ys.take k++ys.drop (k+1),x∈ys:=fun x hx=>by
  rcases Xt.1 hx with hx | hx
  ·exact XO hx
  ·exact XW hx
 have hdl:=ZpK (s:=sz) hcl hk hn
 have hflat:(ys.take k++ys.drop (k+1)).flatten=ys.flatten.take (k*sz)++ys.flatten.drop ((k+1)*sz):=by rw [List.flatten_append,J4 ys k hl,Vd ys (k+1) hl]
 have hfl:=Zg ys _ hl
 refine .inl ⟨(ZlH arr.toList sz k ys.length).take ((ys.length-1)*sz),⟨by rw [XQ,hdl,hyl,← hsz];omega,.inr ⟨b,cap,_,by rw [hyl],Wh _,hg,by rw [hyl];omega,hcm,by rw [List.size_toArray,hdl,hsz],by rw [hyl,← hsz]⟩⟩,rfl,fun b' hb'=>?_,fun x hx=>by rw [← hsz];exact hl x (hmem x hx),fun x hx=>hc x (hmem x hx),fun j c u hz hu=>?_⟩
 ·simp only [Xf] at hb'
  subst hb'
  exact h0
 ·refine Rep.mono he ?_
  rw [hflat] at hz
  rw [Xw] at hu
  split at hu
  case isFalse=>cases hu
  rename_i hjl
  unfold ZlH at hu
  have ht1:(ys.flatten.take (k*sz)).length=k*sz:=by rw [XQ,hfl];omega
  have hu1:(arr.toList.take (k*sz)).length=k*sz:=by rw [XQ,hcl];omega
  rw [Xu] at hu
  by_cases hj:j < k*sz
  ·rw [Xv (by omega),Xw,if_pos hj] at hz
   rw [Xv (by omega),Xw,if_pos hj] at hu
   exact hr j c u hz (by simpa using hu)
  ·rw [Xy (by omega),ht1,XH] at hz
   rw [Xy (by omega),hu1,Xv (by rw [XQ,Ue,hcl];omega),Xw,if_pos (by omega),XH] at hu
   exact hr _ c u hz (by simpa using hu)
theorem Zhf {w:World} {lim:Lm} {ys:List (List AV)} {sz cap:Nat} {arr:Array Value} (hcs:arr.size=cap*sz) (hn:ys.length≤cap) (hl:∀ x∈ys,x.length=sz) (hc:∀ x∈ys,∀ c∈x,c.isCell=Xb) (hr:∀ (j:Nat) (c:AV) (u:Value),ys.flatten[j]? = Xa c→arr[j]? = Xa u→Rep w lim c u) :
  ∀ v∈arr.toList.take (ys.length*sz),v.oneCell'=Xb:=by
 intro v hv
 obtain ⟨j,hj⟩:=XK.1 hv
 rw [Xw] at hj
 split at hj
 case isFalse=>cases hj
 rename_i hlt
 have hfl:=Zg ys _ hl
 have hz:ys.flatten[j]? = Xa (ys.flatten[j]'(by omega)):=Xp (by omega)
 obtain ⟨x,hx,hzx⟩:=List.mem_flatten.1 (Wl (show j < ys.flatten.length by omega))
 exact (hr j _ v hz (by simpa using hj)).oneCell (hc x hx _ hzx)
theorem Zc4:∀ {l:List Nat} {i j d:Nat},l.Nodup→l[i]? = Xa d→l[j]? = Xa d→i=j
 | [], _, _, _, _, h, _ => by simp at h
 | x :: l, i, j, d, hn, h1, h2 => by
  rw [XS] at hn
  cases i with
  | zero =>
   cases j with
   | zero => rfl
   | succ j =>
    simp only [XB,Xf,X5] at h1 h2
    subst h1
    exact (hn.1 (Xh h2)).elim
  | succ i =>
   cases j with
   | zero =>
    simp only [XB,Xf,X5] at h1 h2
    subst h2
    exact (hn.1 (Xh h1)).elim
   | succ j =>
    simp only [X5] at h1 h2
    rw [Zc4 hn.2 h1 h2]
theorem Zh4 (hm:P.follows .mixedOrders=Xb) (hnt:E.top≤1024) {ops:Array Oper} {r:Nat×Nat×TypeId×Nat×TypeId×List Nat} (hp:Zoe ops=Xa r) {id:Nat} {c:Ctx} (hcP:c.P=P) (hcn:c.nt=E.nt) {s:Tr} {n:Nat} {kn:Tr→Nat→STree} {ρ:Nat→V} {tm:Array Value} {w:World}
  {lim:Lm} {X:Nat→Nat→Option Nat} {Q:Exit→Act→World→Prop} (hs:YY E s n) (h:(Znz P E r s n kn).wp P R A ρ) (hsim:Sim c (ZE E s ρ) tm w lim X)
  (hk:∀ s' n' ρ',YY E s' n'→(kn s' n').wp P R A ρ'→∀ tm' w' lim' X',Sim c (ZE E s' ρ') tm' w' lim' X'→Q .normal ⟨tm',[]⟩ w'):(Code.region id ops Xb).wp P Q ⟨tm,[]⟩ w:=by
 unfold Zoe at hp
 split at hp
 case h_2=>cases hp
 rename_i o0 o1 o2 o3 o4 o5 o6 o7 o8 o9 o10 o11 o12 o13 o14 o15 o16 o17 hops
 split at hp
 case h_2=>cases hp
 rename_i p d0 p1 d1 x2 d2 TS x3 f d3 T x4 d4 a d5 T6 x6 y6 d6 p7 d7 x8 d8 e0 e1 e2 e3 e4 e5 e6 e7 e8
 split at hp
 case h_2=>cases hp
 rename_i TS9 x9 f9 d9 T10 x10 d10 a11 d11 x12 d12 T13 x13 y13 d13 T14 x14 y14 d14 x15 d15 TS16 x16 f16 d16 T17 x17 y17 e9 e10 e11 e12 e13 e14 e15 e16 e17
 split at hp
 case isFalse=>cases hp
 rename_i hh
 obtain ⟨⟨⟨h1,h2,h3,h4,h5,h6,h7,h8,h9⟩,h10,h11,h12,h13,h14,h15,h16,h17,h18,h19⟩,⟨h20,h21,h22,h23,h24,h25,h26,h27,h28,h29⟩,hnd,hlow,hedge⟩:=hh
 have h1:=h1.symm;subst h1
 have h2:=h2.symm;subst h2
 have h3:=h3.symm;subst h3
 have h4:=h4.symm;subst h4
 have h5:=h5.symm;subst h5
 have h6:=h6.symm;subst h6
 have h7:=h7.symm;subst h7
 have h8:=h8.symm;subst h8
 have h9:=h9.symm;subst h9
 have h10:=h10.symm;subst h10
 have h11:=h11.symm;subst h11
 have h12:=h12.symm;subst h12
 have h13:=h13.symm;subst h13
 have h14:=h14.symm;subst h14
 have h15:=h15.symm;subst h15
 have h16:=h16.symm;subst h16
 have h17:=h17.symm;subst h17
 have h18:=h18.symm;subst h18
 have h19:=h19.symm;subst h19
 have h20:=h20.symm;subst h20
 have h21:=h21.symm;subst h21
 have h22:=h22.symm;subst h22
 have h23:=h23.symm;subst h23
 have h24:=h24.symm;subst h24
 have h25:=h25.symm;subst h25
 have h26:=h26.symm;subst h26
 have h27:=h27.symm;subst h27
 have h28:=h28.symm;subst h28
 have h29:=h29.symm;subst h29
 cases hp
 simp only [Xs] at hedge
 obtain ⟨⟨⟨⟨⟨⟨⟨⟨⟨⟨⟨⟨E2,E3⟩,E4⟩,E6⟩,E8⟩,E9⟩,E10⟩,E12⟩,E13⟩,E14⟩,E15⟩,E16⟩,E17⟩:=hedge
 have hnd:=Kj _ hnd
 obtain ⟨q0,g0,u0⟩:=Ya e0
 obtain ⟨q1,g1,u1⟩:=Ya e1
 obtain ⟨q2,g2,u2⟩:=Ws e2
 obtain ⟨q3,g3,u3⟩:=K0 e3
 obtain ⟨q4,g4,u4⟩:=KU e4
 obtain ⟨q5,g5,u5⟩:=Ya e5
 obtain ⟨q6,g6,u6⟩:=Zl5 e6
 obtain ⟨q7,g7,u7⟩:=Ya e7
 obtain ⟨q8,g8,u8⟩:=Ws e8
 obtain ⟨q9,g9,u9⟩:=K0 e9
 obtain ⟨q10,g10,u10⟩:=KU e10
 obtain ⟨q11,g11,u11⟩:=Ya e11
 obtain ⟨⟨I1,I2,q12⟩,g12,u12⟩:=ZhN e12
 obtain ⟨q13,g13,u13⟩:=Znj e13
 obtain ⟨⟨cl,q14,qa,qb,qc⟩,g14,u14⟩:=Zkg e14
 obtain ⟨q15,g15,u15⟩:=Ws e15
 obtain ⟨q16,g16,u16⟩:=K0 e16
 obtain ⟨q17,g17,u17⟩:=ZjL e17
 simp only [Znz] at h
 split at h
 case h_2=>exact h.elim
 rename_i d q D l i off e k hno hga
 split at h
 case isFalse=>exact h.elim
 rename_i hh
 obtain ⟨hfr,hs0,hT1⟩:=hh
 obtain ⟨r1,r2,r3,r4,h⟩:=h
 have r3:(0:Int)≤k.den ρ:=r3
 obtain ⟨n1,n2,n3,n4,n5,n6⟩:=Zdz hno
 obtain ⟨row,ys,hrow,hz,hget⟩:=Zh1 (show qop (.nst off (P.cellsOf e) e) (l.den ρ) (i.den ρ)=Xb from r2)
 have hown:Zp (ZE E s ρ d) q=Xa (D,l.den ρ):=ZN ρ n2
 have hdp:Ze c.P D=Xb:=by rw [hcP];exact n5
 have hrelp:=hsim.rel p
 rw [show ZE E s ρ p = .eref d q ((i.den ρ).toNat*c.P.cellsOf (bT D)) from by show (gE E s p).den ρ=_;rw [n1,hcP];rfl] at hrelp
 obtain ⟨b,arr,u,b1,b2,b3,b4,b5,b6,b7,b8,b9,b10,b11,b12,b13⟩:=Zi2 hsim hown hdp hrelp hrow hz
 obtain ⟨kN,hkN⟩:∃ kN:Nat,k.den ρ=(kN:Int):=⟨(k.den ρ).toNat,by omega⟩
 have hkl:kN < ys.length:=by
  have:k.den ρ < (((Zqg (l.den ρ) (i.den ρ).toNat off).length:Nat):Int):=r4
  rw [hget,hkN] at this
  omega
 have hka:tm.getD a undef = .int .i64 (kN:Int):=by
  have:=hsim.rel a
  rw [show ZE E s ρ a = .val (.int .i64 (k.den ρ)) from by show (gE E s a).den ρ=_;rw [hga];rfl] at this
  rw [← hkN]
  exact YR (show Rep w lim _ _ from this)
 obtain ⟨bb,arr3,cap3,w1',w2',w3,w4,w5,w6,w7,w8,w9,w10⟩:=ZbH b8 (by intro he;rw [he] at hkl;simp at hkl)
 subst w2'
 rw [hcP] at w7 w8
 obtain ⟨iN,hiN⟩:∃ iN,iN=(i.den ρ).toNat:=⟨_,rfl⟩
 obtain ⟨J,hJ⟩:∃ J,J=(i.den ρ).toNat*c.P.cellsOf (bT D)+off:=⟨_,rfl⟩
 rw [← hJ] at b5 b8 b12 w1'
 obtain ⟨inf,hinf⟩:=Zr (show P.cellsOf e≠0 by omega)
 obtain ⟨infT,hinfT⟩:=Zr (show P.cellsOf T≠0 by omega)
 have hbb:bb≠b:=fun he=>by
  subst he
  have hd1:=hsim.far d
  have:=(hsim.dist d q _ J bb b1 w1').1
  rw [this] at hown
  rw [hsim.far _ (XR _ _)] at hown
  cases hown
 -- the worlds
 obtain ⟨nv,hnv⟩:∃ nv:Value,nv = .slice (Xa ⟨bb,0,Xe⟩) (ys.length-1) cap3:=⟨_,rfl⟩
 obtain ⟨w1,hw1⟩:∃ w1,w1=w.drew.setRow bb (ZlH arr3.toList (P.cellsOf e) kN ys.length).toArray:=⟨_,rfl⟩
 obtain ⟨w2,hw2⟩:∃ w2,w2=w1.setRow b (arr.toList.set J nv).toArray:=⟨_,rfl⟩
 have hd3:w.drew.heap[bb]? = Xa (.cells arr3 e (0,0)):=w3
 have hdb:w.drew.heap[b]? = Xa (.cells arr (bT D) (0,0)):=b3
 have hw1b:w1.heap[b]? = Xa (.cells arr (bT D) (0,0)):=by rw [hw1,setRow_other w.drew bb b _ (Ne.symm hbb)];exact hdb
 have hw13:w1.heap[bb]? = Xa (.cells (ZlH arr3.toList (P.cellsOf e) kN ys.length).toArray e (0,0)):=by rw [hw1];exact setRow_heap w.drew bb arr3 _ e (0,0) hd3
 have hw2b:w2.heap[b]? = Xa (.cells (arr.toList.set J nv).toArray (bT D) (0,0)):=by rw [hw2];exact setRow_heap w1 b arr _ (bT D) (0,0) hw1b
 have hw23:w2.heap[bb]? = Xa (.cells (ZlH arr3.toList (P.cellsOf e) kN ys.length).toArray e (0,0)):=by rw [hw2,setRow_other w1 b bb _ hbb];exact hw13
 have hJl:J < arr.size:=(Wa.1 b5).1
 have hap:=fun ty=>Zno (P:=P) (ty:=ty) n4 hinf hd3 w7 hkl w5 (Zhf w7 w5 w8 w9 w10)
 rw [← hw1,← hnv] at hap
 have hinc:iop .add .i64 (kN:Int) 1=((kN+1:Nat):Int):=by
  show IntKind.i64.wrap _=_
  rw [IntKind.wrap_i64]
  unfold maxLen at w6
  omega
 -- the values
 obtain ⟨DS,hDS⟩:∃ DS:List Nat,DS = [d0,d1,d2,d3,d4,d5,d6,d7,d8,d9,d10,d11,d12,d13,d14,d15,d16]:=⟨_,rfl⟩
 obtain ⟨v,hv⟩:∃ v:Nat→Value,v=fun j=>([.pointer (Xa ⟨b,(i.den ρ).toNat*c.P.cellsOf (bT D),Xe⟩),.pointer (Xa ⟨b,(i.den ρ).toNat*c.P.cellsOf (bT D),Xe⟩),.pointer (Xa ⟨b,(i.den ρ).toNat*c.P.cellsOf (bT D),Xe⟩),.pointer (Xa ⟨b,J,Xe⟩),
  .slice (Xa ⟨bb,0,Xe⟩) ys.length cap3,.int .i64 (kN:Int),.slice (Xa ⟨bb,0,Xe⟩) kN cap3,.pointer (Xa ⟨b,(i.den ρ).toNat*c.P.cellsOf (bT D),Xe⟩),.pointer (Xa ⟨b,(i.den ρ).toNat*c.P.cellsOf (bT D),Xe⟩),.pointer (Xa ⟨b,J,Xe⟩),
  .slice (Xa ⟨bb,0,Xe⟩) ys.length cap3,.int .i64 (kN:Int),.int .i64 ((kN+1:Nat):Int),.slice (Xa (if cap3=kN+1 then ⟨bb,0,Xe⟩ else ⟨bb,(kN+1)*P.cellsOf e,Xe⟩)) (ys.length-(kN+1)) (cap3-(kN+1)),nv,
  .pointer (Xa ⟨b,(i.den ρ).toNat*c.P.cellsOf (bT D),Xe⟩),.pointer (Xa ⟨b,J,Xe⟩),undef] : List Value).getD j undef:=⟨_,rfl⟩
 have hat:∀ j,ops[j]? = ops.toList[j]?:=fun j=>(Ud ..).symm
 have hsize:ops.size=18:=by rw [← Uj,hops];rfl
 have hsz:tm.size=E.nt:=by rw [hsim.size,hcn]
 have hfr':=Zc0 hfr ρ
 rw [← hDS] at hfr hfr'
 have hDn:DS.Nodup:=by rw [hDS];exact hnd.sublist (by simp)
 have hao:∀ j:Nat,DS[j]?≠Xa a:=fun j hj=>by
  have hm:=Xh hj
  rw [XS] at hnd
  rw [hDS] at hm
  exact hnd.1 (We _ hm)
 have hpo:∀ j:Nat,DS[j]?≠Xa p:=fun j hj=>by
  have hm:=Xh hj
  rw [XS,XS] at hnd
  rw [hDS] at hm
  exact hnd.2.1 hm
 have hD:∀ j:Nat,DS[j]? = ([d0,d1,d2,d3,d4,d5,d6,d7,d8,d9,d10,d11,d12,d13,d14,d15,d16] : List Nat)[j]?:=fun j=>by rw [hDS]
 have hu1:nv.cells = #[nv]∧nv.oneCell'=Xb:=by rw [hnv];exact ⟨rfl,rfl⟩
 refine ZnB (nt:=E.nt) (D:=fun j=>DS[j]?) (v:=v) (m:=14) (l:=17) (w0:=w.drew) (w1:=w1) (w2:=w2) hm rfl (Zmu hlow) (fun j o ho=>?_) (fun j j' x h1 h2=>Zc4 hDn h1 h2) (fun j x hx=>(hfr' x (Xh hx)).1) hsz (fun j o ho L tX wX hL hdep hcl hI=>?_) (fun tX hX1 hX2 hX3=>?_)
 ·rw [hat,hops] at ho
  match j,ho with
  | 0, ho => obtain rfl : o0 = o := Xr ho; exact ⟨u0, by rw [hDS]; exact g0⟩
  | 1, ho => obtain rfl : o1 = o := Xr ho; exact ⟨u1, by rw [hDS]; exact g1⟩
  | 2, ho => obtain rfl : o2 = o := Xr ho; exact ⟨u2, by rw [hDS]; exact g2⟩
  | 3, ho => obtain rfl : o3 = o := Xr ho; exact ⟨u3, by rw [hDS]; exact g3⟩
  | 4, ho => obtain rfl : o4 = o := Xr ho; exact ⟨u4, by rw [hDS]; exact g4⟩
  | 5, ho => obtain rfl : o5 = o := Xr ho; exact ⟨u5, by rw [hDS]; exact g5⟩
  | 6, ho => obtain rfl : o6 = o := Xr ho; exact ⟨u6, by rw [hDS]; exact g6⟩
  | 7, ho => obtain rfl : o7 = o := Xr ho; exact ⟨u7, by rw [hDS]; exact g7⟩
  | 8, ho => obtain rfl : o8 = o := Xr ho; exact ⟨u8, by rw [hDS]; exact g8⟩
  | 9, ho => obtain rfl : o9 = o := Xr ho; exact ⟨u9, by rw [hDS]; exact g9⟩
  | 10, ho => obtain rfl : o10 = o := Xr ho; exact ⟨u10, by rw [hDS]; exact g10⟩
  | 11, ho => obtain rfl : o11 = o := Xr ho; exact ⟨u11, by rw [hDS]; exact g11⟩
  | 12, ho => obtain rfl : o12 = o := Xr ho; exact ⟨u12, by rw [hDS]; exact g12⟩
  | 13, ho => obtain rfl : o13 = o := Xr ho; exact ⟨u13, by rw [hDS]; exact g13⟩
  | 14, ho => obtain rfl : o14 = o := Xr ho; exact ⟨u14, by rw [hDS]; exact g14⟩
  | 15, ho => obtain rfl : o15 = o := Xr ho; exact ⟨u15, by rw [hDS]; exact g15⟩
  | 16, ho => obtain rfl : o16 = o := Xr ho; exact ⟨u16, by rw [hDS]; exact g16⟩
  | 17, ho => obtain rfl : o17 = o := Xr ho; exact ⟨u17, by rw [hDS]; exact g17⟩
  | j + 18, ho => cases ho
 ·rw [hat,hops] at ho
  have at':∀ (j:Nat) (o:Oper),ops.toList[j]? = Xa o→L j=Xb→∀ e∈o.after,Region.binds .any e=Xb→L e.on=Xb:=fun j o ho hj=>hcl j o (by rw [hat];exact ho) hj
  have new:∀ (j x:Nat) (y:Value),L j=Xb→DS[j]? = Xa x→v j=y→tX.getD x undef=y:=fun j x y h1 h2 h3=>by rw [hI.new j x h1 h2,h3]
  have l17:L 14=Xc→L 17=Xc:=fun h14=>by
   cases h17:L 17 with
   | false => rfl
   | true =>
    have:=Zx E17 (at' 17 o17 (by rw [hops];rfl) h17) 14 (by simp)
    rw [h14] at this;cases this
  have wfst:L 14=Xc→wX=w.drew:=fun h14=>by rw [hI.wrl,l17 h14,h14];rfl
  match j,ho with
  | 0, ho =>
   obtain rfl:o0=o:=Xr ho
   refine ⟨?_,fun h=>by omega⟩
   rw [hv]
   exact .inl (by rw [KK q0,hI.old p hpo,b2];rfl)
  | 1, ho =>
   obtain rfl:o1=o:=Xr ho
   refine ⟨?_,fun h=>by omega⟩
   rw [hv]
   exact .inl (by rw [KK q1,hI.old p hpo,b2];rfl)
  | 2, ho =>
   obtain rfl:o2=o:=Xr ho
   refine ⟨?_,fun h=>by omega⟩
   rw [hv]
   exact .inl (Zdi q2 (new 1 d1 _ (Zx E2 hdep 1 (by simp)) (by rw [hDS];rfl) (by rw [hv];rfl)))
  | 3, ho =>
   obtain rfl:o3=o:=Xr ho
   refine ⟨?_,fun h=>by omega⟩
   rw [hv]
   exact .inl (by rw [Zb0 q3 n3 (new 2 d2 _ (Zx E3 hdep 2 (by simp)) (by rw [hDS];rfl) (by rw [hv];rfl)),← hJ];rfl)
  | 4, ho =>
   obtain rfl:o4=o:=Xr ho
   refine ⟨?_,fun h=>by omega⟩
   rw [hv]
   have h14:L 14=Xc:=by
    cases h14:L 14 with
    | false => rfl
    | true =>
     have z6:=Zx E14 (at' 14 o14 (by rw [hops];rfl) h14) 6 (by simp)
     have z4:=Zx E6 (at' 6 o6 (by rw [hops];rfl) z6) 4 (by simp)
     rw [hL] at z4;cases z4
   exact .inl (ZbV q4 (Y7 n4) (new 3 d3 _ (Zx E4 hdep 3 (by simp)) (by rw [hDS];rfl) (by rw [hv];rfl)) (by rw [wfst h14,Zh hdb];exact b5))
  | 5, ho =>
   obtain rfl:o5=o:=Xr ho
   refine ⟨?_,fun h=>by omega⟩
   rw [hv]
   exact .inl (by rw [KK q5,hI.old a hao,hka];rfl)
  | 6, ho =>
   obtain rfl:o6=o:=Xr ho
   refine ⟨?_,fun h=>by omega⟩
   rw [hv]
   exact .inl (ZsO q6 n4 (by omega) (new 4 d4 _ (Zx E6 hdep 4 (by simp)) (by rw [hDS];rfl) (by rw [hv];rfl)) (new 5 d5 _ (Zx E6 hdep 5 (by simp)) (by rw [hDS];rfl) (by rw [hv];rfl)) (by omega) w5)
  | 7, ho =>
   obtain rfl:o7=o:=Xr ho
   refine ⟨?_,fun h=>by omega⟩
   rw [hv]
   exact .inl (by rw [KK q7,hI.old p hpo,b2];rfl)
  | 8, ho =>
   obtain rfl:o8=o:=Xr ho
   refine ⟨?_,fun h=>by omega⟩
   rw [hv]
   exact .inl (Zdi q8 (new 7 d7 _ (Zx E8 hdep 7 (by simp)) (by rw [hDS];rfl) (by rw [hv];rfl)))
  | 9, ho =>
   obtain rfl:o9=o:=Xr ho
   refine ⟨?_,fun h=>by omega⟩
   rw [hv]
   exact .inl (by rw [Zb0 q9 n3 (new 8 d8 _ (Zx E9 hdep 8 (by simp)) (by rw [hDS];rfl) (by rw [hv];rfl)),← hJ];rfl)
  | 10, ho =>
   obtain rfl:o10=o:=Xr ho
   refine ⟨?_,fun h=>by omega⟩
   rw [hv]
   have h14:L 14=Xc:=by
    cases h14:L 14 with
    | false => rfl
    | true =>
     have z13:=Zx E14 (at' 14 o14 (by rw [hops];rfl) h14) 13 (by simp)
     have z10:=Zx E13 (at' 13 o13 (by rw [hops];rfl) z13) 10 (by simp)
     rw [hL] at z10;cases z10
   exact .inl (ZbV q10 (Y7 n4) (new 9 d9 _ (Zx E10 hdep 9 (by simp)) (by rw [hDS];rfl) (by rw [hv];rfl)) (by rw [wfst h14,Zh hdb];exact b5))
  | 11, ho =>
   obtain rfl:o11=o:=Xr ho
   refine ⟨?_,fun h=>by omega⟩
   rw [hv]
   exact .inl (by rw [KK q11,hI.old a hao,hka];rfl)
  | 12, ho =>
   obtain rfl:o12=o:=Xr ho
   refine ⟨?_,fun h=>by omega⟩
   rw [hv]
   exact .inl (by rw [Zms q12 (new 11 d11 _ (Zx E12 hdep 11 (by simp)) (by rw [hDS];rfl) (by rw [hv];rfl)),hinc];rfl)
  | 13, ho =>
   obtain rfl:o13=o:=Xr ho
   refine ⟨?_,fun h=>by omega⟩
   rw [hv]
   exact .inl (Zsr q13 n4 (by omega) (new 10 d10 _ (Zx E13 hdep 10 (by simp)) (by rw [hDS];rfl) (by rw [hv];rfl)) (new 12 d12 _ (Zx E13 hdep 12 (by simp)) (by rw [hDS];rfl) (by rw [hv];rfl)) (by omega) w5)
  | 14, ho =>
   obtain rfl:o14=o:=Xr ho
   refine ⟨?_,fun h=>l17 hL⟩
   rw [hv]
   exact .inl (Zqt q14 qa qb qc (new 6 d6 _ (Zx E14 hdep 6 (by simp)) (by rw [hDS];rfl) (by rw [hv])) (new 13 d13 _ (Zx E14 hdep 13 (by simp)) (by rw [hDS];rfl) (by rw [hv])) (by rw [wfst hL];exact hap _))
  | 15, ho =>
   obtain rfl:o15=o:=Xr ho
   refine ⟨?_,fun h=>by omega⟩
   rw [hv]
   exact .inl (Zdi q15 (new 0 d0 _ (Zx E15 hdep 0 (by simp)) (by rw [hDS];rfl) (by rw [hv];rfl)))
  | 16, ho =>
   obtain rfl:o16=o:=Xr ho
   refine ⟨?_,fun h=>by omega⟩
   rw [hv]
   exact .inl (by rw [Zb0 q16 n3 (new 15 d15 _ (Zx E16 hdep 15 (by simp)) (by rw [hDS];rfl) (by rw [hv];rfl)),← hJ];rfl)
  | 17, ho =>
   obtain rfl:o17=o:=Xr ho
   refine ⟨?_,fun h=>by omega⟩
   rw [hv]
   have h14:L 14=Xb:=Zx E17 hdep 14 (by simp)
   have hwX:wX=w1:=by rw [hI.wrl,hL,h14];rfl
   refine .inr ⟨rfl,?_⟩
   have:=Zj2 (P:=P) (w:=wX) q17 hinfT hT1 (new 16 d16 _ (Zx E17 hdep 16 (by simp)) (by rw [hDS];rfl) (by rw [hv];rfl)) (new 14 d14 _ (Zx E17 hdep 14 (by simp)) (by rw [hDS];rfl) (by rw [hv];rfl)) hu1.1 hu1.2 (by rw [hwX];exact hw1b) hJl
   rw [this,hwX,← hw2]
   rfl
  | j + 18, ho => cases ho
 ·rw [hsize,if_pos (by omega)]
  have hbl:b < w.heap.size:=(hsim.ours d q b b1).1
  have hstep:ZU w lim w2 lim (fun b'=>b'=b∨∃ j,X (ngN+b) j=Xa b'):=by
   refine ⟨by rw [hw2,hw1];rfl,by rw [hw2,hw1];rfl,by rw [hw2,hw1];rfl,by rw [hw2,hw1];simp,fun a' _=>?_,fun k' _ hk'=>⟨?_,rfl⟩,⟨fun k' _=>⟨XD _,fun o' u' ho' hu'=>?_⟩,fun _ _ h=>h⟩,rfl⟩
   ·rw [hw2,Yj w1 b arr _ _ hw1b,hw1,Yj w.drew bb arr3 _ _ hd3]
    rfl
   ·have hkb:k'≠b:=fun he=>hk' (.inl he)
    have hkbb:k'≠bb:=fun he=>hk' (.inr ⟨J,by rw [he];exact w1'⟩)
    rw [hw2,setRow_other w1 b k' _ hkb,hw1,setRow_other w.drew bb k' _ hkbb]
    rfl
   ·by_cases hkb:k'=b
    ·subst hkb;rw [b4] at ho';omega
    ·by_cases hkbb:k'=bb
     ·subst hkbb;rw [w4] at ho';omega
     ·unfold World.cell? at hu' ⊢
      rw [hw2,setRow_other w1 b k' _ hkb,hw1,setRow_other w.drew bb k' _ hkbb]
      exact hu'
  obtain ⟨ys',hys'⟩:∃ ys',ys'=ys.take kN++ys.drop (kN+1):=⟨_,rfl⟩
  obtain ⟨xs',hxs'⟩:∃ xs',xs'=ZC (l.den ρ) (i.den ρ).toNat off [AV.nest (P.cellsOf e) Xb e ys']:=⟨_,rfl⟩
  have hil:=(Xi.1 hrow).1
  have hol:off < c.P.cellsOf (bT D):=by rw [← b9 row (Xh hrow)];exact (Xi.1 hz).1
  have hxl:=Zg (l.den ρ) _ b9
  have hmem:=Yw (i:=(i.den ρ).toNat) (o:=off) (e:=[AV.nest (P.cellsOf e) Xb e ys']) b9 b10 (by simp;omega) (fun z hz=>by simp at hz;subst hz;rfl)
  have hfl:=JD (i:=(i.den ρ).toNat) (o:=off) (e:=[AV.nest (P.cellsOf e) Xb e ys']) b9 hil (by simp;omega)
  have hmul:(i.den ρ).toNat*c.P.cellsOf (bT D)+c.P.cellsOf (bT D)≤(l.den ρ).length*c.P.cellsOf (bT D):=by rw [← X9];exact XN _ hil
  have hfget:∀ j,xs'.flatten[j]? = if j=J then Xa (.nest (P.cellsOf e) Xb e ys') else (l.den ρ).flatten[j]?:=fun j=>by
   rw [hxs',hfl,JS _ _ _ (by simp [hxl];omega),← hJ]
   by_cases hj:j=J
   ·subst hj;rw [if_pos (by simp),if_pos rfl];simp
   ·rw [if_neg (by simp;omega),if_neg hj]
  have haget:∀ j:Nat,(arr.toList.set J nv).toArray[j]? = if j=J then Xa nv else arr[j]?:=fun j=>by
   simp only [Tc,Ug]
   by_cases hj:J=j
   ·subst hj
    rw [if_pos rfl,if_pos rfl,if_pos (by simpa using hJl)]
   ·rw [if_neg hj,if_neg (Ne.symm hj)]
    simp
  have hdel:=Zkx (P:=P) (w:=w) (lim:=lim) (w':=w2) (lim':=lim) w7 w5 w6 hkl w8 w9 w10 hstep.ext hw23 w4
  rw [← hnv,← hys'] at hdel
  have hset:=hsim.deepStep (w':=w2) (lim':=lim) (E':=D) (xs':=xs') (Y':=X (ngN+b)) hown (Ks ρ n6) b1 hstep
   (VA (.inr hdp) (by rw [← b1];exact hsim.deepB (Z4 hown)) b3 hw2b (by simp) (by rw [hxs'];simp [ZC]) b4 (fun x hx=>by rw [hxs'] at hx;exact (hmem x hx).1) (fun x hx=>by rw [hxs'] at hx;exact (hmem x hx).2) (fun j z u' hz' hu'=>by
    rw [hfget] at hz'
    rw [haget] at hu'
    by_cases hj:j=J
    ·rw [if_pos hj] at hz' hu'
     cases hz'
     cases hu'
     rw [hnv]
     exact .nest
    ·rw [if_neg hj] at hz' hu'
     exact (b11 j z u' hz' hu').mono hstep.ext) (.inr ⟨hdp,rfl,ZbI hsim hown b1 hdp⟩))
   (by rw [hxs'];simp [ZC]) ⟨fun arr' e' h'=>by
    rw [b3] at h'
    simp only [Xf,Obj.cells.injEq,and_true] at h'
    obtain ⟨rfl,rfl⟩:=h'
    exact ⟨_,hw2b,by simp⟩,fun es clock h'=>by rw [b3] at h';cases h'⟩ (.inl rfl) (.mv (.inr (.inl hdp))) (fun j b' hb'=>.inl ⟨j,hb'⟩) (fun j j' b' q1 q2=>(hsim.dist _ j _ j' b' q1 q2).2)
   (fun _=>⟨⟨_,hw2b⟩,fun j s1 e1 zs u' hz' hu'=>by
    rw [hfget] at hz'
    rw [Zh hw2b,haget] at hu'
    by_cases hj:j=J
    ·rw [if_pos hj] at hz' hu'
     simp only [Xf,AV.nest.injEq,true_and] at hz'
     obtain ⟨rfl,rfl,rfl⟩:=hz'
     cases hu'
     subst hj
     rw [w1',hcP]
     exact ⟨rfl,by rw [← hcP];exact b7,hdel⟩
    ·rw [if_neg hj] at hz' hu'
     obtain ⟨m1,m2,m3⟩:=(hsim.nst d q D _ b (Z4 hown) hdp b1).2 j s1 e1 zs u' hz' (by rw [Zh b3];exact hu')
     have hne:∀ b',X (ngN+b) j=Xa b'→b'≠b∧b'≠bb:=fun b' hb'=>by
      refine ⟨fun he=>?_,fun he=>?_⟩
      ·subst he
       have:=(hsim.dist d q _ j b' b1 hb').1
       rw [this] at hown
       rw [hsim.far _ (XR _ _)] at hown
       cases hown
      ·subst he
       exact hj (hsim.dist _ j _ J b' hb' w1').2
     exact ⟨m1,m2,m3.mono hstep.ext fun b' hb'=>⟨by
      obtain ⟨k1,k2⟩:=hne b' hb'
      rw [hw2,setRow_other w1 b b' _ k1,hw1,setRow_other w.drew bb b' _ k2]
      rfl,rfl⟩⟩⟩)
  -- the slots that were written
  have hdD:d∉DS:=fun hm=>by
   have:=(hfr' d hm).2
   rcases ZB hown with ⟨g1,_⟩ | ⟨cs,q',g1,_⟩ | ⟨cs,q',g1,_⟩
   ·exact this.2.1 _ _ g1
   ·exact this.1 _ g1
   ·exact this.2.2 _ g1
  have hdn:d < E.nt:=by rw [← hcn];exact JL hsim (by intro he;rw [he] at hown;cases hown) (Ks ρ n6)
  obtain ⟨X',f1,_⟩:=hset.forget DS fun x hx=>⟨by rw [hcn];exact (hfr' x hx).1,by
   have hne:x≠d:=fun he=>hdD (he ▸ hx)
   rw [Zb _ _ hne]
   exact (hfr' x hx).2⟩
  have hlow2:YL E (V3 DS++[(d,Z5 (gE E s d) q Xb D (.fn (.dput off (P.cellsOf e) Xb e) l i (.app (.take (.fn (.dget off) l i .nil .nil) k) (.drop (.fn (.dget off) l i .nil .nil) (.bin .add .i64 k (.lit 1)))) .nil))]):=by
   have:=Zc9 (E:=E) fun x hx=>(hfr' x hx).1
   unfold YL at this ⊢
   rw [List.all_append,this]
   simp [Jt hdn]
  rw [hDS] at hlow2
  have hbl:=Jy n2 (hs d)
  have hbi:i.bd n:=by have:=hs p;rw [n1] at this;exact this
  have hbk:k.bd n:=by have:=hs a;rw [hga] at this;exact this
  refine hk _ n ρ (Jf hnt _ _ hlow2 hs fun u hu=>?_) h tX w2 lim X' ?_
  ·rcases Xt.1 hu with hu | hu
   ·unfold V3 at hu
    obtain ⟨x,_,rfl⟩:=Xj.1 hu
    trivial
   ·rw [XC.1 hu]
    exact JK (hs d) ⟨hbl,hbi,⟨⟨⟨hbl,hbi,trivial,trivial⟩,hbk⟩,⟨hbl,hbi,trivial,trivial⟩,hbk,trivial⟩,trivial⟩
  ·rw [Jk hnt ρ _ _ hlow2,XL,Xg,Xz,Jv,Kk,← hDS,ZdR]
   have hval:(LE.fn (.dput off (P.cellsOf e) Xb e) l i (.app (.take (.fn (.dget off) l i .nil .nil) k) (.drop (.fn (.dget off) l i .nil .nil) (.bin .add .i64 k (.lit 1)))) .nil).den ρ=xs':=by
    show Ztw (l.den ρ) (i.den ρ).toNat off (.nest (P.cellsOf e) Xb e ((Zqg (l.den ρ) (i.den ρ).toNat off).take (k.den ρ).toNat++(Zqg (l.den ρ) (i.den ρ).toNat off).drop (iop .add .i64 (k.den ρ) 1).toNat))=_
    rw [hget,hkN,hinc,hxs',hys']
    rfl
   rw [hval]
   have hfun:Jm (upd (ZE E s ρ) d (Zm (ZE E s ρ d) q Xb D xs')) (DS.map fun d=>(d,AV.dead))=upd (Jm (ZE E s ρ) (DS.map fun d=>(d,AV.dead))) d (Zm ((gE E s d).den ρ) q Xb D xs'):=by
    funext x
    by_cases hx:x=d
    ·subst hx
     rw [Zs,Yv,if_neg hdD,Zs]
     rfl
    ·rw [Zb _ _ hx,Yv,Yv,Zb _ _ hx]
   rw [← hfun]
   refine f1.tm (by rw [hX1,hsz]) fun x hx=>hX2 x fun j hj=>hx ?_
   rw [Yv,if_pos (Xh hj)]
theorem Zfx (hm:P.follows .mixedOrders=Xb) (hnt:E.top≤1024) {ops:Array Oper} {r:Nat×Nat×TypeId×Nat×TypeId×List Nat} (hp:Zf2 ops=Xa r) {id:Nat} {c:Ctx} (hcP:c.P=P) (hcn:c.nt=E.nt) {s:Tr} {n:Nat} {kn:Tr→Nat→STree} {ρ:Nat→V} {tm:Array Value} {w:World}
  {lim:Lm} {X:Nat→Nat→Option Nat} {Q:Exit→Act→World→Prop} (hs:YY E s n) (h:(Zja P E r s n kn).wp P R A ρ) (hsim:Sim c (ZE E s ρ) tm w lim X)
  (hk:∀ s' n' ρ',YY E s' n'→(kn s' n').wp P R A ρ'→∀ tm' w' lim' X',Sim c (ZE E s' ρ') tm' w' lim' X'→Q .normal ⟨tm',[]⟩ w'):(Code.region id ops Xb).wp P Q ⟨tm,[]⟩ w:=by
 unfold Zf2 at hp
 split at hp
 case h_2=>cases hp
 rename_i o0 o1 o2 o3 o4 o5 o6 o7 o8 o9 o10 o11 hops
 split at hp
 case h_2=>cases hp
 rename_i TS p f d0 T x1 d1 a d2 T3 x3 y3 d3 TS4 p4 f4 d4 T5 x5 d5 e0 e1 e2 e3 e4 e5
 split at hp
 case h_2=>cases hp
 rename_i a6 d6 x7 d7 T8 x8 y8 d8 T9 x9 y9 d9 TS10 p10 f10 d10 T11 x11 y11 e6 e7 e8 e9 e10 e11
 split at hp
 case isFalse=>cases hp
 rename_i hh
 obtain ⟨⟨⟨h1,h2,h3,h4,h5,h6,h7,h8,h9⟩,h10,h11,h12,h13,h14,h15,h16,h17⟩,⟨h18,h19,h20,h21,h22,h23⟩,hnd,hlow,hedge⟩:=hh
 have h1:=h1.symm;subst h1
 have h2:=h2.symm;subst h2
 have h3:=h3.symm;subst h3
 have h4:=h4.symm;subst h4
 have h5:=h5.symm;subst h5
 have h6:=h6.symm;subst h6
 have h7:=h7.symm;subst h7
 have h8:=h8.symm;subst h8
 have h9:=h9.symm;subst h9
 have h10:=h10.symm;subst h10
 have h11:=h11.symm;subst h11
 have h12:=h12.symm;subst h12
 have h13:=h13.symm;subst h13
 have h14:=h14.symm;subst h14
 have h15:=h15.symm;subst h15
 have h16:=h16.symm;subst h16
 have h17:=h17.symm;subst h17
 have h18:=h18.symm;subst h18
 have h19:=h19.symm;subst h19
 have h20:=h20.symm;subst h20
 have h21:=h21.symm;subst h21
 have h22:=h22.symm;subst h22
 have h23:=h23.symm;subst h23
 cases hp
 simp only [Xs] at hedge
 obtain ⟨⟨⟨⟨⟨⟨E1,E3⟩,E5⟩,E7⟩,E8⟩,E9⟩,E11⟩:=hedge
 have hnd:=Kj _ hnd
 obtain ⟨q0,g0,u0⟩:=K0 e0
 obtain ⟨q1,g1,u1⟩:=KU e1
 obtain ⟨q2,g2,u2⟩:=Ya e2
 obtain ⟨q3,g3,u3⟩:=Zl5 e3
 obtain ⟨q4,g4,u4⟩:=K0 e4
 obtain ⟨q5,g5,u5⟩:=KU e5
 obtain ⟨q6,g6,u6⟩:=Ya e6
 obtain ⟨⟨I1,I2,q7⟩,g7,u7⟩:=ZhN e7
 obtain ⟨q8,g8,u8⟩:=Znj e8
 obtain ⟨⟨cl,q9,qa,qb,qc⟩,g9,u9⟩:=Zkg e9
 obtain ⟨q10,g10,u10⟩:=K0 e10
 obtain ⟨q11,g11,u11⟩:=ZjL e11
 simp only [Zja] at h
 split at h
 case h_2=>exact h.elim
 rename_i cs off e k hgp n3 n4 hga
 split at h
 case h_2=>exact h.elim
 rename_i e' l hcs
 split at h
 case isFalse=>exact h.elim
 rename_i hh
 obtain ⟨hfr,hs0,hT1,rfl,hnm,hdr⟩:=hh
 obtain ⟨r3,r4,h⟩:=h
 have r3:(0:Int)≤k.den ρ:=r3
 have hσp:ZE E s ρ p = .box (cs.map (BC.den ρ)):=by show (gE E s p).den ρ=_;rw [hgp];rfl
 have hrel:=hsim.rel p
 rw [hσp] at hrel
 obtain ⟨b,arr,t,b1,b2,b3,b4,b5,b6,b7⟩:=(show ZG c.P w lim (X p) _ _ from hrel)
 obtain ⟨ys,hys⟩:∃ ys,ys=l.den ρ:=⟨_,rfl⟩
 have hcs':(cs.map (BC.den ρ))[off]? = Xa (.own Xb e' ys):=by rw [Xk,hcs,hys];rfl
 have hol:off < arr.size:=by rw [b4];exact (Xi.1 hcs').1
 have hcu:arr[off]? = Xa arr[off]:=XZ hol
 have b8:VQ c.P w lim Xb e' ys arr[off] (X p (off+1)):=WX (show ZV c.P w lim Xb e' ys _ _ from b7 off _ _ hcs' hcu) (by rw [hcP];exact hnm)
 obtain ⟨kN,hkN⟩:∃ kN:Nat,k.den ρ=(kN:Int):=⟨(k.den ρ).toNat,by omega⟩
 have hkl:kN < ys.length:=by
  have:k.den ρ < (((l.den ρ).length:Nat):Int):=r4
  rw [hkN,← hys] at this
  omega
 have hka:tm.getD a undef = .int .i64 (kN:Int):=by
  have:=hsim.rel a
  rw [show ZE E s ρ a = .val (.int .i64 (k.den ρ)) from by show (gE E s a).den ρ=_;rw [hga];rfl] at this
  rw [← hkN]
  exact YR (show Rep w lim _ _ from this)
 obtain ⟨bb,arr3,cap3,w1',w2',w3,w4,w5,w6,w7,w8,w9,w10⟩:=ZbH b8 (by intro he;rw [he] at hkl;simp at hkl)
 have b5':arr[off]? = Xa (.slice (Xa ⟨bb,0,Xe⟩) ys.length cap3):=by rw [hcu,w2']
 rw [hcP] at w7 w8
 obtain ⟨inf,hinf⟩:=Zr (show P.cellsOf e'≠0 by omega)
 obtain ⟨infT,hinfT⟩:=Zr (show P.cellsOf T≠0 by omega)
 have hbb:bb≠b:=fun he=>by
  subst he
  have:=(hsim.dist p 0 p (off+1) bb b1 w1').2
  omega
 -- the worlds
 obtain ⟨nv,hnv⟩:∃ nv:Value,nv = .slice (Xa ⟨bb,0,Xe⟩) (ys.length-1) cap3:=⟨_,rfl⟩
 obtain ⟨w1,hw1⟩:∃ w1,w1=w.drew.setRow bb (ZlH arr3.toList (P.cellsOf e') kN ys.length).toArray:=⟨_,rfl⟩
 obtain ⟨w2,hw2⟩:∃ w2,w2=w1.setRow b (arr.toList.set off nv).toArray:=⟨_,rfl⟩
 have hd3:w.drew.heap[bb]? = Xa (.cells arr3 e' (0,0)):=w3
 have hdb:w.drew.heap[b]? = Xa (.cells arr t (0,0)):=b3
 have hw1b:w1.heap[b]? = Xa (.cells arr t (0,0)):=by rw [hw1,setRow_other w.drew bb b _ (Ne.symm hbb)];exact hdb
 have hw13:w1.heap[bb]? = Xa (.cells (ZlH arr3.toList (P.cellsOf e') kN ys.length).toArray e' (0,0)):=by rw [hw1];exact setRow_heap w.drew bb arr3 _ e' (0,0) hd3
 have hw2b:w2.heap[b]? = Xa (.cells (arr.toList.set off nv).toArray t (0,0)):=by rw [hw2];exact setRow_heap w1 b arr _ t (0,0) hw1b
 have hw23:w2.heap[bb]? = Xa (.cells (ZlH arr3.toList (P.cellsOf e') kN ys.length).toArray e' (0,0)):=by rw [hw2,setRow_other w1 b bb _ hbb];exact hw13
 have hap:=fun ty=>Zno (P:=P) (ty:=ty) n4 hinf hd3 w7 hkl w5 (Zhf w7 w5 w8 w9 w10)
 rw [← hw1,← hnv] at hap
 have hinc:iop .add .i64 (kN:Int) 1=((kN+1:Nat):Int):=by
  show IntKind.i64.wrap _=_
  rw [IntKind.wrap_i64]
  unfold maxLen at w6
  omega
 -- the values
 obtain ⟨DS,hDS⟩:∃ DS:List Nat,DS = [d0,d1,d2,d3,d4,d5,d6,d7,d8,d9,d10]:=⟨_,rfl⟩
 obtain ⟨v,hv⟩:∃ v:Nat→Value,v=fun j=>([.pointer (Xa ⟨b,0+off,Xe⟩),.slice (Xa ⟨bb,0,Xe⟩) ys.length cap3,.int .i64 (kN:Int),.slice (Xa ⟨bb,0,Xe⟩) kN cap3,.pointer (Xa ⟨b,0+off,Xe⟩),
  .slice (Xa ⟨bb,0,Xe⟩) ys.length cap3,.int .i64 (kN:Int),.int .i64 ((kN+1:Nat):Int),.slice (Xa (if cap3=kN+1 then ⟨bb,0,Xe⟩ else ⟨bb,(kN+1)*P.cellsOf e',Xe⟩)) (ys.length-(kN+1)) (cap3-(kN+1)),nv,
  .pointer (Xa ⟨b,0+off,Xe⟩),undef] : List Value).getD j undef:=⟨_,rfl⟩
 have hat:∀ j,ops[j]? = ops.toList[j]?:=fun j=>(Ud ..).symm
 have hsize:ops.size=12:=by rw [← Uj,hops];rfl
 have hsz:tm.size=E.nt:=by rw [hsim.size,hcn]
 have hfr':=Zc0 hfr ρ
 rw [← hDS] at hfr hfr'
 have hDn:DS.Nodup:=by rw [hDS];exact hnd.sublist (by simp)
 have hao:∀ j:Nat,DS[j]?≠Xa a:=fun j hj=>by
  have hm:=Xh hj
  rw [XS] at hnd
  rw [hDS] at hm
  exact hnd.1 (We _ hm)
 have hpo:∀ j:Nat,DS[j]?≠Xa p:=fun j hj=>by
  have hm:=Xh hj
  rw [XS,XS] at hnd
  rw [hDS] at hm
  exact hnd.2.1 hm
 have hu1:nv.cells = #[nv]∧nv.oneCell'=Xb:=by rw [hnv];exact ⟨rfl,rfl⟩
 refine ZnB (nt:=E.nt) (D:=fun j=>DS[j]?) (v:=v) (m:=9) (l:=11) (w0:=w.drew) (w1:=w1) (w2:=w2) hm rfl (Zmu hlow) (fun j o ho=>?_) (fun j j' x h1 h2=>Zc4 hDn h1 h2) (fun j x hx=>(hfr' x (Xh hx)).1) hsz (fun j o ho L tX wX hL hdep hcl hI=>?_) (fun tX hX1 hX2 hX3=>?_)
 ·rw [hat,hops] at ho
  match j,ho with
  | 0, ho => obtain rfl : o0 = o := Xr ho; exact ⟨u0, by rw [hDS]; exact g0⟩
  | 1, ho => obtain rfl : o1 = o := Xr ho; exact ⟨u1, by rw [hDS]; exact g1⟩
  | 2, ho => obtain rfl : o2 = o := Xr ho; exact ⟨u2, by rw [hDS]; exact g2⟩
  | 3, ho => obtain rfl : o3 = o := Xr ho; exact ⟨u3, by rw [hDS]; exact g3⟩
  | 4, ho => obtain rfl : o4 = o := Xr ho; exact ⟨u4, by rw [hDS]; exact g4⟩
  | 5, ho => obtain rfl : o5 = o := Xr ho; exact ⟨u5, by rw [hDS]; exact g5⟩
  | 6, ho => obtain rfl : o6 = o := Xr ho; exact ⟨u6, by rw [hDS]; exact g6⟩
  | 7, ho => obtain rfl : o7 = o := Xr ho; exact ⟨u7, by rw [hDS]; exact g7⟩
  | 8, ho => obtain rfl : o8 = o := Xr ho; exact ⟨u8, by rw [hDS]; exact g8⟩
  | 9, ho => obtain rfl : o9 = o := Xr ho; exact ⟨u9, by rw [hDS]; exact g9⟩
  | 10, ho => obtain rfl : o10 = o := Xr ho; exact ⟨u10, by rw [hDS]; exact g10⟩
  | 11, ho => obtain rfl : o11 = o := Xr ho; exact ⟨u11, by rw [hDS]; exact g11⟩
  | j + 12, ho => cases ho
 ·rw [hat,hops] at ho
  have at':∀ (j:Nat) (o:Oper),ops.toList[j]? = Xa o→L j=Xb→∀ e∈o.after,Region.binds .any e=Xb→L e.on=Xb:=fun j o ho hj=>hcl j o (by rw [hat];exact ho) hj
  have new:∀ (j x:Nat) (y:Value),L j=Xb→DS[j]? = Xa x→v j=y→tX.getD x undef=y:=fun j x y h1 h2 h3=>by rw [hI.new j x h1 h2,h3]
  have l11:L 9=Xc→L 11=Xc:=fun h9=>by
   cases h11:L 11 with
   | false => rfl
   | true =>
    have:=Zx E11 (at' 11 o11 (by rw [hops];rfl) h11) 9 (by simp)
    rw [h9] at this;cases this
  have wfst:L 9=Xc→wX=w.drew:=fun h9=>by rw [hI.wrl,l11 h9,h9];rfl
  match j,ho with
  | 0, ho =>
   obtain rfl:o0=o:=Xr ho
   refine ⟨?_,fun h=>by omega⟩
   rw [hv]
   exact .inl (by rw [Zb0 q0 n3 (by rw [hI.old p hpo,b2])];rfl)
  | 1, ho =>
   obtain rfl:o1=o:=Xr ho
   refine ⟨?_,fun h=>by omega⟩
   rw [hv]
   have h9:L 9=Xc:=by
    cases h9:L 9 with
    | false => rfl
    | true =>
     have z3:=Zx E9 (at' 9 o9 (by rw [hops];rfl) h9) 3 (by simp)
     have z1:=Zx E3 (at' 3 o3 (by rw [hops];rfl) z3) 1 (by simp)
     rw [hL] at z1;cases z1
   exact .inl (ZbV q1 (Y7 n4) (new 0 d0 _ (Zx E1 hdep 0 (by simp)) (by rw [hDS];rfl) (by rw [hv];rfl)) (by rw [wfst h9,Zh hdb,XF];exact b5'))
  | 2, ho =>
   obtain rfl:o2=o:=Xr ho
   refine ⟨?_,fun h=>by omega⟩
   rw [hv]
   exact .inl (by rw [KK q2,hI.old a hao,hka];rfl)
  | 3, ho =>
   obtain rfl:o3=o:=Xr ho
   refine ⟨?_,fun h=>by omega⟩
   rw [hv]
   exact .inl (ZsO q3 n4 (by omega) (new 1 d1 _ (Zx E3 hdep 1 (by simp)) (by rw [hDS];rfl) (by rw [hv];rfl)) (new 2 d2 _ (Zx E3 hdep 2 (by simp)) (by rw [hDS];rfl) (by rw [hv];rfl)) (by omega) w5)
  | 4, ho =>
   obtain rfl:o4=o:=Xr ho
   refine ⟨?_,fun h=>by omega⟩
   rw [hv]
   exact .inl (by rw [Zb0 q4 n3 (by rw [hI.old p hpo,b2])];rfl)
  | 5, ho =>
   obtain rfl:o5=o:=Xr ho
   refine ⟨?_,fun h=>by omega⟩
   rw [hv]
   have h9:L 9=Xc:=by
    cases h9:L 9 with
    | false => rfl
    | true =>
     have z8:=Zx E9 (at' 9 o9 (by rw [hops];rfl) h9) 8 (by simp)
     have z5:=Zx E8 (at' 8 o8 (by rw [hops];rfl) z8) 5 (by simp)
     rw [hL] at z5;cases z5
   exact .inl (ZbV q5 (Y7 n4) (new 4 d4 _ (Zx E5 hdep 4 (by simp)) (by rw [hDS];rfl) (by rw [hv];rfl)) (by rw [wfst h9,Zh hdb,XF];exact b5'))
  | 6, ho =>
   obtain rfl:o6=o:=Xr ho
   refine ⟨?_,fun h=>by omega⟩
   rw [hv]
   exact .inl (by rw [KK q6,hI.old a hao,hka];rfl)
  | 7, ho =>
   obtain rfl:o7=o:=Xr ho
   refine ⟨?_,fun h=>by omega⟩
   rw [hv]
   exact .inl (by rw [Zms q7 (new 6 d6 _ (Zx E7 hdep 6 (by simp)) (by rw [hDS];rfl) (by rw [hv];rfl)),hinc];rfl)
  | 8, ho =>
   obtain rfl:o8=o:=Xr ho
   refine ⟨?_,fun h=>by omega⟩
   rw [hv]
   exact .inl (Zsr q8 n4 (by omega) (new 5 d5 _ (Zx E8 hdep 5 (by simp)) (by rw [hDS];rfl) (by rw [hv];rfl)) (new 7 d7 _ (Zx E8 hdep 7 (by simp)) (by rw [hDS];rfl) (by rw [hv];rfl)) (by omega) w5)
  | 9, ho =>
   obtain rfl:o9=o:=Xr ho
   refine ⟨?_,fun h=>l11 hL⟩
   rw [hv]
   exact .inl (Zqt q9 qa qb qc (new 3 d3 _ (Zx E9 hdep 3 (by simp)) (by rw [hDS];rfl) (by rw [hv])) (new 8 d8 _ (Zx E9 hdep 8 (by simp)) (by rw [hDS];rfl) (by rw [hv])) (by rw [wfst hL];exact hap _))
  | 10, ho =>
   obtain rfl:o10=o:=Xr ho
   refine ⟨?_,fun h=>by omega⟩
   rw [hv]
   exact .inl (by rw [Zb0 q10 n3 (by rw [hI.old p hpo,b2])];rfl)
  | 11, ho =>
   obtain rfl:o11=o:=Xr ho
   refine ⟨?_,fun h=>by omega⟩
   rw [hv]
   have h9:L 9=Xb:=Zx E11 hdep 9 (by simp)
   have hwX:wX=w1:=by rw [hI.wrl,hL,h9];rfl
   refine .inr ⟨rfl,?_⟩
   have:=Zj2 (P:=P) (w:=wX) q11 hinfT hT1 (new 10 d10 _ (Zx E11 hdep 10 (by simp)) (by rw [hDS];rfl) (by rw [hv];rfl)) (new 9 d9 _ (Zx E11 hdep 9 (by simp)) (by rw [hDS];rfl) (by rw [hv];rfl)) hu1.1 hu1.2 (by rw [hwX];exact hw1b) (by omega)
   rw [this,hwX,XF,← hw2]
   rfl
  | j + 12, ho => cases ho
 ·rw [hsize,if_pos (by omega)]
  have hother:∀ b',b'≠b→b'≠bb→w2.heap[b']? = w.heap[b']?:=fun b' k1 k2=>by
   rw [hw2,setRow_other w1 b b' _ k1,hw1,setRow_other w.drew bb b' _ k2]
   rfl
  have hstep:ZU w lim w2 lim (fun b'=>b'=b∨b'=bb):=by
   refine ⟨by rw [hw2,hw1];rfl,by rw [hw2,hw1];rfl,by rw [hw2,hw1];rfl,by rw [hw2,hw1];simp,fun a' _=>?_,fun k' _ hk'=>⟨hother k' (fun he=>hk' (.inl he)) (fun he=>hk' (.inr he)),rfl⟩,⟨fun k' _=>⟨XD _,fun o' u' ho' hu'=>?_⟩,fun _ _ h=>h⟩,rfl⟩
   ·rw [hw2,Yj w1 b arr _ _ hw1b,hw1,Yj w.drew bb arr3 _ _ hd3]
    rfl
   ·by_cases hkb:k'=b
    ·subst hkb;rw [b5] at ho';omega
    ·by_cases hkbb:k'=bb
     ·subst hkbb;rw [w4] at ho';omega
     ·unfold World.cell? at hu' ⊢
      rw [hother k' hkb hkbb]
      exact hu'
  obtain ⟨ys',hys'⟩:∃ ys',ys'=ys.take kN++ys.drop (kN+1):=⟨_,rfl⟩
  have hdel:=Zkx (P:=P) (w:=w) (lim:=lim) (w':=w2) (lim':=lim) w7 w5 w6 hkl w8 w9 w10 hstep.ext hw23 w4
  rw [← hnv,← hys'] at hdel
  have hpn:p < c.nt:=JL hsim (by rw [hσp];exact fun h=>by cases h) (by rw [hσp];rfl)
  have hnr:∀ i q,i≠p→¬ Jh (ZE E s ρ i) p q:=fun i q hi hr=>by
   have:=(JB (g:=gE E s) ρ (d:=p) (Zaa s)).2 i q hi hr
   rw [U3] at hdr
   rw [hdr] at this
   cases this
  have haget:∀ j:Nat,(arr.toList.set off nv).toArray[j]? = if j=off then Xa nv else arr[j]?:=fun j=>by
   simp only [Tc,Ug]
   by_cases hj:off=j
   ·subst hj
    rw [if_pos rfl,if_pos rfl,if_pos (by simpa using hol)]
   ·rw [if_neg hj,if_neg (Ne.symm hj)]
    simp
  have hkept:∀ d q b',X d q=Xa b'→¬ (d=p∧(q=0∨q=off+1))→Zeh w lim w2 lim b':=fun d q b' hb' hn=>⟨hother b' (fun he=>by
    subst he
    obtain ⟨z1,z2⟩:=hsim.dist d q p 0 b' hb' b1
    exact hn ⟨z1,.inl z2⟩) (fun he=>by
    subst he
    obtain ⟨z1,z2⟩:=hsim.dist d q p (off+1) b' hb' w1'
    exact hn ⟨z1,.inr z2⟩),rfl⟩
  have hpN:p < ngN:=XI hpn hsim.ntN
  have hset:=hsim.putRow (x:=.box ((cs.map (BC.den ρ)).set off (.own Xb e' ys'))) (tm':=tm) (X p) hstep (fun b' hb'=>by
    rcases hb' with rfl | rfl
    ·exact ⟨0,b1⟩
    ·exact ⟨off+1,w1'⟩) hpn rfl (fun _ _=>rfl) (.inr ⟨⟨_,rfl⟩,rfl,rfl⟩) (fun i q hi hr=>(hnr i q hi hr).elim) (by
    show ZG c.P w2 lim (Ke X p (X p) p) _ _
    rw [Zl]
    refine ⟨b,(arr.toList.set off nv).toArray,t,b1,b2,hw2b,by simp [b4],b5,fun y hy=>?_,fun i y u hy hu=>?_⟩
    ·rcases Wo hy with hy | rfl
     ·exact b6 y hy
     ·exact .inr (.inl ⟨_,_,_,rfl⟩)
    ·rw [haget] at hu
     rw [Ug] at hy
     by_cases hi:i=off
     ·subst hi
      rw [if_pos rfl] at hu
      rw [if_pos rfl,if_pos (Xi.1 hcs').1] at hy
      cases hy
      cases hu
      rw [w1']
      show ZV c.P w2 lim Xb e' ys' nv (Xa bb)
      rw [hcP]
      exact hdel.own
     ·rw [if_neg hi] at hu
      rw [if_neg (Ne.symm hi)] at hy
      exact (b7 i y u hy hu).mono hstep.ext fun b' hb'=>hkept p (i+1) b' hb' (by rintro ⟨_,h0 | h0⟩ <;> omega))
   (fun q b' hq=>⟨XI (hsim.ours p q b' hq).1 hstep.size,(hsim.ours p q b' hq).2,fun i j hij hx=>hij (hsim.dist i j p q b' hx hq).1⟩) (fun q q' b' hq hq'=>(hsim.dist p q p q' b' hq hq').2)
   (hns:=fun q e1 xs1 b' m1 m2 m3=>by
    rcases JU m1 with ⟨m4,m5⟩ | ⟨m4,m5⟩
    ·cases m5
     rw [hcP,ZL hnm] at m2
     cases m2
    ·refine (hsim.nst p q e1 xs1 b' (by rw [hσp];exact m5) m2 m3).mono hstep.ext (hkept p q b' m3 (fun hh=>hh.2.elim (fun h0=>by subst h0;cases m5) m4)).1 fun j b2 hb2=>hkept _ j b2 hb2 (by rintro ⟨h0,_⟩;omega))
  -- the slots that were written
  have hpD:p∉DS:=fun hm=>by
   obtain ⟨j,hj⟩:=XK.1 hm
   exact hpo j hj
  obtain ⟨X',f1,_⟩:=hset.forget DS fun x hx=>⟨by rw [hcn];exact (hfr' x hx).1,by
   have hne:x≠p:=fun he=>hpD (he ▸ hx)
   rw [Zb _ _ hne]
   exact (hfr' x hx).2⟩
  have hlow2:YL E (V3 DS++[(p,.box (cs.set off (.own Xb e' (.app (.take l k) (.drop l (.bin .add .i64 k (.lit 1)))))))]):=by
   have:=Zc9 (E:=E) fun x hx=>(hfr' x hx).1
   unfold YL at this ⊢
   rw [List.all_append,this]
   simp [Jt (show p < E.nt by rw [← hcn];exact hpn)]
  rw [hDS] at hlow2
  have hbp:=hs p
  rw [hgp] at hbp
  have hbl:l.bd n:=hbp _ (Xh hcs)
  have hbk:k.bd n:=by have:=hs a;rw [hga] at this;exact this
  refine hk _ n ρ (Jf hnt _ _ hlow2 hs fun u hu=>?_) h tX w2 lim X' ?_
  ·rcases Xt.1 hu with hu | hu
   ·unfold V3 at hu
    obtain ⟨x,_,rfl⟩:=Xj.1 hu
    trivial
   ·rw [XC.1 hu]
    intro c0 hc0
    rcases Wo hc0 with hc0 | rfl
    ·exact hbp c0 hc0
    ·exact ⟨⟨hbl,hbk⟩,hbl,hbk,trivial⟩
  ·rw [Jk hnt ρ _ _ hlow2,XL,Xg,Xz,Kk,← hDS,ZdR]
   have hval:(SV.box (cs.set off (.own Xb e' (.app (.take l k) (.drop l (.bin .add .i64 k (.lit 1))))))).den ρ = .box ((cs.map (BC.den ρ)).set off (.own Xb e' ys')):=by
    simp only [SV.den,UB]
    congr 2
    show AV.own Xb e' ((l.den ρ).take (k.den ρ).toNat++(l.den ρ).drop (iop .add .i64 (k.den ρ) 1).toNat)=_
    rw [hkN,hinc,hys',hys]
    rfl
   rw [hval]
   have hfun:Jm (upd (ZE E s ρ) p (.box ((cs.map (BC.den ρ)).set off (.own Xb e' ys')))) (DS.map fun d=>(d,AV.dead))=upd (Jm (ZE E s ρ) (DS.map fun d=>(d,AV.dead))) p (.box ((cs.map (BC.den ρ)).set off (.own Xb e' ys'))):=by
    funext x
    by_cases hx:x=p
    ·subst hx
     rw [Zs,Yv,if_neg hpD,Zs]
    ·rw [Zb _ _ hx,Yv,Yv,Zb _ _ hx]
   rw [← hfun]
   refine f1.tm (by rw [hX1,hsz]) fun x hx=>hX2 x fun j hj=>hx ?_
   rw [Yv,if_pos (Xh hj)]
theorem Zo8 (hnt:E.top≤1024) {c:Ctx} {s:Tr} {n:Nat} {ρ:Nat→V} {tm:Array Value} {w:World} {lim:Lm} {X:Nat→Nat→Option Nat} {d:Nat} (hs:YY E s n) (hsim:Sim c (ZE E s ρ) tm w lim X) :
  YY E (Z0 (ZJ (gE E s) d E.top) s) n∧∃ X',Sim c (ZE E (Z0 (ZJ (gE E s) d E.top) s) ρ) tm w lim X':=by
 have hlow:YL E (ZJ (gE E s) d E.top):=by
  unfold YL
  rw [XE]
  intro u hu
  simpa using ((Jl E.top u).1 hu).2.1
 have hda:Kw (ZE E s ρ) d ((ZJ (gE E s) d E.top).map fun u=>(u.1,u.2.den ρ)):=JB (g:=gE E s) ρ (Zaa s)
 refine ⟨Jf hnt _ _ hlow hs fun u hu=>by rw [((Jl E.top u).1 hu).1];trivial,?_⟩
 rw [Jk hnt _ _ _ hlow]
 obtain ⟨X1,k1,_⟩:=hsim.drops ((ZJ (gE E s) d E.top).map fun u=>(u.1,u.2.den ρ)) fun u hu=>by
  obtain ⟨m0,m1,k,m3⟩:=hda.1 u hu
  obtain ⟨p1,p2,p3⟩:=YE m3
  exact ⟨m1,p2,JL hsim (fun e=>by rw [e] at m3;rcases m3 with m3 | ⟨_,m3⟩ <;> cases m3) p3⟩
 exact ⟨X1,k1⟩
theorem ZgI (hm:P.follows .mixedOrders=Xb) (hps:EnvSound P E) (hnt:E.top≤1024) {ops:Array Oper} {draw:Bool} {f:Tr→Nat→(Tr→Nat→STree)→STree} (hf:ZlO P E ops draw=Xa f) {id:Nat} {c:Ctx} (hcP:c.P=P) (hcn:c.nt=E.nt) {s:Tr} {n:Nat} {kn:Tr→Nat→STree} {ρ:Nat→V} {tm:Array Value} {w:World}
  {lim:Lm} {X:Nat→Nat→Option Nat} {Q:Exit→Act→World→Prop} (hs:YY E s n) (h:(f s n kn).wp P R A ρ) (hsim:Sim c (ZE E s ρ) tm w lim X)
  (hk:∀ s' n' ρ',YY E s' n'→(kn s' n').wp P R A ρ'→∀ tm' w' lim' X',Sim c (ZE E s' ρ') tm' w' lim' X'→Q .normal ⟨tm',[]⟩ w'):(Code.region id ops draw).wp P Q ⟨tm,[]⟩ w:=by
 unfold ZlO at hf
 split at hf
 ·split at hf
  ·rename_i r hr
   cases hf
   exact ZgV hps hnt hr hcP hcn hs h hsim hk
  ·cases hr:ZkA ops with
   | none => rw [hr] at hf; cases hf
   | some r =>
    rw [hr] at hf
    simp only [Xo,Xf] at hf
    subst hf
    exact Zg2 hps hnt hr hcP hcn hs h hsim hk
 ·split at hf
  ·rename_i r hr
   cases hf
   exact Zh4 hm hnt hr hcP hcn hs h hsim hk
  ·cases hr:Zf2 ops with
   | none => rw [hr] at hf; cases hf
   | some r =>
    rw [hr] at hf
    simp only [Xo,Xf] at hf
    subst hf
    obtain ⟨k1,X1,k2⟩:=Zo8 hnt (d:=r.2.1) hs hsim
    exact Zfx hm hnt hr hcP hcn k1 h k2 hk
end
theorem Zol:∀ (hs:List (Nat×HP)) (d:Nat) (h h':HP),(hs.map (·.1)).Nodup→(d,h)∈hs→(d,h')∈hs→h=h'
 | [], _, _, _, _, h, _ => by simp at h
 | p :: r, d, h, h', hn, h1, h2 => by
  rw [Xg,XS] at hn
  rcases Xl.1 h1 with e1 | e1
  ·rcases Xl.1 h2 with e2 | e2
   ·rw [← e1] at e2
    exact (Prod.mk.inj e2).2.symm
   ·exact (hn.1 (by rw [← e1];exact Xj.2 ⟨_,e2,rfl⟩)).elim
  ·rcases Xl.1 h2 with e2 | e2
   ·exact (hn.1 (by rw [← e2];exact Xj.2 ⟨_,e1,rfl⟩)).elim
   ·exact Zol r d h h' hn.2 e1 e2
theorem Zdl:∀ (us:List (Nat×AV)) (d:Nat) (x:AV),VX us d=Xa x→(d,x)∈us
 | [], d, x, h => by simp [VX] at h
 | (e, y) :: us, d, x, h => by
  simp only [VX] at h
  cases hl:VX us d with
  | some z =>
   rw [hl] at h
   simp only [Xf] at h
   subst h
   exact We _ (Zdl us d _ hl)
  | none =>
   rw [hl] at h
   simp only at h
   split at h
   ·rename_i hd
    simp only [Xf] at h
    subst h
    subst hd
    exact List.mem_cons_self
   ·cases h
theorem ZlA {E:Env} {d:Nat} {h:HP} (hp:h.place E d=Xb):d < E.top∧(h.isG=Xb∨d < E.nt):=by
 cases h<;>simp only [HP.place,Xs,decide_eq_true_eq] at hp
 case gbox l=>exact ⟨hp.2,.inl rfl⟩
 case sto=>exact ⟨hp.1.2,.inl rfl⟩
 all_goals exact ⟨Jt hp,.inr hp⟩
theorem Zat {E:Env} {hs:List (Nat×HP)} (h:Zg9 E hs=Xb):(hs.map (·.1)).Nodup∧(∀ p∈hs,p.1 < E.top∧(p.2.isG=Xb∨p.1 < E.nt))∧((∀ d d' o,(d,HP.ptr d' o)∈hs→∃ l:HP,l.isBox=Xb∧(d',l)∈hs)∧(∀ d d' k,(d,HP.mref d' k)∈hs→∃ l:HP,l.isPl k=Xb∧(d',l)∈hs)∧∀ d d' k s o,(d,HP.eref d' k s o)∈hs→∃ l:HP,l.isPl k=Xb∧(d',l)∈hs)∧
  (∀ d∈E.pins,∃ l:HP,l.isBox=Xb∧(d,l)∈hs)∧(∀ d g ds,(d,HP.clo g ds)∈hs→∀ d'∈ds,∃ l:HP,(l.isBox||l.isG)=Xb∧(d',l)∈hs)∧∀ d,E.nt≤d→d < E.top→∃ l:HP,l.isG=Xb∧(d,l)∈hs:=by
 have hany:∀ (f:HP→Bool) (d:Nat),(hs.any fun q=>decide (q.1=d)&&f q.2)=Xb→∃ l:HP,f l=Xb∧(d,l)∈hs:=by
  intro f d hd
  rw [Uk] at hd
  obtain ⟨q,hq,hd⟩:=hd
  obtain ⟨q1,q2⟩:=q
  simp only [Xs,decide_eq_true_eq] at hd
  obtain ⟨rfl,hd⟩:=hd
  exact ⟨_,hd,hq⟩
 simp only [Zg9,Xs] at h
 obtain ⟨⟨⟨h1,h2⟩,h3⟩,h4⟩:=h
 rw [XE] at h2 h3 h4
 refine ⟨Kj _ h1,fun p hp=>?_,⟨fun d d' o hm=>?_,fun d d' k hm=>?_,fun d d' k s o hm=>?_⟩,fun d hd=>hany HP.isBox d (h3 d hd),fun d g ds hm d' hd'=>?_,fun d hd hd'=>?_⟩
 ·have:=h2 p hp
  simp only [Xs] at this
  exact ZlA this.1
 ·have:=h2 _ hm
  simp only [Xs] at this
  exact hany HP.isBox d' this.2
 ·have:=h2 _ hm
  simp only [Xs] at this
  exact hany (fun h=>h.isPl k) d' this.2
 ·have:=h2 _ hm
  simp only [Xs] at this
  exact hany (fun h=>h.isPl k) d' this.2
 ·have:=h2 _ hm
  simp only [Xs] at this
  have h5:=this.2
  rw [XE] at h5
  exact hany (fun h=>h.isBox||h.isG) d' (h5 d' hd')
 ·have:=h4 (d-E.nt) (List.mem_range.2 (by have:E.top=E.nt+E.ng:=rfl;omega))
  rw [show E.nt+(d-E.nt)=d by omega] at this
  exact hany HP.isG d this
theorem head_at {P:Program} {E:Env} (hnt:E.top≤1024) {hs:List (Nat×HP)} (hok:Zg9 E hs=Xb) {s:Tr} {ρ ρ0:Nat→V} {ves:List VE} (hv:Ky P (gE E s) hs=Xa ves) :
  (∀ d,d∉hs.map (·.1)→ZE E (Z0 (Jd hs 0).1 (.leaf .dead)) (bind ρ0 0 (ves.map (VE.den ρ))) d = .dead)∧
  ∀ d h,(d,h)∈hs→∃ m,ZE E (Z0 (Jd hs 0).1 (.leaf .dead)) (bind ρ0 0 (ves.map (VE.den ρ))) d=KE h (ves.map (VE.den ρ)) m∧
   (ZtN h (ZE E s ρ d) (KE h (ves.map (VE.den ρ)) m)∨YX P (ZE E s ρ d) (KE h (ves.map (VE.den ρ)) m)):=by
 obtain ⟨k1,k2,k3,k4,k5,k6⟩:=Zat hok
 obtain ⟨h1,h2,h3⟩:=VH (P:=P) (g:=gE E s) (ρ:=ρ) hs 0 ves [] hv rfl
 have hl:YL E (Jd hs 0).1:=by
  unfold YL
  rw [XE]
  intro u hu
  have hm:u.1∈hs.map (·.1):=by rw [← h2];exact Xj.2 ⟨u,hu,rfl⟩
  obtain ⟨p,hp,he⟩:=Xj.1 hm
  have:=(k2 p hp).1
  rw [he] at this
  simpa using this
 have hdead:∀ d,ZE E (.leaf .dead) (bind ρ0 0 (ves.map (VE.den ρ))) d = .dead:=by
  intro d
  simp only [ZE,gE]
  split<;>rfl
 have hfst:((Jd hs 0).1.map fun u=>(u.1,u.2.den (bind ρ0 0 (ves.map (VE.den ρ))))).map (·.1)=hs.map (·.1):=by rw [X6];exact h2
 rw [Jk hnt _ _ _ hl]
 refine ⟨fun d hd=>?_,fun d h hm=>?_⟩
 ·rw [Js,Y1 _ d (by rw [hfst];exact hd),hdead]
  rfl
 ·obtain ⟨x,hx⟩:=Ve ((Jd hs 0).1.map fun u=>(u.1,u.2.den (bind ρ0 0 (ves.map (VE.den ρ))))) d (by rw [hfst];exact Xj.2 ⟨_,hm,rfl⟩)
  obtain ⟨u,hu,he⟩:=Xj.1 (Zdl _ _ _ hx)
  simp only [Xn] at he
  obtain ⟨rfl,rfl⟩:=he
  obtain ⟨h',g1,m,g2,g3,g4,g5⟩:=h3 u hu
  have:h'=h:=Zol hs u.1 h' h k1 g1 hm
  subst this
  have hden:u.2.den (bind ρ0 0 (ves.map (VE.den ρ)))=KE h' (ves.map (VE.den ρ)) m:=by
   rw [g2]
   refine ZlR g4 fun j hj=>?_
   have hlt:m+j < (ves.map (VE.den ρ)).length:=by rw [Xq];omega
   have:=ZjD.bind ρ0 0 (ves.map (VE.den ρ)) (m+j) _ (Xp hlt)
   rw [XF] at this
   rw [this,vAt,Xp hlt]
   rfl
  refine ⟨m,?_,?_⟩
  ·rw [Js,hx,← hden]
   rfl
  ·have:=g5 []
   simp only [XX,Wc] at this
   exact this
theorem Zdx:∀ (l:List Sh) (us:List V) (j k:Nat) (s:Sh),l[k]? = Xa s→(Jb l us j)[k]? = Xa (Kb s (vAt us (j+k)))
 | [], _, _, _, _, h => by simp at h
 | t :: ts, us, j, 0, s, h => by
  simp only [XB,Xf] at h
  subst h
  rfl
 | t :: ts, us, j, k + 1, s, h => by
  have:=Zdx ts us (j+1) k s (by simpa using h)
  rw [show j+1+k=j+(k+1) by omega] at this
  simpa [Jb] using this
theorem ZfV {h:HP} {k:Nat} (hk:h.isPl k=Xb) (us:List V) (m:Nat):∃ p,Zp (KE h us m) k=Xa p:=by
 unfold HP.isPl at hk
 split at hk
 ·exact ⟨_,rfl⟩
 ·rename_i l k
  split at hk
  ·rename_i e hl
   have:=Zdx l us m k _ hl
   refine ⟨(e,(vAt us (m+k)).list),?_⟩
   simp only [KE,Zp,this,Kb]
  ·cases hk
 ·rename_i l k
  split at hk
  ·rename_i e hl
   have:=Zdx l us m k _ hl
   refine ⟨(e,(vAt us (m+k)).list),?_⟩
   simp only [KE,Zp,this,Kb]
  ·cases hk
 ·cases hk
theorem ZjS {P:Program} {E:Env} (hnt:E.top≤1024) {c:Ctx} (hcP:c.P=P) (hcn:c.nt=E.nt) (hpin:∀ d v,c.pin d=Xa v→d∈E.pins) (hgpin:∀ d b,c.gpin d=Xa b→E.nt≤d∧d < E.top) {hs:List (Nat×HP)} (hok:Zg9 E hs=Xb) {s:Tr} {ρ:Nat→V} (ρ0:Nat→V) {ves:List VE}
  (hv:Ky P (gE E s) hs=Xa ves) {tm:Array Value} {w:World} {lim:Lm} {X:Nat→Nat→Option Nat} (hsim:Sim c (ZE E s ρ) tm w lim X) :
  ∃ X',Sim c (ZE E (Z0 (Jd hs 0).1 (.leaf .dead)) (bind ρ0 0 (ves.map (VE.den ρ)))) tm w lim X':=by
 obtain ⟨k1,k2,k3,k4,k5,k6⟩:=Zat hok
 obtain ⟨h1,h2⟩:=head_at (P:=P) hnt hok (ρ0:=ρ0) (ρ:=ρ) hv
 have hbox:∀ d (l:HP),l.isBox=Xb→(d,l)∈hs→∃ cs,ZE E (Z0 (Jd hs 0).1 (.leaf .dead)) (bind ρ0 0 (ves.map (VE.den ρ))) d = .box cs:=by
  intro d l hl hm
  obtain ⟨m,g1,_⟩:=h2 d _ hm
  cases l<;>simp [HP.isBox] at hl<;>exact ⟨_,g1⟩
 have hgb:∀ d (l:HP),l.isG=Xb→(d,l)∈hs→(ZE E (Z0 (Jd hs 0).1 (.leaf .dead)) (bind ρ0 0 (ves.map (VE.den ρ))) d).isG=Xb:=by
  intro d l hl hm
  obtain ⟨m,g1,_⟩:=h2 d _ hm
  rw [g1]
  cases l<;>simp [HP.isG] at hl<;>rfl
 refine hsim.head (fun d=>?_) (fun d hd=>?_) (fun d v hp=>?_) fun d b hp=>?_
 ·by_cases hm:d∈hs.map (·.1)
  ·obtain ⟨p,hp,rfl⟩:=Xj.1 hm
   obtain ⟨m,g1,g2⟩:=h2 p.1 p.2 hp
   unfold ZqB
   rw [g1,hcP]
   rcases g2 with (⟨d',o,g2,g3⟩ | ⟨d',k,g2,g3⟩ | ⟨g,ds,g2,g3⟩ | ⟨d',k,s',o,q,g2,g3,g4⟩) | g2
   ·obtain ⟨l,hl,hm⟩:=k3.1 p.1 d' o (by rw [← g2];exact hp)
    exact .inr (.inl ⟨d',o,g3,by rw [g2];rfl,hbox d' l hl hm⟩)
   ·obtain ⟨l,hl,hm⟩:=k3.2.1 p.1 d' k (by rw [← g2];exact hp)
    obtain ⟨m',q1,_⟩:=h2 d' l hm
    exact .inr (.inr (.inl ⟨d',k,g3,by rw [g2];rfl,by rw [q1];exact ZfV hl _ _⟩))
   ·refine .inr (.inr (.inr (.inl ⟨g,ds,g3,by rw [g2];rfl,fun d' hd'=>?_⟩)))
    obtain ⟨l,hl,hm⟩:=k5 p.1 g ds (by rw [← g2];exact hp) d' hd'
    rw [UA] at hl
    rcases hl with hl | hl
    ·obtain ⟨cs,hcs⟩:=hbox d' l hl hm
     rw [hcs];rfl
    ·exact ZbJ (hgb d' l hl hm)
   ·obtain ⟨l,hl,hm⟩:=k3.2.2 p.1 d' k s' o (by rw [← g2];exact hp)
    obtain ⟨m',q1,_⟩:=h2 d' l hm
    exact .inr (.inr (.inr (.inr ⟨d',k,q,g3,g4,by rw [q1];exact ZfV hl _ _⟩)))
   ·exact .inl g2
  ·unfold ZqB
   rw [h1 d hm]
   exact .inl .dead
 ·by_cases hm:d∈hs.map (·.1)
  ·obtain ⟨p,hp,rfl⟩:=Xj.1 hm
   rcases (k2 p hp).2 with h3 | h3
   ·exact .inr (hgb p.1 p.2 h3 hp)
   ·omega
  ·exact .inl (h1 d hm)
 ·obtain ⟨l,hl,hm⟩:=k4 d (hpin d v hp)
  exact hbox d l hl hm
 ·obtain ⟨m1,m2⟩:=hgpin d b hp
  obtain ⟨l,hl,hm⟩:=k6 d m1 m2
  exact hgb d l hl hm
theorem Zhz {ops:Array Oper} {x a d:Nat} {T:TypeId} {neg:Bool} (h:Zjo ops=Xa (x,a,d,T,neg)) :
  ∃ o p U,ops.toList = [o,p]∧o.guard=Xe∧p.guard=Xe∧o.op = .move (.tmp x)∧o.dst=Xa a∧p.op = .binOp (if neg=Xb then .neq else .eql) T (.tmp a) (.const (.slice Xe 0 0)) U∧p.dst=Xa d:=by
 unfold Zjo at h
 split at h
 ·rename_i o p hops
  split at h
  ·rename_i hg
   simp only [Tj] at hg
   split at h
   ·rename_i h1 h2 h3 h4
    split at h
    ·rename_i hb
     subst hb
     simp only [Xf,Xn] at h
     obtain ⟨rfl,rfl,rfl,rfl,rfl⟩:=h
     exact ⟨o,p,_,hops,hg.1,hg.2,h1,h2,by simpa using h3,h4⟩
    ·cases h
   ·rename_i h1 h2 h3 h4
    split at h
    ·rename_i hb
     subst hb
     simp only [Xf,Xn] at h
     obtain ⟨rfl,rfl,rfl,rfl,rfl⟩:=h
     exact ⟨o,p,_,hops,hg.1,hg.2,h1,h2,by simpa using h3,h4⟩
    ·cases h
   ·cases h
  ·cases h
 ·cases h
theorem W9 {ops:Array Oper} {x i a b c:Nat} {T:TypeId} (h:Zdr ops=Xa (x,i,a,b,c,T)) :
  ∃ o p q r,ops.toList = [o,p,q,r]∧o.guard=Xe∧p.guard=Xe∧q.guard=Xe∧r.guard=Xe∧o.op = .move (.tmp x)∧o.dst=Xa a∧p.op = .move (.tmp i)∧p.dst=Xa b∧
   q.op = .slice T (.tmp a) (Xa (.tmp b)) Xe Xe∧q.dst=Xa c∧(∃ cl,r.op = .call cl∧cl.callee = .builtin .clear∧cl.args = #[.tmp c]∧cl.argTypes = #[T])∧r.dst=Xe:=by
 unfold Zdr at h
 split at h
 case h_2=>cases h
 rename_i o p q r hops
 split at h
 case isFalse=>cases h
 rename_i hg
 simp only [Tj] at hg
 split at h
 case h_2=>cases h
 rename_i x' a' i' b' h1 h2 h3 h4
 split at h
 case h_2=>cases h
 rename_i T' a'' b'' c' cl h5 h6 h7 h8
 split at h
 case h_2=>cases h
 rename_i c'' T'' h9 h10 h11
 split at h
 case isFalse=>cases h
 rename_i he
 obtain ⟨e1,e2,e3,e4⟩:=he
 subst e1 e2 e3 e4
 simp only [Xf,Xn] at h
 obtain ⟨rfl,rfl,rfl,rfl,rfl,rfl⟩:=h
 exact ⟨o,p,q,r,hops,hg.1,hg.2.1,hg.2.2.1,hg.2.2.2,h1,h2,h3,h4,h5,h6,⟨cl,h7,h9,by rw [← h10,Ui],by rw [← h11,Ui]⟩,h8⟩
theorem Zll {P:Program} {w:World} {lim:Lm} {X:Nat→Nat→Option Nat} {g:Nat→SV} {d:Nat} {x:SV} {l:LE} {ρ:Nat→V} {v:Value} (hx:Zmb P g x=Xa l) (hq:∀ p,x = .c (.cel p)→(ptE .pisl p).den ρ≠[]) (h:ZQ P w lim X (fun d=>(g d).den ρ) d (x.den ρ) v) :
  ∃ a k cap,v = .slice a k cap∧(a.isNone=Xb→l.den ρ = []):=by
 have hrep:∀ f s,Rep w lim (.slice f s (l.den ρ)) v→∃ a k cap,v = .slice a k cap∧(a.isNone=Xb→l.den ρ = []):=by
  intro f s hr
  have key:∀ y,Rep w lim y v→y = .slice f s (l.den ρ)→∃ a k cap,v = .slice a k cap∧(a.isNone=Xb→l.den ρ = []):=by
   intro y hy hye
   cases hy with
   | sliceN => injection hye with _ _ h3; exact ⟨Xe, 0, 0, rfl, fun _ => h3.symm⟩
   | sliceE _ => injection hye with _ _ h3; exact ⟨_, _, _, rfl, fun _ => h3.symm⟩
   | sliceC _ _ _ _ _ _ _ _ => exact ⟨_, _, _, rfl, fun h => by cases h⟩
   | val _ => cases hye
   | agg _ _ _ => cases hye
   | nest => cases hye
   | oref0 => cases hye
   | oref => cases hye
   | osl0 => cases hye
   | osl => cases hye
   | omap => cases hye
   | fnc => cases hye
   | omap0 => cases hye
   | fncN => cases hye
  exact key _ hr rfl
 unfold Zmb at hx
 split at hx
 rotate_left
 ·rename_i p
  simp only [Xf] at hx
  subst hx
  obtain ⟨e,j,m,hc⟩:=ZfZ (hq p rfl)
  have h':Rep w lim (.osl e j m) v:=by
   have h0:ZQ P w lim X (fun d=>(g d).den ρ) d (Zk (p.den ρ)) v:=h
   rw [hc] at h0
   exact h0
  obtain ⟨a,cap,hv,_⟩:=ZgA h'
  refine ⟨a,m,cap,hv,fun hn=>?_⟩
  have hl:=WH hc
  have key:∀ y v,Rep w lim y v→y = .osl e j m→v = .slice a m cap→m=0:=by
   intro y v hy hye hv
   cases hy with
   | osl0 => cases hye; rfl
   | osl => injection hv with h1 _ _; subst h1; cases hn
   | _ => cases hye
  have hm:=key _ _ h' rfl hv
  rw [hm] at hl
  exact XY hl
 rotate_right
 ·simp only [Xf] at hx
  subst hx
  exact hrep _ _ h
 ·split at hx
  case isFalse=>cases hx
  rename_i hnm
  simp only [Xf] at hx
  subst hx
  rcases ZV.noMap (show ZV P w lim _ _ _ v (X d 0) from h) hnm with ⟨us,h1,_⟩ | ⟨h1,_,a,h2⟩
  ·rcases h1.2 with ⟨hv,hn⟩ | ⟨g,cap,cur,hv,_⟩
   ·exact ⟨Xe,0,0,hv,fun _=>XY hn⟩
   ·exact ⟨_,_,_,hv,fun h=>by cases h⟩
  ·exact ⟨_,_,_,h2,fun h=>by cases h⟩
 ·rename_i d' q
  cases hp:Ja (g d') q with
  | none => rw [hp] at hx; cases hx
  | some p =>
   rw [hp] at hx
   dsimp only at hx
   split at hx
   case isFalse=>cases hx
   rename_i hnm
   simp only [Xf] at hx
   subst hx
   obtain ⟨e,xs,h1,h2⟩:=h
   have h3:Zp ((g d').den ρ) q=Xa (p.1,p.2.den ρ):=ZN ρ hp
   have h1':Zp ((g d').den ρ) q=Xa (e,xs):=h1
   rw [h3] at h1'
   simp only [Xf,Xn] at h1'
   obtain ⟨he,rfl⟩:=h1'
   rw [he] at hnm
   rcases h2.noMap hnm with ⟨_,h1,h2 | ⟨a,h2⟩⟩ | ⟨b,arr,cap,_,_,_,h2⟩
   ·exact ⟨Xe,0,0,h2,fun _=>XY h1⟩
   ·exact ⟨_,_,_,h2,fun h=>by cases h⟩
   ·exact ⟨_,_,_,h2,fun h=>by cases h⟩
 ·cases hx
theorem Sim.refit {c:Ctx} {σ σ':Nat→AV} {tm:Array Value} {w:World} {lim lim':Lm} {X:Nat→Nat→Option Nat} {S:Nat→Prop} (h:Sim c σ tm w lim X) (hw:ZU w lim w lim' S) (hS:∀ b,S b→c.A b∨c.w0.heap.size≤b)
  (hrel:∀ i,ZQ c.P w lim' X σ' i (σ' i) (tm.getD i undef)) (hout:∀ i,c.nt≤i→σ' i = .dead∨(σ' i).isG=Xb) (hG:∀ i,(σ' i).isG=(σ i).isG) (hB:∀ i cs,σ i = .box cs→∃ cs',σ' i = .box cs') (hmp:∀ d e xs,σ' d = .own Xb e xs→ZgE c.P w lim' e xs (X d))
  (hns:∀ d k e xs b,ZY (σ' d) k=Xa (e,xs)→Ze c.P e=Xb→X d k=Xa b→VZ c.P w lim' e xs b (X (ngN+b))) (hst:∀ i,(σ' i).isSto=Xb→(σ i).isSto=Xb):Sim c σ' tm w lim' X where
 mp:=hmp
 nst:=hns
 ntN:=h.ntN
 yfr:=h.yfr
 stf:=h.stfW hst
 far d hd:=by
  rcases hout d (XV h.ntN hd) with h1 | h1
  ·exact h1
  ·rw [hG,h.far d hd] at h1;cases h1
 rel:=hrel
 size:=h.size
 out:=hout
 ghost d hd:=h.ghost d (by rw [← hG];exact hd)
 dist:=h.dist
 ours:=h.ours
 frm:=h.frm.step hw hS
 pin d v hv:=by
  obtain ⟨h1,cs,h2⟩:=h.pin d v hv
  exact ⟨h1,hB d cs h2⟩
 gpin d b hb:=by
  obtain ⟨h1,h2⟩:=h.gpin d b hb
  exact ⟨h1,by rw [hG];exact h2⟩
theorem Sim.freeze {c:Ctx} {σ:Nat→AV} {tm:Array Value} {w:World} {lim:Lm} {X:Nat→Nat→Option Nat} (h:Sim c σ tm w lim X) {d q:Nat} {e:TypeId} {xs:List (List AV)} {us:List (Nat×AV)} (hdn:(σ d).isG=Xc) (hp:Zp (σ d) q=Xa (e,xs))
  (hs0:c.P.cellsOf e≠0) (hnm:Zj c.P e=Xc) (h1:∀ u∈us,u.1≠d∧((σ u.1 = .mref d q∧u.2 = .slice Xc (c.P.cellsOf e) xs)∨((∃ o,σ u.1 = .eref d q o)∧u.2 = .dead))) (h2:∀ i,Jh (σ i) d q→i∈us.map (·.1)) :
  ∃ lim',Sim c (Jm (upd σ d (Zm (σ d) q Xc e xs)) us) tm w lim' X:=by
 have hnG:∀ cs,σ d≠.gbox cs:=fun cs he=>by rw [he] at hdn;cases hdn
 obtain ⟨v0,ho⟩:=Yd h hp
 refine ⟨⟨fun b=>if X d q=Xa b then xs.length*c.P.cellsOf e else lim b,lim.t⟩,?_⟩
 have hlim0:∀ b,X d q=Xa b→lim b=0:=by
  intro b hb
  rw [hb] at ho
  obtain ⟨_,_,_,_,g,_⟩:=Va ho (.inl hnm)
  exact g
 have hw:ZU w lim w ⟨fun b=>if X d q=Xa b then xs.length*c.P.cellsOf e else lim b,lim.t⟩ (fun b=>X d q=Xa b):=by
  refine ⟨rfl,rfl,rfl,XD _,fun _ _=>rfl,fun b _ hb=>⟨rfl,if_neg hb⟩,⟨fun b _=>⟨?_,fun _ _ _ hu=>hu⟩,fun _ _ h=>h⟩,rfl⟩
  show lim b≤if X d q=Xa b then xs.length*c.P.cellsOf e else lim b
  split
  ·rename_i hb;rw [hlim0 b hb];exact Wh _
  ·exact XD _
 have hnew:∀ v,ZV c.P w lim Xb e xs v (X d q)→ZV c.P w ⟨fun b=>if X d q=Xa b then xs.length*c.P.cellsOf e else lim b,lim.t⟩ Xc e xs v (X d q):=by
  intro v hv
  rcases hv.noMap hnm with ⟨ws,g1,g2,g3,g4,g5,g6⟩ | hv
  ·refine .inl ⟨ws,g1,g2,fun b hb=>?_,g4,g5,fun j z u hz hu=>(g6 j z u hz hu).mono hw.ext⟩
   show (if X d q=Xa b then xs.length*c.P.cellsOf e else lim b)=_
   rw [if_pos hb,if_neg (by simp),g1.1]
  ·exact .inr (.inl hv)
 have hkept:∀ i k b,(i≠d∨k≠q)→X i k=Xa b→Zeh w lim w ⟨fun b=>if X d q=Xa b then xs.length*c.P.cellsOf e else lim b,lim.t⟩ b:=by
  intro i k b hik hb
  refine ⟨rfl,if_neg fun hb'=>?_⟩
  obtain ⟨e1,e2⟩:=h.dist i k d q b hb hb'
  exact hik.elim (fun h=>h e1) fun h=>h e2
 have hdu:d∉us.map (·.1):=by
  intro hm
  obtain ⟨u,hu,rfl⟩:=Xj.1 hm
  exact (h1 u hu).1 rfl
 -- what stands where
 have hat:∀ i,i≠d→(i∉us.map (·.1)∧Jm (upd σ d (Zm (σ d) q Xc e xs)) us i=σ i)∨
   (σ i = .mref d q∧Jm (upd σ d (Zm (σ d) q Xc e xs)) us i = .slice Xc (c.P.cellsOf e) xs)∨((∃ o,σ i = .eref d q o)∧Jm (upd σ d (Zm (σ d) q Xc e xs)) us i = .dead):=by
  intro i hi
  rw [Js]
  by_cases hm:i∈us.map (·.1)
  ·obtain ⟨x,hx⟩:=Ve us i hm
   rw [hx]
   rcases (h1 _ (Zdl us i x hx)).2 with ⟨g1,g2⟩ | ⟨g1,g2⟩
   ·exact .inr (.inl ⟨g1,g2⟩)
   ·exact .inr (.inr ⟨g1,g2⟩)
  ·rw [Y1 us i hm]
   exact .inl ⟨hm,Zb _ _ hi⟩
 have hatd:Jm (upd σ d (Zm (σ d) q Xc e xs)) us d=Zm (σ d) q Xc e xs:=by
  rw [Js,Y1 us d hdu]
  exact Zs _ _ _
 have hdG:(Zm (σ d) q Xc e xs).isG=Xc∧(σ d).isG=Xc:=by
  rcases ZB hp with ⟨g1,rfl⟩ | ⟨cs,k,g1,rfl,_⟩ | ⟨cs,k,g1,rfl,_⟩
  case inr.inr=>exact (hnG _ g1).elim
  all_goals rw [g1];exact ⟨rfl,rfl⟩
 have hdB:∀ cs,σ d = .box cs→∃ cs',Zm (σ d) q Xc e xs = .box cs':=by
  intro cs hcs
  rcases ZB hp with ⟨g1,rfl⟩ | ⟨cs',k,g1,rfl,_⟩ | ⟨cs,k,g1,rfl,_⟩
  case inr.inr=>exact (hnG _ g1).elim
  ·rw [g1] at hcs;cases hcs
  ·rw [g1];exact ⟨_,rfl⟩
 have hGall:∀ i,(Jm (upd σ d (Zm (σ d) q Xc e xs)) us i).isG=(σ i).isG:=by
  intro i
  by_cases hi:i=d
  ·subst hi;rw [hatd,hdG.1,hdG.2]
  ·rcases hat i hi with ⟨_,g⟩ | ⟨g,g'⟩ | ⟨⟨o,g⟩,g'⟩
   ·rw [g]
   ·rw [g,g'];rfl
   ·rw [g,g'];rfl
 have hBall:∀ i cs,σ i = .box cs→∃ cs',Jm (upd σ d (Zm (σ d) q Xc e xs)) us i = .box cs':=by
  intro i cs hcs
  by_cases hi:i=d
  ·subst hi;rw [hatd];exact hdB cs hcs
  ·rcases hat i hi with ⟨_,g⟩ | ⟨g,g'⟩ | ⟨⟨o,g⟩,g'⟩
   ·exact ⟨cs,g.trans hcs⟩
   ·rw [g] at hcs;cases hcs
   ·rw [g] at hcs;cases hcs
 have hmp:∀ i e1 xs1,Jm (upd σ d (Zm (σ d) q Xc e xs)) us i = .own Xb e1 xs1→ZgE c.P w ⟨fun b=>if X d q=Xa b then xs.length*c.P.cellsOf e else lim b,lim.t⟩ e1 xs1 (X i):=by
  intro i e1 xs1 he
  by_cases hi:i=d
  ·subst hi
   rw [hatd] at he
   rcases ZB hp with ⟨g1,rfl⟩ | ⟨cs,k,g1,rfl,_⟩ | ⟨cs,k,g1,rfl,_⟩
   ·rw [g1] at he;simp [Zm] at he
   ·rw [g1] at he;simp [Zm] at he
   ·exact (hnG _ g1).elim
  ·rcases hat i hi with ⟨_,g⟩ | ⟨_,g'⟩ | ⟨_,g'⟩
   ·rw [g] at he
    exact (h.mp i e1 xs1 he).mono hw.ext fun k b hb=>hkept i k b (.inl hi) hb
   ·rw [g'] at he;cases he
   ·rw [g'] at he;cases he
 have hdf:d < ngN:=by
  rcases Xx d ngN with hlt | hge
  ·exact hlt
  ·rw [h.far d hge] at hp;cases hp
 have hns:∀ i k e1 xs1 b,ZY (Jm (upd σ d (Zm (σ d) q Xc e xs)) us i) k=Xa (e1,xs1)→Ze c.P e1=Xb→X i k=Xa b→VZ c.P w ⟨fun b=>if X d q=Xa b then xs.length*c.P.cellsOf e else lim b,lim.t⟩ e1 xs1 b (X (ngN+b)):=by
  intro i k e1 xs1 b m1 m2 m3
  have old:(i≠d∨k≠q)→ZY (σ i) k=Xa (e1,xs1)→VZ c.P w ⟨fun b=>if X d q=Xa b then xs.length*c.P.cellsOf e else lim b,lim.t⟩ e1 xs1 b (X (ngN+b)):=fun hik ho=>
   (h.nst i k e1 xs1 b ho m2 m3).mono hw.ext (hkept i k b hik m3).1 fun j b' hb'=>hkept (ngN+b) j b' (.inl (by omega)) hb'
  by_cases hi:i=d
  ·subst hi
   rw [hatd] at m1
   rcases ZB hp with ⟨g1,rfl⟩ | ⟨cs,k',g1,rfl,g2⟩ | ⟨cs,k',g1,rfl,_⟩
   case inr.inr=>exact (hnG _ g1).elim
   ·rw [g1] at m1
    cases k with
    | zero => cases m1
    | succ k => cases m1
   ·rw [g1] at m1
    rcases JU m1 with ⟨_,m4⟩ | ⟨m4,m5⟩
    ·cases m4
    ·exact old (.inr m4) (by rw [g1];exact m5)
  ·rcases hat i hi with ⟨_,g⟩ | ⟨_,g'⟩ | ⟨_,g'⟩
   ·rw [g] at m1;exact old (.inl hi) m1
   ·rw [g'] at m1;cases k<;>first | cases m1 | exact (Z6 m1 rfl).elim
   ·rw [g'] at m1;cases k<;>first | cases m1 | exact (Z6 m1 rfl).elim
 have hstA:∀ i,(Jm (upd σ d (Zm (σ d) q Xc e xs)) us i).isSto=Xb→(σ i).isSto=Xb:=fun i hi=>by
  by_cases hid:i=d
  ·subst hid
   rw [hatd] at hi
   rcases ZB hp with ⟨g1,rfl⟩ | ⟨cs,k',g1,rfl,g2⟩ | ⟨cs,k',g1,rfl,_⟩
   case inr.inr=>exact (hnG _ g1).elim
   ·rw [g1] at hi;cases hi
   ·rw [g1] at hi;cases hi
  ·rcases hat i hid with ⟨_,g⟩ | ⟨_,g'⟩ | ⟨_,g'⟩
   ·rw [g] at hi;exact hi
   ·rw [g'] at hi;cases hi
   ·rw [g'] at hi;cases hi
 refine h.refit hw (fun b hb=>(h.ours d q b hb).2) (fun i=>?_) (fun i hi=>?_) hGall hBall hmp hns hstA
 ·by_cases hi:i=d
  ·subst hi
   rw [hatd]
   have hr:=h.rel i
   rcases ZB hp with ⟨g1,rfl⟩ | ⟨cs,k,g1,rfl,g2⟩ | ⟨cs,k,g1,rfl,_⟩
   case inr.inr=>exact (hnG _ g1).elim
   ·rw [g1] at hr ⊢
    exact hnew _ hr
   ·rw [g1] at hr ⊢
    obtain ⟨b,arr,t,k1,k2,k3,k4,k5,k6,k7⟩:=(show ZG c.P w lim (X i) cs _ from hr)
    refine ⟨b,arr,t,k1,k2,k3,by rw [Ux];exact k4,((hkept i 0 b (.inr (by omega)) k1).2).trans k5,fun x hx=>?_,fun j x u hx hu=>?_⟩
    ·rcases Wo hx with hx | hx
     ·exact k6 x hx
     ·exact .inr (.inl ⟨_,_,_,hx⟩)
    ·by_cases hj:j=k
     ·subst hj
      rw [List.getElem?_set_self (Xi.1 g2).1] at hx
      simp only [Xf] at hx
      subst hx
      exact hnew u (k7 j _ u g2 hu)
     ·rw [Wg (fun h=>hj h.symm)] at hx
      exact (k7 j x u hx hu).mono hw.ext fun b' hb'=>hkept i (j+1) b' (.inr (by omega)) hb'
  ·rcases hat i hi with ⟨hm,g⟩ | ⟨g,g'⟩ | ⟨⟨o,g⟩,g'⟩
   ·rw [g]
    have hr:=(h.rel i).mono hw.ext (fun k b hb=>hkept i k b (.inl hi) hb) (fun d' k b _ _=>.of rfl) fun _ _=>rfl
    refine hr.chg rfl (fun d' cs hd'=>⟨hBall d' cs hd',rfl⟩) (fun d' hd'=>⟨by rw [hGall];exact hd',rfl⟩) fun d' k hrf=>⟨?_,rfl⟩
    by_cases hdd:d'=d
    ·subst hdd
     rw [hatd]
     have hkq:k≠q:=fun he=>hm (h2 i (he ▸ hrf))
     intro e' ys hy
     rcases ZB hy with ⟨m1,rfl⟩ | ⟨cs,k',m1,rfl,m2⟩ | ⟨_,_,m1,_⟩
     case inr.inr=>exact (hnG _ m1).elim
     ·rcases ZB hp with ⟨_,h0⟩ | ⟨_,_,h0,_⟩ | ⟨_,_,h0,_⟩
      case inr.inr=>exact (hnG _ h0).elim
      ·exact (hkq h0.symm).elim
      ·rw [m1] at h0;cases h0
     ·rcases ZB hp with ⟨h0,_⟩ | ⟨cs2,q',h0,rfl,_⟩ | ⟨_,_,h0,_⟩
      case inr.inr=>exact (hnG _ h0).elim
      ·rw [m1] at h0;cases h0
      ·refine ⟨ys,?_,rfl⟩
       rw [m1]
       simp only [Zm,Zp]
       rw [Wg (by omega),m2]
    ·rcases hat d' hdd with ⟨_,m⟩ | ⟨m,m'⟩ | ⟨⟨o,m⟩,m'⟩
     ·rw [m];exact KO.refl _ _
     ·intro e' ys hy
      rw [m] at hy;cases hy
     ·intro e' ys hy
      rw [m] at hy;cases hy
   ·rw [g']
    have hr:=h.rel i
    rw [g] at hr
    obtain ⟨e',xs',k1,k2⟩:=hr
    rw [hp] at k1
    simp only [Xf,Xn] at k1
    obtain ⟨rfl,rfl⟩:=k1
    show Rep w _ _ _
    rcases k2.noMap hnm with ⟨_,k2,k3 | ⟨a,k3⟩⟩ | ⟨b,arr,cap,k2,k3,k4,k5⟩
    ·have:xs = []:=XY k2
     subst this
     rw [k3];exact .sliceN
    ·have:xs = []:=XY k2
     subst this
     rw [k3];exact .sliceE fun h=>by cases h
    ·have ho':=ho
     rw [k2] at ho'
     obtain ⟨arr0,cap0,m1,m2,_,_,_,m6,_⟩:=Va ho' (.inl hnm)
     rw [k3] at m2
     simp only [Xf,Obj.cells.injEq,and_true] at m2
     subst m2
     have hcap:cap=cap0:=Nat.eq_of_mul_eq_mul_right (by omega) (k4.symm.trans m6)
     subst hcap
     rw [k5,← m1]
     exact ZV.rep (hnew v0 ho) Xc rfl
   ·rw [g']
    trivial
 ·by_cases hid:i=d
  ·subst hid
   rcases h.out i hi with h0 | h0
   ·rw [h0] at hp;cases hp
   ·rw [hdG.2] at h0;cases h0
  ·rcases hat i hid with ⟨_,g⟩ | ⟨g,_⟩ | ⟨⟨o,g⟩,_⟩
   ·rw [g];exact h.out i hi
   ·rcases h.out i hi with h0 | h0<;>rw [g] at h0<;>cases h0
   ·rcases h.out i hi with h0 | h0<;>rw [g] at h0<;>cases h0
theorem Kd {P:Program} {g:Nat→SV} {d q:Nat} {e:TypeId} {l:LE} : ∀ (n:Nat) (u:Nat×SV),u∈Vu P g d q e l n↔u.1 < n∧((g u.1 = .mref d q∧u.2 = .c (.slice Xc (P.cellsOf e) l))∨((∃ i s o,g u.1 = .eref d q i s o)∧u.2 = .dead))
 | 0, u => by simp [Vu]
 | n + 1, u => by
  have ih:=Kd (P:=P) (g:=g) (d:=d) (q:=q) (e:=e) (l:=l) n u
  have up:∀ {p:Prop},(u.1 < n∧p)→(u.1 < n+1∧p):=fun h=>⟨by omega,h.2⟩
  simp only [Vu]
  split
  ·rename_i d' q' hg
   split
   ·rename_i hh
    obtain ⟨rfl,rfl⟩:=hh
    rw [Xl,ih]
    constructor
    ·rintro (rfl | h)
     ·exact ⟨Wp n,.inl ⟨hg,rfl⟩⟩
     ·exact up h
    ·rintro ⟨h1,h2⟩
     by_cases hn:u.1=n
     ·left
      obtain ⟨a,b⟩:=u
      simp only at hn h2
      subst hn
      rcases h2 with ⟨_,h2⟩ | ⟨⟨_,_,_,h2⟩,_⟩
      ·rw [h2]
      ·rw [hg] at h2;cases h2
     ·exact .inr ⟨by omega,h2⟩
   ·rename_i hh
    rw [ih]
    refine ⟨up,fun ⟨h1,h2⟩=>⟨?_,h2⟩⟩
    by_cases hn:u.1=n
    ·rw [hn,hg] at h2
     rcases h2 with ⟨h2,_⟩ | ⟨⟨_,_,_,h2⟩,_⟩
     ·cases h2;exact (hh ⟨rfl,rfl⟩).elim
     ·cases h2
    ·omega
  ·rename_i d' q' i s o hg
   split
   ·rename_i hh
    obtain ⟨rfl,rfl⟩:=hh
    rw [Xl,ih]
    constructor
    ·rintro (rfl | h)
     ·exact ⟨Wp n,.inr ⟨⟨_,_,_,hg⟩,rfl⟩⟩
     ·exact up h
    ·rintro ⟨h1,h2⟩
     by_cases hn:u.1=n
     ·left
      obtain ⟨a,b⟩:=u
      simp only at hn h2
      subst hn
      rcases h2 with ⟨h2,_⟩ | ⟨_,h2⟩
      ·rw [hg] at h2;cases h2
      ·rw [h2]
     ·exact .inr ⟨by omega,h2⟩
   ·rename_i hh
    rw [ih]
    refine ⟨up,fun ⟨h1,h2⟩=>⟨?_,h2⟩⟩
    by_cases hn:u.1=n
    ·rw [hn,hg] at h2
     rcases h2 with ⟨h2,_⟩ | ⟨⟨_,_,_,h2⟩,_⟩
     ·cases h2
     ·cases h2;exact (hh ⟨rfl,rfl⟩).elim
    ·omega
  ·rename_i h1 h2
   rw [ih]
   refine ⟨up,fun ⟨g1,g2⟩=>⟨?_,g2⟩⟩
   by_cases hn:u.1=n
   ·rw [hn] at g2
    rcases g2 with ⟨g2,_⟩ | ⟨⟨_,_,_,g2⟩,_⟩
    ·exact (h1 _ _ g2).elim
    ·exact (h2 _ _ _ _ _ g2).elim
   ·omega
theorem ZhY {P:Program} {x y:SV} {k:Nat} (h:Zjg P x k=Xa y):∃ cs j e l,x = .box cs∧k=j+1∧cs[j]? = Xa (.own Xc e l)∧y = .box (cs.set j (.c (.slice Xc (P.cellsOf e) l))):=by
 unfold Zjg at h
 split at h
 ·rename_i cs j
  split at h
  ·rename_i e l hc
   cases h
   exact ⟨cs,j,e,l,rfl,rfl,hc,rfl⟩
  ·cases h
 ·cases h
theorem Sim.loose {c:Ctx} {σ:Nat→AV} {tm:Array Value} {w:World} {lim:Lm} {X:Nat→Nat→Option Nat} (h:Sim c σ tm w lim X) {d k:Nat} {e:TypeId} {xs:List (List AV)} {cs:List AV} (hd:σ d = .box cs) (hk:cs[k]? = Xa (.own Xc e xs)) :
  ∃ X',Sim c (upd σ d (.box (cs.set k (.slice Xc (c.P.cellsOf e) xs)))) tm w lim X':=by
 have hdn:d < c.nt:=by
  rcases Xx d c.nt with hlt | hge
  ·exact hlt
  ·have:=h.out d hge;rw [hd] at this;rcases this with h0 | h0<;>cases h0
 have hr:=h.rel d
 rw [hd] at hr
 obtain ⟨b,arr,t,h1,h2,h3,h4,h5,h6,h7⟩:=(show ZG c.P w lim (X d) cs _ from hr)
 refine ⟨_,h.putRow (hns:=fun q e1 xs1 b' m1 m2 m3=>by
  rcases JU m1 with ⟨_,m4⟩ | ⟨m4,m5⟩
  ·cases m4
  ·exact h.nst d q e1 xs1 b' (by rw [hd];exact m5) m2 m3) (S:=fun _=>False) (X d) (ZU.refl w lim _) (fun _ hs=>hs.elim) hdn rfl (fun _ _=>rfl) (.inr ⟨⟨_,rfl⟩,rfl,rfl⟩) (fun i q _ _=>⟨fun e1 xs1 ho=>?_,rfl,fun _ _=>.of rfl⟩) ?_
  (fun q b' hq=>⟨(h.ours d q b' hq).1,(h.ours d q b' hq).2,fun i j hij hx=>hij (h.dist i j d q b' hx hq).1⟩) (fun q q' b' hq hq'=>(h.dist d q d q' b' hq hq').2)⟩
 ·rw [hd] at ho
  cases q with
  | zero => cases ho
  | succ q =>
   refine ⟨xs1,?_,rfl⟩
   have hq:q≠k:=fun he=>by
    subst he
    simp only [Zp,hk] at ho
    cases ho
   simp only [Zp,Ug,if_neg (Ne.symm hq)] at ho ⊢
   exact ho
 ·show ZG c.P w lim (Ke X d (X d) d) _ _
  rw [Zl]
  refine ⟨b,arr,t,h1,h2,h3,by rw [Ux];exact h4,h5,fun y hy=>?_,fun i y u hy hu=>?_⟩
  ·rcases Wo hy with hy | rfl
   ·exact h6 y hy
   ·exact .inl rfl
  ·rw [Ug] at hy
   split at hy
   ·rename_i hik
    subst hik
    split at hy
    ·cases hy
     exact ZV.rep (h7 k _ u hk hu) Xc rfl
    ·cases hy
   ·exact h7 i y u hy hu
theorem ZiM {P:Program} {E:Env} (hnt:E.top≤1024) {c:Ctx} (hcP:c.P=P) {s s':Tr} {n:Nat} {ρ:Nat→V} (p:Nat×Nat) {tm:Array Value} {w:World} (hs:YY E s n) (h:∃ lim X,Sim c (ZE E s ρ) tm w lim X) (hd:ZiA P E s p=Xa s') :
  YY E s' n∧∃ lim X,Sim c (ZE E s' ρ) tm w lim X:=by
 unfold ZiA at hd
 split at hd
 case h_2=>cases hd
 rename_i e l hp
 split at hd
 case isFalse=>cases hd
 rename_i hh
 obtain ⟨hlt,hng⟩:=hh
 obtain ⟨lim,X,hsim⟩:=h
 have hl:=Jy hp (hs p.1)
 have hat:Zp (ZE E s ρ p.1) (p.2 % 1000)=Xa (e,l.den ρ):=ZN ρ hp
 have hda:Kw (ZE E s ρ) p.1 ((ZJ (gE E s) p.1 E.top).map fun u=>(u.1,u.2.den ρ)):=JB (g:=gE E s) ρ (Zaa s)
 have gen:∀ (e2:TypeId) (l2:LE),l2.bd n→(∀ σ X,Sim c σ tm w lim X→Zp (σ p.1) (p.2 % 1000)=Xa (e,l.den ρ)→(σ p.1).isG=Xc→(∀ i,¬ Jh (σ i) p.1 (p.2 % 1000))→∃ lim' X',Sim c (upd σ p.1 (Zm (σ p.1) (p.2 % 1000) Xb e2 (l2.den ρ))) tm w lim' X')→
   YY E (Z0 (ZJ (gE E s) p.1 E.top++[(p.1,Z5 (gE E s p.1) (p.2 % 1000) Xb e2 l2)]) s) n∧∃ lim X,Sim c (ZE E (Z0 (ZJ (gE E s) p.1 E.top++[(p.1,Z5 (gE E s p.1) (p.2 % 1000) Xb e2 l2)]) s) ρ) tm w lim X:=by
  intro e2 l2 hb2 hstep
  have hlow:YL E (ZJ (gE E s) p.1 E.top++[(p.1,Z5 (gE E s p.1) (p.2 % 1000) Xb e2 l2)]):=by
   unfold YL
   rw [XE]
   intro u hu
   rcases Xt.1 hu with hu | hu
   ·simpa using ((Jl E.top u).1 hu).2.1
   ·rw [XC.1 hu];simpa using Jt hlt
  refine ⟨Jf hnt _ _ hlow hs fun u hu=>?_,?_⟩
  ·rcases Xt.1 hu with hu | hu
   ·rw [((Jl E.top u).1 hu).1];trivial
   ·rw [XC.1 hu];exact JK (hs p.1) hb2
  ·rw [Jk hnt _ _ _ hlow,XL,Xg,Xz,Jv,Kk]
   obtain ⟨X1,k1,k2⟩:=hsim.drops ((ZJ (gE E s) p.1 E.top).map fun u=>(u.1,u.2.den ρ)) fun u hu=>by
    obtain ⟨m0,m1,k,m3⟩:=hda.1 u hu
    obtain ⟨p1,p2,p3⟩:=YE m3
    exact ⟨m1,p2,JL hsim (fun e=>by rw [e] at m3;rcases m3 with m3 | ⟨_,m3⟩ <;> cases m3) p3⟩
   have hnd:p.1∉((ZJ (gE E s) p.1 E.top).map fun u=>(u.1,u.2.den ρ)).map (·.1):=by
    intro hm
    obtain ⟨u,hu,he⟩:=Xj.1 hm
    exact (hda.1 u hu).1 he
   have hsame:Jm (ZE E s ρ) ((ZJ (gE E s) p.1 E.top).map fun u=>(u.1,u.2.den ρ)) p.1=ZE E s ρ p.1:=ZcW _ _ _ hnd
   have hdead:∀ i,Jm (ZE E s ρ) ((ZJ (gE E s) p.1 E.top).map fun u=>(u.1,u.2.den ρ)) i=if i∈((ZJ (gE E s) p.1 E.top).map fun u=>(u.1,u.2.den ρ)).map (·.1) then .dead else ZE E s ρ i:=fun i=>Kr _ _ i fun u hu=>(hda.1 u hu).2.1
   have:=hstep _ X1 k1 (by rw [hsame];exact hat) (by rw [hsame];exact Ks ρ hng) (fun i hr=>by
    rw [hdead] at hr
    split at hr
    ·rcases hr with hr | ⟨_,hr⟩ <;> cases hr
    ·rename_i hm
     by_cases hi:i=p.1
     ·subst hi
      rcases hr with hr | ⟨_,hr⟩ <;> (rw [hr] at hat;cases hat)
     ·exact hm (hda.2 i _ hi hr))
   rw [hsame] at this
   exact this
 split at hd
 ·split at hd
  case isFalse=>cases hd
  rename_i hh
  cases hd
  refine gen _ _ ⟨hl,trivial,trivial,trivial⟩ fun σ X hs h1 h2 h3=>?_
  obtain ⟨X',hx⟩:=hs.deepen h1 h2 (by rw [hcP];exact hh.1) (by rw [hcP];exact hh.2) (Zmy hh.2) h3
  exact ⟨lim,X',hx⟩
 ·rename_i hdp
  split at hd
  case isFalse=>cases hd
  rename_i hh
  cases hd
  refine gen _ _ ⟨hl,trivial,trivial,trivial⟩ fun σ X hs h1 h2 h3=>?_
  exact hs.undeep h1 h2 (by rw [hcP];exact hdp) (by rw [hcP];exact hh) h3
 ·cases hd
theorem Sim.nilDeep {c:Ctx} {σ:Nat→AV} {tm:Array Value} {w:World} {lim:Lm} {X:Nat→Nat→Option Nat} (h:Sim c σ tm w lim X) {d k:Nat} {D:TypeId} {cs:List AV} {c0:AV} (hd:σ d = .box cs) (hk:cs[k]? = Xa c0)
  (h0:(∃ s,c0 = .slice Xb s [])∨c0 = .own Xc (bT D) []) (hdp:Ze c.P D=Xb) (hnm:Zj c.P (bT D)=Xc) :
  ∃ X',Sim c (upd σ d (.box (cs.set k (.own Xb D [])))) tm w lim X':=by
 have hdn:d < c.nt:=by
  rcases Xx d c.nt with hlt | hge
  ·exact hlt
  ·have:=h.out d hge;rw [hd] at this;rcases this with h0 | h0<;>cases h0
 have hr:=h.rel d
 rw [hd] at hr
 obtain ⟨b,arr,t,h1,h2,h3,h4,h5,h6,h7⟩:=(show ZG c.P w lim (X d) cs _ from hr)
 have hkl:=(Xi.1 hk).1
 obtain ⟨u0,hu0⟩:∃ u,arr[k]? = Xa u:=⟨arr[k]'(by omega),XZ (by omega)⟩
 obtain ⟨ob,hob,hown⟩:∃ ob,(ob=Xe∨ob=X d (k+1))∧VQ c.P w lim Xb (bT D) [] u0 ob:=by
  have hc:=h7 k c0 u0 hk hu0
  rcases h0 with ⟨s,rfl⟩ | rfl
  ·rcases Zf6 (WJ (P:=c.P) (x:=Xb) (e:=bT D) (show Rep w lim (.slice Xb s []) u0 from hc)) with hc | ⟨_,hc⟩
   ·exact ⟨Xe,.inl rfl,hc⟩
   ·rw [ZL hnm] at hc;cases hc
  ·rcases Zf6 (show ZV c.P w lim Xc (bT D) [] u0 _ from hc) with hc | ⟨_,hc⟩
   ·exact ⟨_,.inr rfl,WL hc⟩
   ·rw [ZL hnm] at hc;cases hc
 obtain ⟨r,hrd⟩:∃ r:Nat→Option Nat,r=fun q=>if q=k+1 then ob else X d q:=⟨_,rfl⟩
 have hrX:∀ q b',r q=Xa b'→X d q=Xa b':=fun q b' hq=>by
  rw [hrd] at hq
  dsimp only at hq
  split at hq
  ·rename_i e
   rcases hob with e1 | e1
   ·rw [e1] at hq;cases hq
   ·rw [e,← e1];exact hq
  ·exact hq
 have hr0:r 0=X d 0:=by rw [hrd];exact if_neg (by omega)
 refine ⟨_,h.putRow (hns:=fun q e1 xs1 b' m1 m2 m3=>by
  rcases JU m1 with ⟨m4,m5⟩ | ⟨m4,m5⟩
  ·cases m5
   rw [m4,hrd] at m3
   dsimp only at m3
   rw [if_pos rfl] at m3
   rw [m3] at hown
   refine ⟨?_,fun j s e ys u hz _=>by simp at hz⟩
   rcases hown with ⟨us,k1,k2,_⟩ | ⟨_,k2,_⟩
   ·rcases k1.2 with ⟨hv,_⟩ | ⟨g,cap,cur,hv,_,hg,_⟩
    ·rw [hv] at k2;cases k2
    ·have hgb:g=b':=by rw [hv] at k2;exact Xr k2
     rw [hgb] at hg
     exact ⟨cur,hg⟩
   ·cases k2
  ·exact h.nst d q e1 xs1 b' (by rw [hd];exact m5) m2 (hrX q b' m3)) (S:=fun _=>False) r (ZU.refl w lim _) (fun _ hs=>hs.elim) hdn rfl (fun _ _=>rfl) (.inr ⟨⟨_,rfl⟩,hr0,rfl⟩) (fun i q hi hri=>?_) ?_
  (fun q b' hq=>⟨(h.ours d q b' (hrX q b' hq)).1,(h.ours d q b' (hrX q b' hq)).2,fun i j hij hx=>hij (h.dist i j d q b' hx (hrX q b' hq)).1⟩) (fun q q' b' hq hq'=>(h.dist d q d q' b' (hrX q b' hq) (hrX q' b' hq')).2)⟩
 ·obtain ⟨⟨e1,xs1⟩,hp⟩:=Y4 h hri
  rw [hd] at hp
  cases q with
  | zero => cases hp
  | succ q =>
   have hq:q≠k:=fun he=>by
    subst he
    rcases h0 with ⟨s,rfl⟩ | rfl<;>simp only [Zp,hk] at hp<;>cases hp
   refine ⟨fun e2 xs2 ho=>⟨xs2,?_,rfl⟩,?_,fun _ _=>.of rfl⟩
   ·rw [hd] at ho
    simp only [Zp,Ug,if_neg (Ne.symm hq)] at ho ⊢
    exact ho
   ·rw [hrd]
    exact if_neg (by omega)
 ·show ZG c.P w lim (Ke X d r d) _ _
  rw [Zl]
  refine ⟨b,arr,t,by rw [hr0];exact h1,h2,h3,by rw [Ux];exact h4,h5,fun y hy=>?_,fun i y u hy hu=>?_⟩
  ·rcases Wo hy with hy | rfl
   ·exact h6 y hy
   ·exact .inr (.inl ⟨_,_,_,rfl⟩)
  ·rw [Ug] at hy
   split at hy
   ·rename_i hik
    subst hik
    cases hy
    rw [hu0] at hu
    cases hu
    show ZV c.P w lim Xb D [] u0 (r (k+1))
    rw [hrd]
    dsimp only
    rw [if_pos rfl]
    exact .inr (.inr ⟨rfl,.inr (.inl ⟨hdp,hnm,hown⟩)⟩)
   ·rename_i hik
    have hri:r (i+1)=X d (i+1):=by rw [hrd];exact if_neg (by omega)
    rw [hri]
    exact h7 i y u hy hu
theorem ZkI {x y:SV} {k:Nat} {D:TypeId} (h:Zrc x k D=Xa y):∃ cs j c0,x = .box cs∧k=j+1∧cs[j]? = Xa c0∧((∃ s,c0 = .c (.slice Xb s .nil))∨c0 = .own Xc (bT D) .nil)∧y = .box (cs.set j (.own Xb D .nil)):=by
 unfold Zrc at h
 split at h
 ·rename_i cs j
  split at h
  ·rename_i s hc
   cases h
   exact ⟨cs,j,_,rfl,rfl,hc,.inl ⟨s,rfl⟩,rfl⟩
  ·rename_i e hc
   split at h
   ·rename_i he
    cases h
    subst he
    exact ⟨cs,j,_,rfl,rfl,hc,.inr rfl,rfl⟩
   ·cases h
  ·cases h
 ·cases h
theorem Zk1 {P:Program} {E:Env} (hnt:E.top≤1024) {c:Ctx} (hcP:c.P=P) {s s':Tr} {n:Nat} {ρ:Nat→V} (p:Nat×Nat) {tm:Array Value} {w:World} (hs:YY E s n) (h:∃ lim X,Sim c (ZE E s ρ) tm w lim X) (hd:Znr P E s p=Xa s') :
  YY E s' n∧∃ lim X,Sim c (ZE E s' ρ) tm w lim X:=by
 unfold Znr at hd
 split at hd
 case h_2=>cases hd
 rename_i x _ hx
 split at hd
 case isFalse=>cases hd
 rename_i hh
 cases hd
 obtain ⟨h1,h2,h3⟩:=hh
 obtain ⟨cs,j,c0,g1,g2,g3,g4,rfl⟩:=ZkI hx
 obtain ⟨lim,X,hsim⟩:=h
 have hb:=hs p.1
 rw [g1] at hb
 have hb:∀ c∈cs,c.bd n:=hb
 have hlow:YL E [(p.1,SV.box (cs.set j (.own Xb (p.2 / 10000+2097152) .nil)))]:=by
  simp only [YL,Ur,List.all_nil,Bool.and_true,decide_eq_true_eq];exact Jt h1
 refine ⟨Jf hnt _ _ hlow hs fun u hu=>?_,?_⟩
 ·rw [XC.1 hu]
  intro c hc
  rcases Wo hc with hc | rfl
  ·exact hb c hc
  ·trivial
 ·rw [Jk hnt _ _ _ hlow]
  obtain ⟨X',hX'⟩:=hsim.nilDeep (d:=p.1) (k:=j) (D:=p.2 / 10000+2097152) (cs:=cs.map (BC.den ρ)) (c0:=c0.den ρ) (by show (gE E s p.1).den ρ=_;rw [g1];rfl) (by rw [Xk,g3];rfl)
   (by rcases g4 with ⟨s,rfl⟩ | rfl;exact .inl ⟨s,rfl⟩;exact .inr rfl) (by rw [hcP];exact h2) (by rw [hcP];exact h3)
  refine ⟨lim,X',?_⟩
  have:Jm (ZE E s ρ) (([(p.1,SV.box (cs.set j (.own Xb (p.2 / 10000+2097152) .nil)))] : List (Nat×SV)).map fun u=>(u.1,u.2.den ρ))=upd (ZE E s ρ) p.1 (.box ((cs.map (BC.den ρ)).set j (.own Xb (p.2 / 10000+2097152) []))):=by
   simp only [Xg,Xz,Jm,SV.den,UB]
   rfl
  rw [this]
  exact hX'
theorem Zf1 {P:Program} {E:Env} (hnt:E.top≤1024) {c:Ctx} (hcP:c.P=P) {s:Tr} {n:Nat} {ρ:Nat→V} (p:Nat×Nat) {tm:Array Value} {w:World} (hs:YY E s n) (h:∃ lim X,Sim c (ZE E s ρ) tm w lim X) :
  YY E (Vr P E s p) n∧∃ lim X,Sim c (ZE E (Vr P E s p) ρ) tm w lim X:=by
 unfold Vr
 split
 ·rename_i s' hd
  exact Zk1 hnt hcP p hs h hd
 split
 ·rename_i s' hd
  exact ZiM hnt hcP p hs h hd
 split
 ·rename_i e l hp
  split
  ·rename_i hh
   have hlow:YL E ((p.1,Z5 (gE E s p.1) p.2 Xc e l)::Vu P (gE E s) p.1 p.2 e l E.top):=by
    unfold YL
    rw [XE]
    intro u hu
    rcases Xl.1 hu with rfl | hu
    ·simpa using Jt hh.1
    ·simpa using ((Kd E.top u).1 hu).1
   have hl:=Jy hp (hs p.1)
   refine ⟨Jf hnt _ _ hlow hs fun u hu=>?_,?_⟩
   ·rcases Xl.1 hu with rfl | hu
    ·exact JK (hs p.1) hl
    ·rcases ((Kd E.top u).1 hu).2 with ⟨_,h2⟩ | ⟨_,h2⟩ <;> rw [h2]
     ·exact hl
     ·trivial
   ·obtain ⟨lim,X,hsim⟩:=h
    rw [Jk hnt _ _ _ hlow]
    have hA:∀ u∈((Vu P (gE E s) p.1 p.2 e l E.top).map fun u=>(u.1,u.2.den ρ)),u.1≠p.1∧((ZE E s ρ u.1 = .mref p.1 p.2∧u.2 = .slice Xc (c.P.cellsOf e) (l.den ρ))∨((∃ o,ZE E s ρ u.1 = .eref p.1 p.2 o)∧u.2 = .dead)):=by
     intro u hu
     obtain ⟨v,hv,rfl⟩:=Xj.1 hu
     have hne:v.1≠p.1:=by
      intro he
      have h2:=((Kd E.top v).1 hv).2
      rw [he] at h2
      rcases h2 with ⟨h2,_⟩ | ⟨⟨_,_,_,h2⟩,_⟩ <;> rw [h2] at hp<;>cases hp
     refine ⟨hne,?_⟩
     rcases ((Kd E.top v).1 hv).2 with ⟨h1,h2⟩ | ⟨⟨i,s',o,h1⟩,h2⟩
     ·exact .inl ⟨by show (gE E s v.1).den ρ=_;rw [h1];rfl,by rw [h2,hcP];rfl⟩
     ·exact .inr ⟨⟨_,by show (gE E s v.1).den ρ=_;rw [h1];rfl⟩,by rw [h2];rfl⟩
    have hB:∀ i,Jh (ZE E s ρ i) p.1 p.2→i∈((Vu P (gE E s) p.1 p.2 e l E.top).map fun u=>(u.1,u.2.den ρ)).map (·.1):=by
     intro i hi
     rw [X6]
     have hi':Jh ((gE E s i).den ρ) p.1 p.2:=hi
     have hlt:i < E.top:=by
      rcases Xx i E.top with h | h
      ·exact h
      ·rw [Zaa s i h] at hi'
       rcases hi' with h0 | ⟨_,h0⟩ <;> cases h0
     have hex:∃ x,(i,x)∈Vu P (gE E s) p.1 p.2 e l E.top:=by
      cases hg:gE E s i with
      | mref d' q' =>
       rw [hg] at hi'
       rcases hi' with h0 | ⟨_,h0⟩ <;> cases h0
       exact ⟨_,(Kd E.top (i,_)).2 ⟨hlt,.inl ⟨hg,rfl⟩⟩⟩
      | eref d' q' a b o =>
       rw [hg] at hi'
       rcases hi' with h0 | ⟨_,h0⟩ <;> cases h0
       exact ⟨_,(Kd E.top (i,_)).2 ⟨hlt,.inr ⟨⟨_,_,_,hg⟩,rfl⟩⟩⟩
      | c y => rw [hg] at hi'; rcases hi' with h0 | ⟨_, h0⟩ <;> cases y <;> first | cases h0 | exact (Z6 h0 rfl).elim
      | _ => rw [hg] at hi'; rcases hi' with h0 | ⟨_, h0⟩ <;> cases h0
     obtain ⟨x,hx⟩:=hex
     exact Xj.2 ⟨_,hx,rfl⟩
    obtain ⟨lim',hf⟩:=hsim.freeze (d:=p.1) (q:=p.2) (Ks ρ hh.2.2.1) (ZN ρ hp) (by rw [hcP];omega) (by rw [hcP];exact hh.2.2.2) hA hB
    refine ⟨lim',X,?_⟩
    rw [Xg,Jv]
    exact hf
  ·exact ⟨hs,h⟩
 ·split
  ·rename_i x hx
   split
   ·rename_i hlt
    have hlow:YL E [(p.1,x)]:=by simpa [YL] using Jt hlt
    obtain ⟨cs,k,e,l,h1,h2,h3,rfl⟩:=ZhY hx
    have hbd:=hs p.1
    rw [h1] at hbd
    refine ⟨Jf hnt _ _ hlow hs fun u hu=>?_,?_⟩
    ·rw [XC.1 hu]
     intro y hy
     rcases Wo hy with hy | rfl
     ·exact hbd y hy
     ·exact (show l.bd n from hbd (.own Xc e l) (Xh h3))
    ·obtain ⟨lim,X,hsim⟩:=h
     rw [Jk hnt _ _ _ hlow]
     have hd:ZE E s ρ p.1 = .box (cs.map (BC.den ρ)):=by show (gE E s p.1).den ρ=_;rw [h1];rfl
     obtain ⟨X',hX⟩:=hsim.loose hd (k:=k) (e:=e) (xs:=l.den ρ) (by rw [Xk,h3];rfl)
     refine ⟨lim,X',?_⟩
     have e1:(SV.box (cs.set k (.c (.slice Xc (P.cellsOf e) l)))).den ρ = .box ((cs.map (BC.den ρ)).set k (.slice Xc (c.P.cellsOf e) (l.den ρ))):=by
      rw [hcP]
      simp only [SV.den,UB]
      rfl
     show Sim c (upd (ZE E s ρ) p.1 ((SV.box (cs.set k (.c (.slice Xc (P.cellsOf e) l)))).den ρ)) tm w lim X'
     rw [e1]
     exact hX
   ·exact ⟨hs,h⟩
  ·exact ⟨hs,h⟩
theorem Zir {E:Env} (hnt:E.top≤1024) {c:Ctx} {used:List Nat} {s:Tr} {n:Nat} {ρ:Nat→V} (d:Nat) {tm:Array Value} {w:World} (hs:YY E s n) (h:∃ lim X,Sim c (ZE E s ρ) tm w lim X) :
  YY E (ZbR E used s d) n∧∃ lim X,Sim c (ZE E (ZbR E used s d) ρ) tm w lim X:=by
 unfold ZbR
 split
 ·rename_i e l hp
  split
  ·rename_i hh
   have hlow:YL E ((d,.dead)::ZJ (gE E s) d E.top):=by
    unfold YL
    rw [XE]
    intro u hu
    rcases Xl.1 hu with rfl | hu
    ·simpa using Jt hh.1
    ·simpa using ((Jl E.top u).1 hu).2.1
   refine ⟨Jf hnt _ _ hlow hs fun u hu=>?_,?_⟩
   ·rcases Xl.1 hu with rfl | hu
    ·trivial
    ·rw [((Jl E.top u).1 hu).1];trivial
   ·obtain ⟨lim,X,hsim⟩:=h
    rw [Jk hnt _ _ _ hlow]
    have hd:Kw (ZE E s ρ) d ((ZJ (gE E s) d E.top).map fun u=>(u.1,u.2.den ρ)):=JB (g:=gE E s) ρ (Zaa s)
    obtain ⟨X',h1,_⟩:=hsim.freeAll (t:=d) (x:=Xb) (e:=e) (xs:=l.den ρ) (by show (gE E s d).den ρ=_;rw [hp];rfl) (.inr hd)
    exact ⟨lim,X',h1⟩
  ·exact ⟨hs,h⟩
 ·exact ⟨hs,h⟩
theorem Zf8 {P:Program} {E:Env} (hnt:E.top≤1024) {c:Ctx} (hcP:c.P=P) {id:Nat} {ops:Array Oper} {s:Tr} {n:Nat} {ρ:Nat→V} {tm:Array Value} {w:World} {lim:Lm} {X:Nat→Nat→Option Nat} (hs:YY E s n) (h:Sim c (ZE E s ρ) tm w lim X) :
  YY E (ZsU P E id ops s) n∧∃ lim X,Sim c (ZE E (ZsU P E id ops s) ρ) tm w lim X:=by
 have step1:∀ (l:List (Nat×Nat)) (s:Tr),YY E s n→(∃ lim X,Sim c (ZE E s ρ) tm w lim X)→YY E (l.foldl (Vr P E) s) n∧∃ lim X,Sim c (ZE E (l.foldl (Vr P E) s) ρ) tm w lim X:=by
  intro l
  induction l with
  | nil => exact fun s h1 h2 => ⟨h1, h2⟩
  | cons p l ih =>
   intro s h1 h2
   obtain ⟨g1,g2⟩:=Zf1 hnt hcP p h1 h2
   exact ih _ g1 g2
 have step2:∀ (l:List Nat) (s:Tr),YY E s n→(∃ lim X,Sim c (ZE E s ρ) tm w lim X)→YY E (l.foldl (ZbR E (Zi5 ops)) s) n∧∃ lim X,Sim c (ZE E (l.foldl (ZbR E (Zi5 ops)) s) ρ) tm w lim X:=by
  intro l
  induction l with
  | nil => exact fun s h1 h2 => ⟨h1, h2⟩
  | cons p l ih =>
   intro s h1 h2
   obtain ⟨g1,g2⟩:=Zir hnt p h1 h2
   exact ih _ g1 g2
 obtain ⟨g1,g2⟩:=step1 (E.fz id) s hs ⟨lim,X,h⟩
 exact step2 (Zt4 ops) _ g1 g2
section
variable {P:Program} {E:Env} {R:AV→List AV→Prop}
def ZnC (lv:Nat) (A A':Nat→List V→Prop):Prop:=∀ i,i < lv→A' i=A i
theorem Zo0 (hm:P.follows .mixedOrders=Xb) (hps:EnvSound P E) (hnt:E.top≤1024) {c:Ctx} (hcP:c.P=P) (hcn:c.nt=E.nt) (hpin:∀ d v,c.pin d=Xa v→d∈E.pins) (hgpin:∀ d b,c.gpin d=Xa b→E.nt≤d∧d < E.top) :
  ∀ (code:Code) (lv n:Nat) (s:Tr) (kn:Tr→Nat→STree) (kx:Nat→Tr→Nat→STree) (kr:Tr→Nat→STree) (A:Nat→List V→Prop) (ρ:Nat→V) (tm:Array Value) (w:World) (lim:Lm) (X:Nat→Nat→Option Nat)
   (Q:Exit→Act→World→Prop),YY E s n→(ev P E lv code s n kn kx kr).wp P R A ρ→Sim c (ZE E s ρ) tm w lim X→
   (∀ s' n' ρ' A',ZnC lv A A'→YY E s' n'→(kn s' n').wp P R A' ρ'→∀ tm' w' lim' X',Sim c (ZE E s' ρ') tm' w' lim' X'→Q .normal ⟨tm',[]⟩ w')→
   (∀ id s' n' ρ' A',ZnC lv A A'→YY E s' n'→(kx id s' n').wp P R A' ρ'→∀ tm' w' lim' X',Sim c (ZE E s' ρ') tm' w' lim' X'→Q (.exit id) ⟨tm',[]⟩ w')→
   (∀ s' n' ρ' A',ZnC lv A A'→YY E s' n'→(kr s' n').wp P R A' ρ'→∀ tm' w' lim' X',Sim c (ZE E s' ρ') tm' w' lim' X'→Q .ret ⟨tm',[]⟩ w')→
   code.wp P Q ⟨tm,[]⟩ w:=by
 intro code
 induction code with
 | skip => intro lv n s kn kx kr A ρ tm w lim X Q hs h hsim hn hx hr; exact wp_skip (hn s n ρ A (fun _ _ => rfl) hs h tm w lim X hsim)
 | label l => intro lv n s kn kx kr A ρ tm w lim X Q hs h hsim hn hx hr; exact wp_label (hn s n ρ A (fun _ _ => rfl) hs h tm w lim X hsim)
 | exit id => intro lv n s kn kx kr A ρ tm w lim X Q hs h hsim hn hx hr; exact wp_exit (hx id s n ρ A (fun _ _ => rfl) hs h tm w lim X hsim)
 | ret => intro lv n s kn kx kr A ρ tm w lim X Q hs h hsim hn hx hr; exact wp_ret (hr s n ρ A (fun _ _ => rfl) hs h tm w lim X hsim)
 | seq a b iha ihb =>
  intro lv n s kn kx kr A ρ tm w lim X Q hs h hsim hn hx hr
  refine wp_seq (iha lv n s _ kx kr A ρ tm w lim X _ hs h hsim ?_ hx hr)
  intro s' n' ρ' A' hA hs' h' tm' w' lim' X' hsim'
  exact ihb lv n' s' kn kx kr A' ρ' tm' w' lim' X' Q hs' h' hsim' (fun s2 n2 ρ2 A2 hA2=>hn s2 n2 ρ2 A2 fun i hi=>(hA2 i hi).trans (hA i hi))
   (fun id s2 n2 ρ2 A2 hA2=>hx id s2 n2 ρ2 A2 fun i hi=>(hA2 i hi).trans (hA i hi)) (fun s2 n2 ρ2 A2 hA2=>hr s2 n2 ρ2 A2 fun i hi=>(hA2 i hi).trans (hA i hi))
 | cond x a b iha ihb =>
  intro lv n s kn kx kr A ρ tm w lim X Q hs h hsim hn hx hr
  simp only [ev] at h
  split at h
  ·rename_i t ht
   have hxt:x = .tmp t:=by cases x<;>simp [ZK] at ht;rw [ht]
   subst hxt
   have heval:∀ v:BE,gE E s t = .c (.bool v)→Act.eval ⟨tm,[]⟩ (.tmp t) = .bool (v.den ρ):=by
    intro v hv
    have hrel:=hsim.rel t
    have:ZE E s ρ t = .val (.bool (v.den ρ)):=by simp only [ZE,hv,SV.den,SC.den]
    rw [this] at hrel
    exact YR hrel
   split at h
   ·rename_i v hv
    have he:=heval _ hv
    simp only [BE.den] at he
    split at h
    ·rename_i hvt
     subst hvt
     exact wp_cond_true he (iha lv n s kn kx kr A ρ tm w lim X Q hs h hsim hn hx hr)
    ·rename_i hvt
     have:v=Xc:=by simpa using hvt
     subst this
     exact wp_cond_false he (ihb lv n s kn kx kr A ρ tm w lim X Q hs h hsim hn hx hr)
   ·rename_i v _ hv
    refine wp_cond_split (heval v hv) (fun hv'=>?_) fun hv'=>?_
    ·obtain ⟨hlt,hsame⟩:=Zag hnt hv hv'
     exact iha lv n _ kn kx kr A ρ tm w lim X Q (JI (x:=.c (.bool (.lit Xb))) hnt hlt hs trivial) (h.1 hv') (by rw [hsame];exact hsim) hn hx hr
    ·obtain ⟨hlt,hsame⟩:=Zag hnt hv hv'
     exact ihb lv n _ kn kx kr A ρ tm w lim X Q (JI (x:=.c (.bool (.lit Xc))) hnt hlt hs trivial) (h.2 hv') (by rw [hsame];exact hsim) hn hx hr
   ·exact h.elim
  ·exact h.elim
 | block id body ih =>
  intro lv n s kn kx kr A ρ tm w lim X Q hs h hsim hn hx hr
  refine wp_block (ih lv n s kn _ kr A ρ tm w lim X _ hs h hsim hn ?_ hr)
  intro id' s' n' ρ' A' hA hs' h' tm' w' lim' X' hsim'
  unfold Exit.inBlock
  by_cases hid:id'=id
  ·rw [if_pos hid] at h'
   simp only [hid,if_true]
   exact hn s' n' ρ' A' hA hs' h' tm' w' lim' X' hsim'
  ·rw [if_neg hid] at h'
   simp only [hid,if_false]
   exact hx id' s' n' ρ' A' hA hs' h' tm' w' lim' X' hsim'
 | scope body ih =>
  intro lv n s kn kx kr A ρ tm w lim X Q hs h hsim hn hx hr
  exact wp_scope_straight (ih lv n s kn kx kr A ρ tm w lim X _ hs h hsim hn hx hr)
 | loop body ih =>
  intro lv n s kn kx kr A ρ tm w lim X Q hs h hsim hn hx hr
  simp only [ev] at h
  split at h
  case isFalse=>exact h.elim
  rename_i hok
  split at h
  case h_2=>exact h.elim
  rename_i init hinit
  obtain ⟨I,m,h0,hround⟩:=h
  have hlen:∀ {s':Tr} {ves:List VE},Ky P (gE E s') (E.keep (Jq body))=Xa ves→(Jd (E.keep (Jq body)) 0).2=ves.length:=by
   intro s' ves hv
   have:=(VH (P:=P) (g:=gE E s') (ρ:=ρ) _ 0 ves [] hv rfl).1
   omega
  have key:∀ (k:Nat) (vs:List V) (tm:Array Value) (w:World) (lim:Lm) (X:Nat→Nat→Option Nat),m vs < k→vs.length=init.length→I vs→
    Sim c (ZE E (Z0 (Jd (E.keep (Jq body)) 0).1 (.leaf .dead)) (bind ZgY 0 vs)) tm w lim X→Code.rounds P body Q k ⟨tm,[]⟩ w:=by
   intro k
   induction k with
   | zero => intro vs tm w lim X hlt; omega
   | succ k ihk =>
    intro vs tm w lim X hlt hlv hI hsim
    rw [rounds_succ]
    obtain ⟨k1,k2,k3,k4,k5,k6⟩:=Zat hok
    have hbd:YY E (Z0 (Jd (E.keep (Jq body)) 0).1 (.leaf .dead)) (Jd (E.keep (Jq body)) 0).2:=by
     refine Jf hnt _ _ ?_ (fun d=>?_) (Zfu _ 0).2
     ·unfold YL
      rw [XE]
      intro u hu
      have h2:=(VH (P:=P) (g:=gE E s) (ρ:=ρ) _ 0 init [] hinit rfl).2.1
      have hm:u.1∈(E.keep (Jq body)).map (·.1):=by rw [← h2];exact Xj.2 ⟨u,hu,rfl⟩
      obtain ⟨p,hp,he⟩:=Xj.1 hm
      have:=(k2 p hp).1
      rw [he] at this
      simpa using this
     ·unfold gE
      split<;>trivial
    refine ih (lv+1) _ _ _ kx kr _ (bind ZgY 0 vs) tm w lim X _ hbd (hround vs hlv hI) hsim ?_ ?_ ?_
    ·intro s' n' ρ' A' hA hs' h' tm' w' lim' X' hsim'
     split at h'
     ·rename_i vals hvals
      have hAl:A' lv=fun vs'=>I vs'∧m vs' < m vs:=by
       rw [hA lv (Wp _)]
       funext vs'
       simp only [Zs9,if_true]
      have h'':A' lv (vals.map (VE.den ρ')):=h'
      rw [hAl] at h''
      obtain ⟨hI',hm'⟩:=h''
      obtain ⟨X2,hs2⟩:=ZjS hnt hcP hcn hpin hgpin hok ZgY hvals hsim'
      exact ihk _ tm' w' lim' X2 (by omega) (by rw [Xq,← hlen hvals,hlen hinit]) hI' hs2
     ·exact h'.elim
    ·intro id s' n' ρ' A' hA hs' h' tm' w' lim' X' hsim'
     exact hx id s' n' ρ' A' (fun i hi=>by rw [hA i (by omega)];funext vs';simp only [Zs9,Nat.ne_of_lt hi,if_false]) hs' h' tm' w' lim' X' hsim'
    ·intro s' n' ρ' A' hA hs' h' tm' w' lim' X' hsim'
     exact hr s' n' ρ' A' (fun i hi=>by rw [hA i (by omega)];funext vs';simp only [Zs9,Nat.ne_of_lt hi,if_false]) hs' h' tm' w' lim' X' hsim'
  obtain ⟨X0,hs0⟩:=ZjS hnt hcP hcn hpin hgpin hok ZgY hinit hsim
  exact wp_loop_rounds _ (key (m (init.map (VE.den ρ))+1) _ tm w lim X0 (Wp _) (by rw [Xq]) h0 hs0)
 | region id ops draw =>
  intro lv n s0 kn kx kr A ρ tm w lim0 X0 Q hs0 h hsim0 hn hx hr
  simp only [ev] at h
  obtain ⟨hs,lim,X,hsim⟩:=Zf8 (P:=P) hnt hcP (id:=id) (ops:=ops) hs0 hsim0
  generalize ZsU P E id ops s0=s at h hs hsim
  split at h
  ·rename_i f hf
   split at hf
   ·exact ZgI hm hps hnt hf hcP hcn hs h hsim fun s' n' ρ'=>hn s' n' ρ' A fun _ _=>rfl
   ·cases hf
  rename_i hpn
  clear hpn
  split at h
  ·rename_i x a d T neg htest
   split at h
   case h_2=>exact h.elim
   rename_i e l hT hl
   split at h
   case isFalse=>exact h.elim
   rename_i hh
   obtain ⟨ha,hd,hma,hmd,had,hxa⟩:=hh
   obtain ⟨o,p,U,hops,hgo,hgp,h1,h2,h3,h4⟩:=Zhz htest
   have hnq:(∀ p,gE E s x = .c (.cel p)→(ptE .pisl p).den ρ≠[])∧(STree.nilq l n (kn ((s.set depth a .dead).set depth d (.c (.bool (if neg=Xb then .not (.var n) else .var n)))) (n+1))).wp P R A ρ:=by
    unfold Zqo at h
    split at h
    ·rename_i p hgp
     exact ⟨fun p' hp'=>by rw [hgp] at hp';cases hp';exact h.1,h.2⟩
    ·rename_i hno
     exact ⟨fun p' hp'=>(hno p' hp').elim,h⟩
   obtain ⟨hnq,h⟩:=hnq
   obtain ⟨va,k,cap,hv,hnil⟩:=Zll hl hnq (show ZQ P w lim X (ZE E s ρ) x (ZE E s ρ x) (tm.getD x undef) from hcP ▸ hsim.rel x)
   have hsz:ops.size=2:=by rw [← Uj,hops];rfl
   have ho0:ops[0]? = Xa o:=by rw [← Ud,hops];rfl
   have ho1:ops[1]? = Xa p:=by rw [← Ud,hops];rfl
   refine wp_region ?_
   rw [hsz,show Wf 2 = [0,1] from rfl,wpOps_cons]
   unfold wpOp
   simp only [ho0,Region.wanted,hgo]
   simp only [if_true]
   refine .inl (Zi (v:=.slice va k cap) (w':=w) ?_ ?_)
   ·have hev:Act.eval ⟨tm,[]⟩ (.tmp x)=tm.getD x undef:=rfl
    simp only [execOp,h1,hev,hv,Sem.run_pure]
   ·rw [wpOps_cons]
    unfold wpOp
    simp only [ho1,Region.wanted,hgp]
    simp only [if_true]
    have hea:Act.eval (Act.put ⟨tm,[]⟩ o.dst (.slice va k cap)) (.tmp a) = .slice va k cap:=by
     rw [h2]
     exact Jp tm a _ (by rw [hsim.size,hcn];exact ha)
    refine .inl (Zi (v:=.bool (if neg=Xb then !va.isNone else va.isNone)) (w':=w) ?_ ?_)
    ·have hec:Act.eval (Act.put ⟨tm,[]⟩ o.dst (.slice va k cap)) (.const (.slice Xe 0 0)) = .slice Xe 0 0:=rfl
     have heq:=run_equal_slice_nil (P:=P) w T _ va k cap hT
     cases neg
     ·simp [execOp,h3,hea,hec,eqGuard,binOp,heq]
     ·simp [execOp,h3,hea,hec,eqGuard,binOp,heq]
    ·have hb:=h va.isNone hnil
     have hna:Kz (ZE E s ρ a):=ZA (JP (a:=gE E s a) (b:=.dead) ρ hma)
     have hnd:Kz (ZE E s ρ d):=ZA (JP (a:=gE E s d) (b:=.dead) ρ hmd)
     have s1:=hsim.put (k:=0) (x:=.dead) (v:=.slice va k cap) (by rw [hcn];exact ha) hna rfl trivial
     have s2:=s1.put (d:=d) (k:=0) (x:=.val (.bool (if neg=Xb then !va.isNone else va.isNone))) (v:=.bool (if neg=Xb then !va.isNone else va.isNone)) (by rw [hcn];exact hd) (by rw [Zb _ _ (Ne.symm had)];exact hnd) rfl (Rep.val rfl)
     have hbv:(BE.den (bind ρ n [.b va.isNone]) (if neg=Xb then .not (.var n) else .var n))=(if neg=Xb then !va.isNone else va.isNone):=by
      have hvar:bind ρ n [.b va.isNone] n = .b va.isNone:=by simp [bind]
      cases neg
      ·simp only [Uh,if_false,BE.den,hvar,V.bool]
      ·simp only [if_true,BE.den,hvar,V.bool]
     have hσ:ZE E ((s.set depth a .dead).set depth d (.c (.bool (if neg=Xb then .not (.var n) else .var n)))) (bind ρ n [.b va.isNone])=upd (upd (ZE E s ρ) a .dead) d (.val (.bool (if neg=Xb then !va.isNone else va.isNone))):=by
      rw [JX hnt (Jt hd),JX hnt (Jt ha),ZbW hs (Yx ρ n _)]
      simp only [SV.den,SC.den,hbv]
     have hs2:YY E ((s.set depth a .dead).set depth d (.c (.bool (if neg=Xb then .not (.var n) else .var n)))) (n+1):=by
      refine JI hnt (Jt hd) (JI hnt (Jt ha) (Zdj hs (Nat.le_succ n)) trivial) ?_
      cases neg
      ·exact Wp n
      ·exact Wp n
     rw [h2,h4]
     show Q .normal ⟨(tm.setIfInBounds a (.slice va k cap)).setIfInBounds d (.bool (if neg=Xb then !va.isNone else va.isNone)),[]⟩ w
     exact hn _ _ _ A (fun _ _=>rfl) hs2 hb _ w lim _ (by rw [hσ];exact s2)
  ·split at h
   ·rename_i x i a b cc T htest _
    split at h
    case h_3=>exact h.elim
    case h_2=>
     rename_i e p ie hT hgx hgi
     split at h
     case h_2=>exact h.elim
     rename_i inf d l sh hinf hl hsh
     split at h
     case h_2=>exact h.elim
     rename_i z hz
     split at h
     case h_2=>exact h.elim
     rename_i zc hzc
     split at h
     case h_2=>exact h.elim
     rename_i zc' hzc'
     split at h
     case isFalse=>exact h.elim
     rename_i hh
     obtain ⟨hzs,h0,hok⟩:=hh
     simp only [ZfO,Xs,decide_eq_true_eq] at hok
     obtain ⟨⟨hxn,han,hbn,hcn',hxa,hxb,hxc,hia,hab,hac,hbc⟩,hma,hmb,hmc⟩:=hok
     obtain ⟨r0,r1,r2,h⟩:=h
     have hgd:=Zac hl
     have hdt:d < E.top:=by
      rcases Xx d E.top with h | h
      ·exact h
      ·have:gE E s d = .dead:=Zaa s d h
       rw [hgd] at this;cases this
     have hda:d≠a:=fun e=>by rw [← e,hgd] at hma;cases hma
     have hdb:d≠b:=fun e=>by rw [← e,hgd] at hmb;cases hmb
     have hdc:d≠cc:=fun e=>by rw [← e,hgd] at hmc;cases hmc
     have hokv:=Za7 (show okL (ZgG e inf.size (l.den ρ) (Zk (p.den ρ)))≠[] from r0)
     obtain ⟨e',j,m,hce⟩:=Zgu hokv
     have r1':(0:Int)≤ie.den ρ:=r1
     have r2':ie.den ρ≤(((ptE .plen p).den ρ).length:Int):=r2
     rw [WH hce] at r2'
     obtain ⟨o,p0,q,r,hops,hgo,hgp,hgq,hgr,h1,h2,h3,h4,h5,h6,⟨cl,h7,h9,h10,h11⟩,h8⟩:=W9 htest
     have hσx:ZE E s ρ x=Zk (p.den ρ):=by show (gE E s x).den ρ=_;rw [hgx];rfl
     have hσi:ZE E s ρ i = .val (.int .i64 (ie.den ρ)):=by show (gE E s i).den ρ=_;rw [hgi];rfl
     have hσd:ZE E s ρ d = .store (l.den ρ):=by show (gE E s d).den ρ=_;rw [hgd];rfl
     have hrx:Rep w lim (Zk (p.den ρ)) (tm.getD x undef):=by
      have:=hsim.rel x
      rw [hσx] at this
      exact Y5 (Q:=fun z=>ZQ c.P w lim X (ZE E s ρ) x z (tm.getD x undef)→Rep w lim z (tm.getD x undef)) _ (fun _ _ h=>h) (fun _ _ _ h=>h) (fun _ h=>h) (fun _ _ h=>h) this
     have hzd:=YV ρ z.cells.toList
     rw [hzc] at hzd
     have hzr0:∀ (w:World) (lim:Lm),JJ w lim (zc.map (SC.den ρ)) z.cells.toList:=fun w lim=>J6 (h:=hzd.symm)
     have hzr:∀ (w:World) (lim:Lm),JJ w lim (zc'.map (SC.den ρ)) z.cells.toList:=fun w lim=>Zdk ρ _ _ _ hzc' w lim _ (hzr0 w lim)
     have h1z:∀ v∈z.cells.toList,v.oneCell'=Xb:=by
      intro v hv
      obtain ⟨j,hj⟩:=XK.1 hv
      have hjl:=(Xi.1 hj).1
      have hr0:=hzr0 w lim
      have hjz:j < (zc.map (SC.den ρ)).length:=by rw [hr0.1];exact hjl
      exact (hr0.2.2 j _ v (Xp hjz) hj).oneCell (hr0.2.1 _ (Wl hjz))
     obtain ⟨v2,w',X',hsl,hcl,hs'⟩:=Zlv hsim (d:=d) (x:=x) (n:=(ie.den ρ).toNat) (T:=T) (zc:=zc'.map (SC.den ρ)) hσd hrx (YT _) hokv (by rw [hcP];exact hT) (by rw [hcP];exact hinf) hz hzs hzr h1z (by rw [hce];show (ie.den ρ).toNat≤m;omega)
     rw [hcP] at hsl hcl
     have hvi:tm.getD i undef = .int .i64 (ie.den ρ):=by
      have:=hsim.rel i
      rw [hσi] at this
      exact YR (show Rep w lim _ _ from this)
     have hin:((ie.den ρ).toNat:Int)=ie.den ρ:=by omega
     rw [hin] at hsl
     have hsz:ops.size=4:=by rw [← Uj,hops];rfl
     have ho0:ops[0]? = Xa o:=by rw [← Ud,hops];rfl
     have ho1:ops[1]? = Xa p0:=by rw [← Ud,hops];rfl
     have ho2:ops[2]? = Xa q:=by rw [← Ud,hops];rfl
     have ho3:ops[3]? = Xa r:=by rw [← Ud,hops];rfl
     have hts:tm.size=E.nt:=by rw [hsim.size,hcn]
     refine wp_region ?_
     rw [hsz,show Wf 4 = [0,1,2,3] from rfl,wpOps_cons]
     unfold wpOp
     simp only [ho0,Region.wanted,hgo]
     simp only [if_true]
     refine .inl (Zi (v:=tm.getD x undef) (w':=w) ?_ ?_)
     ·have hev:Act.eval ⟨tm,[]⟩ (.tmp x)=tm.getD x undef:=rfl
      simp only [execOp,h1,hev,Sem.run_pure]
     rw [wpOps_cons]
     unfold wpOp
     simp only [ho1,Region.wanted,hgp]
     simp only [if_true]
     have e1:Act.eval (Act.put ⟨tm,[]⟩ o.dst (tm.getD x undef)) (.tmp i) = .int .i64 (ie.den ρ):=by
      rw [h2]
      exact (ZD tm a i _ hia).trans hvi
     refine .inl (Zi (v:=.int .i64 (ie.den ρ)) (w':=w) ?_ ?_)
     ·simp only [execOp,h3,e1,Sem.run_pure]
     rw [wpOps_cons]
     unfold wpOp
     simp only [ho2,Region.wanted,hgq]
     simp only [if_true]
     have e2:Act.eval (Act.put (Act.put ⟨tm,[]⟩ o.dst (tm.getD x undef)) p0.dst (.int .i64 (ie.den ρ))) (.tmp a)=tm.getD x undef:=by
      rw [h2,h4]
      exact (ZD _ b a _ hab).trans (Jp tm a _ (by rw [hts];exact han))
     have e3:Act.eval (Act.put (Act.put ⟨tm,[]⟩ o.dst (tm.getD x undef)) p0.dst (.int .i64 (ie.den ρ))) (.tmp b) = .int .i64 (ie.den ρ):=by
      rw [h2,h4]
      exact Jp _ b _ (by show b < (tm.setIfInBounds a _).size;rw [U6,hts];exact hbn)
     refine .inl (Zi (v:=v2) (w':=w) ?_ ?_)
     ·simp only [execOp,h5,Xo,Tf,Sem.run_bind,e2,e3,hsl,Result.andThen_ok,Sem.run_pure]
     rw [wpOps_cons]
     unfold wpOp
     simp only [ho3,Region.wanted,hgr]
     simp only [if_true]
     have e4:Act.eval (Act.put (Act.put (Act.put ⟨tm,[]⟩ o.dst (tm.getD x undef)) p0.dst (.int .i64 (ie.den ρ))) q.dst v2) (.tmp cc)=v2:=by
      rw [h2,h4,h6]
      exact Jp _ cc _ (by show cc < ((tm.setIfInBounds a _).setIfInBounds b _).size;rw [U6,U6,hts];exact hcn')
     refine .inl (Zi (v:=.tuple #[]) (w':=w') ?_ ?_)
     ·simp only [execOp,h7,h9,h10,h11,resolve,invoke,builtin,Sem.run_bind,Sem.run_pure,Result.andThen_ok,Wn,Xg,Xz,e4,hcl]
     have hna:Kz (ZE E s ρ a):=ZA (JP (a:=gE E s a) (b:=.dead) ρ hma)
     have hnb:Kz (ZE E s ρ b):=ZA (JP (a:=gE E s b) (b:=.dead) ρ hmb)
     have hnc:Kz (ZE E s ρ cc):=ZA (JP (a:=gE E s cc) (b:=.dead) ρ hmc)
     have s1:=hs'.put (d:=a) (k:=0) (x:=.dead) (v:=tm.getD x undef) (by rw [hcn];exact han) (by rw [Zb _ _ (Ne.symm hda)];exact hna) rfl trivial
     have s2:=s1.put (d:=b) (k:=0) (x:=.dead) (v:=.int .i64 (ie.den ρ)) (by rw [hcn];exact hbn) (by rw [Zb _ _ (Ne.symm hab),Zb _ _ (Ne.symm hdb)];exact hnb) rfl trivial
     have s3:=s2.put (d:=cc) (k:=0) (x:=.dead) (v:=v2) (by rw [hcn];exact hcn') (by rw [Zb _ _ (Ne.symm hbc),Zb _ _ (Ne.symm hac),Zb _ _ (Ne.symm hdc)];exact hnc) rfl trivial
     have hlist:(stE (.clr inf.size) l ie p (Zaj zc')).den ρ=Zry inf.size (l.den ρ) (Zk (p.den ρ)) (ie.den ρ).toNat (zc'.map (SC.den ρ)):=by
      show Zry inf.size (l.den ρ) (Zk (p.den ρ)) (ie.den ρ).toNat ((Zaj zc').den ρ)=_
      rw [Yh]
     have bx:(gE E s x).bd n:=hs x
     have bi:(gE E s i).bd n:=hs i
     have bd:(gE E s d).bd n:=hs d
     rw [hgx] at bx
     rw [hgi] at bi
     rw [hgd] at bd
     have hσ:ZE E ((((s.set depth d (.store (stE (.clr inf.size) l ie p (Zaj zc')))).set depth a .dead).set depth b .dead).set depth cc .dead) ρ=upd (upd (upd (upd (ZE E s ρ) d (.store (Zry inf.size (l.den ρ) (Zk (p.den ρ)) (ie.den ρ).toNat (zc'.map (SC.den ρ))))) a .dead) b .dead) cc .dead:=by
      rw [JX hnt (Jt hcn'),JX hnt (Jt hbn),JX hnt (Jt han),JX hnt hdt]
      simp only [SV.den,hlist]
     have hs2:YY E ((((s.set depth d (.store (stE (.clr inf.size) l ie p (Zaj zc')))).set depth a .dead).set depth b .dead).set depth cc .dead) n:=
      JI hnt (Jt hcn') (JI hnt (Jt hbn) (JI hnt (Jt han) (JI hnt hdt hs ⟨bd,bi,bx,Ka _ (WP _ _ _ hzc' (KR hzc))⟩) trivial) trivial) trivial
     rw [h2,h4,h6,h8]
     exact hn _ _ ρ A (fun _ _=>rfl) hs2 h _ w' lim _ (by rw [hσ];exact s3)
    rename_i e0 e l ie hT hgx hgi
    split at h
    case h_2=>exact h.elim
    rename_i inf hinf
    split at h
    case h_2=>exact h.elim
    rename_i z hz
    split at h
    case h_2=>exact h.elim
    rename_i zc sh hzc hsh
    split at h
    case h_2=>exact h.elim
    rename_i zc' hzc'
    split at h
    case isFalse=>exact h.elim
    rename_i hh
    obtain ⟨rfl,hzs,⟨h0,hnm⟩,hok⟩:=hh
    simp only [ZfO,Xs,decide_eq_true_eq] at hok
    obtain ⟨⟨hxn,han,hbn,hcn',hxa,hxb,hxc,hia,hab,hac,hbc⟩,hma,hmb,hmc⟩:=hok
    obtain ⟨r1,r2,h⟩:=h
    have r1':(0:Int)≤ie.den ρ:=r1
    have r2':ie.den ρ≤((l.den ρ).length:Int):=r2
    obtain ⟨o,p,q,r,hops,hgo,hgp,hgq,hgr,h1,h2,h3,h4,h5,h6,⟨cl,h7,h9,h10,h11⟩,h8⟩:=W9 htest
    have hσx:ZE E s ρ x = .own Xb e (l.den ρ):=by show (gE E s x).den ρ=_;rw [hgx];rfl
    have hσi:ZE E s ρ i = .val (.int .i64 (ie.den ρ)):=by show (gE E s i).den ρ=_;rw [hgi];rfl
    have hzd:=YV ρ z.cells.toList
    rw [hzc] at hzd
    have hzr0:∀ (w:World) (lim:Lm),JJ w lim (zc.map (SC.den ρ)) z.cells.toList:=fun w lim=>J6 (h:=hzd.symm)
    have hzr:∀ (w:World) (lim:Lm),JJ w lim (zc'.map (SC.den ρ)) z.cells.toList:=fun w lim=>(Wt ρ _ _ _ hzc').2 w lim _ (hzr0 w lim)
    have h1z:∀ v∈z.cells.toList,v.oneCell'=Xb:=by
     intro v hv
     obtain ⟨j,hj⟩:=XK.1 hv
     have hjl:=(Xi.1 hj).1
     have hr0:=hzr0 w lim
     have hjz:j < (zc.map (SC.den ρ)).length:=by rw [hr0.1];exact hjl
     exact (hr0.2.2 j _ v (Xp hjz) hj).oneCell (hr0.2.1 _ (Wl hjz))
    obtain ⟨v2,w',X',hsl,hcl,hs',hmx⟩:=hsim.clear (x:=x) (n:=(ie.den ρ).toNat) (T:=T) (zc:=zc'.map (SC.den ρ)) hσx (by rw [hcP];exact hT) (by rw [hcP];exact hinf) hz hzs h0 hzr h1z (by omega) (by rw [hcP];exact hnm)
    rw [hcP] at hsl hcl
    have hvi:tm.getD i undef = .int .i64 (ie.den ρ):=by
     have:=hsim.rel i
     rw [hσi] at this
     exact YR (show Rep w lim _ _ from this)
    have hin:((ie.den ρ).toNat:Int)=ie.den ρ:=by omega
    rw [hin] at hsl
    have hsz:ops.size=4:=by rw [← Uj,hops];rfl
    have ho0:ops[0]? = Xa o:=by rw [← Ud,hops];rfl
    have ho1:ops[1]? = Xa p:=by rw [← Ud,hops];rfl
    have ho2:ops[2]? = Xa q:=by rw [← Ud,hops];rfl
    have ho3:ops[3]? = Xa r:=by rw [← Ud,hops];rfl
    have hts:tm.size=E.nt:=by rw [hsim.size,hcn]
    refine wp_region ?_
    rw [hsz,show Wf 4 = [0,1,2,3] from rfl,wpOps_cons]
    unfold wpOp
    simp only [ho0,Region.wanted,hgo]
    simp only [if_true]
    refine .inl (Zi (v:=tm.getD x undef) (w':=w) ?_ ?_)
    ·have hev:Act.eval ⟨tm,[]⟩ (.tmp x)=tm.getD x undef:=rfl
     simp only [execOp,h1,hev,Sem.run_pure]
    rw [wpOps_cons]
    unfold wpOp
    simp only [ho1,Region.wanted,hgp]
    simp only [if_true]
    have e1:Act.eval (Act.put ⟨tm,[]⟩ o.dst (tm.getD x undef)) (.tmp i) = .int .i64 (ie.den ρ):=by
     rw [h2]
     exact (ZD tm a i _ hia).trans hvi
    refine .inl (Zi (v:=.int .i64 (ie.den ρ)) (w':=w) ?_ ?_)
    ·simp only [execOp,h3,e1,Sem.run_pure]
    rw [wpOps_cons]
    unfold wpOp
    simp only [ho2,Region.wanted,hgq]
    simp only [if_true]
    have e2:Act.eval (Act.put (Act.put ⟨tm,[]⟩ o.dst (tm.getD x undef)) p.dst (.int .i64 (ie.den ρ))) (.tmp a)=tm.getD x undef:=by
     rw [h2,h4]
     exact (ZD _ b a _ hab).trans (Jp tm a _ (by rw [hts];exact han))
    have e3:Act.eval (Act.put (Act.put ⟨tm,[]⟩ o.dst (tm.getD x undef)) p.dst (.int .i64 (ie.den ρ))) (.tmp b) = .int .i64 (ie.den ρ):=by
     rw [h2,h4]
     exact Jp _ b _ (by show b < (tm.setIfInBounds a _).size;rw [U6,hts];exact hbn)
    refine .inl (Zi (v:=v2) (w':=w) ?_ ?_)
    ·simp only [execOp,h5,Xo,Tf,Sem.run_bind,e2,e3,hsl,Result.andThen_ok,Sem.run_pure]
    rw [wpOps_cons]
    unfold wpOp
    simp only [ho3,Region.wanted,hgr]
    simp only [if_true]
    have e4:Act.eval (Act.put (Act.put (Act.put ⟨tm,[]⟩ o.dst (tm.getD x undef)) p.dst (.int .i64 (ie.den ρ))) q.dst v2) (.tmp cc)=v2:=by
     rw [h2,h4,h6]
     exact Jp _ cc _ (by show cc < ((tm.setIfInBounds a _).setIfInBounds b _).size;rw [U6,U6,hts];exact hcn')
    refine .inl (Zi (v:=.tuple #[]) (w':=w') ?_ ?_)
    ·simp only [execOp,h7,h9,h10,h11,resolve,invoke,builtin,Sem.run_bind,Sem.run_pure,Result.andThen_ok,Wn,Xg,Xz,e4,hcl]
    have hna:Kz (ZE E s ρ a):=ZA (JP (a:=gE E s a) (b:=.dead) ρ hma)
    have hnb:Kz (ZE E s ρ b):=ZA (JP (a:=gE E s b) (b:=.dead) ρ hmb)
    have hnc:Kz (ZE E s ρ cc):=ZA (JP (a:=gE E s cc) (b:=.dead) ρ hmc)
    have s1:=hs'.put (d:=a) (k:=0) (x:=.dead) (v:=tm.getD x undef) (by rw [hcn];exact han) (by rw [Zb _ _ (Ne.symm hxa)];exact hna) rfl trivial
    have s2:=s1.put (d:=b) (k:=0) (x:=.dead) (v:=.int .i64 (ie.den ρ)) (by rw [hcn];exact hbn) (by rw [Zb _ _ (Ne.symm hab),Zb _ _ (Ne.symm hxb)];exact hnb) rfl trivial
    have s3:=s2.put (d:=cc) (k:=0) (x:=.dead) (v:=v2) (by rw [hcn];exact hcn') (by rw [Zb _ _ (Ne.symm hbc),Zb _ _ (Ne.symm hac),Zb _ _ (Ne.symm hxc)];exact hnc) rfl trivial
    have hwr:iop .sub .i64 ((l.den ρ).length:Int) (ie.den ρ)=((l.den ρ).length:Int)-ie.den ρ:=by
     show IntKind.i64.wrap _=_
     rw [IntKind.wrap_i64]
     unfold maxLen at hmx
     omega
    have hlist:(LE.app (.take l ie) (.rep (.bin .sub .i64 (.len l) ie) (Zaj zc'))).den ρ=(l.den ρ).take (ie.den ρ).toNat++Xm ((l.den ρ).length-(ie.den ρ).toNat) (zc'.map (SC.den ρ)):=by
     show (l.den ρ).take (ie.den ρ).toNat++Xm (iop .sub .i64 ((l.den ρ).length:Int) (ie.den ρ)).toNat ((Zaj zc').den ρ)=_
     rw [hwr,Yh]
     congr 2
     omega
    have bx:(gE E s x).bd n:=hs x
    have bi:(gE E s i).bd n:=hs i
    rw [hgx] at bx
    rw [hgi] at bi
    have hσ:ZE E ((((s.set depth x (.own Xb e (.app (.take l ie) (.rep (.bin .sub .i64 (.len l) ie) (Zaj zc'))))).set depth a .dead).set depth b .dead).set depth cc .dead) ρ=upd (upd (upd (upd (ZE E s ρ) x (.own Xb e ((l.den ρ).take (ie.den ρ).toNat++Xm ((l.den ρ).length-(ie.den ρ).toNat) (zc'.map (SC.den ρ))))) a .dead) b .dead) cc .dead:=by
     rw [JX hnt (Jt hcn'),JX hnt (Jt hbn),JX hnt (Jt han),JX hnt (Jt hxn)]
     simp only [SV.den,hlist]
    have hs2:YY E ((((s.set depth x (.own Xb e (.app (.take l ie) (.rep (.bin .sub .i64 (.len l) ie) (Zaj zc'))))).set depth a .dead).set depth b .dead).set depth cc .dead) n:=
     JI hnt (Jt hcn') (JI hnt (Jt hbn) (JI hnt (Jt han) (JI hnt (Jt hxn) hs ⟨⟨bx,bi⟩,⟨bx,bi⟩,Ka _ (Vk _ _ _ hzc' (KR hzc))⟩) trivial) trivial) trivial
    rw [h2,h4,h6,h8]
    exact hn _ _ ρ A (fun _ _=>rfl) hs2 h _ w' lim _ (by rw [hσ];exact s3)
   ·exact Zhb hm hps hnt (fun d j=>ZsB) (fun d hd=>WR ρ hd) hs h hcP hcn hsim fun s' n' ρ' hs' h'=>hn s' n' ρ' A (fun _ _=>rfl) hs' h'
 | _ => intro lv n s kn kx kr A ρ tm w lim X Q hs h hsim hn hx hr; exact h.elim
end
def Wx (tm:Array Value):ResultVar→Sem Value
 | .tmp t => pure (tm.getD t undef)
 | .cell a t => do loadVar t (← asAddr (tm.getD a undef))
def Zbl:ResultVar→Nat
 | .tmp _ => 0
 | .cell _ _ => 1
theorem Zlw (fn:Func) (tm:Array Value):results fn tm=(do
  let vs ← fn.results.mapM (Wx tm)
  pure (if h:vs.size=1 then vs[0] else .tuple vs)):=by
 unfold results
 congr 1
theorem ZjR {P:Program} {w:World} {f:ResultVar→Sem Value} : ∀ (rs:List ResultVar) (vs:List Value),rs.length=vs.length→
  (∀ (i:Nat) (r:ResultVar) (v:Value),rs[i]? = Xa r→vs[i]? = Xa v→(f r).run P w = .ok v w)→(rs.mapM f).run P w = .ok vs w
 | [], [], _, _ => by simp
 | [], _ :: _, h, _ => by simp at h
 | _ :: _, [], h, _ => by simp at h
 | r :: rs, v :: vs, h, hf => by
  have h1:=hf 0 r v rfl rfl
  have h2:=ZjR rs vs (by simpa using h) fun i r' v' hr hv=>hf (i+1) r' v' (by simpa using hr) (by simpa using hv)
  simp [List.mapM_cons,h1,h2]
theorem VL {P:Program} {w:World} {fn:Func} {tm:Array Value} {vs:List Value} (hl:fn.results.toList.length=vs.length)
  (hf:∀ (i:Nat) (r:ResultVar) (v:Value),fn.results.toList[i]? = Xa r→vs[i]? = Xa v→(Wx tm r).run P w = .ok v w) :
  (results fn tm).run P w = .ok (match vs with | [v]=>v | vs=>.tuple vs.toArray) w:=by
 have h:=ZjR _ _ hl hf
 rw [Zlw,Array.mapM_eq_mapM_toList]
 simp only [Sem.run_bind,Sem.run_map,h,Result.andThen_ok]
 rcases vs with _ | ⟨v,_ | ⟨u,l⟩⟩ <;> simp
section
variable {P:Program} {E:Env}
theorem Zh9 {c:Ctx} (hc:c.P=P) {s:Tr} {ρ:Nat→V} {tm:Array Value} {w:World} {lim:Lm} {X:Nat→Nat→Option Nat} (hs:Sim c (ZE E s ρ) tm w lim X) {r:ResultVar} {x:TC}
  (h:Vt P (gE E s) r=Xa x):∃ v,(Wx tm r).run P w = .ok v w∧J8 P w lim (X (Je r) (Zbl r)) (x.den ρ) v:=by
 cases r with
 | tmp t =>
  have hr:=hs.rel t
  simp only [Vt] at h
  split at h
  ·rename_i y hy
   simp only [Xf] at h
   subst h
   have:ZE E s ρ t=y.den ρ:=by simp only [ZE,hy,SV.den]
   rw [this] at hr
   refine ⟨_,rfl,?_⟩
   cases y with
   | cel p => exact Y5 (Q := fun z => ZQ c.P w lim X (ZE E s ρ) t z (tm.getD t undef) → J8 P w lim (X t 0) z (tm.getD t undef)) _ (fun _ _ h => h) (fun _ _ _ h => h) (fun _ h => h) (fun _ _ h => h) hr
   | _ => exact hr
  ·rename_i cs hy
   simp only [Xf] at h
   subst h
   have:ZE E s ρ t = .agg (cs.map (SC.den ρ)):=by simp only [ZE,hy,SV.den]
   rw [this] at hr
   exact ⟨_,rfl,hr⟩
  ·rename_i b e xs hy
   simp only [Xf] at h
   subst h
   have:ZE E s ρ t = .own b e (xs.den ρ):=by simp only [ZE,hy,SV.den]
   rw [this,hc] at hr
   exact ⟨_,rfl,hr⟩
  ·cases h
 | cell t T =>
  have hr:=hs.rel t
  simp only [Vt] at h
  split at h
  ·rename_i cs hT hy
   split at h
   ·rename_i hl
    simp only [Xf] at h
    subst h
    have:ZE E s ρ t = .box (cs.map (BC.den ρ)):=by simp only [ZE,hy,SV.den]
    rw [this,hc] at hr
    obtain ⟨b,us,g1,g2,g3,g4,g5,g6⟩:=ZG.part (show ZG P w lim (X t) _ _ from hr) 0 (P.cellsOf T) (by simp [hl.1]) (by rw [UH,Um (by simp [hl.1])];exact Zdm hl.2.1 ρ) (by rw [UH,Um (by simp [hl.1])];exact WB hl.2.2 ρ)
    refine ⟨.agg us.toArray,?_,?_⟩
    ·obtain ⟨i,hi⟩:=Zbw hT
     have hl2:=run_loadCells_list (P:=P) w ⟨b,0,Xe⟩ us (fun j v hj=>by rw [Jc];exact g4 j v hj)
     rw [g3] at hl2
     simp [Wx,g2,asAddr,loadVar,WN hT,Zu hi,hl2]
    ·have he:(TC.agg (cs.map (ZeT P))).den ρ = .agg ((((cs.map (BC.den ρ)).drop 0).take (P.cellsOf T)).map (YI P)):=by
      rw [UH,Um (by simp [hl.1])]
      simp only [TC.den,X6]
      congr 1
      exact List.map_congr_left fun b _=>Zfb P ρ b
     rw [he]
     exact .agg (by simp [g3,hl.1]) g5 g6
   ·cases h
  ·rename_i bx e xs hT hy
   simp only [Xf] at h
   subst h
   have:ZE E s ρ t = .box [.own bx e (xs.den ρ)]:=by simp only [ZE,hy,SV.den];rfl
   rw [this,hc] at hr
   obtain ⟨b,arr,ty,h1,h2,h3,h4,h5,h6,h7⟩:=(show ZG P w lim (X t) _ _ from hr)
   obtain ⟨u,hu⟩:∃ u,arr[0]? = Xa u:=⟨_,XZ (by rw [h4];simp)⟩
   refine ⟨u,?_,h7 0 _ u rfl hu⟩
   have hcell:w.cell? ⟨b,0,Xe⟩=Xa u:=by rw [Zh h3];exact hu
   simp [Wx,h2,asAddr,loadVar,VP hT,hcell]
  ·rename_i y hT hy
   simp only [Xf] at h
   subst h
   have:ZE E s ρ t = .box [y.den ρ]:=by simp only [ZE,hy,SV.den];rfl
   rw [this,hc] at hr
   obtain ⟨b,arr,ty,h1,h2,h3,h4,h5,h6,h7⟩:=(show ZG P w lim (X t) _ _ from hr)
   obtain ⟨u,hu⟩:∃ u,arr[0]? = Xa u:=⟨_,XZ (by rw [h4];simp)⟩
   have h70:=h7 0 _ u rfl hu
   refine ⟨u,?_,by cases y<;>exact h70⟩
   have hcell:w.cell? ⟨b,0,Xe⟩=Xa u:=by rw [Zh h3];exact hu
   simp [Wx,h2,asAddr,loadVar,VP hT,hcell]
  ·cases h
theorem Zg5 {c:Ctx} (hc:c.P=P) {s:Tr} {ρ:Nat→V} {tm:Array Value} {w:World} {lim:Lm} {X:Nat→Nat→Option Nat} (hs:Sim c (ZE E s ρ) tm w lim X):∀ (rs:List ResultVar) (xs:List TC),
  VR P (gE E s) rs=Xa xs→∃ vs:List Value,rs.length=vs.length∧xs.length=vs.length∧∀ (i:Nat) (r:ResultVar) (v:Value),rs[i]? = Xa r→vs[i]? = Xa v→
   (Wx tm r).run P w = .ok v w∧∀ x,xs[i]? = Xa x→J8 P w lim (X (Je r) (Zbl r)) (x.den ρ) v
 | [], xs, h => by
  simp only [VR,Xf] at h
  subst h
  exact ⟨[],rfl,rfl,by simp⟩
 | r :: rs, xs, h => by
  simp only [VR] at h
  split at h
  ·rename_i x xs' hx hxs
   simp only [Xf] at h
   subst h
   obtain ⟨v,h1,h2⟩:=Zh9 hc hs hx
   obtain ⟨vs,g1,g2,g3⟩:=Zg5 hc hs rs xs' hxs
   refine ⟨v::vs,by simp [g1],by simp [g2],fun i r' v' hr hv=>?_⟩
   cases i with
   | zero =>
    simp only [XB,Xf] at hr hv
    subst hr
    subst hv
    refine ⟨h1,fun y hy=>?_⟩
    simp only [XB,Xf] at hy
    subst hy
    exact h2
   | succ i =>
    obtain ⟨k1,k2⟩:=g3 i r' v' (by simpa using hr) (by simpa using hv)
    exact ⟨k1,fun y hy=>k2 y (by simpa using hy)⟩
  ·cases h
theorem Zin {w:World} {lim:Lm} {X:Nat→Nat→Option Nat} {σ:Nat→AV} {d:Nat} {x:TC} {ρ:Nat→V} {v:Value} (h:J8 P w lim (X d 0) (x.den ρ) v):ZQ P w lim X σ d (x.den ρ) v:=by
 cases x with
 | c y =>
  cases y with
  | cel p => exact Y5 (Q := fun z => J8 P w lim (X d 0) z v → ZQ P w lim X σ d z v) _ (fun _ _ h => h) (fun _ _ _ h => h) (fun _ h => h) (fun _ _ h => h) h
  | _ => exact h
 | agg cs => exact h
 | own x e l => exact h
 | gone => trivial
theorem Zfr (ρ:Nat→V):∀ (aZ:List SV) (i:Nat) (σ:Nat→AV) (d:Nat),Jm σ ((Wm aZ i).map fun u=>(u.1,u.2.den ρ)) d=if i≤d∧d < i+aZ.length then ZI (aZ.map (SV.den ρ)) (d-i) else σ d
 | [], i, σ, d => by
  rw [if_neg (by simp)]
  rfl
 | a :: aZ, i, σ, d => by
  simp only [Wm,Xg,Jm]
  rw [Zfr ρ aZ (i+1)]
  by_cases h:i+1≤d∧d < i+1+aZ.length
  ·rw [if_pos h,if_pos (by simp only [XJ];omega)]
   obtain ⟨k,hk⟩:∃ k,d-i=k+1:=⟨d-i-1,by omega⟩
   rw [hk,show d-(i+1)=k by omega]
   simp [ZI]
  ·rw [if_neg h]
   by_cases hd:d=i
   ·subst hd
    rw [Zs,if_pos (by simp)]
    simp [ZI]
   ·rw [Zb _ _ hd,if_neg (by simp only [XJ];omega)]
theorem Zhj {n:Nat} : ∀ (aZ:List SV) (i:Nat),(∀ a∈aZ,a.bd n)→∀ u∈Wm aZ i,u.2.bd n
 | [], i, _, u, hu => by simp [Wm] at hu
 | a :: aZ, i, h, u, hu => by
  rcases Xl.1 hu with rfl | hu
  ·exact h a (by simp)
  ·exact Zhj aZ (i+1) (fun b hb=>h b (by simp [hb])) u hu
theorem Zfp:∀ (aZ:List SV) (i m:Nat),i+aZ.length≤m→∀ u∈Wm aZ i,u.1 < m
 | [], i, m, _, u, hu => by simp [Wm] at hu
 | a :: aZ, i, m, h, u, hu => by
  simp only [XJ] at h
  rcases Xl.1 hu with rfl | hu
  ·show i < m;omega
  ·exact Zfp aZ (i+1) m (by omega) u hu
def SV.isBx:SV→Bool
 | .box _ => Xb
 | .gbox _ => Xb
 | .store _ => Xb
 | _ => Xc
theorem Kx {a:SV} {aZ:List SV} {i:Nat} (h:Ju E (a::aZ) i=Xb):Ju E aZ (i+1)=Xb:=by
 cases a<;>simp only [Ju,Xs,Uh] at h<;>exact h.2
theorem Zaw:∀ (aZ:List SV) (i:Nat),Ju E aZ i=Xb→∀ (j:Nat) (a:SV),aZ[j]? = Xa a→(∀ cs,a = .box cs→i+j∈E.pins)∧(a.isG=Xb↔E.nt≤i+j)
 | [], i, _, j, a, h => by simp at h
 | a :: aZ, i, hf, j, b, h => by
  cases j with
  | zero =>
   simp only [XB,Xf] at h
   subst h
   refine ⟨fun cs e=>?_,?_⟩
   ·subst e
    simp only [Ju,Xs,To] at hf
    exact hf.1.2
   ·cases a<;>simp only [Ju,Xs,decide_eq_true_eq,Uh] at hf<;>simp only [SV.isG,Uh,false_iff,true_iff]<;>omega
  | succ j =>
   have:=Zaw aZ (i+1) (Kx hf) j b (by simpa using h)
   rw [show i+(j+1)=i+1+j by omega]
   exact this
theorem Zgv (g:Nat→SV):∀ (aZ:List SV) (i j:Nat),(YA g aZ i)[j]? = (aZ[j]?).map fun a=>if a.isBx=Xb then g (i+j) else .dead
 | [], i, j => by simp [YA]
 | a :: aZ, i, 0 => by cases a <;> rfl
 | a :: aZ, i, j + 1 => by
  have:=Zgv g aZ (i+1) j
  rw [show i+1+j=i+(j+1) by omega] at this
  cases a<;>simpa [YA] using this
theorem ZhD (g:Nat→SV):∀ (aZ:List SV) (i:Nat),(YA g aZ i).length=aZ.length
 | [], i => rfl
 | a :: aZ, i => by cases a <;> simp [YA, ZhD g aZ]
def ZgD (args:List SV) (rs:List ResultVar) (i k:Nat):Option (Nat×Nat):=
 if i < args.length then (if (args[i]?).map SV.isBx=Xa Xb then Xa (i,k) else Xe)
 else if i=args.length then
  match rs with
  | [r] => if k = 0 then Xa (Je r, Zbl r) else Xe
  | rs => match k with | 0 => Xe | k + 1 => (rs[k]?).map fun r => (Je r, Zbl r)
 else Xe
theorem ZjJ:∀ (rs:List ResultVar),(rs.map Je).Nodup→∀ (i j:Nat) (a b:ResultVar),rs[i]? = Xa a→rs[j]? = Xa b→Je a=Je b→i=j
 | [], _, i, j, a, b, h, _, _ => by simp at h
 | r :: rs, hn, i, j, a, b, ha, hb, he => by
  rw [Xg,XS] at hn
  cases i with
  | zero =>
   cases j with
   | zero => rfl
   | succ j =>
    simp only [XB,Xf] at ha
    subst ha
    exact (hn.1 (Xj.2 ⟨b,Xh (by simpa using hb),he.symm⟩)).elim
  | succ i =>
   cases j with
   | zero =>
    simp only [XB,Xf] at hb
    subst hb
    exact (hn.1 (Xj.2 ⟨a,Xh (by simpa using ha),he⟩)).elim
   | succ j => rw [ZjJ rs hn.2 i j a b (by simpa using ha) (by simpa using hb) he]
theorem ZcI {args:List SV} {rs:List ResultVar} {k:Nat} {p:Nat×Nat} (h:ZgD args rs args.length k=Xa p) :
  ∃ j r,rs[j]? = Xa r∧p=(Je r,Zbl r)∧((rs.length=1∧j=0∧k=0)∨(rs.length≠1∧k=j+1)):=by
 unfold ZgD at h
 rw [if_neg (Nat.lt_irrefl _),if_pos rfl] at h
 split at h
 ·rename_i r
  split at h
  ·rename_i hk
   simp only [Xf] at h
   exact ⟨0,r,rfl,h.symm,.inl ⟨rfl,rfl,hk⟩⟩
  ·cases h
 ·rename_i hne
  split at h
  ·cases h
  ·rename_i k
   cases hr:rs[k]? with
   | none => simp [hr] at h
   | some r =>
    simp only [hr,Xo,Xf] at h
    refine ⟨k,r,hr,h.symm,.inr ⟨fun h1=>?_,rfl⟩⟩
    obtain ⟨r',hr'⟩:=List.length_eq_one_iff.1 h1
    exact hne r' hr'
theorem Zp3 {args:List SV} {rs:List ResultVar} (hf:ZbM args rs=Xb) {i k i' k':Nat} {p:Nat×Nat} (h:ZgD args rs i k=Xa p) (h':ZgD args rs i' k'=Xa p):i=i'∧k=k':=by
 simp only [ZbM,Xs] at hf
 obtain ⟨hn,hb⟩:=hf
 have hnd:=Kj _ hn
 have hform:∀ i k p,ZgD args rs i k=Xa p→(i < args.length∧p=(i,k)∧∃ a,args[i]? = Xa a∧a.isBx=Xb)∨i=args.length:=by
  intro i k p h
  unfold ZgD at h
  split at h
  ·rename_i hi
   split at h
   ·rename_i hbx
    simp only [Xf] at h
    obtain ⟨a,ha,hax⟩:=Option.map_eq_some_iff.1 hbx
    exact .inl ⟨hi,h.symm,a,ha,hax⟩
   ·cases h
  ·split at h
   ·rename_i hi;exact .inr hi
   ·cases h
 have hno:∀ (j:Nat) (r:ResultVar),rs[j]? = Xa r→∀ a,args[Je r]? = Xa a→a.isBx=Xb→False:=by
  intro j r hr a ha hax
  rw [XE] at hb
  have:=hb r (Xh hr)
  rw [ha] at this
  cases a<;>simp [SV.isBx] at hax<;>cases this
 rcases hform i k p h with ⟨h1,h2,a,h3,h4⟩ | h1<;>rcases hform i' k' p h' with ⟨h1',h2',a',h3',h4'⟩ | h1'
 ·rw [h2] at h2'
  simp only [Xn] at h2'
  exact h2'
 ·subst h1'
  obtain ⟨j,r,g1,g2,_⟩:=ZcI h'
  rw [h2] at g2
  simp only [Xn] at g2
  exact (hno j r g1 a (by rw [← g2.1];exact h3) h4).elim
 ·subst h1
  obtain ⟨j,r,g1,g2,_⟩:=ZcI h
  rw [h2'] at g2
  simp only [Xn] at g2
  exact (hno j r g1 a' (by rw [← g2.1];exact h3') h4').elim
 ·subst h1
  subst h1'
  obtain ⟨j,r,g1,g2,g3⟩:=ZcI h
  obtain ⟨j',r',g1',g2',g3'⟩:=ZcI h'
  rw [g2] at g2'
  simp only [Xn] at g2'
  have:=ZjJ rs hnd j j' r r' g1 g1' g2'.1
  refine ⟨rfl,?_⟩
  omega
end
end Go.AM
