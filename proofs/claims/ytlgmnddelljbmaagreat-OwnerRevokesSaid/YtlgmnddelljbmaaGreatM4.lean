/- AmEvo, AmWeak, AmPat, AmCtl, AmFin, AmRet, AmPlain, AmUse: texts of the proof, put together. -/
import Derived.Test.YtlgmnddelljbmaaGreatM3
import Derived.LoopN
import Derived.Scope
import Derived.Laws.Cover3
import Derived.Laws.StructEq

section
namespace Go.AM
theorem Tr.get_set:∀ (k:Nat) (t:Tr) (d i:Nat) (x:SV),d < 2^k→i < 2^k→(Tr.set k t d x).get i=if i=d then x else t.get i
 | 0, t, d, i, x, hd, hi => by
  have h1:d=0:=by simpa using hd
  have h2:i=0:=by simpa using hi
  subst h1
  subst h2
  rfl
 | k + 1, .node l r, d, i, x, hd, hi => by
  have hd2:d / 2 < 2^k:=by rw [Nat.pow_succ] at hd;omega
  have hi2:i / 2 < 2^k:=by rw [Nat.pow_succ] at hi;omega
  have ihl:=Tr.get_set k l (d / 2) (i / 2) x hd2 hi2
  have ihr:=Tr.get_set k r (d / 2) (i / 2) x hd2 hi2
  rcases Nat.mod_two_eq_zero_or_one d with h | h<;>rcases Nat.mod_two_eq_zero_or_one i with h' | h'
  ·simp only [Tr.set,h,Tr.get,h',ihl]
   by_cases he:i=d
   ·simp [he]
   ·rw [if_neg he,if_neg (by omega)]
  ·simp only [Tr.set,h,Tr.get,h']
   rw [if_neg (by omega)]
  ·simp only [Tr.set,h,Tr.get,h']
   rw [if_neg (by omega)]
  ·simp only [Tr.set,h,Tr.get,h',ihr]
   by_cases he:i=d
   ·simp [he]
   ·rw [if_neg he,if_neg (by omega)]
 | k + 1, .leaf y, d, i, x, hd, hi => by
  have hd2:d / 2 < 2^k:=by rw [Nat.pow_succ] at hd;omega
  have hi2:i / 2 < 2^k:=by rw [Nat.pow_succ] at hi;omega
  have ih:=Tr.get_set k (.leaf y) (d / 2) (i / 2) x hd2 hi2
  rcases Nat.mod_two_eq_zero_or_one d with h | h<;>rcases Nat.mod_two_eq_zero_or_one i with h' | h'
  ·simp only [Tr.set,h,Tr.get,h',ih]
   by_cases he:i=d
   ·simp [he]
   ·rw [if_neg he,if_neg (by omega)]
  ·simp only [Tr.set,h,Tr.get,h']
   rw [if_neg (by omega)]
  ·simp only [Tr.set,h,Tr.get,h']
   rw [if_neg (by omega)]
  ·simp only [Tr.set,h,Tr.get,h',ih]
   by_cases he:i=d
   ·simp [he]
   ·rw [if_neg he,if_neg (by omega)]
def Z1 (E:Env) (s:Tr) (ρ:Nat→V):Nat→AV:=fun d=>(gE E s d).den ρ
def K3 (E:Env) (s:Tr) (n:Nat):Prop:=∀ d,(gE E s d).bd n
section
variable {P:Program} {E:Env} {R:AV→List AV→Prop} {A:Nat→List V→Prop}
theorem J4 {d:Nat} (h:d < E.nt):d < E.top:=Nat.lt_of_lt_of_le h (Nat.le_add_right _ _)
theorem ZmD (hnt:E.top≤1024) {d:Nat} (hd:d < E.top) (s:Tr) (x:SV) (i:Nat):gE E (s.set depth d x) i=if i=d then x else gE E s i:=by
 unfold gE
 by_cases hi:i < E.top
 ·rw [if_pos hi,if_pos hi]
  exact Tr.get_set 10 s d i x (by omega) (by omega)
 ·rw [if_neg hi,if_neg hi,if_neg (by omega)]
theorem Yv (hnt:E.top≤1024) {d:Nat} (hd:d < E.top) (s:Tr) (x:SV) (ρ:Nat→V):Z1 E (s.set depth d x) ρ=upd (Z1 E s ρ) d (x.den ρ):=by
 funext i
 simp only [Z1,ZmD hnt hd,upd]
 split<;>rfl
theorem JO (hnt:E.top≤1024) {d n:Nat} (hd:d < E.top) {s:Tr} {x:SV} (hs:K3 E s n) (hx:x.bd n):K3 E (s.set depth d x) n:=by
 intro i
 rw [ZmD hnt hd]
 split
 ·exact hx
 ·exact hs i
def VL (E:Env) (us:Ups):Prop:=us.all (fun u=>decide (u.1 < E.top))=true
theorem Yr (hnt:E.top≤1024) (ρ:Nat→V):∀ (us:Ups) (s:Tr),VL E us→Z1 E (JE us s) ρ=JF (Z1 E s ρ) (us.map fun u=>(u.1,u.2.den ρ))
 | [], _, _ => rfl
 | (d, x) :: us, s, h => by
  simp only [VL,List.all_cons,Bool.and_eq_true,decide_eq_true_eq] at h
  simp only [JE,List.map_cons,JF]
  rw [Yr hnt ρ us _ h.2,Yv hnt h.1]
theorem JP (hnt:E.top≤1024) {n:Nat} : ∀ (us:Ups) (s:Tr),VL E us→K3 E s n→(∀ u∈us,u.2.bd n)→K3 E (JE us s) n
 | [], _, _, hs, _ => hs
 | (d, x) :: us, s, h, hs, hu => by
  simp only [VL,List.all_cons,Bool.and_eq_true,decide_eq_true_eq] at h
  exact JP hnt us _ h.2 (JO hnt h.1 hs (hu (d,x) (by simp))) fun u h'=>hu u (by simp [h'])
theorem Zeh {s:Tr} {n n':Nat} (h:K3 E s n) (hn:n≤n'):K3 E s n':=fun d=>SV.bd_mono hn _ (h d)
theorem Zcn {s:Tr} {n:Nat} {ρ ρ':Nat→V} (h:K3 E s n) (hρ:∀ m,m < n→ρ' m=ρ m):Z1 E s ρ'=Z1 E s ρ:=by
 funext d
 exact SV.den_congr hρ _ (h d)
theorem ZcD {x:SV} (ρ:Nat→V) (h:∀ cs,x≠.box cs):∀ cs,x.den ρ≠.box cs:=by
 intro cs he
 cases x with
 | box ds => exact h ds rfl
 | c y => cases y <;> cases he
 | _ => cases he
theorem ZdR {x:SV} (ρ:Nat→V) (h:∀ cs,x≠.gbox cs):(x.den ρ).isG=false:=by
 cases x with
 | gbox cs => exact (h cs rfl).elim
 | c y => cases y <;> rfl
 | _ => rfl
theorem ZhH {a b:AV} (ga:a.isG=false) (gb:b.isG=false) (ha:Vu a) (hb:(∀ cs,b≠.box cs)∨a = .dead):VR a b=true:=by
 unfold VR
 split
 ·cases ga
 ·cases gb
 ·rename_i cs _;exact (ha.1 cs rfl).elim
 ·exact (ha.2.1 _ _ rfl).elim
 ·rfl
 ·rename_i h1 h2
  rcases hb with hb | hb
  ·exact (hb _ rfl).elim
  ·exact (h2 hb).elim
 ·rfl
theorem ZkP {x:SV} (ρ:Nat→V) (h:∀ cs,x≠.box cs) (h':∀ e l,x≠.own true e l) (h3:∀ cs,x≠.gbox cs):Vu (x.den ρ):=by
 refine ⟨ZcD ρ h,fun e xs he=>?_,fun cs he=>by have:=ZdR ρ h3;rw [he] at this;cases this⟩
 cases x with
 | own b e' l =>
  cases b with
  | true => exact h' _ _ rfl
  | false => cases he
 | c y => cases y <;> cases he
 | _ => cases he
theorem Yq {a b:SV} (ρ:Nat→V) (h:Zaa a b=true):VR (a.den ρ) (b.den ρ)=true:=by
 have h1:∀ cs,a≠.box cs:=by
  rintro cs rfl
  cases b<;>cases h
 have h2:∀ e l,a≠.own true e l:=by
  rintro e l rfl
  cases b<;>cases h
 have h3:∀ cs,a≠.gbox cs:=by
  rintro cs rfl
  cases b<;>cases h
 have h4:∀ cs,b≠.gbox cs:=by
  rintro cs rfl
  cases a with
  | own x e l => cases x <;> cases h
  | _ => cases h
 refine ZhH (ZdR ρ h3) (ZdR ρ h4) (ZkP ρ h1 h2 h3) ?_
 by_cases hd:a = .dead
 ·subst hd;exact .inr rfl
 ·refine .inl (ZcD ρ ?_)
  rintro cs rfl
  cases a with
  | dead => exact hd rfl
  | own x e l => cases x <;> cases h
  | _ => cases h
theorem ZhA {c:Ctx} {σ:Nat→AV} {tm:Array Value} {w:World} {lim:Nat→Nat} {X:Nat→Nat→Option Nat} (h:Sim c σ tm w lim X) {ops:Array Oper} {j gd:Nat} {b:Bool}
  (hd:(ops[j]?).bind (·.dst)=some gd) (hb:σ gd = .val (.bool b)):yielded ops tm j=some b:=by
 have hlt:gd < tm.size:=by
  rcases Nat.lt_or_ge gd c.nt with h1 | h1
  ·rw [h.size];exact h1
  ·have:=h.out gd h1;rw [hb] at this;rcases this with h2 | h2<;>cases h2
 have hr:=h.rel gd
 rw [hb] at hr
 have hv:tm.getD gd undef = .bool b:=K4 hr
 have h2:tm[gd]? = some (.bool b):=by
  simp only [Array.getD,hlt,dite_true] at hv
  rw [Array.getElem?_eq_getElem hlt]
  exact congrArg some hv
 unfold yielded
 simp only [hd,Option.bind_some,h2]
theorem Zfc {c:Ctx} {σ:Nat→AV} {tm:Array Value} {w:World} {lim:Nat→Nat} {X:Nat→Nat→Option Nat} (h:Sim c σ tm w lim X) {ops:Array Oper} {j gd:Nat}
  (hd:(ops[j]?).bind (·.dst)=some gd) (hb:σ gd = .tuple []):yielded ops tm j=none:=by
 have hr:=h.rel gd
 rw [hb] at hr
 obtain ⟨us,h1,h2,_⟩:=hr
 have:us = []:=List.eq_nil_of_length_eq_zero h2
 subst this
 unfold yielded
 simp only [hd,Option.bind_some]
 by_cases hlt:gd < tm.size
 ·simp only [Array.getD,hlt,dite_true] at h1
  have h3:tm[gd]? = some (.tuple #[]):=by
   rw [Array.getElem?_eq_getElem hlt]
   exact congrArg some h1
  simp only [h3]
 ·simp only [Array.getElem?_eq_none (Nat.le_of_not_lt hlt)]
theorem Sim.putUndef {c:Ctx} {σ:Nat→AV} {tm:Array Value} {w:World} {lim:Nat→Nat} {X:Nat→Nat→Option Nat} (h:Sim c σ tm w lim X) {d:Nat} (hd:d < c.nt) (hb:Vu (σ d)) :
  ∃ X',Sim c (upd σ d (.tuple [])) (tm.setIfInBounds d undef) w lim X':=
 ⟨_,h.putRow YC (ZT.refl w lim (fun _=>False)) (fun _ hs=>hs.elim) hd (by simp) (fun i hi=>ZZ tm d i undef hi) (.inl hb.1) (fun i q hi hr=>(h.noRefs hb.none i q hi hr).elim)
  ⟨[],by rw [J5 tm d undef (by rw [h.size];exact hd)];rfl,rfl,by simp⟩ (fun k b hk=>by simp [YC] at hk) (fun k k' b hk=>by simp [YC] at hk)⟩
def Zgf (ops:Array Oper) (o:Oper) (σ:Nat→AV) (gs:List Nat) (v:Bool):Prop:=
 (o.guard=none∧v=true)∨(∃ j want gd b,o.guard=some (j,want)∧(ops[j]?).bind (·.dst)=some gd∧gd∈gs∧σ gd = .val (.bool b)∧(v=true↔want=b))∨
 ∃ j want gd,o.guard=some (j,want)∧(ops[j]?).bind (·.dst)=some gd∧gd∈gs∧σ gd = .tuple []∧v=false
theorem Wk {ops:Array Oper} {o:Oper} {σ:Nat→AV} {gs:List Nat} {v:Bool} (hg:Zgf ops o σ gs v) {c:Ctx} {σ':Nat→AV} {tm:Array Value} {w:World} {lim:Nat→Nat} {X:Nat→Nat→Option Nat}
  (h:Sim c σ' tm w lim X) (hag:∀ d∈gs,σ' d=σ d):Region.wanted o (yielded ops tm)=v:=by
 rcases hg with ⟨h1,h2⟩ | ⟨j,want,gd,b,h1,h2,h3,h4,h5⟩ | ⟨j,want,gd,h1,h2,h3,h4,h5⟩
 ·unfold Region.wanted;rw [h1,h2]
 ·have hy:=ZhA h h2 ((hag gd h3).trans h4)
  unfold Region.wanted
  rw [h1]
  simp only [hy]
  cases v<;>cases want<;>cases b<;>simp_all
 ·have hy:=Zfc h h2 ((hag gd h3).trans h4)
  unfold Region.wanted
  rw [h1,h5]
  simp only [hy]
  rfl
theorem ZgO {x:SV} (ρ:Nat→V) (h:ZmF x=true):ZcM (x.den ρ):=by
 unfold ZmF at h
 split at h
 ·rename_i cs;exact ⟨_,rfl⟩
 ·cases h
theorem Zbm {T:Odr} {i:Nat} {x:SV} (ρ:Nat→V) (h:Zbo T i x=true):∀ d k,T.nr d i=true→¬ Jg (x.den ρ) d k:=by
 intro d k hd hr
 cases x with
 | mref d' k' =>
  rcases hr with hr | ⟨_,hr⟩ <;> cases hr
  simp [Zbo,hd] at h
 | eref d' k' i s o =>
  rcases hr with hr | ⟨_,hr⟩ <;> cases hr
  simp [Zbo,hd] at h
 | c y => rcases hr with hr | ⟨_, hr⟩ <;> cases y <;> cases hr
 | _ => rcases hr with hr | ⟨_, hr⟩ <;> cases hr
def Vi (T:Odr) (P:Program) (E:Env) (R:AV→List AV→Prop) (A:Nat→List V→Prop) (B:Nat→Bool) (ops:Array Oper) (i:Nat) (s:Tr) (ρ:Nat→V) (cont:Tr→Nat→Log→STree):Prop:=
 ∃ (st:Stp) (ρ':Nat→V) (n':Nat) (s':Tr),K3 E s' n'∧(cont s' n' ⟨i,st.F,st.ups.map (·.1)⟩).wp P R A ρ'∧Zoa T P E.nt ops (fun d=>B d=true) i (Z1 E s ρ) st∧Z1 E s' ρ'=JF (Z1 E s ρ) st.ups
variable {ops:Array Oper} {o:Oper} {i:Nat} {s:Tr} {n:Nat} {ρ:Nat→V} {cont:Tr→Nat→Log→STree} {gs:List Nat} {tx:Odr} {tk:Bool} {B:Nat→Bool}
theorem Zeu {P:Program} {R:AV→List AV→Prop} {A:Nat→List V→Prop} {ρ:Nat→V} : ∀ (q:List (IE×IE)) (t:STree),(Zjw q t).wp P R A ρ→(∀ p∈q,p.1.den ρ=p.2.den ρ)∧t.wp P R A ρ
 | [], t, h => ⟨by simp, h⟩
 | (a, b) :: q, t, h => by
  obtain ⟨h1,h2,h3⟩:=h
  obtain ⟨h4,h5⟩:=Zeu q t h3
  refine ⟨fun p hp=>?_,h5⟩
  rcases List.mem_cons.1 hp with rfl | hp
  ·exact Int.le_antisymm h1 h2
  ·exact h4 p hp
theorem ZdL (ρ:Nat→V) {kp:Nat→Bool} : ∀ {cs' cs:List BC} {j:Nat} {r:List BC} {q:List (IE×IE)},Zau kp j cs' cs=some (r,q)→(∀ p∈q,p.1.den ρ=p.2.den ρ)→
  r.map (BC.den ρ)=cs'.map (BC.den ρ)∧∀ i,kp (j+i)=true→(r.map (BC.den ρ))[i]? = (cs.map (BC.den ρ))[i]?
 | [], [], j, r, q, h, _ => by
  simp only [Zau,Option.some.injEq,Prod.mk.injEq] at h
  obtain ⟨rfl,rfl⟩:=h
  exact ⟨rfl,fun _ _=>rfl⟩
 | [], _ :: _, _, _, _, h, _ => by simp [Zau] at h
 | _ :: _, [], _, _, _, h, _ => by simp [Zau] at h
 | c' :: cs', c :: cs, j, r, q, h, hq => by
  simp only [Zau] at h
  split at h
  ·rename_i r1 q1 h1
   split at h
   ·rename_i hk
    split at h
    ·rename_i k' e' k e
     split at h
     ·rename_i hkk
      subst hkk
      simp only [Option.some.injEq,Prod.mk.injEq] at h
      obtain ⟨rfl,rfl⟩:=h
      obtain ⟨g1,g2⟩:=ZdL ρ h1 fun p hp=>hq p (by simp [hp])
      have he:e'.den ρ=e.den ρ:=hq (e',e) (by simp)
      refine ⟨?_,fun i hi=>?_⟩
      ·simp only [List.map_cons,g1,BC.den,SC.den,he]
      ·cases i with
       | zero => rfl
       | succ i => simpa using g2 i (by rw [show j + 1 + i = j + (i + 1) by omega]; exact hi)
     ·cases h
    ·cases h
   ·rename_i hk
    simp only [Option.some.injEq,Prod.mk.injEq] at h
    obtain ⟨rfl,rfl⟩:=h
    obtain ⟨g1,g2⟩:=ZdL ρ h1 hq
    refine ⟨by simp only [List.map_cons,g1],fun i hi=>?_⟩
    cases i with
    | zero => rw [Nat.add_zero, hk] at hi; cases hi
    | succ i => simpa using g2 i (by rw [show j + 1 + i = j + (i + 1) by omega]; exact hi)
  ·cases h
theorem Zfv {kp:Nat→Bool} : ∀ {cs' cs:List BC} {j:Nat} {r:List BC} {q:List (IE×IE)},Zau kp j cs' cs=some (r,q)→∀ b∈r,b∈cs'∨b∈cs
 | [], [], j, r, q, h => by
  simp only [Zau,Option.some.injEq,Prod.mk.injEq] at h
  obtain ⟨rfl,rfl⟩:=h
  simp
 | [], _ :: _, _, _, _, h => by simp [Zau] at h
 | _ :: _, [], _, _, _, h => by simp [Zau] at h
 | c' :: cs', c :: cs, j, r, q, h => by
  simp only [Zau] at h
  split at h
  ·rename_i r1 q1 h1
   have ih:=Zfv h1
   have key:∀ b∈r1,b∈c'::cs'∨b∈c::cs:=fun b hb=>by
    rcases ih b hb with h2 | h2
    ·exact .inl (by simp [h2])
    ·exact .inr (by simp [h2])
   split at h
   ·split at h
    ·split at h
     ·simp only [Option.some.injEq,Prod.mk.injEq] at h
      obtain ⟨rfl,rfl⟩:=h
      intro b hb
      rcases List.mem_cons.1 hb with rfl | hb
      ·exact .inr (by simp)
      ·exact key b hb
     ·cases h
    ·cases h
   ·simp only [Option.some.injEq,Prod.mk.injEq] at h
    obtain ⟨rfl,rfl⟩:=h
    intro b hb
    rcases List.mem_cons.1 hb with rfl | hb
    ·exact .inl (by simp)
    ·exact key b hb
  ·cases h
theorem Zub {T:Odr} {d j:Nat} (h:T.kp d j=true):T.kpAt d=true:=by
 cases T with
 | text => cases h
 | any N M K =>
  simp only [Odr.kp,Odr.kpAt,List.contains_iff_mem,List.any_eq_true] at h ⊢
  exact ⟨_,h,by simp⟩
theorem ZjC (ρ:Nat→V) {T:Odr} {g:Nat→SV} {u u':Nat×SV} {q:List (IE×IE)} (h:Zkk T g u=some (u',q)) (hq:∀ p∈q,p.1.den ρ=p.2.den ρ) :
  (u'.1,u'.2.den ρ)=(u.1,u.2.den ρ)∧(∀ j,T.kp u'.1 j=true→Z7 (u'.2.den ρ) j=Z7 ((g u'.1).den ρ) j)∧∀ n,u.2.bd n→(∀ i,(g i).bd n)→u'.2.bd n:=by
 unfold Zkk at h
 split at h
 ·split at h
  ·rename_i cs' cs hu hgu
   split at h
   ·rename_i r q1 h1
    simp only [Option.some.injEq,Prod.mk.injEq] at h
    obtain ⟨rfl,rfl⟩:=h
    obtain ⟨g1,g2⟩:=ZdL ρ h1 hq
    refine ⟨?_,fun j hj=>?_,fun n hb hg=>?_⟩
    ·rw [hu];simp only [SV.den,g1]
    ·rw [hgu]
     exact g2 j (by rw [Nat.zero_add];exact hj)
    ·rw [hu] at hb
     have hb2:=hg u.1
     rw [hgu] at hb2
     intro b hbr
     rcases Zfv h1 b hbr with h2 | h2
     ·exact hb b h2
     ·exact hb2 b h2
   ·cases h
  ·cases h
 ·rename_i hk
  simp only [Option.some.injEq,Prod.mk.injEq] at h
  obtain ⟨rfl,rfl⟩:=h
  exact ⟨rfl,fun j hj=>(by rw [Zub hj] at hk;cases hk),fun n hb _=>hb⟩
theorem Zcc (ρ:Nat→V) {T:Odr} {g:Nat→SV} : ∀ {us us':Ups} {q:List (IE×IE)},WU T g us=some (us',q)→(∀ p∈q,p.1.den ρ=p.2.den ρ)→
  (us'.map fun u=>(u.1,u.2.den ρ))=(us.map fun u=>(u.1,u.2.den ρ))∧(∀ u∈us',∀ j,T.kp u.1 j=true→Z7 (u.2.den ρ) j=Z7 ((g u.1).den ρ) j)∧∀ n,(∀ u∈us,u.2.bd n)→(∀ i,(g i).bd n)→∀ u∈us',u.2.bd n
 | [], us', q, h, _ => by
  simp only [WU,Option.some.injEq,Prod.mk.injEq] at h
  obtain ⟨rfl,rfl⟩:=h
  exact ⟨rfl,by simp,by simp⟩
 | u :: us, us', q, h, hq => by
  simp only [WU] at h
  split at h
  ·rename_i u1 q1 us1 q2 h1 h2
   simp only [Option.some.injEq,Prod.mk.injEq] at h
   obtain ⟨rfl,rfl⟩:=h
   obtain ⟨a1,a2,a3⟩:=ZjC ρ h1 fun p hp=>hq p (by simp [hp])
   obtain ⟨b1,b2,b3⟩:=Zcc ρ h2 fun p hp=>hq p (by simp [hp])
   refine ⟨by simp only [List.map_cons,a1,b1],fun v hv=>?_,fun n hb hg v hv=>?_⟩
   ·rcases List.mem_cons.1 hv with rfl | hv
    ·exact a2
    ·exact b2 v hv
   ·rcases List.mem_cons.1 hv with rfl | hv
    ·exact a3 n (hb u (by simp)) hg
    ·exact b3 n (fun w hw=>hb w (by simp [hw])) hg v hv
  ·cases h
theorem VT (hps:EnvSound P E) (hnt:E.top≤1024) (hKB:∀ d j,tx.kp d j=true→B d=true) (hB:∀ d,B d=true→ZcM (Z1 E s ρ d)) (hi:ops[i]? = some o) (hs:K3 E s n) (hg:Zgf ops o (Z1 E s ρ) gs true) (h:(Zij P E tx tk B o i s gs n cont).wp P R A ρ) :
  Vi tx P E R A B ops i s ρ cont:=by
 obtain ⟨ρ',n',x,us0,fp,h1,h2,h3,h40,h50,h60⟩:=Zib hps hs (fun i hi=>by unfold gE;rw [if_neg (by omega)]) h
 have hσ:(fun d=>(gE E s d).den ρ)=Z1 E s ρ:=rfl
 rw [hσ] at h60
 have hs':K3 E s n':=Zeh hs h1
 have hc:=Zcn hs h2
 dsimp only at h50
 cases hst:WU tx (gE E s) us0 with
 | none => rw [hst] at h50; exact h50.elim
 | some rq =>
 obtain ⟨us,qs⟩:=rq
 rw [hst] at h50
 obtain ⟨hq,h5⟩:=Zeu qs _ h50
 obtain ⟨hus,hkp0,hbd⟩:=Zcc ρ' hst hq
 have h4:=hbd n' h40 hs'
 have h6:=h60
 rw [← hus] at h6
 have hkp:∀ u∈(us.map fun u=>(u.1,u.2.den ρ')),∀ j,tx.kp u.1 j=true→Z7 u.2 j=Z7 (Z1 E s ρ u.1) j:=by
  intro u hu j hj
  obtain ⟨v,hv,rfl⟩:=List.mem_map.1 hu
  rw [← hc]
  exact hkp0 v hv j hj
 clear h60 h50 h40 hus hkp0
 split at h5
 case isFalse=>exact h5.elim
 rename_i hall0
 obtain ⟨hall,hnx⟩:=hall0
 rw [List.all_eq_true] at hall
 have hlow:VL E us:=by
  unfold VL
  rw [List.all_eq_true]
  intro u hu
  have:=hall u hu
  rw [Bool.and_eq_true,Bool.and_eq_true] at this
  exact this.1.1
 have hups:∀ u∈(us.map fun u=>(u.1,u.2.den ρ')),B u.1=true→ZcM u.2:=by
  intro u hu hb
  obtain ⟨v,hv,rfl⟩:=List.mem_map.1 hu
  have:=hall v hv
  simp only [Bool.and_eq_true,Bool.or_eq_true,Bool.not_eq_true'] at this
  rcases this.1.2 with h0 | h0
  ·have hb':B v.1=true:=hb
   rw [hb'] at h0;cases h0
  ·exact ZgO ρ' h0
 have hnr:∀ u∈(us.map fun u=>(u.1,u.2.den ρ')),∀ d k,tx.nr d u.1=true→¬ Jg u.2 d k:=by
  intro u hu
  obtain ⟨v,hv,rfl⟩:=List.mem_map.1 hu
  have:=hall v hv
  rw [Bool.and_eq_true] at this
  exact Zbm ρ' this.2
 have hids:∀ (σ':Nat→AV),(∀ d∈(KK o).filter (fun t=>!B t),σ' d=Z1 E s ρ d)→(∀ d,B d=true→ZcM (σ' d))→∀ d∈KK o,Zcz (Z1 E s ρ d) (σ' d):=by
  intro σ' h0 h1 d hd
  cases hb:B d with
  | true => exact .inr ⟨hB d hb, h1 d hb⟩
  | false => exact .inl (h0 d (List.mem_filter.2 ⟨hd, by simp [hb]⟩))
 have hfst:(us.map fun u=>(u.1,u.2.den ρ')).map (·.1)=us.map (·.1):=by rw [List.map_map];rfl
 have hden:Z1 E (JE us s) ρ'=JF (Z1 E s ρ) (us.map fun u=>(u.1,u.2.den ρ')):=by rw [Yr hnt ρ' us s hlow,hc]
 split at h5
 ·rename_i d hd
  split at h5
  ·rename_i hh
   refine ⟨⟨(KK o).filter (fun t=>!B t)++gs++fp++us.map (·.1)++[d],(us.map fun u=>(u.1,u.2.den ρ'))++[(d,x.den ρ')]⟩,ρ',n',(JE us s).set depth d x,JO hnt (J4 hh.1) (JP hnt us s hlow hs' h4) h3,?_,⟨?_,?_,?_,?_,?_⟩,?_⟩
   ·rw [List.map_append,hfst]
    exact h5
   ·intro u hu
    rcases List.mem_append.1 hu with hu | hu
    ·refine List.mem_append.2 (.inl (List.mem_append.2 (.inr ?_)))
     rw [← hfst]
     exact List.mem_map.2 ⟨u,hu,rfl⟩
    ·rw [List.mem_singleton] at hu
     subst hu
     simp
   ·intro u hu hb
    rcases List.mem_append.1 hu with hu | hu
    ·exact hups u hu hb
    ·rw [List.mem_singleton] at hu
     subst hu
     have hb':B d=true:=hb
     rw [hh.2.2] at hb'
     cases hb'
   ·intro u hu
    rcases List.mem_append.1 hu with hu | hu
    ·exact hnr u hu
    ·rw [List.mem_singleton] at hu
     subst hu
     unfold Zhg at hnx
     rw [hd] at hnx
     exact Zbm ρ' hnx
   ·intro u hu j hj
    rcases List.mem_append.1 hu with hu | hu
    ·exact hkp u hu j hj
    ·rw [List.mem_singleton] at hu
     subst hu
     have hb':=hKB _ j hj
     rw [hh.2.2] at hb'
     cases hb'
   ·intro c hcP hcn σ' tm w lim X hag hpb hT hsim Q K hK
    unfold wpOp
    simp only [hi]
    rw [Wk hg hsim fun d' hd'=>hag d' (by simp [hd'])]
    rw [if_pos rfl]
    refine .inl (h6 c hcP σ' tm w lim X (hids σ' (fun d' hd'=>hag d' (by simp only [List.mem_append];exact .inl (.inl (.inl (.inl hd'))))) hpb) (fun d' hd'=>hag d' (by
     rw [hfst] at hd'
     simp only [List.mem_append] at hd' ⊢
     rcases hd' with hd' | hd'
     ·exact .inl (.inl (.inr hd'))
     ·exact .inl (.inr hd'))) hT hsim K Q fun v w' ha=>?_)
    rw [hd] at ha ⊢
    obtain ⟨lim',X',hsim'⟩:=ha (by rw [hcn];exact hh.1) (by
     have:JF σ' (us.map fun u=>(u.1,u.2.den ρ')) d=(gE E (JE us s) d).den ρ':=by
      have h7:=congrFun hden d
      rw [Jl] at h7 ⊢
      rw [hag d (by simp)]
      exact h7.symm
     rw [this]
     exact Yq ρ' hh.2.1)
    refine hK _ w' lim' X' ?_
    rw [KF]
    exact hsim'
   ·rw [Yv hnt (J4 hh.1),hden,KF]
    rfl
  ·exact h5.elim
 ·rename_i hd
  refine ⟨⟨(KK o).filter (fun t=>!B t)++gs++fp++us.map (·.1),us.map fun u=>(u.1,u.2.den ρ')⟩,ρ',n',JE us s,JP hnt us s hlow hs' h4,?_,⟨?_,hups,hnr,hkp,?_⟩,hden⟩
  ·rw [hfst]
   exact h5
  ·intro u hu
   refine List.mem_append.2 (.inr ?_)
   rw [← hfst]
   exact List.mem_map.2 ⟨u,hu,rfl⟩
  ·intro c hcP hcn σ' tm w lim X hag hpb hT hsim Q K hK
   unfold wpOp
   simp only [hi]
   rw [Wk hg hsim fun d' hd'=>hag d' (by simp [hd'])]
   rw [if_pos rfl]
   refine .inl (h6 c hcP σ' tm w lim X (hids σ' (fun d' hd'=>hag d' (by simp only [List.mem_append];exact .inl (.inl (.inl hd')))) hpb) (fun d' hd'=>hag d' (by
    rw [hfst] at hd'
    simp only [List.mem_append] at hd' ⊢
    rcases hd' with hd' | hd'
    ·exact .inl (.inr hd')
    ·exact .inr hd')) hT hsim K Q fun v w' ha=>?_)
   rw [hd] at ha ⊢
   obtain ⟨lim',X',hsim'⟩:=ha
   exact hK _ w' lim' X' hsim'
theorem KZ (hnt:E.top≤1024) (hKB:∀ d j,tx.kp d j=true→B d=true) (hi:ops[i]? = some o) (hs:K3 E s n) (hg:Zgf ops o (Z1 E s ρ) gs false) (h:(Zbk E B o i s gs n cont).wp P R A ρ) :
  Vi tx P E R A B ops i s ρ cont:=by
 unfold Zbk at h
 split at h
 ·rename_i d hd
  split at h
  ·rename_i hh
   refine ⟨⟨gs++[d],[(d,.tuple [])]⟩,ρ,n,s.set depth d (.tuple []),JO hnt (J4 hh.1) hs (by simp [SV.bd]),h,⟨by simp,fun u hu hb=>?_,fun u hu d k _ hr=>?_,fun u hu j hj=>?_,?_⟩,Yv hnt (J4 hh.1) _ _ _⟩
   ·rw [List.mem_singleton] at hu
    subst hu
    have hb':B d=true:=hb
    rw [hh.2.2] at hb'
    cases hb'
   ·rw [List.mem_singleton] at hu
    subst hu
    rcases hr with hr | ⟨_,hr⟩ <;> cases hr
   ·rw [List.mem_singleton] at hu
    subst hu
    have hb':=hKB _ j hj
    rw [hh.2.2] at hb'
    cases hb'
   intro c hcP hcn σ' tm w lim X hag hpb hT hsim Q K hK
   unfold wpOp
   simp only [hi]
   rw [Wk hg hsim fun d' hd'=>hag d' (by simp [hd'])]
   rw [if_neg (by simp),hd]
   obtain ⟨X',hs'⟩:=hsim.putUndef (d:=d) (by rw [hcn];exact hh.1) (by
    rw [hag d (by simp)]
    exact ZL (Yq ρ hh.2.1))
   exact hK _ w lim X' hs'
  ·exact h.elim
 ·rename_i hd
  refine ⟨⟨gs,[]⟩,ρ,n,s,hs,h,⟨by simp,by simp,by simp,by simp,?_⟩,rfl⟩
  intro c hcP hcn σ' tm w lim X hag hpb hT hsim Q K hK
  unfold wpOp
  simp only [hi]
  rw [Wk hg hsim hag]
  rw [if_neg (by simp),hd]
  exact hK _ w lim X hsim
theorem V0 (hnt:E.top≤1024) {t:Nat} {b:BE} {v:Bool} (hb:gE E s t = .c (.bool b)) (hv:b.den ρ=v):t < E.top∧Z1 E (s.set depth t (.c (.bool (.lit v)))) ρ=Z1 E s ρ:=by
 have hlt:t < E.top:=by
  unfold gE at hb
  split at hb
  ·assumption
  ·cases hb
 refine ⟨hlt,?_⟩
 rw [Yv hnt hlt]
 funext d
 by_cases hd:d=t
 ·subst hd
  rw [ZY]
  simp only [Z1,hb,SV.den,SC.den,hv,BE.den]
 ·rw [Zi _ _ hd]
theorem ZeT (hps:EnvSound P E) (hnt:E.top≤1024) (hKB:∀ d j,tx.kp d j=true→B d=true) (hB:∀ d,B d=true→ZcM (Z1 E s ρ d)) (hi:ops[i]? = some o) (hs:K3 E s n) (h:(ZiI P E tx tk B ops o i s n cont).wp P R A ρ):Vi tx P E R A B ops i s ρ cont:=by
 unfold ZiI at h
 split at h
 ·rename_i hg
  exact VT hps hnt hKB hB hi hs (.inl ⟨hg,rfl⟩) h
 ·rename_i j want hg
  split at h
  ·exact h.elim
  ·rename_i gd hgd
   split at h
   ·rename_i hb
    have hv:Z1 E s ρ gd = .tuple []:=by simp only [Z1,hb];rfl
    exact KZ hnt hKB hi hs (.inr (.inr ⟨j,want,gd,hg,hgd,by simp,hv,rfl⟩)) h
   ·rename_i b hb
    have hv:Z1 E s ρ gd = .val (.bool b):=by simp only [Z1,hb];rfl
    split at h
    ·rename_i hw
     exact VT hps hnt hKB hB hi hs (.inr (.inl ⟨j,want,gd,b,hg,hgd,by simp,hv,by simp [hw]⟩)) h
    ·rename_i hw
     exact KZ hnt hKB hi hs (.inr (.inl ⟨j,want,gd,b,hg,hgd,by simp,hv,by simp [hw]⟩)) h
   ·rename_i b _ hb
    obtain ⟨ht,hf⟩:=h
    have hcase:∀ v,b.den ρ=v→(if want=v then Zij P E tx tk B o i (s.set depth gd (.c (.bool (.lit v)))) [gd] n cont else Zbk E B o i (s.set depth gd (.c (.bool (.lit v)))) [gd] n cont).wp P R A ρ→Vi tx P E R A B ops i s ρ cont:=by
     intro v hv hw
     obtain ⟨hlt,hsame⟩:=V0 hnt hb hv
     have hbd:K3 E (s.set depth gd (.c (.bool (.lit v)))) n:=JO hnt hlt hs trivial
     have hval:Z1 E (s.set depth gd (.c (.bool (.lit v)))) ρ gd = .val (.bool v):=by rw [hsame];simp only [Z1,hb,SV.den,SC.den,hv]
     have hgoal:Vi tx P E R A B ops i (s.set depth gd (.c (.bool (.lit v)))) ρ cont:=by
      split at hw
      ·rename_i hw'
       exact VT hps hnt hKB (by rw [hsame];exact hB) hi hbd (.inr (.inl ⟨j,want,gd,v,hg,hgd,by simp,hval,by simp [hw']⟩)) hw
      ·rename_i hw'
       exact KZ hnt hKB hi hbd (.inr (.inl ⟨j,want,gd,v,hg,hgd,by simp,hval,by simp [hw']⟩)) hw
     unfold Vi at hgoal ⊢
     rw [hsame] at hgoal
     exact hgoal
    cases hv:b.den ρ with
    | true => exact hcase true hv (ht hv)
    | false => exact hcase false hv (hf hv)
   ·exact h.elim
def Zez:Nat→List Stp→List Log
 | _, [] => []
 | i, s :: ss => Zez (i + 1) ss ++ [⟨i, s.F, s.ups.map (·.1)⟩]
theorem WW:∀ (ss:List Stp) (i j:Nat) (s:Stp),ss[j]? = some s→(⟨i+j,s.F,s.ups.map (·.1)⟩:Log)∈Zez i ss
 | [], i, j, s, h => by simp at h
 | s0 :: ss, i, 0, s, h => by
  simp only [List.getElem?_cons_zero,Option.some.injEq] at h
  subst h
  simp [Zez]
 | s0 :: ss, i, j + 1, s, h => by
  have:=WW ss (i+1) j s (by simpa using h)
  rw [show i+(j+1)=i+1+j by omega]
  exact List.mem_append.2 (.inl this)
theorem ZaW (hps:EnvSound P E) (hnt:E.top≤1024) (hKB:∀ d j,tx.kp d j=true→B d=true) {tks:Nat→Bool} {k:Tr→Nat→List Log→STree} : ∀ (l:List Oper) (i:Nat) (s:Tr) (n:Nat) (logs:List Log) (ρ:Nat→V),(∀ j,l[j]? = ops[i+j]?)→(∀ d,B d=true→ZcM (Z1 E s ρ d))→K3 E s n→
  (Zli P E tx tks B ops l i s n logs k).wp P R A ρ→∃ (ss:List Stp) (ρ':Nat→V) (n':Nat) (s':Tr),ss.length=l.length∧K3 E s' n'∧(k s' n' (Zez i ss++logs)).wp P R A ρ'∧
   Zet tx P E.nt ops (fun d=>B d=true) i (Z1 E s ρ) ss∧Z1 E s' ρ'=Zek (Z1 E s ρ) ss
 | [], i, s, n, logs, ρ, _, _, hs, h => ⟨[], ρ, n, s, rfl, hs, h, trivial, rfl⟩
 | o :: l, i, s, n, logs, ρ, hl, hB, hs, h => by
  have h0:ops[i]? = some o:=by simpa using (hl 0).symm
  obtain ⟨st,ρ1,n1,s1,g1,g2,g3,g4⟩:=ZeT hps hnt hKB hB h0 hs h
  obtain ⟨ss,ρ2,n2,s2,k1,k2,k3,k4,k5⟩:=ZaW hps hnt hKB l (i+1) s1 n1 _ ρ1 (fun j=>by
   have:=hl (j+1)
   rw [show i+(j+1)=i+1+j by omega] at this
   simpa using this) (by rw [g4];exact Zdb _ _ g3.2.1 hB) g1 g2
  refine ⟨st::ss,ρ2,n2,s2,by simp [k1],k2,?_,⟨g3,?_⟩,?_⟩
  ·simp only [Zez,List.append_assoc,List.singleton_append]
   exact k3
  ·rw [← g4];exact k4
  ·simp only [Zek]
   rw [← g4];exact k5
theorem ZjG {a b:List Nat} (h:ZrC a b=true):∀ d∈a,d∉b:=by
 intro d hd
 simp only [ZrC,List.all_eq_true] at h
 simpa using h d hd
theorem Zkh {E:Env} (s:Tr):∀ i,E.top≤i→gE E s i = .dead:=fun i hi=>by unfold gE;rw [if_neg (by omega)]
theorem Zlo {c:Ctx} {σ:Nat→AV} {tm:Array Value} {w:World} {lim:Nat→Nat} {X:Nat→Nat→Option Nat} (h:Sim c σ tm w lim X) {i k:Nat} (hr:Jg (σ i) i k):False:=by
 obtain ⟨p,hp⟩:=K1 h hr
 rcases hr with hr | ⟨_,hr⟩ <;> rw [hr] at hp<;>cases hp
theorem Zp2 {draw:Bool} {d j:Nat} (h:(Zkx P E draw ops s).kp d j=true):ZmF (gE E s d)=true:=by
 cases draw with
 | false => cases h
 | true =>
  simp only [Zkx,Odr.kp,List.contains_iff_mem,List.mem_filter] at h
  exact h.2
theorem ZeX (hm:P.follows .mixedOrders=true) (hps:EnvSound P E) (hnt:E.top≤1024) {id:Nat} {draw:Bool} {k:Tr→Nat→STree} {tks:Nat→Bool} (hKB:∀ d j,(Zkx P E draw ops s).kp d j=true→B d=true) (hB:∀ d,B d=true→ZcM (Z1 E s ρ d)) (hs:K3 E s n)
  (h:(Zli P E (Zkx P E draw ops s) tks B ops ops.toList 0 s n [] fun s' n' logs=>if draw=true then (if Zf4 ops logs=true then k s' n' else .stuck 114) else k s' n').wp P R A ρ)
  {c:Ctx} (hcP:c.P=P) (hcn:c.nt=E.nt) {tm:Array Value} {w:World} {lim:Nat→Nat} {X:Nat→Nat→Option Nat} (hsim:Sim c (Z1 E s ρ) tm w lim X) {Q:Exit→Act→World→Prop}
  (hk:∀ s' n' ρ',K3 E s' n'→(k s' n').wp P R A ρ'→∀ tm' w' lim' X',Sim c (Z1 E s' ρ') tm' w' lim' X'→Q .normal ⟨tm',[]⟩ w'):(Code.region id ops draw).wp P Q ⟨tm,[]⟩ w:=by
 obtain ⟨ss,ρ',n',s',h1,h2,h3,h4,h5⟩:=ZaW hps hnt hKB ops.toList 0 s n [] ρ (by simp) hB hs h
 have hlen:ss.length=ops.size:=by simpa using h1
 cases draw with
 | false =>
  refine wp_region ?_
  rw [List.range_eq_range',← hlen]
  refine ZcW hcP hcn ss 0 _ tm w lim X h4 hB hsim fun tm' w' lim' X' hs'=>hk s' n' ρ' h2 (by simpa using h3) tm' w' lim' X' ?_
  rw [h5];exact hs'
 | true =>
  simp only [if_true] at h3
  split at h3
  ·rename_i hi
   rw [List.append_nil] at hi
   simp only [Zf4,Bool.and_eq_true,CheckFast.beforeF_eq] at hi
   obtain ⟨hlow,hind⟩:=hi
   refine wp_region_any hm ?_
   have hsd:Sim c (Z1 E s ρ) tm w.drew lim X:=hsim.world (ZT.refl w lim fun _=>False).drew fun b hb=>hb.elim
   refine Zkv hcP hcn h4 (fun d i k hd hr=>?_) hB hlen ?_ ?_ (fun tm' w' lim' X' hs'=>hk s' n' ρ' h2 h3 tm' w' lim' X' (by rw [h5];exact hs')) ops.size _ tm w.drew lim X (by simp) ?_ ?_ ?_
   ·have hd':(Ja (gE E s) d E.top).isEmpty=true:=by
     rcases Bool.or_eq_true_iff.1 hd with h0 | h0
     ·simp only [Bool.and_eq_true] at h0
      exact h0.1.2
     ·by_cases he:(Ja (gE E s) d E.top).isEmpty=true
      ·exact he
      ·dsimp only at h0;rw [if_neg he] at h0;cases h0
    rw [List.isEmpty_iff] at hd'
    have hda:=(JQ (g:=gE E s) ρ (Zkh s) (d:=d)).2 i k
    by_cases hid:i=d
    ·subst hid
     exact Zlo hsim hr
    ·have:=hda hid hr
     rw [hd'] at this
     cases this
   ·intro i o hio e he hb
    rw [List.all_eq_true] at hlow
    have:=hlow (o,i) (by
     rw [List.mem_zipIdx_iff_getElem?]
     simpa using hio)
    rw [Array.all_eq_true_iff_forall_mem] at this
    have:=this e he
    simpa [hb] using this
   ·rintro i j a b hia hjb hji ⟨S,hS,hSi,hSj⟩
    rw [List.all_eq_true] at hind
    have m1:=WW ss 0 i a hia
    have m2:=WW ss 0 j b hjb
    rw [Nat.zero_add] at m1 m2
    have:=hind _ m1
    rw [List.all_eq_true] at this
    have:=this _ m2
    simp only [Bool.or_eq_true,Bool.and_eq_true,Bool.not_eq_true',decide_eq_false_iff_not] at this
    rcases this with (this | this) | this
    ·exact (this hji).elim
    ·exact (hSj (ZdN hS i j hSi this)).elim
    ·exact ⟨ZjG this.1,ZjG this.2⟩
   ·intro k o hk hl
    have hlt:=(Array.getElem?_eq_some_iff.1 hk).1
    simp [Array.getD,hlt] at hl
   ·have:=List.countP_le_length (p:=fun i=>!(Array.replicate ops.size false).getD i false) (l:=List.range ops.size)
    simpa using this
   ·rw [ZaO]
    ·exact hsd
    ·intro j _ hj
     simp [Array.getD]
  ·exact h3.elim
end
end Go.AM
end

section
namespace Go.AM
inductive YE (P:Program):AV→AV→Prop
 | same {x : AV} (h : x.isCell = true ∨ ∃ b e xs, x = .own b e xs) : YE P x x
 | nil {s s' : Nat} {f : Bool} : YE P (.slice true s []) (.slice f s' [])
 | imm {f : Bool} {s : Nat} {xs : List (List AV)} : YE P (.slice f s xs) (.slice false s xs)
 | immN {f : Bool} {s s' : Nat} : YE P (.slice f s []) (.slice false s' [])
 | own {e : TypeId} {xs : List (List AV)} : YE P (.own false e xs) (.slice false (P.cellsOf e) xs)
 | ownN {b b' : Bool} {e : TypeId} : YE P (.own b e []) (.own b' e [])
 | ownZ {b : Bool} {e : TypeId} {s : Nat} : YE P (.own b e []) (.slice false s [])
 | give {b : Bool} {s : Nat} {e : TypeId} : YE P (.slice true s []) (.own b e [])
theorem ZfF {w:World} {lim:Nat→Nat} {b:Bool} {e:TypeId} {xs:List (List AV)} {v:Value} (h:Rep w lim (.own b e xs) v):False:=by cases h
theorem ZeP {P:Program} {w:World} {lim:Nat→Nat} {b b':Bool} {e:TypeId} {v:Value} {ob:Option Nat} (h:Z9 P w lim b e [] v ob):Z9 P w lim b' e [] v ob:=by
 rcases h with ⟨us,h1,h2,h3,h4,h5,h6⟩ | h | ⟨_,_,_,_,_,_,_,_,_,_,_,_,h,_⟩
 ·have hu:us = []:=List.eq_nil_of_length_eq_zero (by rw [h1.1];simp)
  subst hu
  refine .inl ⟨[],h1,h2,fun b0 hb=>?_,h4,h5,h6⟩
  have:=h3 b0 hb
  rw [this]
  simp
 ·exact .inr (.inl h)
 ·obtain ⟨_,h⟩:=h;cases h
theorem Zly {P:Program} {w:World} {lim:Nat→Nat} {x y:AV} {v:Value} (h:Rep w lim x v) (hw:YE P x y) (hy:y.isCell=true):Rep w lim y v:=by
 cases hw with
 | same _ => exact h
 | nil => exact VX (fun _ => rfl) h
 | imm => exact Zgb h
 | immN => exact VX (fun h => by cases h) h
 | own => exact (ZfF h).elim
 | ownN => exact (ZfF h).elim
 | ownZ => exact (ZfF h).elim
 | give => cases hy
theorem Zj5 {P:Program} {w:World} {lim:Nat→Nat} {ob:Option Nat} {x y:AV} {v:Value} (h:JX P w lim ob x v) (hw:YE P x y):∃ ob',(ob'=ob∨ob'=none)∧((∃ b e xs,x = .own b e xs)→ob'=ob)∧JX P w lim ob' y v:=by
 cases hw with
 | same _ => exact ⟨ob, .inl rfl, fun _ => rfl, h⟩
 | nil => exact ⟨ob, .inl rfl, fun _ => rfl, VX (fun _ => rfl) h⟩
 | imm => exact ⟨ob, .inl rfl, fun _ => rfl, Zgb h⟩
 | immN => exact ⟨ob, .inl rfl, fun _ => rfl, VX (fun h => by cases h) h⟩
 | own => exact ⟨ob, .inl rfl, fun _ => rfl, Z9.rep h false rfl⟩
 | ownN => exact ⟨ob, .inl rfl, fun _ => rfl, ZeP h⟩
 | ownZ => exact ⟨ob, .inl rfl, fun _ => rfl, VX (f := false) (fun h => h) (Z9.rep (ZeP (b' := false) h) false rfl)⟩
 | give => exact ⟨none, .inr rfl, fun ⟨_, _, _, h⟩ => (by cases h), ZaJ h⟩
inductive Zb6 (P:Program):AV→AV→Prop
 | cell {x y : AV} (h : YE P x y) : Zb6 P x y
 | agg {cs cs' : List AV} (hl : cs.length = cs'.length) (hc : ∀ c ∈ cs', c.isCell = true) (h : ∀ (i : Nat) (c c' : AV), cs[i]? = some c → cs'[i]? = some c' → YE P c c') : Zb6 P (.agg cs) (.agg cs')
theorem ZnO {w:World} {lim:Nat→Nat} {cs:List AV} {v:Value} (h:Rep w lim (.agg cs) v):∃ vs:List Value,v = .agg vs.toArray∧cs.length=vs.length∧
  ∀ (i:Nat) (c:AV) (v:Value),cs[i]? = some c→vs[i]? = some v→Rep w lim c v:=by
 cases h with
 | agg hl hc hr => exact ⟨_, rfl, hl, hr⟩
theorem ZeU {P:Program} {w:World} {lim:Nat→Nat} {ob:Option Nat} {x y:AV} {v:Value} (h:JX P w lim ob x v) (hw:Zb6 P x y):∃ ob',(ob'=ob∨ob'=none)∧((∃ b e xs,x = .own b e xs)→ob'=ob)∧JX P w lim ob' y v:=by
 cases hw with
 | cell hw => exact Zj5 h hw
 | @agg cs cs' hl hc hp =>
  refine ⟨ob,.inl rfl,fun _=>rfl,?_⟩
  obtain ⟨vs,rfl,h1,h2⟩:=ZnO (show Rep w lim (.agg cs) v from h)
  refine Rep.agg (by omega) hc fun i c' u hc' hu=>?_
  obtain ⟨c,hcc⟩:∃ c,cs[i]? = some c:=⟨_,List.getElem?_eq_getElem (by rw [hl];exact (List.getElem?_eq_some_iff.1 hc').1)⟩
  exact Zly (h2 i c u hcc hu) (hp i c c' hcc hc') (hc c' (List.mem_of_getElem? hc'))
theorem Zcu {P:Program} {w:World} {lim:Nat→Nat} {cs cs':List AV} {us:List Value} {Y:Nat→Option Nat} (hl:cs.length=cs'.length) (h:∀ (i:Nat) (c:AV) (u:Value),cs[i]? = some c→us[i]? = some u→JX P w lim (Y i) c u)
  (hw:∀ (i:Nat) (c c':AV),cs[i]? = some c→cs'[i]? = some c'→Zb6 P c c') :
  ∃ r:Nat→Option Nat,(∀ i,r i=Y i∨r i=none)∧(∀ (i:Nat) (c':AV),i < us.length→cs'[i]? = some c'→(∃ b e xs,cs[i]? = some (.own b e xs))→r i=Y i)∧∀ (i:Nat) (c':AV) (u:Value),cs'[i]? = some c'→us[i]? = some u→JX P w lim (r i) c' u:=by
 have key:∀ i,∃ ob:Option Nat,(ob=Y i∨ob=none)∧(∀ (c':AV),i < us.length→cs'[i]? = some c'→(∃ b e xs,cs[i]? = some (.own b e xs))→ob=Y i)∧∀ (c':AV) (u:Value),cs'[i]? = some c'→us[i]? = some u→JX P w lim ob c' u:=by
  intro i
  cases hc':cs'[i]? with
  | none => exact ⟨none, .inr rfl, fun c' _ h => (by cases h), fun c' u h => by cases h⟩
  | some c' =>
   cases hu:us[i]? with
   | none => exact ⟨none, .inr rfl, fun c' hlt _ => (by have := List.getElem?_eq_none_iff.1 hu; omega), fun c' u _ h => by cases h⟩
   | some u =>
    obtain ⟨c,hc⟩:∃ c,cs[i]? = some c:=⟨_,List.getElem?_eq_getElem (by rw [hl];exact (List.getElem?_eq_some_iff.1 hc').1)⟩
    obtain ⟨ob,h1,h3,h2⟩:=ZeU (h i c u hc hu) (hw i c c' hc hc')
    refine ⟨ob,h1,fun _ _ _ ⟨b,e,xs,hx⟩=>h3 ⟨b,e,xs,by rw [hc] at hx;exact Option.some.inj hx⟩,fun c2 u2 e1 e2=>?_⟩
    cases e1
    cases e2
    exact h2
 obtain ⟨r,hr⟩:=Classical.axiomOfChoice key
 exact ⟨r,fun i=>(hr i).1,fun i=>(hr i).2.1,fun i=>(hr i).2.2⟩
inductive YL (P:Program):AV→AV→Prop
 | dead {x : AV} : YL P x .dead
 | comp {x y : AV} (h : Zb6 P x y) : YL P x y
 | tuple {cs cs' : List AV} (hl : cs.length = cs'.length) (h : ∀ (i : Nat) (c c' : AV), cs[i]? = some c → cs'[i]? = some c' → Zb6 P c c') : YL P (.tuple cs) (.tuple cs')
 | box {cs cs' : List AV} (hl : cs.length = cs'.length) (h : ∀ (i : Nat) (c c' : AV), cs[i]? = some c → cs'[i]? = some c' → YE P c c') : YL P (.box cs) (.box cs')
 | gbox {cs cs' : List AV} (hl : cs.length = cs'.length) (h : ∀ (i : Nat) (c c' : AV), cs[i]? = some c → cs'[i]? = some c' → YE P c c') : YL P (.gbox cs) (.gbox cs')
theorem Kt {P:Program} {x y:AV} (h:YE P x y):y.isCell=true∨∃ b e xs,y = .own b e xs:=by
 cases h with
 | same h => exact h
 | nil => exact .inl rfl
 | imm => exact .inl rfl
 | immN => exact .inl rfl
 | own => exact .inl rfl
 | ownN => exact .inr ⟨_, _, _, rfl⟩
 | ownZ => exact .inl rfl
 | give => exact .inr ⟨_, _, _, rfl⟩
theorem WI {P:Program} {x y:AV} (h:YE P x y):x.isCell=true∨∃ b e xs,x = .own b e xs:=by
 cases h with
 | same h => exact h
 | nil => exact .inl rfl
 | imm => exact .inl rfl
 | immN => exact .inl rfl
 | own => exact .inr ⟨_, _, _, rfl⟩
 | ownN => exact .inr ⟨_, _, _, rfl⟩
 | ownZ => exact .inr ⟨_, _, _, rfl⟩
 | give => exact .inl rfl
theorem ZaZ {P:Program} {e e':TypeId} {xs xs':List (List AV)} (h:YE P (.own true e xs) (.own true e' xs')):e'=e∧xs'=xs:=by
 cases h with
 | same _ => exact ⟨rfl, rfl⟩
 | ownN => exact ⟨rfl, rfl⟩
theorem Zct {P:Program} {w:World} {lim:Nat→Nat} {Y:Nat→Option Nat} {cs cs':List AV} {v:Value} (h:ZG P w lim Y cs v) (hl:cs.length=cs'.length)
  (hp:∀ (i:Nat) (c c':AV),cs[i]? = some c→cs'[i]? = some c'→YE P c c'):∃ r:Nat→Option Nat,(∀ k,r k=Y k∨r k=none)∧r 0=Y 0∧(∀ k,(∃ p,Zr (.box cs) k=some p)→r k=Y k)∧ZG P w lim r cs' v:=by
 obtain ⟨b,arr,t,h1,rfl,h3,h4,h5,h6,h7⟩:=h
 obtain ⟨r,g1,g3,g2⟩:=Zcu (P:=P) (w:=w) (lim:=lim) (us:=arr.toList) (Y:=fun i=>Y (i+1)) hl (fun i c u hc hu=>h7 i c u hc (by simpa using hu)) (fun i c c' hc hc'=>.cell (hp i c c' hc hc'))
 refine ⟨fun k=>match k with | 0=>Y 0 | k+1=>r k,fun k=>?_,rfl,fun k hk=>?_,?_⟩
 ·cases k with
  | zero => exact .inl rfl
  | succ k => exact g1 k
 ·obtain ⟨⟨e,xs⟩,hk⟩:=hk
  rcases ZB hk with ⟨h,_⟩ | ⟨ds,q,hd,rfl,hq⟩ | ⟨_,_,h,_⟩
  case inr.inr=>cases h
  ·cases h
  ·cases hd
   have hlt:=(List.getElem?_eq_some_iff.1 hq).1
   exact g3 q _ (by simp;omega) (List.getElem?_eq_getElem (by rw [← hl];exact hlt)) ⟨_,_,_,hq⟩
 ·refine ⟨b,arr,t,h1,rfl,h3,by rw [h4,hl],h5,fun c hc=>?_,fun i c u hc hu=>g2 i c u hc (by simpa using hu)⟩
  obtain ⟨i,hi⟩:=List.mem_iff_getElem?.1 hc
  obtain ⟨c0,hc0⟩:∃ c0,cs[i]? = some c0:=⟨_,List.getElem?_eq_getElem (by rw [hl];exact (List.getElem?_eq_some_iff.1 hi).1)⟩
  exact (Kt (hp i c0 c hc0 hi)).imp id .inl
theorem Yp {P:Program} {x y:AV} (h:Zb6 P x y):y.isB=false:=by
 cases h with
 | agg _ _ _ => rfl
 | cell h =>
  rcases Kt h with hy | ⟨_,_,_,rfl⟩
  ·cases y<;>first | rfl | (simp [AV.isCell] at hy)
  ·rfl
theorem Zj4 {P:Program} {x y:AV} (h:YL P x y) (hy:y.isG=true):x.isG=true:=by
 cases h with
 | gbox _ _ => rfl
 | comp h => have := Yp h; rw [WM hy] at this; cases this
 | _ => cases hy
theorem ZlP {P:Program} {x y:AV} (h:Zb6 P x y):(∀ d o,y≠.ptr d o)∧(∀ d k,y≠.mref d k)∧∀ g ds,y≠.clo g ds:=by
 cases h with
 | agg _ _ _ => exact ⟨fun _ _ h => (by cases h), fun _ _ h => (by cases h), fun _ _ h => (by cases h)⟩
 | cell hw =>
  refine ⟨fun _ _ e=>?_,fun _ _ e=>?_,fun _ _ e=>?_⟩ <;> subst e<;>rcases Kt hw with h | ⟨_,_,_,h⟩ <;> cases h
theorem WF {P:Program} {x y:AV} (h:YL P x y):(∀ d o,y≠.ptr d o)∧(∀ d k,y≠.mref d k)∧∀ g ds,y≠.clo g ds:=by
 cases h with
 | comp hw => exact ZlP hw
 | _ => exact ⟨fun _ _ h => (by cases h), fun _ _ h => (by cases h), fun _ _ h => (by cases h)⟩
theorem Zev {P:Program} {x y:AV} (h:YL P x y) {k:Nat} {e e':TypeId} {xs xs':List (List AV)} (hx:Zr x k=some (e,xs)) (hy:Zr y k=some (e',xs')):e'=e∧xs'=xs:=by
 rcases ZB hx with ⟨rfl,rfl⟩ | ⟨cs,q,rfl,rfl,hq⟩ | ⟨cs,q,rfl,rfl,hq⟩
 ·rcases ZB hy with ⟨rfl,_⟩ | ⟨_,_,_,h0,_⟩ | ⟨_,_,_,h0,_⟩
  ·cases h with
   | comp hw =>
    cases hw with
    | cell hc => exact ZaZ hc
  ·cases h0
  ·cases h0
 ·rcases ZB hy with ⟨_,h0⟩ | ⟨cs',q',rfl,h0,hq'⟩ | ⟨cs',q',rfl,h0,hq'⟩
  ·cases h0
  ·cases h0
   cases h with
   | comp hw => have := Yp hw; cases this
   | box hl hp => exact ZaZ (hp q _ _ hq hq')
  ·cases h with
   | comp hw => have := Yp hw; cases this
 ·rcases ZB hy with ⟨_,h0⟩ | ⟨cs',q',rfl,h0,hq'⟩ | ⟨cs',q',rfl,h0,hq'⟩
  ·cases h0
  ·cases h with
   | comp hw => have := Yp hw; cases this
  ·cases h0
   cases h with
   | comp hw => have := Yp hw; cases this
   | gbox hl hp => exact ZaZ (hp q _ _ hq hq')
theorem ZeL {P:Program} {w:World} {lim:Nat→Nat} {X:Nat→Nat→Option Nat} {σ:Nat→AV} {d:Nat} {x y:AV} {v:Value} (h:ZK P w lim X σ d x v) (hw:YL P x y) :
  ∃ r:Nat→Option Nat,(∀ k,r k=X d k∨r k=none)∧(y.isB=true→r 0=X d 0)∧(∀ k,(∃ p,Zr x k=some p)→(∃ p,Zr y k=some p)→r k=X d k)∧∀ (X':Nat→Nat→Option Nat) (σ':Nat→AV) (d':Nat),X' d'=r→ZK P w lim X' σ' d' y v:=by
 cases hw with
 | dead => exact ⟨fun _ => none, fun _ => .inr rfl, fun h => (by cases h), fun k _ ⟨p, hp⟩ => (by rcases ZB (e := p.1) (xs := p.2) hp with ⟨h, _⟩ | ⟨_, _, h, _⟩ | ⟨_, _, h, _⟩ <;> cases h), fun _ _ _ _ => trivial⟩
 | comp hw =>
  have hnb:=Yp hw
  have hc:JX P w lim (X d 0) x v:=by
   cases hw with
   | agg hl hc hp => exact h
   | cell hw =>
    rcases WI hw with hx | ⟨b,e,xs,rfl⟩
    ·cases x<;>simp [AV.isCell] at hx<;>exact h
    ·exact h
  obtain ⟨ob,h1,h4,h2⟩:=ZeU hc hw
  refine ⟨fun k=>if k=0 then ob else none,fun k=>?_,fun h=>by (rw [hnb] at h;cases h),fun k ⟨p,hp⟩ _=>?_,fun X' σ' d' hX=>?_⟩
  ·dsimp only
   split
   ·rename_i hk;subst hk;exact h1
   ·exact .inr rfl
  ·rcases ZB (e:=p.1) (xs:=p.2) hp with ⟨hx,rfl⟩ | ⟨cs,q,hx,_⟩ | ⟨cs,q,hx,_⟩
   case inr.inr=>
    subst hx
    cases hw with
    | cell hw => rcases WI hw with h | ⟨_, _, _, h⟩ <;> cases h
   ·exact h4 ⟨_,_,_,hx⟩
   ·subst hx
    cases hw with
    | cell hw => rcases WI hw with h | ⟨_, _, _, h⟩ <;> cases h
  ·have h3:X' d' 0=ob:=by rw [hX];rfl
   cases hw with
   | agg hl hc hp => exact h2
   | cell hw =>
    rcases Kt hw with hy | ⟨b,e,xs,rfl⟩
    ·cases y<;>simp [AV.isCell] at hy<;>exact h2
    ·show Z9 P w lim b e xs v (X' d' 0)
     rw [h3]
     exact h2
 | @tuple cs cs' hl hp =>
  obtain ⟨us,rfl,h2,h3⟩:=h
  obtain ⟨r,g1,_,g2⟩:=Zcu (Y:=fun i=>X d (i+1)) hl h3 hp
  refine ⟨fun k=>match k with | 0=>none | k+1=>r k,fun k=>?_,fun h=>(by cases h),fun k ⟨p,hp⟩ _=>(by rcases ZB (e:=p.1) (xs:=p.2) hp with ⟨h,_⟩ | ⟨_,_,h,_⟩ | ⟨_,_,h,_⟩ <;> cases h),fun X' σ' d' hX=>?_⟩
  ·cases k with
   | zero => exact .inr rfl
   | succ k => exact g1 k
  ·refine ⟨us,rfl,by rw [h2,hl],fun i c u hc hu=>?_⟩
   have:X' d' (i+1)=r i:=by rw [hX]
   rw [this]
   exact g2 i c u hc hu
 | @box cs cs' hl hp =>
  obtain ⟨r,g1,g2,g4,g3⟩:=Zct h hl hp
  exact ⟨r,g1,fun _=>g2,fun k hk _=>g4 k hk,fun X' σ' d' hX=>by (show ZG P w lim (X' d') cs' v;rw [hX];exact g3)⟩
 | @gbox cs cs' hl hp =>
  obtain ⟨v',h⟩:=h
  obtain ⟨r,g1,g2,g4,g3⟩:=Zct h hl hp
  exact ⟨r,g1,fun _=>g2,fun k hk _=>g4 k (by cases k<;>exact hk),fun X' σ' d' hX=>⟨v',by rw [hX];exact g3⟩⟩
theorem ZT.wider {w:World} {lim:Nat→Nat} {w':World} {lim':Nat→Nat} {S S':Nat→Prop} (h:ZT w lim w' lim' S) (hs:∀ b,S b→S' b):ZT w lim w' lim' S':=
 ⟨h.os,h.tape,h.output,h.size,h.frz,fun b hb hn=>h.blk b hb fun hS=>hn (hs b hS),h.ext⟩
def ZuV (bs:List AV) (a b:AV):Prop:=∃ g ds,a = .clo g ds∧b = .clo g ds∧∀ d∈ds,(ZM bs d).isB=true
def Zpj (bs:List AV) (a b:AV):Prop:=∃ j q,a = .mref j q∧b = .mref j q∧∃ p,Zr (ZM bs j) q=some p
def Vz (P:Program) (aZ bs:List AV):Prop:=aZ.length=bs.length∧∀ (i:Nat) (a b:AV),aZ[i]? = some a→bs[i]? = some b→YL P a b∨ZuV bs a b∨Zpj bs a b
theorem Zbf {P:Program} {aZ bs:List AV} (h:Vz P aZ bs) (i:Nat):YL P (ZM aZ i) (ZM bs i)∨ZuV bs (ZM aZ i) (ZM bs i)∨Zpj bs (ZM aZ i) (ZM bs i):=by
 cases hb:bs[i]? with
 | none =>
  have:ZM bs i = .dead:=by simp [ZM,hb]
  rw [this]
  exact .inl .dead
 | some b =>
  obtain ⟨a,ha⟩:∃ a,aZ[i]? = some a:=⟨_,List.getElem?_eq_getElem (by rw [h.1];exact (List.getElem?_eq_some_iff.1 hb).1)⟩
  have h1:ZM aZ i=a:=by simp [ZM,ha]
  have h2:ZM bs i=b:=by simp [ZM,hb]
  rw [h1,h2]
  exact h.2 i a b ha hb
theorem Zd2 {P:Program} {aZ bs:List AV} (h:Vz P aZ bs) {i:Nat} (hi:(ZM bs i).isG=true):(ZM aZ i).isG=true:=by
 rcases Zbf h i with h1 | ⟨g,ds,_,h1,_⟩ | ⟨_,_,_,h1,_⟩
 ·exact Zj4 h1 hi
 ·rw [h1] at hi;cases hi
 ·rw [h1] at hi;cases hi
theorem Zd7:∀ (aZ bs:List AV),aZ.length=bs.length→(∀ (i:Nat) (a b:AV),aZ[i]? = some a→bs[i]? = some b→b.isG=true→a.isG=true)→bs.countP AV.isG≤aZ.countP AV.isG
 | [], [], _, _ => Nat.le_refl _
 | [], _ :: _, h, _ => by simp at h
 | _ :: _, [], h, _ => by simp at h
 | a :: aZ, b :: bs, hl, h => by
  have ih:=Zd7 aZ bs (by simpa using hl) fun i x y hx hy=>h (i+1) x y (by simpa using hx) (by simpa using hy)
  have h0:=h 0 a b rfl rfl
  rw [List.countP_cons,List.countP_cons]
  by_cases hb:b.isG=true
  ·rw [if_pos hb,if_pos (h0 hb)];omega
  ·rw [if_neg hb];split<;>omega
theorem Zft {P:Program} {aZ bs:List AV} (h:Vz P aZ bs):bs.countP AV.isG≤aZ.countP AV.isG:=
 Zd7 aZ bs h.1 fun i a b ha hb hg=>by
  have h1:ZM aZ i=a:=by simp [ZM,ha]
  have h2:ZM bs i=b:=by simp [ZM,hb]
  have:=Zd2 h (i:=i) (by rw [h2];exact hg)
  rwa [h1] at this
theorem ZcT {P:Program} {w:World} {lim:Nat→Nat} {X:Nat→Nat→Option Nat} {aZ bs:List AV} {vs:Nat→Value} (h:∀ i,ZK P w lim X (ZM aZ) i (ZM aZ i) (vs i)) (hw:Vz P aZ bs) :
  ∃ X':Nat→Nat→Option Nat,(∀ i k,X' i k=X i k∨X' i k=none)∧(∀ i,(ZM bs i).isB=true→X' i 0=X i 0)∧∀ i,ZK P w lim X' (ZM bs) i (ZM bs i) (vs i):=by
 have key:∀ i,∃ r:Nat→Option Nat,(∀ k,r k=X i k∨r k=none)∧((ZM bs i).isB=true→r 0=X i 0)∧((∀ g ds,ZM bs i≠.clo g ds)→(∀ j q,ZM bs i≠.mref j q)→∀ X':Nat→Nat→Option Nat,X' i=r→ZK P w lim X' (ZM bs) i (ZM bs i) (vs i))∧
   ∀ k e xs e' xs',Zr (ZM aZ i) k=some (e,xs)→Zr (ZM bs i) k=some (e',xs')→e'=e∧xs'=xs∧r k=X i k:=by
  intro i
  rcases Zbf hw i with h1 | ⟨g,ds,_,h1,_⟩ | ⟨_,_,_,h1,_⟩
  ·obtain ⟨r,g1,g2,g4,g3⟩:=ZeL (h i) h1
   refine ⟨r,g1,g2,fun _ _ X' hX=>g3 X' _ _ hX,fun k e xs e' xs' hx hy=>?_⟩
   obtain ⟨h2,h3⟩:=Zev h1 hx hy
   exact ⟨h2,h3,g4 k ⟨_,hx⟩ ⟨_,hy⟩⟩
  ·exact ⟨fun _=>none,fun _=>.inr rfl,fun hb=>by (rw [h1] at hb;cases hb),fun hn _=>(hn g ds h1).elim,fun k e xs e' xs' _ hy=>by (rw [h1] at hy;cases hy)⟩
  ·exact ⟨fun _=>none,fun _=>.inr rfl,fun hb=>by (rw [h1] at hb;cases hb),fun _ hn=>(hn _ _ h1).elim,fun k e xs e' xs' _ hy=>by (rw [h1] at hy;cases hy)⟩
 obtain ⟨X',hX⟩:=Classical.axiomOfChoice key
 refine ⟨X',fun i=>(hX i).1,fun i=>(hX i).2.1,fun i=>?_⟩
 rcases Zbf hw i with h1 | ⟨g',ds',h0,h1,h2⟩ | ⟨j,q,h0,h1,p,h2⟩
 ·exact (hX i).2.2.1 (fun g ds e=>(WF h1).2.2 g ds e) (fun j q e=>(WF h1).2.1 j q e) X' rfl
 ·have hi:=h i
  rw [h0] at hi
  rw [h1]
  obtain ⟨bs',m1,m2,m3⟩:=hi
  refine ⟨bs',m1,m2,fun k d b hd hb=>?_⟩
  have hB:=h2 d (List.mem_of_getElem? hd)
  exact ⟨((hX d).2.1 hB).trans (m3 k d b hd hb).1,hB⟩
 ·have hi:=h i
  rw [h0] at hi
  rw [h1]
  obtain ⟨e,xs,m1,m2⟩:=hi
  obtain ⟨e',xs'⟩:=p
  obtain ⟨n1,n2,n3⟩:=(hX j).2.2.2 q e xs e' xs' m1 h2
  subst n1
  subst n2
  exact ⟨e',xs',h2,by rw [n3];exact m2⟩
theorem Zfu {X X':Nat→Nat→Option Nat} (h:Zj1 X) (hX:∀ i k,X' i k=X i k∨X' i k=none):Zj1 X':=by
 intro d k d' k' b h1 h2
 rcases hX d k with e1 | e1
 ·rcases hX d' k' with e2 | e2
  ·exact h d k d' k' b (e1.symm.trans h1) (e2.symm.trans h2)
  ·rw [e2] at h2;cases h2
 ·rw [e1] at h1;cases h1
theorem JI.stronger {P:Program} {f:FuncId} {aZ bs:List AV} {res:AV} {outs:List AV} (h:JI P f bs res outs) (ha:Vz P aZ bs):JI P f aZ res outs:=by
 refine ⟨h.1,fun w lim X cargs hcl hrel hdist hsize=>?_⟩
 obtain ⟨X2,g1,g3,g2⟩:=ZcT hrel ha
 have hX2:∀ i k b,X2 i k=some b→X i k=some b:=by
  intro i k b hb
  rcases g1 i k with e | e
  ·rw [← e];exact hb
  ·rw [e] at hb;cases hb
 refine (h.2 w lim X2 cargs (by have:=Zft ha;have:=ha.1;omega) g2 (Zfu hdist g1) fun i k b hb=>hsize i k b (hX2 i k b hb)).mono ?_
 rintro e w' ⟨v,lim',X',he,hst,hol,hr,hd,hin,hgh⟩
 refine ⟨v,lim',X',he,hst.wider fun b ⟨i,k,hb⟩=>⟨i,k,hX2 i k b hb⟩,by rw [hol,ha.1],fun i=>by (rw [ha.1];exact hr i),hd,fun i k b hb=>?_,fun i hi=>?_⟩
 ·obtain ⟨m1,m2⟩:=hin i k b hb
  exact ⟨m1,m2.imp (fun ⟨i,k,h⟩=>⟨i,k,hX2 i k b h⟩) id⟩
 ·obtain ⟨m1,m2⟩:=hgh i hi
  exact ⟨Zd2 ha m1,by rw [m2,g3 i (WM m1)]⟩
end Go.AM
end

section
namespace Go.AM
def Zhn (ρ:Nat→V) (n:Nat) (l:List V):Prop:=∀ (j:Nat) (v:V),l[j]? = some v→ρ (n+j)=v
theorem Zhn.tail {ρ:Nat→V} {n:Nat} {v:V} {l:List V} (h:Zhn ρ n (v::l)):ρ n=v∧Zhn ρ (n+1) l:=
 ⟨h 0 v rfl,fun j u hj=>by rw [show n+1+j=n+(j+1) by omega];exact h (j+1) u (by simpa using hj)⟩
theorem Zhn.app {ρ:Nat→V} {n:Nat} {l l':List V} (h:Zhn ρ n (l++l')):Zhn ρ n l∧Zhn ρ (n+l.length) l':=
  ⟨fun j v hj=>h j v (by rw [List.getElem?_append_left (List.getElem?_eq_some_iff.1 hj).1];exact hj),
   fun j v hj=>by
    rw [show n+l.length+j=n+(l.length+j) by omega]
    exact h _ v (by rw [List.getElem?_append_right (by omega)];simpa using hj)⟩
theorem Zhn.bind (ρ:Nat→V) (n:Nat) (vs:List V):Zhn (bind ρ n vs) n vs:=by
 intro j v hj
 unfold AM.bind
 rw [if_neg (by omega),show n+j-n=j by omega,hj]
 rfl
def vAt (us:List V) (j:Nat):V:=(us[j]?).getD (.i 0)
def YV:Sh→V→AV
 | .int k, v => .val (.int k v.int)
 | .bool, v => .val (.bool v.bool)
 | .str, v => .val (.string v.str)
 | .slice s, v => .slice false s v.list
 | .own x e, v => .own x e v.list
def ZV:List Sh→List V→Nat→List AV
 | [], _, _ => []
 | s :: ss, us, j => YV s (vAt us j) :: ZV ss us (j + 1)
theorem Zh7 {s:Sh} (h:s.imm=true) (v:V):(YV s v).isCell=true:=by cases s<;>simp [Sh.imm] at h<;>rfl
theorem K9 (pre post:List V) (v:V):vAt (pre++v::post) pre.length=v:=by simp [vAt]
theorem Jm:∀ (l:List Sh) (us:List V) (j:Nat),(ZV l us j).length=l.length
 | [], _, _ => rfl
 | _ :: ss, us, j => by simp [ZV, Jm ss us (j + 1)]
theorem Kr:∀ (l:List Sh) (us:List V) (j:Nat),l.all Sh.imm=true→∀ c∈ZV l us j,c.isCell=true
 | [], _, _, _ => by simp [ZV]
 | s :: ss, us, j, h => by
  rw [List.all_cons,Bool.and_eq_true] at h
  intro c hc
  rcases List.mem_cons.1 hc with rfl | hc
  ·exact Zh7 h.1 _
  ·exact Kr ss us (j+1) h.2 c hc
section
variable {P:Program} {ρ:Nat→V}
theorem Zdf {s:Sh} {x:SC} {v:VE} (h:ZmC s x=some v):YE P (x.den ρ) (YV s (v.den ρ)):=by
 unfold ZmC at h
 split at h
 ·split at h
  ·simp only [Option.some.injEq] at h;subst h;rename_i hk;subst hk;exact .same (.inl rfl)
  ·cases h
 ·simp only [Option.some.injEq] at h;subst h;exact .same (.inl rfl)
 ·simp only [Option.some.injEq] at h;subst h;exact .same (.inl rfl)
 ·split at h
  ·simp only [Option.some.injEq] at h;subst h;rename_i hk;subst hk;exact .imm
  ·split at h
   ·simp only [Option.some.injEq] at h;subst h;exact .immN
   ·cases h
 ·split at h
  ·simp only [Option.some.injEq] at h;subst h;exact .give
  ·cases h
 ·cases h
theorem Zfr {l:LE} (h:l.isNil=true):l = .nil:=by cases l<;>first | rfl | cases h
theorem ZbD {s:Sh} {x:Bool} {e:TypeId} {l:LE} {v:VE} (h:ZbP P s x e l=some v):YE P (.own x e (l.den ρ)) (YV s (v.den ρ)):=by
 unfold ZbP at h
 split at h
 ·split at h
  ·simp only [Option.some.injEq] at h
   subst h
   rename_i hk
   obtain ⟨rfl,hk⟩:=hk
   rcases hk with rfl | hk
   ·exact .same (.inr ⟨_,_,_,rfl⟩)
   ·have:=Zfr hk
    subst this
    exact .ownN
  ·cases h
 ·split at h
  ·simp only [Option.some.injEq] at h
   subst h
   rename_i hk
   obtain ⟨rfl,hk⟩:=hk
   rcases hk with rfl | hk
   ·exact .own
   ·have:=Zfr hk
    subst this
    exact .ownZ
  ·cases h
 ·cases h
theorem Zdi:∀ (l:List Sh) (cs:List SC) (vs:List VE),Zd8 l cs=some vs→vs.length=l.length∧cs.length=l.length∧∀ pre post:List V,
  ∀ (i:Nat) (c c':AV),(cs.map (SC.den ρ))[i]? = some c→(ZV l (pre++vs.map (VE.den ρ)++post) pre.length)[i]? = some c'→YE P c c'
 | [], [], vs, h => by
  simp only [Zd8,Option.some.injEq] at h
  subst h
  exact ⟨rfl,rfl,fun _ _ i c c' h=>by simp at h⟩
 | [], _ :: _, _, h => by simp [Zd8] at h
 | _ :: _, [], _, h => by simp [Zd8] at h
 | s :: ss, c :: cs, us, h => by
  simp only [Zd8] at h
  split at h
  ·rename_i v vs hv hvs
   simp only [Option.some.injEq] at h
   subst h
   obtain ⟨h1,h2,h3⟩:=Zdi ss cs vs hvs
   refine ⟨by simp [h1],by simp [h2],fun pre post i c1 c2 hc1 hc2=>?_⟩
   cases i with
   | zero =>
    simp only [ZV,List.map_cons,List.getElem?_cons_zero,Option.some.injEq] at hc1 hc2
    subst hc1
    subst hc2
    rw [List.append_assoc,List.cons_append,K9]
    exact Zdf hv
   | succ i =>
    have:=h3 (pre++[v.den ρ]) post i c1 c2 (by simpa using hc1)
    simp only [List.append_assoc,List.cons_append,List.nil_append,List.length_append,List.length_cons,List.length_nil] at this
    simp only [ZV,List.map_cons,List.getElem?_cons_succ,List.append_assoc,List.cons_append] at hc2
    exact this hc2
  ·cases h
theorem Znr {s:Sh} {x:BC} {v:VE} (h:Zsh P s x=some v):YE P (x.den ρ) (YV s (v.den ρ)):=by
 unfold Zsh at h
 split at h
 ·exact Zdf h
 ·exact ZbD h
 ·cases h
theorem Vn:∀ (l:List Sh) (cs:List BC) (vs:List VE),ZbQ P l cs=some vs→vs.length=l.length∧cs.length=l.length∧∀ pre post:List V,
  ∀ (i:Nat) (c c':AV),(cs.map (BC.den ρ))[i]? = some c→(ZV l (pre++vs.map (VE.den ρ)++post) pre.length)[i]? = some c'→YE P c c'
 | [], [], vs, h => by
  simp only [ZbQ,Option.some.injEq] at h
  subst h
  exact ⟨rfl,rfl,fun _ _ i c c' h=>by simp at h⟩
 | [], _ :: _, _, h => by simp [ZbQ] at h
 | _ :: _, [], _, h => by simp [ZbQ] at h
 | s :: ss, c :: cs, us, h => by
  simp only [ZbQ] at h
  split at h
  ·rename_i v vs hv hvs
   simp only [Option.some.injEq] at h
   subst h
   obtain ⟨h1,h2,h3⟩:=Vn ss cs vs hvs
   refine ⟨by simp [h1],by simp [h2],fun pre post i c1 c2 hc1 hc2=>?_⟩
   cases i with
   | zero =>
    simp only [ZV,List.map_cons,List.getElem?_cons_zero,Option.some.injEq] at hc1 hc2
    subst hc1
    subst hc2
    rw [List.append_assoc,List.cons_append,K9]
    exact Znr hv
   | succ i =>
    have:=h3 (pre++[v.den ρ]) post i c1 c2 (by simpa using hc1)
    simp only [List.append_assoc,List.cons_append,List.nil_append,List.length_append,List.length_cons,List.length_nil] at this
    simp only [ZV,List.map_cons,List.getElem?_cons_succ,List.append_assoc,List.cons_append] at hc2
    exact this hc2
  ·cases h
end
theorem ZhT {s:Sh} (hs:s.imm=true) {n:Nat} {ρ:Nat→V} {v:V} (h:ρ n=v):(YG s n).den ρ=YV s v:=by
 subst h
 cases s<;>simp [Sh.imm] at hs<;>rfl
theorem ZbB:∀ (l:List Sh) (n m:Nat) (ρ:Nat→V) (us:List V),l.all Sh.imm=true→(∀ j,j < l.length→ρ (n+j)=vAt us (m+j))→(ZQ l n).map (SC.den ρ)=ZV l us m
 | [], _, _, _, _, _, _ => rfl
 | s :: ss, n, m, ρ, us, hi, h => by
  rw [List.all_cons,Bool.and_eq_true] at hi
  rw [ZQ,List.map_cons,ZV,ZhT hi.1 (show ρ n=vAt us m from h 0 (by simp)),ZbB ss (n+1) (m+1) ρ us hi.2 fun j hj=>by
   have:=h (j+1) (by simp;omega)
   rw [show n+1+j=n+(j+1) by omega,show m+1+j=m+(j+1) by omega]
   exact this]
theorem ZlD {s:Sh} {n:Nat} {ρ:Nat→V} {v:V} (h:ρ n=v):(Zny s n).den ρ=YV s v:=by
 subst h
 cases s<;>rfl
theorem WN:∀ (l:List Sh) (n m:Nat) (ρ:Nat→V) (us:List V),(∀ j,j < l.length→ρ (n+j)=vAt us (m+j))→(Kc l n).map (BC.den ρ)=ZV l us m
 | [], _, _, _, _, _ => rfl
 | s :: ss, n, m, ρ, us, h => by
  rw [Kc,List.map_cons,ZV,ZlD (show ρ n=vAt us m from h 0 (by simp)),WN ss (n+1) (m+1) ρ us fun j hj=>by
   have:=h (j+1) (by simp;omega)
   rw [show n+1+j=n+(j+1) by omega,show m+1+j=m+(j+1) by omega]
   exact this]
def Vt (h:HP) (us:List V) (j:Nat):AV:=
 match h with
 | .c s => YV s (vAt us j)
 | .agg l => .agg (ZV l us j)
 | .box l => .box (ZV l us j)
 | .mref d k => .mref d k
 | .ptr d o => .ptr d o
 | .dead => .dead
 | .gbox l => .gbox (ZV l us j)
 | .clo g ds => .clo g ds
def HP.fine:HP→Bool
 | .agg l => l.all Sh.imm
 | _ => true
theorem ZjD {h:HP} (hf:h.fine=true) {n m:Nat} {ρ:Nat→V} {us:List V} (hρ:∀ j,j < h.n→ρ (n+j)=vAt us (m+j)):(ZkT h n).den ρ=Vt h us m:=by
 cases h with
 | c s =>
  have h0:=hρ 0 (Nat.zero_lt_one)
  simp only [Nat.add_zero] at h0
  cases s<;>simp only [ZkT,Vt,SV.den,YG,SC.den,IE.den,BE.den,SE.den,LE.den,h0,YV]
 | agg l => simp only [ZkT, Vt, SV.den, ZbB l n m ρ us hf hρ]
 | box l => simp only [ZkT, Vt, SV.den, WN l n m ρ us hρ]
 | gbox l => simp only [ZkT, Vt, SV.den, WN l n m ρ us hρ]
 | clo g ds => rfl
 | mref d k => rfl
 | ptr d o => rfl
 | dead => rfl
def Zuc (h:HP) (x:AV):Prop:=(∃ d o,h = .ptr d o∧x = .ptr d o)∨(∃ d k,h = .mref d k∧x = .mref d k)∨∃ g ds,h = .clo g ds∧x = .clo g ds
theorem Zji {P:Program} {ρ:Nat→V} {h:HP} {x:SV} {vs:List VE} (hv:ZgS P h x=some vs):vs.length=h.n∧h.fine=true∧∀ pre post:List V,
  Zuc h (x.den ρ)∨YL P (x.den ρ) (Vt h (pre++vs.map (VE.den ρ)++post) pre.length):=by
 unfold ZgS at hv
 split at hv
 ·cases hd:ZmC _ _ with
  | none => rw [hd] at hv; cases hv
  | some v =>
   rw [hd] at hv
   simp only [Option.map_some,Option.some.injEq] at hv
   subst hv
   refine ⟨rfl,rfl,fun pre post=>.inr ?_⟩
   simp only [Vt,List.map_cons,List.map_nil,List.append_assoc,List.cons_append,List.nil_append,K9]
   exact .comp (.cell (Zdf hd))
 ·cases hd:ZbP P _ _ _ _ with
  | none => rw [hd] at hv; cases hv
  | some v =>
   rw [hd] at hv
   simp only [Option.map_some,Option.some.injEq] at hv
   subst hv
   refine ⟨rfl,rfl,fun pre post=>.inr ?_⟩
   simp only [Vt,List.map_cons,List.map_nil,List.append_assoc,List.cons_append,List.nil_append,K9]
   exact .comp (.cell (ZbD hd))
 ·split at hv
  ·rename_i hi
   obtain ⟨h1,h2,h3⟩:=Zdi (P:=P) (ρ:=ρ) _ _ _ hv
   exact ⟨h1,hi,fun pre post=>.inr (.comp (.agg (by rw [List.length_map,h2,Jm]) (Kr _ _ _ hi) (h3 pre post)))⟩
  ·cases hv
 ·obtain ⟨h1,h2,h3⟩:=Vn (P:=P) (ρ:=ρ) _ _ _ hv
  exact ⟨h1,rfl,fun pre post=>.inr (.box (by rw [List.length_map,h2,Jm]) (h3 pre post))⟩
 ·split at hv
  ·rename_i hh
   simp only [Option.some.injEq] at hv
   subst hv
   obtain ⟨rfl,rfl⟩:=hh
   exact ⟨rfl,rfl,fun _ _=>.inl (.inr (.inl ⟨_,_,rfl,rfl⟩))⟩
  ·cases hv
 ·split at hv
  ·rename_i hh
   simp only [Option.some.injEq] at hv
   subst hv
   obtain ⟨rfl,rfl⟩:=hh
   exact ⟨rfl,rfl,fun _ _=>.inl (.inl ⟨_,_,rfl,rfl⟩)⟩
  ·cases hv
 ·simp only [Option.some.injEq] at hv
  subst hv
  exact ⟨rfl,rfl,fun _ _=>.inr .dead⟩
 ·obtain ⟨h1,h2,h3⟩:=Vn (P:=P) (ρ:=ρ) _ _ _ hv
  exact ⟨h1,rfl,fun pre post=>.inr (.gbox (by rw [List.length_map,h2,Jm]) (h3 pre post))⟩
 ·split at hv
  ·rename_i hh
   simp only [Option.some.injEq] at hv
   subst hv
   obtain ⟨rfl,rfl⟩:=hh
   exact ⟨rfl,rfl,fun _ _=>.inl (.inr (.inr ⟨_,_,rfl,rfl⟩))⟩
  ·cases hv
 ·cases hv
theorem KG {P:Program} {g:Nat→SV} {ρ:Nat→V} : ∀ (hs:List (Nat×HP)) (n:Nat) (ves:List VE) (pre:List V),YK P g hs=some ves→pre.length=n→
  (ZP hs n).2=n+ves.length∧(ZP hs n).1.map (·.1)=hs.map (·.1)∧∀ u∈(ZP hs n).1,∃ h,(u.1,h)∈hs∧∃ m,u.2=ZkT h m∧m+h.n≤n+ves.length∧h.fine=true∧
   ∀ post:List V,Zuc h ((g u.1).den ρ)∨YL P ((g u.1).den ρ) (Vt h (pre++ves.map (VE.den ρ)++post) m)
 | [], n, ves, pre, h, hp => by
  simp only [YK,Option.some.injEq] at h
  subst h
  exact ⟨rfl,rfl,by simp [ZP]⟩
 | p :: r, n, ves, pre, h, hp => by
  simp only [YK] at h
  split at h
  ·rename_i v vs hv hvs
   simp only [Option.some.injEq] at h
   subst h
   obtain ⟨h1,h2,h3⟩:=Zji (P:=P) (ρ:=ρ) hv
   obtain ⟨g1,g2,g3⟩:=KG r (n+p.2.n) vs (pre++v.map (VE.den ρ)) hvs (by simp [hp,h1])
   refine ⟨by simp only [ZP,g1,List.length_append,h1];omega,by simp only [ZP,List.map_cons,g2],fun u hu=>?_⟩
   simp only [ZP,List.mem_cons] at hu
   rcases hu with rfl | hu
   ·refine ⟨p.2,by simp,n,rfl,by simp only [List.length_append,h1];omega,h2,fun post=>?_⟩
    have:=h3 pre (vs.map (VE.den ρ)++post)
    rw [hp] at this
    simpa [List.append_assoc] using this
   ·obtain ⟨h,k1,m,k2,k3,k4,k5⟩:=g3 u hu
    refine ⟨h,by simp [k1],m,k2,by simp only [List.length_append,h1];omega,k4,fun post=>?_⟩
    have:=k5 post
    simpa [List.append_assoc] using this
  ·cases h
theorem Zci:∀ (hs:List (Nat×HP)) (n:Nat),n≤(ZP hs n).2∧∀ u∈(ZP hs n).1,u.2.bd (ZP hs n).2
 | [], n => ⟨Nat.le_refl _, by simp [ZP]⟩
 | p :: r, n => by
  obtain ⟨h1,h2⟩:=Zci r (n+p.2.n)
  refine ⟨by simp only [ZP];omega,fun u hu=>?_⟩
  simp only [ZP,List.mem_cons] at hu
  rcases hu with rfl | hu
  ·have hb:(ZkT p.2 n).bd (n+p.2.n):=by
    cases hp:p.2 with
    | c s => cases s <;> exact Nat.lt_succ_self n
    | agg l => exact JR l n
    | box l => exact JU l n
    | mref d k => trivial
    | ptr d o => trivial
    | dead => trivial
    | gbox l => exact JU l n
    | clo g ds => trivial
   exact SV.bd_mono (by simpa [ZP] using h1) _ hb
  ·exact h2 u hu
def Znb (P:Program) (σ σ':Nat→AV) (d:Nat):Prop:=
 YL P (σ d) (σ' d)∨(∃ d' o,σ d = .ptr d' o∧σ' d = .ptr d' o∧(∃ cs,σ' d' = .box cs))∨(∃ d' k,σ d = .mref d' k∧σ' d = .mref d' k∧∃ p,Zr (σ' d') k=some p)∨
  ∃ g ds,σ d = .clo g ds∧σ' d = .clo g ds∧∀ d'∈ds,(σ' d').isB=true
theorem ZhQ {P:Program} {x:AV} {e:TypeId} {xs:List (List AV)} (h:YL P x (.own true e xs)):x = .own true e xs∨xs = []:=by
 cases h with
 | comp h =>
  cases h with
  | cell h =>
   cases h with
   | same _ => exact .inl rfl
   | ownN => exact .inr rfl
   | give => exact .inr rfl
theorem Sim.head {c:Ctx} {σ σ':Nat→AV} {tm:Array Value} {w:World} {lim:Nat→Nat} {X:Nat→Nat→Option Nat} (h:Sim c σ tm w lim X) (hw:∀ d,Znb c.P σ σ' d) (hout:∀ d,c.nt≤d→σ' d = .dead∨(σ' d).isG=true)
  (hpin:∀ d v,c.pin d=some v→∃ cs,σ' d = .box cs) (hgpin:∀ d b,c.gpin d=some b→(σ' d).isG=true):∃ X',Sim c σ' tm w lim X':=by
 have hG:∀ d,(σ' d).isG=true→(σ d).isG=true:=by
  intro d hd
  rcases hw d with hs | ⟨d',o,_,h2,_⟩ | ⟨d',k,_,h2,_⟩ | ⟨g,ds,_,h2,_⟩
  ·exact Zj4 hs hd
  ·rw [h2] at hd;cases hd
  ·rw [h2] at hd;cases hd
  ·rw [h2] at hd;cases hd
 have key:∀ d,∃ r:Nat→Option Nat,(∀ k,r k=X d k∨r k=none)∧((σ' d).isB=true→r 0=X d 0)∧(∀ k,(∃ p,Zr (σ d) k=some p)→(∃ p,Zr (σ' d) k=some p)→r k=X d k)∧
   (YL c.P (σ d) (σ' d)→∀ X':Nat→Nat→Option Nat,X' d=r→ZK c.P w lim X' σ' d (σ' d) (tm.getD d undef))∧(∀ e xs,σ d = .own true e xs→σ' d = .own true e xs→r=X d):=by
  intro d
  have hd:=h.rel d
  by_cases hsame:∃ e xs,σ d = .own true e xs∧σ' d = .own true e xs
  ·obtain ⟨e,xs,h1,h2⟩:=hsame
   refine ⟨X d,fun _=>.inl rfl,fun _=>rfl,fun _ _ _=>rfl,fun _ X' hX=>?_,fun _ _ _ _=>rfl⟩
   rw [h1] at hd
   rw [h2]
   show Z9 c.P w lim true e xs _ (X' d 0)
   rw [hX]
   exact hd
  have hsm:∀ {r:Nat→Option Nat} (e:TypeId) (xs:List (List AV)),σ d = .own true e xs→σ' d = .own true e xs→r=X d:=fun e xs h1 h2=>(hsame ⟨e,xs,h1,h2⟩).elim
  have hno:∀ {y:AV},σ d=y→(∀ k,Zr y k=none)→∀ k,(∃ p,Zr (σ d) k=some p)→(∃ p,Zr (σ' d) k=some p)→(none:Option Nat)=X d k:=by
   rintro y he hy k ⟨p,hp⟩ _
   rw [he,hy k] at hp
   cases hp
  rcases hw d with hs | ⟨d',o,h1,h2,_⟩ | ⟨d',k,h1,h2,_⟩ | ⟨g,ds,h1,h2,_⟩
  ·obtain ⟨r,g1,g2,g4,g3⟩:=ZeL hd hs
   exact ⟨r,g1,g2,g4,fun _ X' hX=>g3 X' σ' d hX,hsm⟩
  ·exact ⟨fun _=>none,fun _=>.inr rfl,fun hb=>by (rw [h2] at hb;cases hb),hno h1 (fun _=>rfl),fun hs=>((WF hs).1 d' o h2).elim,hsm⟩
  ·exact ⟨fun _=>none,fun _=>.inr rfl,fun hb=>by (rw [h2] at hb;cases hb),hno h1 (fun _=>rfl),fun hs=>((WF hs).2.1 d' k h2).elim,hsm⟩
  ·exact ⟨fun _=>none,fun _=>.inr rfl,fun hb=>by (rw [h2] at hb;cases hb),hno h1 (fun _=>rfl),fun hs=>((WF hs).2.2 g ds h2).elim,hsm⟩
 obtain ⟨X',hX⟩:=Classical.axiomOfChoice key
 have hle:∀ d k b,X' d k=some b→X d k=some b:=by
  intro d k b hb
  rcases (hX d).1 k with e | e
  ·rw [← e];exact hb
  ·rw [e] at hb;cases hb
 refine ⟨X',⟨fun d=>?_,h.size,hout,fun d hd=>h.ghost d (hG d hd),fun d k d' k' b h1 h2=>h.dist d k d' k' b (hle _ _ _ h1) (hle _ _ _ h2),fun d k b hb=>h.ours d k b (hle _ _ _ hb),h.frm,fun d v hv=>⟨(h.pin d v hv).1,hpin d v hv⟩,fun d e xs hdo=>?_,
  fun d b hb=>⟨((hX d).2.1 (WM (hgpin d b hb))).trans (h.gpin d b hb).1,hgpin d b hb⟩⟩⟩
 rotate_left
 ·have hs:YL c.P (σ d) (.own true e xs):=by
   rcases hw d with hs | ⟨_,_,_,h2,_⟩ | ⟨_,_,_,h2,_⟩ | ⟨_,_,_,h2,_⟩
   ·rw [hdo] at hs;exact hs
   ·rw [hdo] at h2;cases h2
   ·rw [hdo] at h2;cases h2
   ·rw [hdo] at h2;cases h2
  rcases ZhQ hs with h1 | rfl
  ·rw [(hX d).2.2.2.2 e xs h1 hdo];exact h.mp d e xs h1
  ·intro _ _ _ _ _ _ _ _ _ _ h3;cases h3
 have hd:=h.rel d
 rcases hw d with hs | ⟨d2,o2,h1,h2,cs',h3⟩ | ⟨d2,k2,h1,h2,p2,h3⟩ | ⟨g,ds,h1,h2,h3⟩
 ·exact (hX d).2.2.2.1 hs X' rfl
 ·rw [h1] at hd
  obtain ⟨b,cs,g1,g2,g3⟩:=hd
  rw [h2]
  exact ⟨b,cs',by rw [(hX d2).2.1 (by rw [h3];rfl),g1],h3,g3⟩
 ·rw [h1] at hd
  obtain ⟨e,xs,g1,g2⟩:=hd
  rw [h2]
  refine ⟨e,xs,?_,by rw [(hX d2).2.2.1 k2 ⟨_,g1⟩ ⟨_,h3⟩];exact g2⟩
  rcases hw d2 with hs | ⟨d3,o3,q1,q2,_⟩ | ⟨d3,k3,q1,q2,_⟩ | ⟨g,ds,q1,q2,_⟩
  ·obtain ⟨m1,m2⟩:=Zev hs g1 (e':=p2.1) (xs':=p2.2) h3
   rw [h3,← m1,← m2]
  ·rw [q1] at g1;cases g1
  ·rw [q1] at g1;cases g1
  ·rw [q1] at g1;cases g1
 ·rw [h1] at hd
  obtain ⟨bs,g1,g2,g3⟩:=hd
  rw [h2]
  refine ⟨bs,g1,g2,fun i d' b hd' hb=>?_⟩
  have hB:=h3 d' (List.mem_of_getElem? hd')
  exact ⟨((hX d').2.1 hB).trans (g3 i d' b hd' hb).1,hB⟩
end Go.AM
end

section
namespace Go.AM
theorem Zi8:∀ (hs:List (Nat×HP)) (d:Nat) (h h':HP),(hs.map (·.1)).Nodup→(d,h)∈hs→(d,h')∈hs→h=h'
 | [], _, _, _, _, h, _ => by simp at h
 | p :: r, d, h, h', hn, h1, h2 => by
  rw [List.map_cons,List.nodup_cons] at hn
  rcases List.mem_cons.1 h1 with e1 | e1
  ·rcases List.mem_cons.1 h2 with e2 | e2
   ·rw [← e1] at e2
    exact (Prod.mk.inj e2).2.symm
   ·exact (hn.1 (by rw [← e1];exact List.mem_map.2 ⟨_,e2,rfl⟩)).elim
  ·rcases List.mem_cons.1 h2 with e2 | e2
   ·exact (hn.1 (by rw [← e2];exact List.mem_map.2 ⟨_,e1,rfl⟩)).elim
   ·exact Zi8 r d h h' hn.2 e1 e2
theorem Zbr:∀ (us:List (Nat×AV)) (d:Nat) (x:AV),WO us d=some x→(d,x)∈us
 | [], d, x, h => by simp [WO] at h
 | (e, y) :: us, d, x, h => by
  simp only [WO] at h
  cases hl:WO us d with
  | some z =>
   rw [hl] at h
   simp only [Option.some.injEq] at h
   subst h
   exact List.mem_cons_of_mem _ (Zbr us d _ hl)
  | none =>
   rw [hl] at h
   simp only at h
   split at h
   ·rename_i hd
    simp only [Option.some.injEq] at h
    subst h
    subst hd
    exact List.mem_cons_self
   ·cases h
theorem ZhZ {E:Env} {d:Nat} {h:HP} (hp:h.place E d=true):d < E.top∧(h.isG=true∨d < E.nt):=by
 cases h<;>simp only [HP.place,Bool.and_eq_true,decide_eq_true_eq] at hp
 case gbox l=>exact ⟨hp.2,.inl rfl⟩
 all_goals exact ⟨J4 hp,.inr hp⟩
theorem VM {E:Env} {hs:List (Nat×HP)} (h:Zfo E hs=true):(hs.map (·.1)).Nodup∧(∀ p∈hs,p.1 < E.top∧(p.2.isG=true∨p.1 < E.nt))∧((∀ d d' o,(d,HP.ptr d' o)∈hs→∃ l:HP,l.isBox=true∧(d',l)∈hs)∧∀ d d' k,(d,HP.mref d' k)∈hs→∃ l:HP,l.isPl k=true∧(d',l)∈hs)∧
  (∀ d∈E.pins,∃ l:HP,l.isBox=true∧(d,l)∈hs)∧(∀ d g ds,(d,HP.clo g ds)∈hs→∀ d'∈ds,∃ l:HP,(l.isBox||l.isG)=true∧(d',l)∈hs)∧∀ d,E.nt≤d→d < E.top→∃ l:HP,l.isG=true∧(d,l)∈hs:=by
 have hany:∀ (f:HP→Bool) (d:Nat),(hs.any fun q=>decide (q.1=d)&&f q.2)=true→∃ l:HP,f l=true∧(d,l)∈hs:=by
  intro f d hd
  rw [List.any_eq_true] at hd
  obtain ⟨q,hq,hd⟩:=hd
  obtain ⟨q1,q2⟩:=q
  simp only [Bool.and_eq_true,decide_eq_true_eq] at hd
  obtain ⟨rfl,hd⟩:=hd
  exact ⟨_,hd,hq⟩
 simp only [Zfo,Bool.and_eq_true] at h
 obtain ⟨⟨⟨h1,h2⟩,h3⟩,h4⟩:=h
 rw [List.all_eq_true] at h2 h3 h4
 refine ⟨We _ h1,fun p hp=>?_,⟨fun d d' o hm=>?_,fun d d' k hm=>?_⟩,fun d hd=>hany HP.isBox d (h3 d hd),fun d g ds hm d' hd'=>?_,fun d hd hd'=>?_⟩
 ·have:=h2 p hp
  simp only [Bool.and_eq_true] at this
  exact ZhZ this.1
 ·have:=h2 _ hm
  simp only [Bool.and_eq_true] at this
  exact hany HP.isBox d' this.2
 ·have:=h2 _ hm
  simp only [Bool.and_eq_true] at this
  exact hany (fun h=>h.isPl k) d' this.2
 ·have:=h2 _ hm
  simp only [Bool.and_eq_true] at this
  have h5:=this.2
  rw [List.all_eq_true] at h5
  exact hany (fun h=>h.isBox||h.isG) d' (h5 d' hd')
 ·have:=h4 (d-E.nt) (List.mem_range.2 (by have:E.top=E.nt+E.ng:=rfl;omega))
  rw [show E.nt+(d-E.nt)=d by omega] at this
  exact hany HP.isG d this
theorem Zm4 {P:Program} {E:Env} (hnt:E.top≤1024) {hs:List (Nat×HP)} (hok:Zfo E hs=true) {s:Tr} {ρ ρ0:Nat→V} {ves:List VE} (hv:YK P (gE E s) hs=some ves) :
  (∀ d,d∉hs.map (·.1)→Z1 E (JE (ZP hs 0).1 (.leaf .dead)) (bind ρ0 0 (ves.map (VE.den ρ))) d = .dead)∧
  ∀ d h,(d,h)∈hs→∃ m,Z1 E (JE (ZP hs 0).1 (.leaf .dead)) (bind ρ0 0 (ves.map (VE.den ρ))) d=Vt h (ves.map (VE.den ρ)) m∧
   (Zuc h (Z1 E s ρ d)∨YL P (Z1 E s ρ d) (Vt h (ves.map (VE.den ρ)) m)):=by
 obtain ⟨k1,k2,k3,k4,k5,k6⟩:=VM hok
 obtain ⟨h1,h2,h3⟩:=KG (P:=P) (g:=gE E s) (ρ:=ρ) hs 0 ves [] hv rfl
 have hl:VL E (ZP hs 0).1:=by
  unfold VL
  rw [List.all_eq_true]
  intro u hu
  have hm:u.1∈hs.map (·.1):=by rw [← h2];exact List.mem_map.2 ⟨u,hu,rfl⟩
  obtain ⟨p,hp,he⟩:=List.mem_map.1 hm
  have:=(k2 p hp).1
  rw [he] at this
  simpa using this
 have hdead:∀ d,Z1 E (.leaf .dead) (bind ρ0 0 (ves.map (VE.den ρ))) d = .dead:=by
  intro d
  simp only [Z1,gE]
  split<;>rfl
 have hfst:((ZP hs 0).1.map fun u=>(u.1,u.2.den (bind ρ0 0 (ves.map (VE.den ρ))))).map (·.1)=hs.map (·.1):=by rw [List.map_map];exact h2
 rw [Yr hnt _ _ _ hl]
 refine ⟨fun d hd=>?_,fun d h hm=>?_⟩
 ·rw [Jl,YS _ d (by rw [hfst];exact hd),hdead]
  rfl
 ·obtain ⟨x,hx⟩:=Vd ((ZP hs 0).1.map fun u=>(u.1,u.2.den (bind ρ0 0 (ves.map (VE.den ρ))))) d (by rw [hfst];exact List.mem_map.2 ⟨_,hm,rfl⟩)
  obtain ⟨u,hu,he⟩:=List.mem_map.1 (Zbr _ _ _ hx)
  simp only [Prod.mk.injEq] at he
  obtain ⟨rfl,rfl⟩:=he
  obtain ⟨h',g1,m,g2,g3,g4,g5⟩:=h3 u hu
  have:h'=h:=Zi8 hs u.1 h' h k1 g1 hm
  subst this
  have hden:u.2.den (bind ρ0 0 (ves.map (VE.den ρ)))=Vt h' (ves.map (VE.den ρ)) m:=by
   rw [g2]
   refine ZjD g4 fun j hj=>?_
   have hlt:m+j < (ves.map (VE.den ρ)).length:=by rw [List.length_map];omega
   have:=Zhn.bind ρ0 0 (ves.map (VE.den ρ)) (m+j) _ (List.getElem?_eq_getElem hlt)
   rw [Nat.zero_add] at this
   rw [this,vAt,List.getElem?_eq_getElem hlt]
   rfl
  refine ⟨m,?_,?_⟩
  ·rw [Jl,hx,← hden]
   rfl
  ·have:=g5 []
   simp only [List.nil_append,List.append_nil] at this
   exact this
theorem Za8:∀ (l:List Sh) (us:List V) (j k:Nat) (s:Sh),l[k]? = some s→(ZV l us j)[k]? = some (YV s (vAt us (j+k)))
 | [], _, _, _, _, h => by simp at h
 | t :: ts, us, j, 0, s, h => by
  simp only [List.getElem?_cons_zero,Option.some.injEq] at h
  subst h
  rfl
 | t :: ts, us, j, k + 1, s, h => by
  have:=Za8 ts us (j+1) k s (by simpa using h)
  rw [show j+1+k=j+(k+1) by omega] at this
  simpa [ZV] using this
theorem Zg0 {h:HP} {k:Nat} (hk:h.isPl k=true) (us:List V) (m:Nat):∃ p,Zr (Vt h us m) k=some p:=by
 unfold HP.isPl at hk
 split at hk
 ·exact ⟨_,rfl⟩
 ·rename_i l k
  split at hk
  ·rename_i e hl
   have:=Za8 l us m k _ hl
   refine ⟨(e,(vAt us (m+k)).list),?_⟩
   simp only [Vt,Zr,this,YV]
  ·cases hk
 ·rename_i l k
  split at hk
  ·rename_i e hl
   have:=Za8 l us m k _ hl
   refine ⟨(e,(vAt us (m+k)).list),?_⟩
   simp only [Vt,Zr,this,YV]
  ·cases hk
 ·cases hk
theorem ZgY {P:Program} {E:Env} (hnt:E.top≤1024) {c:Ctx} (hcP:c.P=P) (hcn:c.nt=E.nt) (hpin:∀ d v,c.pin d=some v→d∈E.pins) (hgpin:∀ d b,c.gpin d=some b→E.nt≤d∧d < E.top) {hs:List (Nat×HP)} (hok:Zfo E hs=true) {s:Tr} {ρ:Nat→V} (ρ0:Nat→V) {ves:List VE}
  (hv:YK P (gE E s) hs=some ves) {tm:Array Value} {w:World} {lim:Nat→Nat} {X:Nat→Nat→Option Nat} (hsim:Sim c (Z1 E s ρ) tm w lim X) :
  ∃ X',Sim c (Z1 E (JE (ZP hs 0).1 (.leaf .dead)) (bind ρ0 0 (ves.map (VE.den ρ)))) tm w lim X':=by
 obtain ⟨k1,k2,k3,k4,k5,k6⟩:=VM hok
 obtain ⟨h1,h2⟩:=Zm4 (P:=P) hnt hok (ρ0:=ρ0) (ρ:=ρ) hv
 have hbox:∀ d (l:HP),l.isBox=true→(d,l)∈hs→∃ cs,Z1 E (JE (ZP hs 0).1 (.leaf .dead)) (bind ρ0 0 (ves.map (VE.den ρ))) d = .box cs:=by
  intro d l hl hm
  obtain ⟨m,g1,_⟩:=h2 d _ hm
  cases l<;>simp [HP.isBox] at hl<;>exact ⟨_,g1⟩
 have hgb:∀ d (l:HP),l.isG=true→(d,l)∈hs→(Z1 E (JE (ZP hs 0).1 (.leaf .dead)) (bind ρ0 0 (ves.map (VE.den ρ))) d).isG=true:=by
  intro d l hl hm
  obtain ⟨m,g1,_⟩:=h2 d _ hm
  rw [g1]
  cases l<;>simp [HP.isG] at hl<;>rfl
 refine hsim.head (fun d=>?_) (fun d hd=>?_) (fun d v hp=>?_) fun d b hp=>?_
 ·by_cases hm:d∈hs.map (·.1)
  ·obtain ⟨p,hp,rfl⟩:=List.mem_map.1 hm
   obtain ⟨m,g1,g2⟩:=h2 p.1 p.2 hp
   unfold Znb
   rw [g1,hcP]
   rcases g2 with (⟨d',o,g2,g3⟩ | ⟨d',k,g2,g3⟩ | ⟨g,ds,g2,g3⟩) | g2
   ·obtain ⟨l,hl,hm⟩:=k3.1 p.1 d' o (by rw [← g2];exact hp)
    exact .inr (.inl ⟨d',o,g3,by rw [g2];rfl,hbox d' l hl hm⟩)
   ·obtain ⟨l,hl,hm⟩:=k3.2 p.1 d' k (by rw [← g2];exact hp)
    obtain ⟨m',q1,_⟩:=h2 d' l hm
    exact .inr (.inr (.inl ⟨d',k,g3,by rw [g2];rfl,by rw [q1];exact Zg0 hl _ _⟩))
   ·refine .inr (.inr (.inr ⟨g,ds,g3,by rw [g2];rfl,fun d' hd'=>?_⟩))
    obtain ⟨l,hl,hm⟩:=k5 p.1 g ds (by rw [← g2];exact hp) d' hd'
    rw [Bool.or_eq_true] at hl
    rcases hl with hl | hl
    ·obtain ⟨cs,hcs⟩:=hbox d' l hl hm
     rw [hcs];rfl
    ·exact WM (hgb d' l hl hm)
   ·exact .inl g2
  ·unfold Znb
   rw [h1 d hm]
   exact .inl .dead
 ·by_cases hm:d∈hs.map (·.1)
  ·obtain ⟨p,hp,rfl⟩:=List.mem_map.1 hm
   rcases (k2 p hp).2 with h3 | h3
   ·exact .inr (hgb p.1 p.2 h3 hp)
   ·omega
  ·exact .inl (h1 d hm)
 ·obtain ⟨l,hl,hm⟩:=k4 d (hpin d v hp)
  exact hbox d l hl hm
 ·obtain ⟨m1,m2⟩:=hgpin d b hp
  obtain ⟨l,hl,hm⟩:=k6 d m1 m2
  exact hgb d l hl hm
theorem Zex {ops:Array Oper} {x a d:Nat} {T:TypeId} {neg:Bool} (h:ZfP ops=some (x,a,d,T,neg)) :
  ∃ o p U,ops.toList = [o,p]∧o.guard=none∧p.guard=none∧o.op = .move (.tmp x)∧o.dst=some a∧p.op = .binOp (if neg=true then .neq else .eql) T (.tmp a) (.const (.slice none 0 0)) U∧p.dst=some d:=by
 unfold ZfP at h
 split at h
 ·rename_i o p hops
  split at h
  ·rename_i hg
   simp only [Option.isNone_iff_eq_none] at hg
   split at h
   ·rename_i h1 h2 h3 h4
    split at h
    ·rename_i hb
     subst hb
     simp only [Option.some.injEq,Prod.mk.injEq] at h
     obtain ⟨rfl,rfl,rfl,rfl,rfl⟩:=h
     exact ⟨o,p,_,hops,hg.1,hg.2,h1,h2,by simpa using h3,h4⟩
    ·cases h
   ·rename_i h1 h2 h3 h4
    split at h
    ·rename_i hb
     subst hb
     simp only [Option.some.injEq,Prod.mk.injEq] at h
     obtain ⟨rfl,rfl,rfl,rfl,rfl⟩:=h
     exact ⟨o,p,_,hops,hg.1,hg.2,h1,h2,by simpa using h3,h4⟩
    ·cases h
   ·cases h
  ·cases h
 ·cases h
theorem Zb3 {ops:Array Oper} {x i a b c:Nat} {T:TypeId} (h:ZbM ops=some (x,i,a,b,c,T)) :
  ∃ o p q r,ops.toList = [o,p,q,r]∧o.guard=none∧p.guard=none∧q.guard=none∧r.guard=none∧o.op = .move (.tmp x)∧o.dst=some a∧p.op = .move (.tmp i)∧p.dst=some b∧
   q.op = .slice T (.tmp a) (some (.tmp b)) none none∧q.dst=some c∧(∃ cl,r.op = .call cl∧cl.callee = .builtin .clear∧cl.args = #[.tmp c]∧cl.argTypes = #[T])∧r.dst=none:=by
 unfold ZbM at h
 split at h
 case h_2=>cases h
 rename_i o p q r hops
 split at h
 case isFalse=>cases h
 rename_i hg
 simp only [Option.isNone_iff_eq_none] at hg
 split at h
 case h_2=>cases h
 rename_i x' a' i' b' h1 h2 h3 h4
 split at h
 case h_2=>cases h
 rename_i T' a'' b'' c' cl h5 h6 h7 h8
 split at h
 case h_2=>cases h
 rename_i c'' T'' h9 h10 h11
 split at h
 case isFalse=>cases h
 rename_i he
 obtain ⟨e1,e2,e3,e4⟩:=he
 subst e1 e2 e3 e4
 simp only [Option.some.injEq,Prod.mk.injEq] at h
 obtain ⟨rfl,rfl,rfl,rfl,rfl,rfl⟩:=h
 exact ⟨o,p,q,r,hops,hg.1,hg.2.1,hg.2.2.1,hg.2.2.2,h1,h2,h3,h4,h5,h6,⟨cl,h7,h9,by rw [← h10,Array.toArray_toList],by rw [← h11,Array.toArray_toList]⟩,h8⟩
theorem ZhE {P:Program} {w:World} {lim:Nat→Nat} {X:Nat→Nat→Option Nat} {g:Nat→SV} {d:Nat} {x:SV} {l:LE} {ρ:Nat→V} {v:Value} (hx:ZjR P g x=some l) (h:ZK P w lim X (fun d=>(g d).den ρ) d (x.den ρ) v) :
  ∃ a k cap,v = .slice a k cap∧(a.isNone=true→l.den ρ = []):=by
 have hrep:∀ f s,Rep w lim (.slice f s (l.den ρ)) v→∃ a k cap,v = .slice a k cap∧(a.isNone=true→l.den ρ = []):=by
  intro f s hr
  have key:∀ y,Rep w lim y v→y = .slice f s (l.den ρ)→∃ a k cap,v = .slice a k cap∧(a.isNone=true→l.den ρ = []):=by
   intro y hy hye
   cases hy with
   | sliceN => injection hye with _ _ h3; exact ⟨none, 0, 0, rfl, fun _ => h3.symm⟩
   | sliceE _ => injection hye with _ _ h3; exact ⟨_, _, _, rfl, fun _ => h3.symm⟩
   | sliceC _ _ _ _ _ _ _ _ => exact ⟨_, _, _, rfl, fun h => by cases h⟩
   | val _ => cases hye
   | agg _ _ _ => cases hye
  exact key _ hr rfl
 unfold ZjR at hx
 split at hx
 ·simp only [Option.some.injEq] at hx
  subst hx
  exact hrep _ _ h
 ·split at hx
  case isFalse=>cases hx
  rename_i hnm
  simp only [Option.some.injEq] at hx
  subst hx
  rcases Z9.sliceV (show Z9 P w lim _ _ _ v (X d 0) from h) with ⟨_,h1,h2 | ⟨a,h2⟩⟩ | ⟨b,arr,cap,_,_,_,h2⟩ | ⟨h2,_⟩
  ·exact ⟨none,0,0,h2,fun _=>List.eq_nil_of_length_eq_zero h1⟩
  ·exact ⟨_,_,_,h2,fun h=>by cases h⟩
  ·exact ⟨_,_,_,h2,fun h=>by cases h⟩
  ·rw [hnm] at h2;cases h2
 ·rename_i d' q
  cases hp:Jh (g d') q with
  | none => rw [hp] at hx; cases hx
  | some p =>
   rw [hp] at hx
   dsimp only at hx
   split at hx
   case isFalse=>cases hx
   rename_i hnm
   simp only [Option.some.injEq] at hx
   subst hx
   obtain ⟨e,xs,h1,h2⟩:=h
   have h3:Zr ((g d').den ρ) q=some (p.1,p.2.den ρ):=Z2 ρ hp
   have h1':Zr ((g d').den ρ) q=some (e,xs):=h1
   rw [h3] at h1'
   simp only [Option.some.injEq,Prod.mk.injEq] at h1'
   obtain ⟨he,rfl⟩:=h1'
   rw [he] at hnm
   rcases h2 with ⟨_,h1,h2 | ⟨a,h2⟩⟩ | ⟨b,arr,cap,_,_,_,h2⟩ | ⟨h2,_⟩
   ·exact ⟨none,0,0,h2,fun _=>List.eq_nil_of_length_eq_zero h1⟩
   ·exact ⟨_,_,_,h2,fun h=>by cases h⟩
   ·exact ⟨_,_,_,h2,fun h=>by cases h⟩
   ·rw [hnm] at h2;cases h2
 ·cases hx
theorem Sim.refit {c:Ctx} {σ σ':Nat→AV} {tm:Array Value} {w:World} {lim lim':Nat→Nat} {X:Nat→Nat→Option Nat} {S:Nat→Prop} (h:Sim c σ tm w lim X) (hw:ZT w lim w lim' S) (hS:∀ b,S b→c.A b∨c.w0.heap.size≤b)
  (hrel:∀ i,ZK c.P w lim' X σ' i (σ' i) (tm.getD i undef)) (hout:∀ i,c.nt≤i→σ' i = .dead∨(σ' i).isG=true) (hG:∀ i,(σ' i).isG=(σ i).isG) (hB:∀ i cs,σ i = .box cs→∃ cs',σ' i = .box cs') (hmp:∀ d e xs,σ' d = .own true e xs→Ze9 c.P w lim' e xs (X d)):Sim c σ' tm w lim' X where
 mp:=hmp
 rel:=hrel
 size:=h.size
 out:=hout
 ghost d hd:=h.ghost d (by rw [← hG];exact hd)
 dist:=h.dist
 ours:=h.ours
 frm:=h.frm.step hw hS
 pin d v hv:=by
  obtain ⟨h1,cs,h2⟩:=h.pin d v hv
  exact ⟨h1,hB d cs h2⟩
 gpin d b hb:=by
  obtain ⟨h1,h2⟩:=h.gpin d b hb
  exact ⟨h1,by rw [hG];exact h2⟩
theorem Sim.freeze {c:Ctx} {σ:Nat→AV} {tm:Array Value} {w:World} {lim:Nat→Nat} {X:Nat→Nat→Option Nat} (h:Sim c σ tm w lim X) {d q:Nat} {e:TypeId} {xs:List (List AV)} {us:List (Nat×AV)} (hdn:(σ d).isG=false) (hp:Zr (σ d) q=some (e,xs))
  (hs0:c.P.cellsOf e≠0) (hnm:Zo c.P e=false) (h1:∀ u∈us,u.1≠d∧((σ u.1 = .mref d q∧u.2 = .slice false (c.P.cellsOf e) xs)∨((∃ o,σ u.1 = .eref d q o)∧u.2 = .dead))) (h2:∀ i,Jg (σ i) d q→i∈us.map (·.1)) :
  ∃ lim',Sim c (JF (upd σ d (ZE (σ d) q false e xs)) us) tm w lim' X:=by
 have hnG:∀ cs,σ d≠.gbox cs:=fun cs he=>by rw [he] at hdn;cases hdn
 obtain ⟨v0,ho⟩:=K6 h hp
 refine ⟨fun b=>if X d q=some b then xs.length*c.P.cellsOf e else lim b,?_⟩
 have hlim0:∀ b,X d q=some b→lim b=0:=by
  intro b hb
  rw [hb] at ho
  obtain ⟨_,_,_,_,g,_⟩:=Vb ho (.inl hnm)
  exact g
 have hw:ZT w lim w (fun b=>if X d q=some b then xs.length*c.P.cellsOf e else lim b) (fun b=>X d q=some b):=by
  refine ⟨rfl,rfl,rfl,Nat.le_refl _,fun _ _=>rfl,fun b _ hb=>⟨rfl,if_neg hb⟩,fun b _=>⟨?_,fun _ _ _ hu=>hu⟩⟩
  show lim b≤if X d q=some b then xs.length*c.P.cellsOf e else lim b
  split
  ·rename_i hb;rw [hlim0 b hb];exact Nat.zero_le _
  ·exact Nat.le_refl _
 have hnew:∀ v,Z9 c.P w lim true e xs v (X d q)→Z9 c.P w (fun b=>if X d q=some b then xs.length*c.P.cellsOf e else lim b) false e xs v (X d q):=by
  intro v hv
  rcases hv.noMap hnm with ⟨ws,g1,g2,g3,g4,g5,g6⟩ | hv
  ·refine .inl ⟨ws,g1,g2,fun b hb=>?_,g4,g5,fun j z u hz hu=>(g6 j z u hz hu).mono hw.ext⟩
   show (if X d q=some b then xs.length*c.P.cellsOf e else lim b)=_
   rw [if_pos hb,if_neg (by simp),g1.1]
  ·exact .inr (.inl hv)
 have hkept:∀ i k b,(i≠d∨k≠q)→X i k=some b→Zmu w lim w (fun b=>if X d q=some b then xs.length*c.P.cellsOf e else lim b) b:=by
  intro i k b hik hb
  refine ⟨rfl,if_neg fun hb'=>?_⟩
  obtain ⟨e1,e2⟩:=h.dist i k d q b hb hb'
  exact hik.elim (fun h=>h e1) fun h=>h e2
 have hdu:d∉us.map (·.1):=by
  intro hm
  obtain ⟨u,hu,rfl⟩:=List.mem_map.1 hm
  exact (h1 u hu).1 rfl
 -- what stands where
 have hat:∀ i,i≠d→(i∉us.map (·.1)∧JF (upd σ d (ZE (σ d) q false e xs)) us i=σ i)∨
   (σ i = .mref d q∧JF (upd σ d (ZE (σ d) q false e xs)) us i = .slice false (c.P.cellsOf e) xs)∨((∃ o,σ i = .eref d q o)∧JF (upd σ d (ZE (σ d) q false e xs)) us i = .dead):=by
  intro i hi
  rw [Jl]
  by_cases hm:i∈us.map (·.1)
  ·obtain ⟨x,hx⟩:=Vd us i hm
   rw [hx]
   rcases (h1 _ (Zbr us i x hx)).2 with ⟨g1,g2⟩ | ⟨g1,g2⟩
   ·exact .inr (.inl ⟨g1,g2⟩)
   ·exact .inr (.inr ⟨g1,g2⟩)
  ·rw [YS us i hm]
   exact .inl ⟨hm,Zi _ _ hi⟩
 have hatd:JF (upd σ d (ZE (σ d) q false e xs)) us d=ZE (σ d) q false e xs:=by
  rw [Jl,YS us d hdu]
  exact ZY _ _ _
 have hdG:(ZE (σ d) q false e xs).isG=false∧(σ d).isG=false:=by
  rcases ZB hp with ⟨g1,rfl⟩ | ⟨cs,k,g1,rfl,_⟩ | ⟨cs,k,g1,rfl,_⟩
  case inr.inr=>exact (hnG _ g1).elim
  all_goals rw [g1];exact ⟨rfl,rfl⟩
 have hdB:∀ cs,σ d = .box cs→∃ cs',ZE (σ d) q false e xs = .box cs':=by
  intro cs hcs
  rcases ZB hp with ⟨g1,rfl⟩ | ⟨cs',k,g1,rfl,_⟩ | ⟨cs,k,g1,rfl,_⟩
  case inr.inr=>exact (hnG _ g1).elim
  ·rw [g1] at hcs;cases hcs
  ·rw [g1];exact ⟨_,rfl⟩
 have hGall:∀ i,(JF (upd σ d (ZE (σ d) q false e xs)) us i).isG=(σ i).isG:=by
  intro i
  by_cases hi:i=d
  ·subst hi;rw [hatd,hdG.1,hdG.2]
  ·rcases hat i hi with ⟨_,g⟩ | ⟨g,g'⟩ | ⟨⟨o,g⟩,g'⟩
   ·rw [g]
   ·rw [g,g'];rfl
   ·rw [g,g'];rfl
 have hBall:∀ i cs,σ i = .box cs→∃ cs',JF (upd σ d (ZE (σ d) q false e xs)) us i = .box cs':=by
  intro i cs hcs
  by_cases hi:i=d
  ·subst hi;rw [hatd];exact hdB cs hcs
  ·rcases hat i hi with ⟨_,g⟩ | ⟨g,g'⟩ | ⟨⟨o,g⟩,g'⟩
   ·exact ⟨cs,g.trans hcs⟩
   ·rw [g] at hcs;cases hcs
   ·rw [g] at hcs;cases hcs
 have hmp:∀ i e1 xs1,JF (upd σ d (ZE (σ d) q false e xs)) us i = .own true e1 xs1→Ze9 c.P w (fun b=>if X d q=some b then xs.length*c.P.cellsOf e else lim b) e1 xs1 (X i):=by
  intro i e1 xs1 he
  by_cases hi:i=d
  ·subst hi
   rw [hatd] at he
   rcases ZB hp with ⟨g1,rfl⟩ | ⟨cs,k,g1,rfl,_⟩ | ⟨cs,k,g1,rfl,_⟩
   ·rw [g1] at he;simp [ZE] at he
   ·rw [g1] at he;simp [ZE] at he
   ·exact (hnG _ g1).elim
  ·rcases hat i hi with ⟨_,g⟩ | ⟨_,g'⟩ | ⟨_,g'⟩
   ·rw [g] at he
    exact (h.mp i e1 xs1 he).mono hw.ext fun k b hb=>hkept i k b (.inl hi) hb
   ·rw [g'] at he;cases he
   ·rw [g'] at he;cases he
 refine h.refit hw (fun b hb=>(h.ours d q b hb).2) (fun i=>?_) (fun i hi=>?_) hGall hBall hmp
 ·by_cases hi:i=d
  ·subst hi
   rw [hatd]
   have hr:=h.rel i
   rcases ZB hp with ⟨g1,rfl⟩ | ⟨cs,k,g1,rfl,g2⟩ | ⟨cs,k,g1,rfl,_⟩
   case inr.inr=>exact (hnG _ g1).elim
   ·rw [g1] at hr ⊢
    exact hnew _ hr
   ·rw [g1] at hr ⊢
    obtain ⟨b,arr,t,k1,k2,k3,k4,k5,k6,k7⟩:=(show ZG c.P w lim (X i) cs _ from hr)
    refine ⟨b,arr,t,k1,k2,k3,by rw [List.length_set];exact k4,((hkept i 0 b (.inr (by omega)) k1).2).trans k5,fun x hx=>?_,fun j x u hx hu=>?_⟩
    ·rcases List.mem_or_eq_of_mem_set hx with hx | hx
     ·exact k6 x hx
     ·exact .inr (.inl ⟨_,_,_,hx⟩)
    ·by_cases hj:j=k
     ·subst hj
      rw [List.getElem?_set_self (List.getElem?_eq_some_iff.1 g2).1] at hx
      simp only [Option.some.injEq] at hx
      subst hx
      exact hnew u (k7 j _ u g2 hu)
     ·rw [List.getElem?_set_ne (fun h=>hj h.symm)] at hx
      exact (k7 j x u hx hu).mono hw.ext fun b' hb'=>hkept i (j+1) b' (.inr (by omega)) hb'
  ·rcases hat i hi with ⟨hm,g⟩ | ⟨g,g'⟩ | ⟨⟨o,g⟩,g'⟩
   ·rw [g]
    have hr:=(h.rel i).mono hw.ext (fun k b hb=>hkept i k b (.inl hi) hb) fun d' k b _ _=>.of rfl
    refine hr.chg rfl (fun d' cs hd'=>⟨hBall d' cs hd',rfl⟩) (fun d' hd'=>⟨by rw [hGall];exact hd',rfl⟩) fun d' k hrf=>⟨?_,rfl⟩
    by_cases hdd:d'=d
    ·subst hdd
     rw [hatd]
     have hkq:k≠q:=fun he=>hm (h2 i (he ▸ hrf))
     intro e' ys hy
     rcases ZB hy with ⟨m1,rfl⟩ | ⟨cs,k',m1,rfl,m2⟩ | ⟨_,_,m1,_⟩
     case inr.inr=>exact (hnG _ m1).elim
     ·rcases ZB hp with ⟨_,h0⟩ | ⟨_,_,h0,_⟩ | ⟨_,_,h0,_⟩
      case inr.inr=>exact (hnG _ h0).elim
      ·exact (hkq h0.symm).elim
      ·rw [m1] at h0;cases h0
     ·rcases ZB hp with ⟨h0,_⟩ | ⟨cs2,q',h0,rfl,_⟩ | ⟨_,_,h0,_⟩
      case inr.inr=>exact (hnG _ h0).elim
      ·rw [m1] at h0;cases h0
      ·refine ⟨ys,?_,rfl⟩
       rw [m1]
       simp only [ZE,Zr]
       rw [List.getElem?_set_ne (by omega),m2]
    ·rcases hat d' hdd with ⟨_,m⟩ | ⟨m,m'⟩ | ⟨⟨o,m⟩,m'⟩
     ·rw [m];exact VA.refl _ _
     ·intro e' ys hy
      rw [m] at hy;cases hy
     ·intro e' ys hy
      rw [m] at hy;cases hy
   ·rw [g']
    have hr:=h.rel i
    rw [g] at hr
    obtain ⟨e',xs',k1,k2⟩:=hr
    rw [hp] at k1
    simp only [Option.some.injEq,Prod.mk.injEq] at k1
    obtain ⟨rfl,rfl⟩:=k1
    show Rep w _ _ _
    rcases k2 with ⟨_,k2,k3 | ⟨a,k3⟩⟩ | ⟨b,arr,cap,k2,k3,k4,k5⟩ | ⟨k2,_⟩
    rotate_right
    ·rw [hnm] at k2;cases k2
    ·have:xs = []:=List.eq_nil_of_length_eq_zero k2
     subst this
     rw [k3];exact .sliceN
    ·have:xs = []:=List.eq_nil_of_length_eq_zero k2
     subst this
     rw [k3];exact .sliceE fun h=>by cases h
    ·have ho':=ho
     rw [k2] at ho'
     obtain ⟨arr0,cap0,m1,m2,_,_,_,m6,_⟩:=Vb ho' (.inl hnm)
     rw [k3] at m2
     simp only [Option.some.injEq,Obj.cells.injEq,and_true] at m2
     subst m2
     have hcap:cap=cap0:=Nat.eq_of_mul_eq_mul_right (by omega) (k4.symm.trans m6)
     subst hcap
     rw [k5,← m1]
     exact Z9.rep (hnew v0 ho) false rfl
   ·rw [g']
    trivial
 ·by_cases hid:i=d
  ·subst hid
   rcases h.out i hi with h0 | h0
   ·rw [h0] at hp;cases hp
   ·rw [hdG.2] at h0;cases h0
  ·rcases hat i hid with ⟨_,g⟩ | ⟨g,_⟩ | ⟨⟨o,g⟩,_⟩
   ·rw [g];exact h.out i hi
   ·rcases h.out i hi with h0 | h0<;>rw [g] at h0<;>cases h0
   ·rcases h.out i hi with h0 | h0<;>rw [g] at h0<;>cases h0
theorem Ym {P:Program} {g:Nat→SV} {d q:Nat} {e:TypeId} {l:LE} : ∀ (n:Nat) (u:Nat×SV),u∈Kq P g d q e l n↔u.1 < n∧((g u.1 = .mref d q∧u.2 = .c (.slice false (P.cellsOf e) l))∨((∃ i s o,g u.1 = .eref d q i s o)∧u.2 = .dead))
 | 0, u => by simp [Kq]
 | n + 1, u => by
  have ih:=Ym (P:=P) (g:=g) (d:=d) (q:=q) (e:=e) (l:=l) n u
  have up:∀ {p:Prop},(u.1 < n∧p)→(u.1 < n+1∧p):=fun h=>⟨by omega,h.2⟩
  simp only [Kq]
  split
  ·rename_i d' q' hg
   split
   ·rename_i hh
    obtain ⟨rfl,rfl⟩:=hh
    rw [List.mem_cons,ih]
    constructor
    ·rintro (rfl | h)
     ·exact ⟨Nat.lt_succ_self n,.inl ⟨hg,rfl⟩⟩
     ·exact up h
    ·rintro ⟨h1,h2⟩
     by_cases hn:u.1=n
     ·left
      obtain ⟨a,b⟩:=u
      simp only at hn h2
      subst hn
      rcases h2 with ⟨_,h2⟩ | ⟨⟨_,_,_,h2⟩,_⟩
      ·rw [h2]
      ·rw [hg] at h2;cases h2
     ·exact .inr ⟨by omega,h2⟩
   ·rename_i hh
    rw [ih]
    refine ⟨up,fun ⟨h1,h2⟩=>⟨?_,h2⟩⟩
    by_cases hn:u.1=n
    ·rw [hn,hg] at h2
     rcases h2 with ⟨h2,_⟩ | ⟨⟨_,_,_,h2⟩,_⟩
     ·cases h2;exact (hh ⟨rfl,rfl⟩).elim
     ·cases h2
    ·omega
  ·rename_i d' q' i s o hg
   split
   ·rename_i hh
    obtain ⟨rfl,rfl⟩:=hh
    rw [List.mem_cons,ih]
    constructor
    ·rintro (rfl | h)
     ·exact ⟨Nat.lt_succ_self n,.inr ⟨⟨_,_,_,hg⟩,rfl⟩⟩
     ·exact up h
    ·rintro ⟨h1,h2⟩
     by_cases hn:u.1=n
     ·left
      obtain ⟨a,b⟩:=u
      simp only at hn h2
      subst hn
      rcases h2 with ⟨h2,_⟩ | ⟨_,h2⟩
      ·rw [hg] at h2;cases h2
      ·rw [h2]
     ·exact .inr ⟨by omega,h2⟩
   ·rename_i hh
    rw [ih]
    refine ⟨up,fun ⟨h1,h2⟩=>⟨?_,h2⟩⟩
    by_cases hn:u.1=n
    ·rw [hn,hg] at h2
     rcases h2 with ⟨h2,_⟩ | ⟨⟨_,_,_,h2⟩,_⟩
     ·cases h2
     ·cases h2;exact (hh ⟨rfl,rfl⟩).elim
    ·omega
  ·rename_i h1 h2
   rw [ih]
   refine ⟨up,fun ⟨g1,g2⟩=>⟨?_,g2⟩⟩
   by_cases hn:u.1=n
   ·rw [hn] at g2
    rcases g2 with ⟨g2,_⟩ | ⟨⟨_,_,_,g2⟩,_⟩
    ·exact (h1 _ _ g2).elim
    ·exact (h2 _ _ _ _ _ g2).elim
   ·omega
theorem Zc1 {P:Program} {E:Env} (hnt:E.top≤1024) {c:Ctx} (hcP:c.P=P) {s:Tr} {n:Nat} {ρ:Nat→V} (p:Nat×Nat) {tm:Array Value} {w:World} (hs:K3 E s n) (h:∃ lim X,Sim c (Z1 E s ρ) tm w lim X) :
  K3 E (Kk P E s p) n∧∃ lim X,Sim c (Z1 E (Kk P E s p) ρ) tm w lim X:=by
 unfold Kk
 split
 ·rename_i e l hp
  split
  ·rename_i hh
   have hlow:VL E ((p.1,Y4 (gE E s p.1) p.2 false e l)::Kq P (gE E s) p.1 p.2 e l E.top):=by
    unfold VL
    rw [List.all_eq_true]
    intro u hu
    rcases List.mem_cons.1 hu with rfl | hu
    ·simpa using J4 hh.1
    ·simpa using ((Ym E.top u).1 hu).1
   have hl:=YO hp (hs p.1)
   refine ⟨JP hnt _ _ hlow hs fun u hu=>?_,?_⟩
   ·rcases List.mem_cons.1 hu with rfl | hu
    ·exact VY (hs p.1) hl
    ·rcases ((Ym E.top u).1 hu).2 with ⟨_,h2⟩ | ⟨_,h2⟩ <;> rw [h2]
     ·exact hl
     ·trivial
   ·obtain ⟨lim,X,hsim⟩:=h
    rw [Yr hnt _ _ _ hlow]
    have hA:∀ u∈((Kq P (gE E s) p.1 p.2 e l E.top).map fun u=>(u.1,u.2.den ρ)),u.1≠p.1∧((Z1 E s ρ u.1 = .mref p.1 p.2∧u.2 = .slice false (c.P.cellsOf e) (l.den ρ))∨((∃ o,Z1 E s ρ u.1 = .eref p.1 p.2 o)∧u.2 = .dead)):=by
     intro u hu
     obtain ⟨v,hv,rfl⟩:=List.mem_map.1 hu
     have hne:v.1≠p.1:=by
      intro he
      have h2:=((Ym E.top v).1 hv).2
      rw [he] at h2
      rcases h2 with ⟨h2,_⟩ | ⟨⟨_,_,_,h2⟩,_⟩ <;> rw [h2] at hp<;>cases hp
     refine ⟨hne,?_⟩
     rcases ((Ym E.top v).1 hv).2 with ⟨h1,h2⟩ | ⟨⟨i,s',o,h1⟩,h2⟩
     ·exact .inl ⟨by show (gE E s v.1).den ρ=_;rw [h1];rfl,by rw [h2,hcP];rfl⟩
     ·exact .inr ⟨⟨_,by show (gE E s v.1).den ρ=_;rw [h1];rfl⟩,by rw [h2];rfl⟩
    have hB:∀ i,Jg (Z1 E s ρ i) p.1 p.2→i∈((Kq P (gE E s) p.1 p.2 e l E.top).map fun u=>(u.1,u.2.den ρ)).map (·.1):=by
     intro i hi
     rw [List.map_map]
     have hi':Jg ((gE E s i).den ρ) p.1 p.2:=hi
     have hlt:i < E.top:=by
      rcases Nat.lt_or_ge i E.top with h | h
      ·exact h
      ·rw [Zkh s i h] at hi'
       rcases hi' with h0 | ⟨_,h0⟩ <;> cases h0
     have hex:∃ x,(i,x)∈Kq P (gE E s) p.1 p.2 e l E.top:=by
      cases hg:gE E s i with
      | mref d' q' =>
       rw [hg] at hi'
       rcases hi' with h0 | ⟨_,h0⟩ <;> cases h0
       exact ⟨_,(Ym E.top (i,_)).2 ⟨hlt,.inl ⟨hg,rfl⟩⟩⟩
      | eref d' q' a b o =>
       rw [hg] at hi'
       rcases hi' with h0 | ⟨_,h0⟩ <;> cases h0
       exact ⟨_,(Ym E.top (i,_)).2 ⟨hlt,.inr ⟨⟨_,_,_,hg⟩,rfl⟩⟩⟩
      | c y => rw [hg] at hi'; rcases hi' with h0 | ⟨_, h0⟩ <;> cases y <;> cases h0
      | _ => rw [hg] at hi'; rcases hi' with h0 | ⟨_, h0⟩ <;> cases h0
     obtain ⟨x,hx⟩:=hex
     exact List.mem_map.2 ⟨_,hx,rfl⟩
    obtain ⟨lim',hf⟩:=hsim.freeze (d:=p.1) (q:=p.2) (ZfU ρ hh.2.2.1) (Z2 ρ hp) (by rw [hcP];omega) (by rw [hcP];exact hh.2.2.2) hA hB
    refine ⟨lim',X,?_⟩
    rw [List.map_cons,K7]
    exact hf
  ·exact ⟨hs,h⟩
 ·exact ⟨hs,h⟩
theorem ZfS {E:Env} (hnt:E.top≤1024) {c:Ctx} {used:List Nat} {s:Tr} {n:Nat} {ρ:Nat→V} (d:Nat) {tm:Array Value} {w:World} (hs:K3 E s n) (h:∃ lim X,Sim c (Z1 E s ρ) tm w lim X) :
  K3 E (W3 E used s d) n∧∃ lim X,Sim c (Z1 E (W3 E used s d) ρ) tm w lim X:=by
 unfold W3
 split
 ·rename_i e l hp
  split
  ·rename_i hh
   have hlow:VL E ((d,.dead)::Ja (gE E s) d E.top):=by
    unfold VL
    rw [List.all_eq_true]
    intro u hu
    rcases List.mem_cons.1 hu with rfl | hu
    ·simpa using J4 hh.1
    ·simpa using ((JG E.top u).1 hu).2.1
   refine ⟨JP hnt _ _ hlow hs fun u hu=>?_,?_⟩
   ·rcases List.mem_cons.1 hu with rfl | hu
    ·trivial
    ·rw [((JG E.top u).1 hu).1];trivial
   ·obtain ⟨lim,X,hsim⟩:=h
    rw [Yr hnt _ _ _ hlow]
    have hd:Ku (Z1 E s ρ) d ((Ja (gE E s) d E.top).map fun u=>(u.1,u.2.den ρ)):=JQ (g:=gE E s) ρ (Zkh s)
    obtain ⟨X',h1,_⟩:=hsim.freeAll (t:=d) (x:=true) (e:=e) (xs:=l.den ρ) (by show (gE E s d).den ρ=_;rw [hp];rfl) (.inr hd)
    exact ⟨lim,X',h1⟩
  ·exact ⟨hs,h⟩
 ·exact ⟨hs,h⟩
theorem ZdE {P:Program} {E:Env} (hnt:E.top≤1024) {c:Ctx} (hcP:c.P=P) {id:Nat} {ops:Array Oper} {s:Tr} {n:Nat} {ρ:Nat→V} {tm:Array Value} {w:World} {lim:Nat→Nat} {X:Nat→Nat→Option Nat} (hs:K3 E s n) (h:Sim c (Z1 E s ρ) tm w lim X) :
  K3 E (Zqn P E id ops s) n∧∃ lim X,Sim c (Z1 E (Zqn P E id ops s) ρ) tm w lim X:=by
 have step1:∀ (l:List (Nat×Nat)) (s:Tr),K3 E s n→(∃ lim X,Sim c (Z1 E s ρ) tm w lim X)→K3 E (l.foldl (Kk P E) s) n∧∃ lim X,Sim c (Z1 E (l.foldl (Kk P E) s) ρ) tm w lim X:=by
  intro l
  induction l with
  | nil => exact fun s h1 h2 => ⟨h1, h2⟩
  | cons p l ih =>
   intro s h1 h2
   obtain ⟨g1,g2⟩:=Zc1 hnt hcP p h1 h2
   exact ih _ g1 g2
 have step2:∀ (l:List Nat) (s:Tr),K3 E s n→(∃ lim X,Sim c (Z1 E s ρ) tm w lim X)→K3 E (l.foldl (W3 E (ZfX ops)) s) n∧∃ lim X,Sim c (Z1 E (l.foldl (W3 E (ZfX ops)) s) ρ) tm w lim X:=by
  intro l
  induction l with
  | nil => exact fun s h1 h2 => ⟨h1, h2⟩
  | cons p l ih =>
   intro s h1 h2
   obtain ⟨g1,g2⟩:=ZfS hnt p h1 h2
   exact ih _ g1 g2
 obtain ⟨g1,g2⟩:=step1 (E.fz id) s hs ⟨lim,X,h⟩
 exact step2 (ZuY ops) _ g1 g2
section
variable {P:Program} {E:Env} {R:AV→List AV→Prop}
def Zjy (lv:Nat) (A A':Nat→List V→Prop):Prop:=∀ i,i < lv→A' i=A i
theorem ZlZ (hm:P.follows .mixedOrders=true) (hps:EnvSound P E) (hnt:E.top≤1024) {c:Ctx} (hcP:c.P=P) (hcn:c.nt=E.nt) (hpin:∀ d v,c.pin d=some v→d∈E.pins) (hgpin:∀ d b,c.gpin d=some b→E.nt≤d∧d < E.top) :
  ∀ (code:Code) (lv n:Nat) (s:Tr) (kn:Tr→Nat→STree) (kx:Nat→Tr→Nat→STree) (kr:Tr→Nat→STree) (A:Nat→List V→Prop) (ρ:Nat→V) (tm:Array Value) (w:World) (lim:Nat→Nat) (X:Nat→Nat→Option Nat)
   (Q:Exit→Act→World→Prop),K3 E s n→(ev P E lv code s n kn kx kr).wp P R A ρ→Sim c (Z1 E s ρ) tm w lim X→
   (∀ s' n' ρ' A',Zjy lv A A'→K3 E s' n'→(kn s' n').wp P R A' ρ'→∀ tm' w' lim' X',Sim c (Z1 E s' ρ') tm' w' lim' X'→Q .normal ⟨tm',[]⟩ w')→
   (∀ id s' n' ρ' A',Zjy lv A A'→K3 E s' n'→(kx id s' n').wp P R A' ρ'→∀ tm' w' lim' X',Sim c (Z1 E s' ρ') tm' w' lim' X'→Q (.exit id) ⟨tm',[]⟩ w')→
   (∀ s' n' ρ' A',Zjy lv A A'→K3 E s' n'→(kr s' n').wp P R A' ρ'→∀ tm' w' lim' X',Sim c (Z1 E s' ρ') tm' w' lim' X'→Q .ret ⟨tm',[]⟩ w')→
   code.wp P Q ⟨tm,[]⟩ w:=by
 intro code
 induction code with
 | skip => intro lv n s kn kx kr A ρ tm w lim X Q hs h hsim hn hx hr; exact wp_skip (hn s n ρ A (fun _ _ => rfl) hs h tm w lim X hsim)
 | label l => intro lv n s kn kx kr A ρ tm w lim X Q hs h hsim hn hx hr; exact wp_label (hn s n ρ A (fun _ _ => rfl) hs h tm w lim X hsim)
 | exit id => intro lv n s kn kx kr A ρ tm w lim X Q hs h hsim hn hx hr; exact wp_exit (hx id s n ρ A (fun _ _ => rfl) hs h tm w lim X hsim)
 | ret => intro lv n s kn kx kr A ρ tm w lim X Q hs h hsim hn hx hr; exact wp_ret (hr s n ρ A (fun _ _ => rfl) hs h tm w lim X hsim)
 | seq a b iha ihb =>
  intro lv n s kn kx kr A ρ tm w lim X Q hs h hsim hn hx hr
  refine wp_seq (iha lv n s _ kx kr A ρ tm w lim X _ hs h hsim ?_ hx hr)
  intro s' n' ρ' A' hA hs' h' tm' w' lim' X' hsim'
  exact ihb lv n' s' kn kx kr A' ρ' tm' w' lim' X' Q hs' h' hsim' (fun s2 n2 ρ2 A2 hA2=>hn s2 n2 ρ2 A2 fun i hi=>(hA2 i hi).trans (hA i hi))
   (fun id s2 n2 ρ2 A2 hA2=>hx id s2 n2 ρ2 A2 fun i hi=>(hA2 i hi).trans (hA i hi)) (fun s2 n2 ρ2 A2 hA2=>hr s2 n2 ρ2 A2 fun i hi=>(hA2 i hi).trans (hA i hi))
 | cond x a b iha ihb =>
  intro lv n s kn kx kr A ρ tm w lim X Q hs h hsim hn hx hr
  simp only [ev] at h
  split at h
  ·rename_i t ht
   have hxt:x = .tmp t:=by cases x<;>simp [ZO] at ht;rw [ht]
   subst hxt
   have heval:∀ v:BE,gE E s t = .c (.bool v)→Act.eval ⟨tm,[]⟩ (.tmp t) = .bool (v.den ρ):=by
    intro v hv
    have hrel:=hsim.rel t
    have:Z1 E s ρ t = .val (.bool (v.den ρ)):=by simp only [Z1,hv,SV.den,SC.den]
    rw [this] at hrel
    exact K4 hrel
   split at h
   ·rename_i v hv
    have he:=heval _ hv
    simp only [BE.den] at he
    split at h
    ·rename_i hvt
     subst hvt
     exact wp_cond_true he (iha lv n s kn kx kr A ρ tm w lim X Q hs h hsim hn hx hr)
    ·rename_i hvt
     have:v=false:=by simpa using hvt
     subst this
     exact wp_cond_false he (ihb lv n s kn kx kr A ρ tm w lim X Q hs h hsim hn hx hr)
   ·rename_i v _ hv
    refine wp_cond_split (heval v hv) (fun hv'=>?_) fun hv'=>?_
    ·obtain ⟨hlt,hsame⟩:=V0 hnt hv hv'
     exact iha lv n _ kn kx kr A ρ tm w lim X Q (JO (x:=.c (.bool (.lit true))) hnt hlt hs trivial) (h.1 hv') (by rw [hsame];exact hsim) hn hx hr
    ·obtain ⟨hlt,hsame⟩:=V0 hnt hv hv'
     exact ihb lv n _ kn kx kr A ρ tm w lim X Q (JO (x:=.c (.bool (.lit false))) hnt hlt hs trivial) (h.2 hv') (by rw [hsame];exact hsim) hn hx hr
   ·exact h.elim
  ·exact h.elim
 | block id body ih =>
  intro lv n s kn kx kr A ρ tm w lim X Q hs h hsim hn hx hr
  refine wp_block (ih lv n s kn _ kr A ρ tm w lim X _ hs h hsim hn ?_ hr)
  intro id' s' n' ρ' A' hA hs' h' tm' w' lim' X' hsim'
  unfold Exit.inBlock
  by_cases hid:id'=id
  ·rw [if_pos hid] at h'
   simp only [hid,if_true]
   exact hn s' n' ρ' A' hA hs' h' tm' w' lim' X' hsim'
  ·rw [if_neg hid] at h'
   simp only [hid,if_false]
   exact hx id' s' n' ρ' A' hA hs' h' tm' w' lim' X' hsim'
 | scope body ih =>
  intro lv n s kn kx kr A ρ tm w lim X Q hs h hsim hn hx hr
  exact wp_scope_straight (ih lv n s kn kx kr A ρ tm w lim X _ hs h hsim hn hx hr)
 | loop body ih =>
  intro lv n s kn kx kr A ρ tm w lim X Q hs h hsim hn hx hr
  simp only [ev] at h
  split at h
  case isFalse=>exact h.elim
  rename_i hok
  split at h
  case h_2=>exact h.elim
  rename_i init hinit
  obtain ⟨I,m,h0,hround⟩:=h
  have hlen:∀ {s':Tr} {ves:List VE},YK P (gE E s') (E.keep (Z3 body))=some ves→(ZP (E.keep (Z3 body)) 0).2=ves.length:=by
   intro s' ves hv
   have:=(KG (P:=P) (g:=gE E s') (ρ:=ρ) _ 0 ves [] hv rfl).1
   omega
  have key:∀ (k:Nat) (vs:List V) (tm:Array Value) (w:World) (lim:Nat→Nat) (X:Nat→Nat→Option Nat),m vs < k→vs.length=init.length→I vs→
    Sim c (Z1 E (JE (ZP (E.keep (Z3 body)) 0).1 (.leaf .dead)) (bind Zfl 0 vs)) tm w lim X→Code.rounds P body Q k ⟨tm,[]⟩ w:=by
   intro k
   induction k with
   | zero => intro vs tm w lim X hlt; omega
   | succ k ihk =>
    intro vs tm w lim X hlt hlv hI hsim
    rw [rounds_succ]
    obtain ⟨k1,k2,k3,k4,k5,k6⟩:=VM hok
    have hbd:K3 E (JE (ZP (E.keep (Z3 body)) 0).1 (.leaf .dead)) (ZP (E.keep (Z3 body)) 0).2:=by
     refine JP hnt _ _ ?_ (fun d=>?_) (Zci _ 0).2
     ·unfold VL
      rw [List.all_eq_true]
      intro u hu
      have h2:=(KG (P:=P) (g:=gE E s) (ρ:=ρ) _ 0 init [] hinit rfl).2.1
      have hm:u.1∈(E.keep (Z3 body)).map (·.1):=by rw [← h2];exact List.mem_map.2 ⟨u,hu,rfl⟩
      obtain ⟨p,hp,he⟩:=List.mem_map.1 hm
      have:=(k2 p hp).1
      rw [he] at this
      simpa using this
     ·unfold gE
      split<;>trivial
    refine ih (lv+1) _ _ _ kx kr _ (bind Zfl 0 vs) tm w lim X _ hbd (hround vs hlv hI) hsim ?_ ?_ ?_
    ·intro s' n' ρ' A' hA hs' h' tm' w' lim' X' hsim'
     split at h'
     ·rename_i vals hvals
      have hAl:A' lv=fun vs'=>I vs'∧m vs' < m vs:=by
       rw [hA lv (Nat.lt_succ_self _)]
       funext vs'
       simp only [Zo6,if_true]
      have h'':A' lv (vals.map (VE.den ρ')):=h'
      rw [hAl] at h''
      obtain ⟨hI',hm'⟩:=h''
      obtain ⟨X2,hs2⟩:=ZgY hnt hcP hcn hpin hgpin hok Zfl hvals hsim'
      exact ihk _ tm' w' lim' X2 (by omega) (by rw [List.length_map,← hlen hvals,hlen hinit]) hI' hs2
     ·exact h'.elim
    ·intro id s' n' ρ' A' hA hs' h' tm' w' lim' X' hsim'
     exact hx id s' n' ρ' A' (fun i hi=>by rw [hA i (by omega)];funext vs';simp only [Zo6,Nat.ne_of_lt hi,if_false]) hs' h' tm' w' lim' X' hsim'
    ·intro s' n' ρ' A' hA hs' h' tm' w' lim' X' hsim'
     exact hr s' n' ρ' A' (fun i hi=>by rw [hA i (by omega)];funext vs';simp only [Zo6,Nat.ne_of_lt hi,if_false]) hs' h' tm' w' lim' X' hsim'
  obtain ⟨X0,hs0⟩:=ZgY hnt hcP hcn hpin hgpin hok Zfl hinit hsim
  exact wp_loop_rounds _ (key (m (init.map (VE.den ρ))+1) _ tm w lim X0 (Nat.lt_succ_self _) (by rw [List.length_map]) h0 hs0)
 | region id ops draw =>
  intro lv n s0 kn kx kr A ρ tm w lim0 X0 Q hs0 h hsim0 hn hx hr
  simp only [ev] at h
  obtain ⟨hs,lim,X,hsim⟩:=ZdE (P:=P) hnt hcP (id:=id) (ops:=ops) hs0 hsim0
  generalize Zqn P E id ops s0=s at h hs hsim
  split at h
  ·rename_i x a d T neg htest
   split at h
   case h_2=>exact h.elim
   rename_i e l hT hl
   split at h
   case isFalse=>exact h.elim
   rename_i hh
   obtain ⟨ha,hd,hma,hmd,had,hxa⟩:=hh
   obtain ⟨o,p,U,hops,hgo,hgp,h1,h2,h3,h4⟩:=Zex htest
   obtain ⟨va,k,cap,hv,hnil⟩:=ZhE hl (show ZK P w lim X (Z1 E s ρ) x (Z1 E s ρ x) (tm.getD x undef) from hcP ▸ hsim.rel x)
   have hsz:ops.size=2:=by rw [← Array.length_toList,hops];rfl
   have ho0:ops[0]? = some o:=by rw [← Array.getElem?_toList,hops];rfl
   have ho1:ops[1]? = some p:=by rw [← Array.getElem?_toList,hops];rfl
   refine wp_region ?_
   rw [hsz,show List.range 2 = [0,1] from rfl,wpOps_cons]
   unfold wpOp
   simp only [ho0,Region.wanted,hgo]
   simp only [if_true]
   refine .inl (Zk (v:=.slice va k cap) (w':=w) ?_ ?_)
   ·have hev:Act.eval ⟨tm,[]⟩ (.tmp x)=tm.getD x undef:=rfl
    simp only [execOp,h1,hev,hv,Sem.run_pure]
   ·rw [wpOps_cons]
    unfold wpOp
    simp only [ho1,Region.wanted,hgp]
    simp only [if_true]
    have hea:Act.eval (Act.put ⟨tm,[]⟩ o.dst (.slice va k cap)) (.tmp a) = .slice va k cap:=by
     rw [h2]
     exact J5 tm a _ (by rw [hsim.size,hcn];exact ha)
    refine .inl (Zk (v:=.bool (if neg=true then !va.isNone else va.isNone)) (w':=w) ?_ ?_)
    ·have hec:Act.eval (Act.put ⟨tm,[]⟩ o.dst (.slice va k cap)) (.const (.slice none 0 0)) = .slice none 0 0:=rfl
     have heq:=run_equal_slice_nil (P:=P) w T _ va k cap hT
     cases neg
     ·simp [execOp,h3,hea,hec,eqGuard,binOp,heq]
     ·simp [execOp,h3,hea,hec,eqGuard,binOp,heq]
    ·have hb:=h va.isNone hnil
     have hna:Vu (Z1 E s ρ a):=ZL (Yq (a:=gE E s a) (b:=.dead) ρ hma)
     have hnd:Vu (Z1 E s ρ d):=ZL (Yq (a:=gE E s d) (b:=.dead) ρ hmd)
     have s1:=hsim.put (k:=0) (x:=.dead) (v:=.slice va k cap) (by rw [hcn];exact ha) hna rfl trivial
     have s2:=s1.put (d:=d) (k:=0) (x:=.val (.bool (if neg=true then !va.isNone else va.isNone))) (v:=.bool (if neg=true then !va.isNone else va.isNone)) (by rw [hcn];exact hd) (by rw [Zi _ _ (Ne.symm had)];exact hnd) rfl (Rep.val rfl)
     have hbv:(BE.den (bind ρ n [.b va.isNone]) (if neg=true then .not (.var n) else .var n))=(if neg=true then !va.isNone else va.isNone):=by
      have hvar:bind ρ n [.b va.isNone] n = .b va.isNone:=by simp [bind]
      cases neg
      ·simp only [Bool.false_eq_true,if_false,BE.den,hvar,V.bool]
      ·simp only [if_true,BE.den,hvar,V.bool]
     have hσ:Z1 E ((s.set depth a .dead).set depth d (.c (.bool (if neg=true then .not (.var n) else .var n)))) (bind ρ n [.b va.isNone])=upd (upd (Z1 E s ρ) a .dead) d (.val (.bool (if neg=true then !va.isNone else va.isNone))):=by
      rw [Yv hnt (J4 hd),Yv hnt (J4 ha),Zcn hs (ZdO ρ n _)]
      simp only [SV.den,SC.den,hbv]
     have hs2:K3 E ((s.set depth a .dead).set depth d (.c (.bool (if neg=true then .not (.var n) else .var n)))) (n+1):=by
      refine JO hnt (J4 hd) (JO hnt (J4 ha) (Zeh hs (Nat.le_succ n)) trivial) ?_
      cases neg
      ·exact Nat.lt_succ_self n
      ·exact Nat.lt_succ_self n
     rw [h2,h4]
     show Q .normal ⟨(tm.setIfInBounds a (.slice va k cap)).setIfInBounds d (.bool (if neg=true then !va.isNone else va.isNone)),[]⟩ w
     exact hn _ _ _ A (fun _ _=>rfl) hs2 hb _ w lim _ (by rw [hσ];exact s2)
  ·split at h
   ·rename_i x i a b cc T htest _
    split at h
    case h_2=>exact h.elim
    rename_i e0 e l ie hT hgx hgi
    split at h
    case h_2=>exact h.elim
    rename_i inf hinf
    split at h
    case h_2=>exact h.elim
    rename_i z hz
    split at h
    case h_2=>exact h.elim
    rename_i zc sh hzc hsh
    split at h
    case h_2=>exact h.elim
    rename_i zc' hzc'
    split at h
    case isFalse=>exact h.elim
    rename_i hh
    obtain ⟨rfl,hzs,⟨h0,hnm⟩,hok⟩:=hh
    simp only [Zkm,Bool.and_eq_true,decide_eq_true_eq] at hok
    obtain ⟨⟨hxn,han,hbn,hcn',hxa,hxb,hxc,hia,hab,hac,hbc⟩,hma,hmb,hmc⟩:=hok
    obtain ⟨r1,r2,h⟩:=h
    have r1':(0:Int)≤ie.den ρ:=r1
    have r2':ie.den ρ≤((l.den ρ).length:Int):=r2
    obtain ⟨o,p,q,r,hops,hgo,hgp,hgq,hgr,h1,h2,h3,h4,h5,h6,⟨cl,h7,h9,h10,h11⟩,h8⟩:=Zb3 htest
    have hσx:Z1 E s ρ x = .own true e (l.den ρ):=by show (gE E s x).den ρ=_;rw [hgx];rfl
    have hσi:Z1 E s ρ i = .val (.int .i64 (ie.den ρ)):=by show (gE E s i).den ρ=_;rw [hgi];rfl
    have hzd:=Y1 ρ z.cells.toList
    rw [hzc] at hzd
    have hzr0:∀ (w:World) (lim:Nat→Nat),J7 w lim (zc.map (SC.den ρ)) z.cells.toList:=fun w lim=>YQ (h:=hzd.symm)
    have hzr:∀ (w:World) (lim:Nat→Nat),J7 w lim (zc'.map (SC.den ρ)) z.cells.toList:=fun w lim=>(Wo ρ _ _ _ hzc').2 w lim _ (hzr0 w lim)
    have h1z:∀ v∈z.cells.toList,v.oneCell'=true:=by
     intro v hv
     obtain ⟨j,hj⟩:=List.mem_iff_getElem?.1 hv
     have hjl:=(List.getElem?_eq_some_iff.1 hj).1
     have hr0:=hzr0 w lim
     have hjz:j < (zc.map (SC.den ρ)).length:=by rw [hr0.1];exact hjl
     exact (hr0.2.2 j _ v (List.getElem?_eq_getElem hjz) hj).oneCell (hr0.2.1 _ (List.getElem_mem hjz))
    obtain ⟨v2,w',X',hsl,hcl,hs',hmx⟩:=hsim.clear (x:=x) (n:=(ie.den ρ).toNat) (T:=T) (zc:=zc'.map (SC.den ρ)) hσx (by rw [hcP];exact hT) (by rw [hcP];exact hinf) hz hzs h0 hzr h1z (by omega) (by rw [hcP];exact hnm)
    rw [hcP] at hsl hcl
    have hvi:tm.getD i undef = .int .i64 (ie.den ρ):=by
     have:=hsim.rel i
     rw [hσi] at this
     exact K4 (show Rep w lim _ _ from this)
    have hin:((ie.den ρ).toNat:Int)=ie.den ρ:=by omega
    rw [hin] at hsl
    have hsz:ops.size=4:=by rw [← Array.length_toList,hops];rfl
    have ho0:ops[0]? = some o:=by rw [← Array.getElem?_toList,hops];rfl
    have ho1:ops[1]? = some p:=by rw [← Array.getElem?_toList,hops];rfl
    have ho2:ops[2]? = some q:=by rw [← Array.getElem?_toList,hops];rfl
    have ho3:ops[3]? = some r:=by rw [← Array.getElem?_toList,hops];rfl
    have hts:tm.size=E.nt:=by rw [hsim.size,hcn]
    refine wp_region ?_
    rw [hsz,show List.range 4 = [0,1,2,3] from rfl,wpOps_cons]
    unfold wpOp
    simp only [ho0,Region.wanted,hgo]
    simp only [if_true]
    refine .inl (Zk (v:=tm.getD x undef) (w':=w) ?_ ?_)
    ·have hev:Act.eval ⟨tm,[]⟩ (.tmp x)=tm.getD x undef:=rfl
     simp only [execOp,h1,hev,Sem.run_pure]
    rw [wpOps_cons]
    unfold wpOp
    simp only [ho1,Region.wanted,hgp]
    simp only [if_true]
    have e1:Act.eval (Act.put ⟨tm,[]⟩ o.dst (tm.getD x undef)) (.tmp i) = .int .i64 (ie.den ρ):=by
     rw [h2]
     exact (ZZ tm a i _ hia).trans hvi
    refine .inl (Zk (v:=.int .i64 (ie.den ρ)) (w':=w) ?_ ?_)
    ·simp only [execOp,h3,e1,Sem.run_pure]
    rw [wpOps_cons]
    unfold wpOp
    simp only [ho2,Region.wanted,hgq]
    simp only [if_true]
    have e2:Act.eval (Act.put (Act.put ⟨tm,[]⟩ o.dst (tm.getD x undef)) p.dst (.int .i64 (ie.den ρ))) (.tmp a)=tm.getD x undef:=by
     rw [h2,h4]
     exact (ZZ _ b a _ hab).trans (J5 tm a _ (by rw [hts];exact han))
    have e3:Act.eval (Act.put (Act.put ⟨tm,[]⟩ o.dst (tm.getD x undef)) p.dst (.int .i64 (ie.den ρ))) (.tmp b) = .int .i64 (ie.den ρ):=by
     rw [h2,h4]
     exact J5 _ b _ (by show b < (tm.setIfInBounds a _).size;rw [Array.size_setIfInBounds,hts];exact hbn)
    refine .inl (Zk (v:=v2) (w':=w) ?_ ?_)
    ·simp only [execOp,h5,Option.map_some,Option.map_none,Sem.run_bind,e2,e3,hsl,Result.andThen_ok,Sem.run_pure]
    rw [wpOps_cons]
    unfold wpOp
    simp only [ho3,Region.wanted,hgr]
    simp only [if_true]
    have e4:Act.eval (Act.put (Act.put (Act.put ⟨tm,[]⟩ o.dst (tm.getD x undef)) p.dst (.int .i64 (ie.den ρ))) q.dst v2) (.tmp cc)=v2:=by
     rw [h2,h4,h6]
     exact J5 _ cc _ (by show cc < ((tm.setIfInBounds a _).setIfInBounds b _).size;rw [Array.size_setIfInBounds,Array.size_setIfInBounds,hts];exact hcn')
    refine .inl (Zk (v:=.tuple #[]) (w':=w') ?_ ?_)
    ·simp only [execOp,h7,h9,h10,h11,resolve,invoke,builtin,Sem.run_bind,Sem.run_pure,Result.andThen_ok,List.map_toArray,List.map_cons,List.map_nil,e4,hcl]
    have hna:Vu (Z1 E s ρ a):=ZL (Yq (a:=gE E s a) (b:=.dead) ρ hma)
    have hnb:Vu (Z1 E s ρ b):=ZL (Yq (a:=gE E s b) (b:=.dead) ρ hmb)
    have hnc:Vu (Z1 E s ρ cc):=ZL (Yq (a:=gE E s cc) (b:=.dead) ρ hmc)
    have s1:=hs'.put (d:=a) (k:=0) (x:=.dead) (v:=tm.getD x undef) (by rw [hcn];exact han) (by rw [Zi _ _ (Ne.symm hxa)];exact hna) rfl trivial
    have s2:=s1.put (d:=b) (k:=0) (x:=.dead) (v:=.int .i64 (ie.den ρ)) (by rw [hcn];exact hbn) (by rw [Zi _ _ (Ne.symm hab),Zi _ _ (Ne.symm hxb)];exact hnb) rfl trivial
    have s3:=s2.put (d:=cc) (k:=0) (x:=.dead) (v:=v2) (by rw [hcn];exact hcn') (by rw [Zi _ _ (Ne.symm hbc),Zi _ _ (Ne.symm hac),Zi _ _ (Ne.symm hxc)];exact hnc) rfl trivial
    have hwr:iop .sub .i64 ((l.den ρ).length:Int) (ie.den ρ)=((l.den ρ).length:Int)-ie.den ρ:=by
     show IntKind.i64.wrap _=_
     rw [IntKind.wrap_i64]
     unfold maxLen at hmx
     omega
    have hlist:(LE.app (.take l ie) (.rep (.bin .sub .i64 (.len l) ie) (Zil zc'))).den ρ=(l.den ρ).take (ie.den ρ).toNat++List.replicate ((l.den ρ).length-(ie.den ρ).toNat) (zc'.map (SC.den ρ)):=by
     show (l.den ρ).take (ie.den ρ).toNat++List.replicate (iop .sub .i64 ((l.den ρ).length:Int) (ie.den ρ)).toNat ((Zil zc').den ρ)=_
     rw [hwr,Wl]
     congr 2
     omega
    have bx:(gE E s x).bd n:=hs x
    have bi:(gE E s i).bd n:=hs i
    rw [hgx] at bx
    rw [hgi] at bi
    have hσ:Z1 E ((((s.set depth x (.own true e (.app (.take l ie) (.rep (.bin .sub .i64 (.len l) ie) (Zil zc'))))).set depth a .dead).set depth b .dead).set depth cc .dead) ρ=upd (upd (upd (upd (Z1 E s ρ) x (.own true e ((l.den ρ).take (ie.den ρ).toNat++List.replicate ((l.den ρ).length-(ie.den ρ).toNat) (zc'.map (SC.den ρ))))) a .dead) b .dead) cc .dead:=by
     rw [Yv hnt (J4 hcn'),Yv hnt (J4 hbn),Yv hnt (J4 han),Yv hnt (J4 hxn)]
     simp only [SV.den,hlist]
    have hs2:K3 E ((((s.set depth x (.own true e (.app (.take l ie) (.rep (.bin .sub .i64 (.len l) ie) (Zil zc'))))).set depth a .dead).set depth b .dead).set depth cc .dead) n:=
     JO hnt (J4 hcn') (JO hnt (J4 hbn) (JO hnt (J4 han) (JO hnt (J4 hxn) hs ⟨⟨bx,bi⟩,⟨bx,bi⟩,Zbp _ (K0 _ _ _ hzc' (KT hzc))⟩) trivial) trivial) trivial
    rw [h2,h4,h6,h8]
    exact hn _ _ ρ A (fun _ _=>rfl) hs2 h _ w' lim _ (by rw [hσ];exact s3)
   ·exact ZeX hm hps hnt (fun d j=>Zp2) (fun d hd=>ZgO ρ hd) hs h hcP hcn hsim fun s' n' ρ' hs' h'=>hn s' n' ρ' A (fun _ _=>rfl) hs' h'
 | _ => intro lv n s kn kx kr A ρ tm w lim X Q hs h hsim hn hx hr; exact h.elim
end
end Go.AM
end

section
namespace Go.AM
def V1 (tm:Array Value):ResultVar→Sem Value
 | .tmp t => pure (tm.getD t undef)
 | .cell a t => do loadVar t (← asAddr (tm.getD a undef))
def Zey:ResultVar→Nat
 | .tmp _ => 0
 | .cell _ _ => 1
theorem Zh0 (fn:Func) (tm:Array Value):results fn tm=(do
  let vs ← fn.results.mapM (V1 tm)
  pure (if h:vs.size=1 then vs[0] else .tuple vs)):=by
 unfold results
 congr 1
theorem ZgZ {P:Program} {w:World} {f:ResultVar→Sem Value} : ∀ (rs:List ResultVar) (vs:List Value),rs.length=vs.length→
  (∀ (i:Nat) (r:ResultVar) (v:Value),rs[i]? = some r→vs[i]? = some v→(f r).run P w = .ok v w)→(rs.mapM f).run P w = .ok vs w
 | [], [], _, _ => by simp
 | [], _ :: _, h, _ => by simp at h
 | _ :: _, [], h, _ => by simp at h
 | r :: rs, v :: vs, h, hf => by
  have h1:=hf 0 r v rfl rfl
  have h2:=ZgZ rs vs (by simpa using h) fun i r' v' hr hv=>hf (i+1) r' v' (by simpa using hr) (by simpa using hv)
  simp [List.mapM_cons,h1,h2]
theorem VS {P:Program} {w:World} {fn:Func} {tm:Array Value} {vs:List Value} (hl:fn.results.toList.length=vs.length)
  (hf:∀ (i:Nat) (r:ResultVar) (v:Value),fn.results.toList[i]? = some r→vs[i]? = some v→(V1 tm r).run P w = .ok v w) :
  (results fn tm).run P w = .ok (match vs with | [v]=>v | vs=>.tuple vs.toArray) w:=by
 have h:=ZgZ _ _ hl hf
 rw [Zh0,Array.mapM_eq_mapM_toList]
 simp only [Sem.run_bind,Sem.run_map,h,Result.andThen_ok]
 rcases vs with _ | ⟨v,_ | ⟨u,l⟩⟩ <;> simp
section
variable {P:Program} {E:Env}
theorem Zef {c:Ctx} (hc:c.P=P) {s:Tr} {ρ:Nat→V} {tm:Array Value} {w:World} {lim:Nat→Nat} {X:Nat→Nat→Option Nat} (hs:Sim c (Z1 E s ρ) tm w lim X) {r:ResultVar} {x:TC}
  (h:ZcS P (gE E s) r=some x):∃ v,(V1 tm r).run P w = .ok v w∧JX P w lim (X (J6 r) (Zey r)) (x.den ρ) v:=by
 cases r with
 | tmp t =>
  have hr:=hs.rel t
  simp only [ZcS] at h
  split at h
  ·rename_i y hy
   simp only [Option.some.injEq] at h
   subst h
   have:Z1 E s ρ t=y.den ρ:=by simp only [Z1,hy,SV.den]
   rw [this] at hr
   exact ⟨_,rfl,by cases y<;>exact hr⟩
  ·rename_i cs hy
   simp only [Option.some.injEq] at h
   subst h
   have:Z1 E s ρ t = .agg (cs.map (SC.den ρ)):=by simp only [Z1,hy,SV.den]
   rw [this] at hr
   exact ⟨_,rfl,hr⟩
  ·rename_i b e xs hy
   simp only [Option.some.injEq] at h
   subst h
   have:Z1 E s ρ t = .own b e (xs.den ρ):=by simp only [Z1,hy,SV.den]
   rw [this,hc] at hr
   exact ⟨_,rfl,hr⟩
  ·cases h
 | cell t T =>
  have hr:=hs.rel t
  simp only [ZcS] at h
  split at h
  ·rename_i cs hT hy
   split at h
   ·rename_i hl
    simp only [Option.some.injEq] at h
    subst h
    have:Z1 E s ρ t = .box (cs.map (BC.den ρ)):=by simp only [Z1,hy,SV.den]
    rw [this,hc] at hr
    obtain ⟨b,us,g1,g2,g3,g4,g5,g6⟩:=ZG.part (show ZG P w lim (X t) _ _ from hr) 0 (P.cellsOf T) (by simp [hl.1]) (by rw [List.drop_zero,List.take_of_length_le (by simp [hl.1])];exact ZbL hl.2.1 ρ) (by rw [List.drop_zero,List.take_of_length_le (by simp [hl.1])];exact Zeb hl.2.2 ρ)
    refine ⟨.agg us.toArray,?_,?_⟩
    ·obtain ⟨i,hi⟩:=ZcP hT
     have hl2:=run_loadCells_list (P:=P) w ⟨b,0,none⟩ us (fun j v hj=>by rw [JH];exact g4 j v hj)
     rw [g3] at hl2
     simp [V1,g2,asAddr,loadVar,WQ hT,Zn hi,hl2]
    ·have he:(TC.agg (cs.map (ZcC P))).den ρ = .agg ((((cs.map (BC.den ρ)).drop 0).take (P.cellsOf T)).map (J8 P)):=by
      rw [List.drop_zero,List.take_of_length_le (by simp [hl.1])]
      simp only [TC.den,List.map_map]
      congr 1
      exact List.map_congr_left fun b _=>ZcA P ρ b
     rw [he]
     exact .agg (by simp [g3,hl.1]) g5 g6
   ·cases h
  ·rename_i bx e xs hT hy
   simp only [Option.some.injEq] at h
   subst h
   have:Z1 E s ρ t = .box [.own bx e (xs.den ρ)]:=by simp only [Z1,hy,SV.den];rfl
   rw [this,hc] at hr
   obtain ⟨b,arr,ty,h1,h2,h3,h4,h5,h6,h7⟩:=(show ZG P w lim (X t) _ _ from hr)
   obtain ⟨u,hu⟩:∃ u,arr[0]? = some u:=⟨_,Array.getElem?_eq_getElem (by rw [h4];simp)⟩
   refine ⟨u,?_,h7 0 _ u rfl hu⟩
   have hcell:w.cell? ⟨b,0,none⟩=some u:=by rw [ZS h3];exact hu
   simp [V1,h2,asAddr,loadVar,Kz hT,hcell]
  ·rename_i y hT hy
   simp only [Option.some.injEq] at h
   subst h
   have:Z1 E s ρ t = .box [y.den ρ]:=by simp only [Z1,hy,SV.den];rfl
   rw [this,hc] at hr
   obtain ⟨b,arr,ty,h1,h2,h3,h4,h5,h6,h7⟩:=(show ZG P w lim (X t) _ _ from hr)
   obtain ⟨u,hu⟩:∃ u,arr[0]? = some u:=⟨_,Array.getElem?_eq_getElem (by rw [h4];simp)⟩
   have h70:=h7 0 _ u rfl hu
   refine ⟨u,?_,by cases y<;>exact h70⟩
   have hcell:w.cell? ⟨b,0,none⟩=some u:=by rw [ZS h3];exact hu
   simp [V1,h2,asAddr,loadVar,Kz hT,hcell]
  ·cases h
theorem Zeg {c:Ctx} (hc:c.P=P) {s:Tr} {ρ:Nat→V} {tm:Array Value} {w:World} {lim:Nat→Nat} {X:Nat→Nat→Option Nat} (hs:Sim c (Z1 E s ρ) tm w lim X):∀ (rs:List ResultVar) (xs:List TC),
  ZcB P (gE E s) rs=some xs→∃ vs:List Value,rs.length=vs.length∧xs.length=vs.length∧∀ (i:Nat) (r:ResultVar) (v:Value),rs[i]? = some r→vs[i]? = some v→
   (V1 tm r).run P w = .ok v w∧∀ x,xs[i]? = some x→JX P w lim (X (J6 r) (Zey r)) (x.den ρ) v
 | [], xs, h => by
  simp only [ZcB,Option.some.injEq] at h
  subst h
  exact ⟨[],rfl,rfl,by simp⟩
 | r :: rs, xs, h => by
  simp only [ZcB] at h
  split at h
  ·rename_i x xs' hx hxs
   simp only [Option.some.injEq] at h
   subst h
   obtain ⟨v,h1,h2⟩:=Zef hc hs hx
   obtain ⟨vs,g1,g2,g3⟩:=Zeg hc hs rs xs' hxs
   refine ⟨v::vs,by simp [g1],by simp [g2],fun i r' v' hr hv=>?_⟩
   cases i with
   | zero =>
    simp only [List.getElem?_cons_zero,Option.some.injEq] at hr hv
    subst hr
    subst hv
    refine ⟨h1,fun y hy=>?_⟩
    simp only [List.getElem?_cons_zero,Option.some.injEq] at hy
    subst hy
    exact h2
   | succ i =>
    obtain ⟨k1,k2⟩:=g3 i r' v' (by simpa using hr) (by simpa using hv)
    exact ⟨k1,fun y hy=>k2 y (by simpa using hy)⟩
  ·cases h
theorem ZfE {w:World} {lim:Nat→Nat} {X:Nat→Nat→Option Nat} {σ:Nat→AV} {d:Nat} {x:TC} {ρ:Nat→V} {v:Value} (h:JX P w lim (X d 0) (x.den ρ) v):ZK P w lim X σ d (x.den ρ) v:=by
 cases x with
 | c y => cases y <;> exact h
 | agg cs => exact h
 | own x e l => exact h
 | gone => trivial
theorem Zcf (ρ:Nat→V):∀ (aZ:List SV) (i:Nat) (σ:Nat→AV) (d:Nat),JF σ ((KY aZ i).map fun u=>(u.1,u.2.den ρ)) d=if i≤d∧d < i+aZ.length then ZM (aZ.map (SV.den ρ)) (d-i) else σ d
 | [], i, σ, d => by
  rw [if_neg (by simp)]
  rfl
 | a :: aZ, i, σ, d => by
  simp only [KY,List.map_cons,JF]
  rw [Zcf ρ aZ (i+1)]
  by_cases h:i+1≤d∧d < i+1+aZ.length
  ·rw [if_pos h,if_pos (by simp only [List.length_cons];omega)]
   obtain ⟨k,hk⟩:∃ k,d-i=k+1:=⟨d-i-1,by omega⟩
   rw [hk,show d-(i+1)=k by omega]
   simp [ZM]
  ·rw [if_neg h]
   by_cases hd:d=i
   ·subst hd
    rw [ZY,if_pos (by simp)]
    simp [ZM]
   ·rw [Zi _ _ hd,if_neg (by simp only [List.length_cons];omega)]
theorem ZeJ {n:Nat} : ∀ (aZ:List SV) (i:Nat),(∀ a∈aZ,a.bd n)→∀ u∈KY aZ i,u.2.bd n
 | [], i, _, u, hu => by simp [KY] at hu
 | a :: aZ, i, h, u, hu => by
  rcases List.mem_cons.1 hu with rfl | hu
  ·exact h a (by simp)
  ·exact ZeJ aZ (i+1) (fun b hb=>h b (by simp [hb])) u hu
theorem Zcy:∀ (aZ:List SV) (i m:Nat),i+aZ.length≤m→∀ u∈KY aZ i,u.1 < m
 | [], i, m, _, u, hu => by simp [KY] at hu
 | a :: aZ, i, m, h, u, hu => by
  simp only [List.length_cons] at h
  rcases List.mem_cons.1 hu with rfl | hu
  ·show i < m;omega
  ·exact Zcy aZ (i+1) m (by omega) u hu
def SV.isBx:SV→Bool
 | .box _ => true
 | .gbox _ => true
 | _ => false
theorem Ky {a:SV} {aZ:List SV} {i:Nat} (h:Jk E (a::aZ) i=true):Jk E aZ (i+1)=true:=by
 cases a<;>simp only [Jk,Bool.and_eq_true,Bool.false_eq_true] at h<;>exact h.2
theorem VW:∀ (aZ:List SV) (i:Nat),Jk E aZ i=true→∀ (j:Nat) (a:SV),aZ[j]? = some a→(∀ cs,a = .box cs→i+j∈E.pins)∧(a.isG=true↔E.nt≤i+j)
 | [], i, _, j, a, h => by simp at h
 | a :: aZ, i, hf, j, b, h => by
  cases j with
  | zero =>
   simp only [List.getElem?_cons_zero,Option.some.injEq] at h
   subst h
   refine ⟨fun cs e=>?_,?_⟩
   ·subst e
    simp only [Jk,Bool.and_eq_true,List.contains_iff_mem] at hf
    exact hf.1.2
   ·cases a<;>simp only [Jk,Bool.and_eq_true,decide_eq_true_eq,Bool.false_eq_true] at hf<;>simp only [SV.isG,Bool.false_eq_true,false_iff,true_iff]<;>omega
  | succ j =>
   have:=VW aZ (i+1) (Ky hf) j b (by simpa using h)
   rw [show i+(j+1)=i+1+j by omega]
   exact this
theorem Zhs (g:Nat→SV):∀ (aZ:List SV) (i j:Nat),(Vv g aZ i)[j]? = (aZ[j]?).map fun a=>if a.isBx=true then g (i+j) else .dead
 | [], i, j => by simp [Vv]
 | a :: aZ, i, 0 => by cases a <;> rfl
 | a :: aZ, i, j + 1 => by
  have:=Zhs g aZ (i+1) j
  rw [show i+1+j=i+(j+1) by omega] at this
  cases a<;>simpa [Vv] using this
theorem Zfs (g:Nat→SV):∀ (aZ:List SV) (i:Nat),(Vv g aZ i).length=aZ.length
 | [], i => rfl
 | a :: aZ, i => by cases a <;> simp [Vv, Zfs g aZ]
def Zik (args:List SV) (rs:List ResultVar) (i k:Nat):Option (Nat×Nat):=
 if i < args.length then (if (args[i]?).map SV.isBx=some true then some (i,k) else none)
 else if i=args.length then
  match rs with
  | [r] => if k = 0 then some (J6 r, Zey r) else none
  | rs => match k with | 0 => none | k + 1 => (rs[k]?).map fun r => (J6 r, Zey r)
 else none
theorem ZgG:∀ (rs:List ResultVar),(rs.map J6).Nodup→∀ (i j:Nat) (a b:ResultVar),rs[i]? = some a→rs[j]? = some b→J6 a=J6 b→i=j
 | [], _, i, j, a, b, h, _, _ => by simp at h
 | r :: rs, hn, i, j, a, b, ha, hb, he => by
  rw [List.map_cons,List.nodup_cons] at hn
  cases i with
  | zero =>
   cases j with
   | zero => rfl
   | succ j =>
    simp only [List.getElem?_cons_zero,Option.some.injEq] at ha
    subst ha
    exact (hn.1 (List.mem_map.2 ⟨b,List.mem_of_getElem? (by simpa using hb),he.symm⟩)).elim
  | succ i =>
   cases j with
   | zero =>
    simp only [List.getElem?_cons_zero,Option.some.injEq] at hb
    subst hb
    exact (hn.1 (List.mem_map.2 ⟨a,List.mem_of_getElem? (by simpa using ha),he⟩)).elim
   | succ j => rw [ZgG rs hn.2 i j a b (by simpa using ha) (by simpa using hb) he]
theorem ZaF {args:List SV} {rs:List ResultVar} {k:Nat} {p:Nat×Nat} (h:Zik args rs args.length k=some p) :
  ∃ j r,rs[j]? = some r∧p=(J6 r,Zey r)∧((rs.length=1∧j=0∧k=0)∨(rs.length≠1∧k=j+1)):=by
 unfold Zik at h
 rw [if_neg (Nat.lt_irrefl _),if_pos rfl] at h
 split at h
 ·rename_i r
  split at h
  ·rename_i hk
   simp only [Option.some.injEq] at h
   exact ⟨0,r,rfl,h.symm,.inl ⟨rfl,rfl,hk⟩⟩
  ·cases h
 ·rename_i hne
  split at h
  ·cases h
  ·rename_i k
   cases hr:rs[k]? with
   | none => simp [hr] at h
   | some r =>
    simp only [hr,Option.map_some,Option.some.injEq] at h
    refine ⟨k,r,hr,h.symm,.inr ⟨fun h1=>?_,rfl⟩⟩
    obtain ⟨r',hr'⟩:=List.length_eq_one_iff.1 h1
    exact hne r' hr'
theorem Zl7 {args:List SV} {rs:List ResultVar} (hf:Zdk args rs=true) {i k i' k':Nat} {p:Nat×Nat} (h:Zik args rs i k=some p) (h':Zik args rs i' k'=some p):i=i'∧k=k':=by
 simp only [Zdk,Bool.and_eq_true] at hf
 obtain ⟨hn,hb⟩:=hf
 have hnd:=We _ hn
 have hform:∀ i k p,Zik args rs i k=some p→(i < args.length∧p=(i,k)∧∃ a,args[i]? = some a∧a.isBx=true)∨i=args.length:=by
  intro i k p h
  unfold Zik at h
  split at h
  ·rename_i hi
   split at h
   ·rename_i hbx
    simp only [Option.some.injEq] at h
    obtain ⟨a,ha,hax⟩:=Option.map_eq_some_iff.1 hbx
    exact .inl ⟨hi,h.symm,a,ha,hax⟩
   ·cases h
  ·split at h
   ·rename_i hi;exact .inr hi
   ·cases h
 have hno:∀ (j:Nat) (r:ResultVar),rs[j]? = some r→∀ a,args[J6 r]? = some a→a.isBx=true→False:=by
  intro j r hr a ha hax
  rw [List.all_eq_true] at hb
  have:=hb r (List.mem_of_getElem? hr)
  rw [ha] at this
  cases a<;>simp [SV.isBx] at hax<;>cases this
 rcases hform i k p h with ⟨h1,h2,a,h3,h4⟩ | h1<;>rcases hform i' k' p h' with ⟨h1',h2',a',h3',h4'⟩ | h1'
 ·rw [h2] at h2'
  simp only [Prod.mk.injEq] at h2'
  exact h2'
 ·subst h1'
  obtain ⟨j,r,g1,g2,_⟩:=ZaF h'
  rw [h2] at g2
  simp only [Prod.mk.injEq] at g2
  exact (hno j r g1 a (by rw [← g2.1];exact h3) h4).elim
 ·subst h1
  obtain ⟨j,r,g1,g2,_⟩:=ZaF h
  rw [h2'] at g2
  simp only [Prod.mk.injEq] at g2
  exact (hno j r g1 a' (by rw [← g2.1];exact h3') h4').elim
 ·subst h1
  subst h1'
  obtain ⟨j,r,g1,g2,g3⟩:=ZaF h
  obtain ⟨j',r',g1',g2',g3'⟩:=ZaF h'
  rw [g2] at g2'
  simp only [Prod.mk.injEq] at g2'
  have:=ZgG rs hnd j j' r r' g1 g1' g2'.1
  refine ⟨rfl,?_⟩
  omega
end
end Go.AM
end

section
namespace Go.AM
section
variable {P:Program} {E:Env}
theorem callOk_ofR {R : AV → List AV → Prop} (hm : P.follows .mixedOrders = true) (hps : EnvSound P E) {f : FuncId} {fn : Func} (hf : P.funcs[f]? = some fn) (hname : (fn.name == "runtime.NumGoroutine") = false) {args : List SV} {n : Nat} {ρ : Nat → V}
  (hargs:∀ a∈args,a.bd n) {res:AV} {outs:List AV} (hR:∀ r os,R r os→Vz P (os++[r]) (outs++[res])) (h:(ZrF P E fn args n).wp P R (fun _ _=>False) ρ):JI P f (args.map (SV.den ρ)) res outs:=by
 unfold ZrF at h
 split at h
 case h_2=>exact h.elim
 rename_i code hbody
 dsimp only at h
 split at h
 case isFalse=>exact h.elim
 rename_i hh
 obtain ⟨hnt,hnm,hal,hng,haf,hanm⟩:=hh
 have hat:=VW args 0 haf
 refine ⟨⟨fn,hf,hname,by rw [hbody];rfl⟩,?_⟩
 intro w lim X cargs hcl hrel hdist hsize
 rw [List.length_map] at hcl
 have hgl:∀ (aZ:List SV) (i:Nat),Jk E aZ i=true→i+aZ.length≤E.nt+((aZ.map (SV.den ρ)).countP AV.isG)∨aZ.length≤(aZ.map (SV.den ρ)).countP AV.isG:=by
  intro aZ
  induction aZ with
  | nil => intro i _; exact .inr (Nat.zero_le _)
  | cons a aZ ih =>
   intro i hf
   have h0:=VW (a::aZ) i hf 0 a rfl
   have hd:(a.den ρ).isG=a.isG:=by cases a<;>first | rfl | (rename_i x;cases x<;>rfl)
   rw [List.map_cons,List.countP_cons,hd,List.length_cons]
   by_cases hg:a.isG=true
   ·rw [if_pos hg]
    rcases ih (i+1) (Ky hf) with h1 | h1
    ·left;omega
    ·right;omega
   ·rw [if_neg hg]
    have h2:i < E.nt:=by
     rcases Nat.lt_or_ge i E.nt with h | h
     ·exact h
     ·exact (hg (h0.2.2 (by simpa using h))).elim
    rcases ih (i+1) (Ky hf) with h1 | h1
    ·left;omega
    ·left;omega
 have hcn:cargs.length≤E.nt:=by
  rcases hgl args 0 haf with h1 | h1<;>omega
 have hcd:∀ d,d < args.length→(∃ a,args[d]? = some a):=fun d hd=>⟨_,List.getElem?_eq_getElem hd⟩
 refine calls_of_wp hf hbody ?_
 let c:Ctx:=⟨P,w,lim,fun b=>∃ i k,X i k=some b,E.nt,fun d=>match args[d]? with | some (.box _)=>some (cargs.getD d undef) | _=>none,fun d=>match args[d]? with | some (.gbox _)=>X d 0 | _=>none⟩
 have hlow:VL E (KY args 0):=by
  unfold VL
  rw [List.all_eq_true]
  intro u hu
  have:=Zcy args 0 E.top (by omega) u hu
  simpa using this
 have hσ:Z1 E (JE (KY args 0) (.leaf .dead)) ρ=ZM (args.map (SV.den ρ)):=by
  rw [Yr hnt ρ _ _ hlow]
  funext d
  rw [Zcf,Nat.zero_add,Nat.sub_zero]
  split
  ·rfl
  ·rename_i hd
   have h1:Z1 E (.leaf .dead) ρ d = .dead:=by
    simp only [Z1,gE]
    split<;>rfl
   have h2:(args.map (SV.den ρ))[d]? = none:=List.getElem?_eq_none (by rw [List.length_map];omega)
   rw [h1]
   simp only [ZM,h2]
   rfl
 have htm:∀ d,(cargs.toArray++Array.replicate (fn.ntmps-cargs.toArray.size) undef).getD d undef=cargs.getD d undef:=by
  intro d
  rw [List.getD_eq_getElem?_getD,Array.getD_eq_getD_getElem?,Array.getElem?_append]
  simp only [List.size_toArray,List.getElem?_toArray]
  split
  ·rfl
  ·rename_i h1
   rw [List.getElem?_eq_none (by omega),Array.getElem?_replicate]
   split<;>rfl
 have hpin:∀ d v,c.pin d=some v→(∃ cs,args[d]? = some (.box cs))∧v=cargs.getD d undef:=by
  intro d v hv
  have hv':(match args[d]? with | some (.box _)=>some (cargs.getD d undef) | _=>none)=some v:=hv
  split at hv'
  ·rename_i cs hcs
   simp only [Option.some.injEq] at hv'
   exact ⟨⟨cs,hcs⟩,hv'.symm⟩
  ·cases hv'
 have hsim:Sim c (Z1 E (JE (KY args 0) (.leaf .dead)) ρ) (cargs.toArray++Array.replicate (fn.ntmps-cargs.toArray.size) undef) w lim X:=by
  rw [hσ]
  have hG:∀ d,(ZM (args.map (SV.den ρ)) d).isG=true↔∃ cs,args[d]? = some (.gbox cs):=by
   intro d
   cases ha:args[d]? with
   | none =>
    have h2:(args.map (SV.den ρ))[d]? = none:=by rw [List.getElem?_map,ha];rfl
    simp only [ZM,h2]
    exact ⟨fun h=>(by cases h),fun ⟨_,h⟩=>(by cases h)⟩
   | some a =>
    have h2:ZM (args.map (SV.den ρ)) d=a.den ρ:=by simp only [ZM,List.getElem?_map,ha];rfl
    rw [h2]
    cases a with
    | gbox cs => exact ⟨fun _ => ⟨cs, rfl⟩, fun _ => rfl⟩
    | c x => exact ⟨fun h => (by cases x <;> cases h), fun ⟨_, h⟩ => (by cases h)⟩
    | _ => exact ⟨fun h => (by cases h), fun ⟨_, h⟩ => (by cases h)⟩
  refine ⟨fun d=>by rw [htm d];exact hrel d,?_,fun d hd=>?_,fun d hd=>?_,hdist,fun d k b hb=>⟨hsize d k b hb,.inl ⟨d,k,hb⟩⟩,⟨rfl,rfl,rfl,Nat.le_refl _,fun _ _=>rfl,fun _ _ _=>⟨rfl,rfl⟩,Ext.refl w lim⟩,fun d v hv=>?_,fun d e xs hdo=>?_,fun d b hb=>?_⟩
  ·show _=E.nt
   simp
   omega
  ·cases ha:args[d]? with
   | none =>
    left
    have h2:(args.map (SV.den ρ))[d]? = none:=by rw [List.getElem?_map,ha];rfl
    simp only [ZM,h2]
    rfl
   | some a =>
    right
    have h3:=(hat d a ha).2.2 (by rw [Nat.zero_add];exact hd)
    refine (hG d).2 ?_
    cases a<;>simp [SV.isG] at h3
    exact ⟨_,ha⟩
  ·obtain ⟨cs,hcs⟩:=(hG d).1 hd
   have:=(hat d _ hcs).2.1 rfl
   rwa [Nat.zero_add] at this
  ·obtain ⟨⟨cs,hcs⟩,rfl⟩:=hpin d v hv
   refine ⟨htm d,cs.map (BC.den ρ),?_⟩
   simp only [ZM,List.getElem?_map,hcs]
   rfl
  ·cases ha:args[d]? with
   | none =>
    have h2:(args.map (SV.den ρ))[d]? = none:=by rw [List.getElem?_map,ha];rfl
    simp only [ZM,h2] at hdo
    cases hdo
   | some a =>
    have h2:ZM (args.map (SV.den ρ)) d=a.den ρ:=by simp only [ZM,List.getElem?_map,ha];rfl
    rw [h2] at hdo
    rw [List.all_eq_true] at hanm
    exact .noMap (Zhv ρ (hanm a (List.mem_of_getElem? ha)) e xs hdo)
  ·have hb':(match args[d]? with | some (.gbox _)=>X d 0 | _=>none)=some b:=hb
   split at hb'
   ·rename_i cs hcs
    exact ⟨hb',(hG d).2 ⟨cs,hcs⟩⟩
   ·cases hb'
 have hfin:∀ s' n' ρ' (A':Nat→List V→Prop),K3 E s' n'→((match Zkb (gE E s') args fn.results.toList with
   | some (_, cs) => .ret (.box cs) (Vv (gE E s') args 0)
   | none =>
   match Zl5 P (gE E s') fn.results.toList with
   | some r => if Zdk args fn.results.toList = true then STree.ret r (Vv (gE E s') args 0) else .stuck 124
   | none => .stuck 120) : STree).wp P R A' ρ' → ∀ tm' w' lim' X', Sim c (Z1 E s' ρ') tm' w' lim' X' → ∃ v, (results fn tm').run P w' = .ok v w' ∧
    ∃ v1 lim1 X1,Ending.returned v = .returned v1∧ZT w lim w' lim1 (fun b=>∃ i k,X i k=some b)∧outs.length=(args.map (SV.den ρ)).length∧
     (∀ i,ZK P w' lim1 X1 (ZM (outs++[res])) i (ZM (outs++[res]) i) (WX (args.map (SV.den ρ)).length cargs v1 i))∧Zj1 X1∧
     (∀ i k b,X1 i k=some b→b < w'.heap.size∧((∃ i k,X i k=some b)∨w.heap.size≤b))∧∀ i,(ZM (outs++[res]) i).isG=true→(ZM (args.map (SV.den ρ)) i).isG=true∧X1 i 0=X i 0:=by
  intro s' n' ρ' A' _ h' tm' w' lim' X' hsim'
  obtain ⟨r,SRC,hA,hB,hval,hG0,h'⟩:∃ (r:SV) (SRC:Nat→Nat→Option (Nat×Nat)),(∀ i,i < args.length→∀ k,SRC i k=if (args[i]?).map SV.isBx=some true then some (i,k) else none)∧
    (∀ i k i' k' p,SRC i k=some p→SRC i' k'=some p→i=i'∧k=k')∧
    (∃ v,(results fn tm').run P w' = .ok v w'∧ZK P w' lim' (fun i k=>(SRC i k).bind fun p=>X' p.1 p.2) (ZM ((Vv (gE E s') args 0).map (SV.den ρ')++[r.den ρ'])) args.length (r.den ρ') v)∧
    (r.den ρ').isG=false∧(STree.ret r (Vv (gE E s') args 0)).wp P R A' ρ':=by
   split at h'
   ·rename_i d0 cs hbr
    unfold Zkb at hbr
    split at hbr
    case h_2=>cases hbr
    rename_i t hrs
    split at hbr
    case h_2=>cases hbr
    rename_i d1 hgt
    split at hbr
    case h_2=>cases hbr
    rename_i cs1 hgd
    split at hbr
    case isFalse=>cases hbr
    rename_i hna
    simp only [Option.some.injEq,Prod.mk.injEq] at hbr
    obtain ⟨rfl,rfl⟩:=hbr
    have hnb:∀ a,args[d1]? = some a→a.isBx=true→False:=by
     intro a ha hax
     rw [ha] at hna
     cases a<;>simp [SV.isBx] at hax<;>cases hna
    refine ⟨.box cs1,fun i k=>if i < args.length then (if (args[i]?).map SV.isBx=some true then some (i,k) else none) else if i=args.length then some (d1,k) else none,fun i hi k=>if_pos hi,?_,?_,rfl,h'⟩
    ·intro i k i' k' p h1 h2
     dsimp only at h1 h2
     split at h1
     ·split at h1
      ·rename_i hi hb
       simp only [Option.some.injEq] at h1
       subst h1
       obtain ⟨a,ha,hax⟩:=Option.map_eq_some_iff.1 hb
       split at h2
       ·split at h2
        ·simp only [Option.some.injEq,Prod.mk.injEq] at h2;exact ⟨h2.1.symm,h2.2.symm⟩
        ·cases h2
       ·split at h2
        ·simp only [Option.some.injEq,Prod.mk.injEq] at h2
         exact (hnb a (by rw [h2.1];exact ha) hax).elim
        ·cases h2
      ·cases h1
     ·split at h1
      ·rename_i hi
       simp only [Option.some.injEq] at h1
       subst h1
       split at h2
       ·split at h2
        ·rename_i hi' hb
         simp only [Option.some.injEq,Prod.mk.injEq] at h2
         obtain ⟨a,ha,hax⟩:=Option.map_eq_some_iff.1 hb
         exact (hnb a (by rw [← h2.1];exact ha) hax).elim
        ·cases h2
       ·split at h2
        ·rename_i hi'
         simp only [Option.some.injEq,Prod.mk.injEq] at h2
         exact ⟨by rw [hi,hi'],h2.2.symm⟩
        ·cases h2
      ·cases h1
    ·have ht:=hsim'.rel t
     have hd:=hsim'.rel d1
     have e1:Z1 E s' ρ' t = .ptr d1 0:=by simp only [Z1,hgt];rfl
     have e2:Z1 E s' ρ' d1 = .box (cs1.map (BC.den ρ')):=by simp only [Z1,hgd];rfl
     rw [e1] at ht
     rw [e2] at hd
     obtain ⟨b,cs',hb,_,hv⟩:=ht
     have hp:ZG P w' lim' (X' d1) (cs1.map (BC.den ρ')) (tm'.getD d1 undef):=hd
     obtain ⟨b',hb',hv'⟩:=YP hp
     rw [hb] at hb'
     simp only [Option.some.injEq] at hb'
     subst hb'
     refine ⟨tm'.getD t undef,?_,?_⟩
     ·exact VS (vs:=[tm'.getD t undef]) (by rw [hrs];rfl) fun i r' v' hr' hv2=>by
       rw [hrs] at hr'
       cases i with
       | zero =>
        simp only [List.getElem?_cons_zero,Option.some.injEq] at hr' hv2
        subst hr'
        subst hv2
        rfl
       | succ i => simp at hr'
     ·show ZG P w' lim' (fun k=>((if args.length < args.length then (if (args[args.length]?).map SV.isBx=some true then some (args.length,k) else none) else if args.length=args.length then some (d1,k) else none:Option (Nat×Nat)).bind fun p=>X' p.1 p.2)) (cs1.map (BC.den ρ')) (tm'.getD t undef)
      have e3:(fun k=>((if args.length < args.length then (if (args[args.length]?).map SV.isBx=some true then some (args.length,k) else none) else if args.length=args.length then some (d1,k) else none:Option (Nat×Nat)).bind fun p=>X' p.1 p.2))=X' d1:=by
       funext k
       rw [if_neg (Nat.lt_irrefl _),if_pos rfl];rfl
      rw [e3,hv,← hv']
      exact hp
   ·split at h'
    case h_2=>exact h'.elim
    rename_i r hr
    split at h'
    case isFalse=>exact h'.elim
    rename_i hfine
    refine ⟨r,Zik args fn.results.toList,fun i hi k=>?_,fun i k i' k' p h1 h2=>Zl7 hfine h1 h2,?_,?_,h'⟩
    ·unfold Zik;rw [if_pos hi]
    ·generalize (Vv (gE E s') args 0).map (SV.den ρ')=outs0
     have hrow:∀ k,Zik args fn.results.toList args.length k=match fn.results.toList with
       | [r] => if k = 0 then some (J6 r, Zey r) else none
       | rs => match k with | 0 => none | k + 1 => (rs[k]?).map fun r => (J6 r, Zey r) := by
      intro k
      unfold Zik
      rw [if_neg (Nat.lt_irrefl _),if_pos rfl]
      all_goals rfl
     unfold Zl5 at hr
     split at hr
     ·rename_i r0 hrs
      cases hx:ZcS P (gE E s') r0 with
      | none => simp [hx] at hr
      | some x =>
       simp only [hx,Option.map_some,Option.some.injEq] at hr
       subst hr
       rw [Zc4]
       obtain ⟨v,h1,h2⟩:=Zef (c:=c) rfl hsim' hx
       refine ⟨v,?_,ZfE ?_⟩
       ·exact VS (vs:=[v]) (by rw [hrs];rfl) fun i r' v' hr' hv'=>by
         rw [hrs] at hr'
         cases i with
         | zero =>
          simp only [List.getElem?_cons_zero,Option.some.injEq] at hr' hv'
          subst hr'
          subst hv'
          exact h1
         | succ i => simp at hr'
       ·show JX P w' lim' ((Zik args fn.results.toList args.length 0).bind fun p=>X' p.1 p.2) _ v
        rw [hrow,hrs]
        exact h2
     ·rename_i hne
      cases hx:ZcB P (gE E s') fn.results.toList with
      | none => simp [hx] at hr
      | some xs =>
       simp only [hx,Option.map_some,Option.some.injEq] at hr
       subst hr
       obtain ⟨vs,g1,g2,g3⟩:=Zeg (c:=c) rfl hsim' _ _ hx
       have hne1:∀ v,vs≠[v]:=by
        intro v hv
        rw [hv] at g1
        obtain ⟨r',hr'⟩:=List.length_eq_one_iff.1 g1
        exact hne r' hr'
       refine ⟨.tuple vs.toArray,?_,?_⟩
       ·have:=VS g1 fun i r' v' hr' hv'=>(g3 i r' v' hr' hv').1
        rw [this]
        rcases vs with _ | ⟨v,_ | ⟨u,l⟩⟩
        ·rfl
        ·exact (hne1 v rfl).elim
        ·rfl
       ·refine ⟨vs,rfl,by simp [g2],fun i y u hy hu=>?_⟩
        rw [List.getElem?_map] at hy
        cases hxi:xs[i]? with
        | none => simp [hxi] at hy
        | some x =>
         simp only [hxi,Option.map_some,Option.some.injEq] at hy
         subst hy
         obtain ⟨r',hr'⟩:∃ r',fn.results.toList[i]? = some r':=⟨_,List.getElem?_eq_getElem (by rw [g1];exact (List.getElem?_eq_some_iff.1 hu).1)⟩
         have h3:=(g3 i r' u hr' hu).2 x hxi
         have hsrc:Zik args fn.results.toList args.length (i+1)=some (J6 r',Zey r'):=by
          rw [hrow]
          split
          ·rename_i r1 hr1;exact (hne r1 hr1).elim
          ·simp [hr']
         show JX P w' lim' ((Zik args fn.results.toList args.length (i+1)).bind fun p=>X' p.1 p.2) _ u
         rw [hsrc]
         exact h3
    ·unfold Zl5 at hr
     split at hr
     ·obtain ⟨x,_,rfl⟩:=Option.map_eq_some_iff.1 hr
      rw [Zc4]
      cases x with
      | c y => cases y <;> rfl
      | _ => rfl
     ·obtain ⟨x,_,rfl⟩:=Option.map_eq_some_iff.1 hr
      rfl
  obtain ⟨res0,hres⟩:∃ y,SV.den ρ' r=y:=⟨_,rfl⟩
  obtain ⟨outs0,houts⟩:∃ y,(Vv (gE E s') args 0).map (SV.den ρ')=y:=⟨_,rfl⟩
  have hww:=hR _ _ h'
  rw [hres,houts] at hww
  suffices hz:∃ v,(results fn tm').run P w' = .ok v w'∧
    ∃ v1 lim1 X1,Ending.returned v = .returned v1∧ZT w lim w' lim1 (fun b=>∃ i k,X i k=some b)∧outs0.length=(args.map (SV.den ρ)).length∧
     (∀ i,ZK P w' lim1 X1 (ZM (outs0++[res0])) i (ZM (outs0++[res0]) i) (WX (args.map (SV.den ρ)).length cargs v1 i))∧Zj1 X1∧
     (∀ i k b,X1 i k=some b→b < w'.heap.size∧((∃ i k,X i k=some b)∨w.heap.size≤b))∧∀ i,(ZM (outs0++[res0]) i).isG=true→(ZM (args.map (SV.den ρ)) i).isG=true∧X1 i 0=X i 0 by
   obtain ⟨v,hrun,v1,lim1,X1,he,hst,hol,hr,hd,hin,hgh⟩:=hz
   obtain ⟨X3,k1,k3,k2⟩:=ZcT hr hww
   have hX3:∀ i k b,X3 i k=some b→X1 i k=some b:=by
    intro i k b hb
    rcases k1 i k with e | e
    ·rw [← e];exact hb
    ·rw [e] at hb;cases hb
   have hll:outs0.length=outs.length:=by have:=hww.1;simpa using this
   refine ⟨v,hrun,v1,lim1,X3,he,hst,by rw [← hll,hol],k2,Zfu hd k1,fun i k b hb=>hin i k b (hX3 i k b hb),fun i hi=>?_⟩
   obtain ⟨m1,m2⟩:=hgh i (Zd2 hww hi)
   exact ⟨m1,by rw [k3 i (WM hi),m2]⟩
  rw [hres,houts] at hval
  obtain ⟨v,hv1,hv2⟩:=hval
  have hol:outs0.length=args.length:=by rw [← houts,List.length_map,Zfs]
  have hrt:∀ i,WX (args.map (SV.den ρ)).length cargs v i=if i=args.length then v else cargs.getD i undef:=by
   intro i
   unfold WX
   rw [List.length_map]
  have hout:∀ i,i < args.length→ZM (outs0++[res0]) i=match args[i]? with | some a=>if a.isBx=true then Z1 E s' ρ' i else .dead | none=>.dead:=by
   intro i hi
   simp only [ZM]
   rw [List.getElem?_append_left (by omega),← houts,List.getElem?_map,Zhs,Nat.zero_add]
   have:=List.getElem?_eq_getElem hi
   rw [this]
   simp only [Option.map_some,Option.getD_some]
   split<;>rfl
  have hgpn:∀ i cs,args[i]? = some (.gbox cs)→X' i 0=X i 0∧(Z1 E s' ρ' i).isG=true:=by
   intro i cs hcs
   have hri:=hrel i
   have h2:ZM (args.map (SV.den ρ)) i = .gbox (cs.map (BC.den ρ)):=by simp only [ZM,List.getElem?_map,hcs];rfl
   rw [h2] at hri
   obtain ⟨v',hp⟩:=hri
   obtain ⟨b,hb,_⟩:=YP hp
   obtain ⟨g1,g2⟩:=hsim'.gpin i b (by show (match args[i]? with | some (.gbox _)=>X i 0 | _=>none)=_;rw [hcs];exact hb)
   exact ⟨by rw [g1,hb],g2⟩
  refine ⟨v,hv1,v,lim',fun i k=>(SRC i k).bind fun p=>X' p.1 p.2,rfl,⟨hsim'.frm.os,hsim'.frm.tape,hsim'.frm.output,hsim'.frm.size,hsim'.frm.frz,hsim'.frm.blk,hsim'.frm.ext⟩,by rw [hol,List.length_map],fun i=>?_,fun d k d' k' b hb hb'=>?_,fun i k b hb=>?_,fun i hi=>?_⟩
  ·rw [hrt]
   rcases Nat.lt_trichotomy i args.length with hi | hi | hi
   ·rw [if_neg (by omega),hout i hi]
    obtain ⟨a,ha⟩:=hcd i hi
    rw [ha]
    dsimp only
    have hrow:a.isBx=true→(fun k=>(SRC i k).bind fun p=>X' p.1 p.2)=X' i:=by
     intro hbx
     funext k
     rw [hA i hi k,ha,if_pos (by simp [hbx])]
     rfl
    cases a with
    | box cs =>
     rw [if_pos (show (SV.box cs).isBx=true from rfl)]
     obtain ⟨p1,cs',p2⟩:=hsim'.pin i (cargs.getD i undef) (by show (match args[i]? with | some (.box _)=>some (cargs.getD i undef) | _=>none)=_;rw [ha])
     have hrl:=hsim'.rel i
     rw [p2,p1] at hrl
     rw [p2]
     show ZG P w' lim' (fun k=>(SRC i k).bind fun p=>X' p.1 p.2) cs' _
     rw [hrow rfl]
     exact hrl
    | gbox cs =>
     rw [if_pos (show (SV.gbox cs).isBx=true from rfl)]
     obtain ⟨_,g2⟩:=hgpn i cs ha
     have hrl:=hsim'.rel i
     generalize Z1 E s' ρ' i=x at g2 hrl
     cases x<;>simp [AV.isG] at g2
     obtain ⟨v',hrl⟩:=hrl
     refine ⟨v',?_⟩
     show ZG P w' lim' (fun k=>(SRC i k).bind fun p=>X' p.1 p.2) _ v'
     rw [hrow rfl]
     exact hrl
    | _ => exact trivial
   ·subst hi
    have hout:ZM (outs0++[res0]) args.length=res0:=by
     simp only [ZM]
     rw [List.getElem?_append_right (by omega),hol]
     simp
    rw [if_pos rfl,hout]
    exact hv2
   ·have hout:ZM (outs0++[res0]) i = .dead:=by
     simp only [ZM]
     rw [List.getElem?_eq_none (by simp;omega)]
     rfl
    rw [hout]
    trivial
  ·cases hp:SRC d k with
   | none => simp [hp] at hb
   | some p =>
    cases hp':SRC d' k' with
    | none => simp [hp'] at hb'
    | some p' =>
     simp only [hp,hp',Option.bind_some] at hb hb'
     obtain ⟨e1,e2⟩:=hsim'.dist _ _ _ _ b hb hb'
     have:p=p':=Prod.ext e1 e2
     subst this
     exact hB _ _ _ _ _ hp hp'
  ·cases hp:SRC i k with
   | none => simp [hp] at hb
   | some p =>
    simp only [hp,Option.bind_some] at hb
    exact hsim'.ours _ _ b hb
  ·rcases Nat.lt_trichotomy i args.length with hl | hl | hl
   ·rw [hout i hl] at hi
    obtain ⟨a,ha⟩:=hcd i hl
    rw [ha] at hi
    dsimp only at hi
    cases a with
    | gbox cs =>
     obtain ⟨g1,g2⟩:=hgpn i cs ha
     refine ⟨by simp only [ZM,List.getElem?_map,ha];rfl,?_⟩
     show (SRC i 0).bind (fun p=>X' p.1 p.2)=X i 0
     rw [hA i hl 0,ha,if_pos (show (some (SV.gbox cs)).map SV.isBx=some true from rfl)]
     exact g1
    | box cs =>
     obtain ⟨p1,cs',p2⟩:=hsim'.pin i (cargs.getD i undef) (by show (match args[i]? with | some (.box _)=>some (cargs.getD i undef) | _=>none)=_;rw [ha])
     rw [if_pos (show (SV.box cs).isBx=true from rfl),p2] at hi
     cases hi
    | _ => cases hi
   ·subst hl
    have hres0:ZM (outs0++[res0]) args.length=res0:=by
     simp only [ZM]
     rw [List.getElem?_append_right (by omega),hol]
     simp
    rw [hres0,← hres,hG0] at hi
    cases hi
   ·have:ZM (outs0++[res0]) i = .dead:=by
     simp only [ZM]
     rw [List.getElem?_eq_none (by simp;omega)]
     rfl
    rw [this] at hi
    cases hi
 refine ZlZ hm hps hnt (c:=c) rfl rfl (fun d v hv=>?_) (fun d b hb=>?_) code 0 n _ _ _ _ _ ρ _ w lim X _ ?_ h hsim ?_ ?_ ?_
 ·obtain ⟨⟨cs,hcs⟩,_⟩:=hpin d v hv
  have:=(hat d _ hcs).1 cs rfl
  rwa [Nat.zero_add] at this
 ·have hb':(match args[d]? with | some (.gbox _)=>X d 0 | _=>none)=some b:=hb
  split at hb'
  ·rename_i cs hcs
   have h1:=(hat d _ hcs).2.1 rfl
   have h2:=(List.getElem?_eq_some_iff.1 hcs).1
   exact ⟨by omega,by omega⟩
  ·cases hb'
 ·refine JP hnt _ _ hlow (fun d=>?_) (ZeJ args 0 hargs)
  unfold gE
  split<;>trivial
 ·intro s' n' ρ' A' _ hs' h' tm' w' lim' X' hsim'
  obtain ⟨g1,lim2,X2,g2⟩:=ZdE (P:=P) (E:=E) hnt rfl (id:=1000000) (ops:=#[]) hs' hsim'
  obtain ⟨v,h1,h2⟩:=hfin _ n' ρ' A' g1 h' tm' w' lim2 X2 g2
  exact ⟨rfl,v,h1,h2⟩
 ·intro id s' n' ρ' A' _ hs' h'
  exact h'.elim
 ·intro s' n' ρ' A' _ hs' h' tm' w' lim' X' hsim'
  obtain ⟨g1,lim2,X2,g2⟩:=ZdE (P:=P) (E:=E) hnt rfl (id:=1000000) (ops:=#[]) hs' hsim'
  obtain ⟨v,h1,h2⟩:=hfin _ n' ρ' A' g1 h' tm' w' lim2 X2 g2
  exact ⟨rfl,v,h1,h2⟩
end
end Go.AM
end

section
namespace Go.AM
def ZlB (P:Program) (rec:TypeId→Bool) (e:Nat):List Field→Nat→Bool
 | [], _ => true
 | f :: fs, off => (f.name != "_") && (f.offset == off) &&
  (match P.underlying f.type with
   | some (.int _) => true
   | some .bool => true
   | some (.struct _) => rec f.type && (P.info? f.type).isSome
   | _ => false) &&
  (match Y0 P e f.type with | some l=>(P.cellsOf f.type == l.length)&&ZlB P rec e fs (off+l.length) | none=>false)
def Zia (P:Program):Nat→TypeId→Bool
 | 0, _ => false
 | e + 1, T =>
  match P.underlying T with
  | some (.struct fs) => ZlB P (Zia P e) e fs.toList 0 && !P.stoodInHeld T
  | _ => false
def Zqo (P:Program) (T:TypeId):Bool:=Zia P 8 T&&!P.eqGuardType P.depth T
theorem Vk:∀ (L1 L2:List Sh) (us:List Value),YA (L1++L2) us→YA L1 (us.take L1.length)∧YA L2 (us.drop L1.length)∧(us.take L1.length).length=L1.length
 | [], L2, us, h => ⟨by simp [YA], by simpa using h, by simp⟩
 | s :: L1, L2, [], h => by cases s <;> exact h.elim
 | s :: L1, L2, u :: us, h => by
  cases s<;>cases u<;>try exact h.elim
  ·obtain ⟨h1,h2,h3⟩:=Vk L1 L2 us h.2
   exact ⟨⟨h.1,h1⟩,h2,by simpa using h3⟩
  ·obtain ⟨h1,h2,h3⟩:=Vk L1 L2 us h
   exact ⟨h1,h2,by simpa using h3⟩
theorem Zgq:∀ (L:List Sh) (a c b d:List Value),YA L a→YA L c→eqV (a++b) (c++d)=(eqV a c&&eqV b d)
 | [], [], [], b, d, _, _ => by simp [eqV]
 | [], _ :: _, _, _, _, h, _ => h.elim
 | [], [], _ :: _, _, _, _, h => h.elim
 | s :: L, [], _, _, _, h, _ => by cases s <;> exact h.elim
 | s :: L, _ :: _, [], _, _, _, h => by cases s <;> exact h.elim
 | s :: L, x :: a, y :: c, b, d, h, h' => by
  cases s<;>cases x<;>(try exact h.elim)<;>cases y<;>try exact h'.elim
  ·simp only [List.cons_append,eqV,Zgq L a c b d h.2 h'.2,Bool.and_assoc]
  ·simp only [List.cons_append,eqV,Zgq L a c b d h h',Bool.and_assoc]
section
variable {P:Program}
def ZmI (P:Program) (e k:Nat) (T:TypeId):Prop:=∀ (L:List Sh) (us vs:List Value) (w:World),Y0 P e T=some L→YA L us→YA L vs→
 (Op.equalIn (k+e) T (.agg us.toArray) (.agg vs.toArray)).run P w = .ok (eqV us vs) w
theorem Zbu (e k:Nat) (rec:TypeId→Bool) (hrec:∀ T,rec T=true→ZmI P e k T) (w:World) (us vs:List Value):∀ (fs:List Field) (n:Nat) (L:List Sh),ZlB P rec e fs n=true→
  fs.foldr (fun f acc=>match Y0 P e f.type,acc with | some a,some b=>some (a++b) | _,_=>none) (some [])=some L→YA L (us.drop n)→YA L (vs.drop n)→
  (Op.eqFields (k+e) us.toArray vs.toArray fs).run P w = .ok (eqV (us.drop n) (vs.drop n)) w
 | [], n, L, _, hL, hu, hv => by
  simp only [List.foldr_nil,Option.some.injEq] at hL
  subst hL
  cases h:us.drop n with
  | nil => simp [Op.eqFields, eqV]
  | cons x l => rw [h] at hu; exact hu.elim
 | f :: fs, n, L, hf, hL, hu, hv => by
  simp only [ZlB,Bool.and_eq_true,bne_iff_ne,ne_eq,beq_iff_eq] at hf
  obtain ⟨⟨⟨hname,hoff⟩,hty⟩,hrest⟩:=hf
  simp only [List.foldr_cons] at hL
  split at hL
  case h_2=>cases hL
  rename_i a L' ha hL'
  simp only [Option.some.injEq] at hL
  subst hL
  rw [ha] at hrest
  simp only [Bool.and_eq_true,beq_iff_eq] at hrest
  obtain ⟨hcells,hrest⟩:=hrest
  obtain ⟨u1,u2,u3⟩:=Vk a L' _ hu
  obtain ⟨v1,v2,v3⟩:=Vk a L' _ hv
  rw [List.drop_drop] at u2 v2
  have ih:=Zbu e k rec hrec w us vs fs (n+a.length) L' hrest hL' u2 v2
  have hus:us.drop n=(us.drop n).take a.length++us.drop (n+a.length):=by
   rw [← List.drop_drop,List.take_append_drop]
  have hvs:vs.drop n=(vs.drop n).take a.length++vs.drop (n+a.length):=by
   rw [← List.drop_drop,List.take_append_drop]
  have hev:eqV (us.drop n) (vs.drop n)=(eqV ((us.drop n).take a.length) ((vs.drop n).take a.length)&&eqV (us.drop (n+a.length)) (vs.drop (n+a.length))):=by
   rw [hus,hvs]
   have:=Zgq a ((us.drop n).take a.length) ((vs.drop n).take a.length) (us.drop (n+a.length)) (vs.drop (n+a.length)) u1 v1
   rw [← hus,← hvs] at this ⊢
   exact this
  rw [hev]
  -- the field's value
  suffices hx:∃ x y,(part f.type us.toArray f.offset).run P w = .ok x w∧(part f.type vs.toArray f.offset).run P w = .ok y w∧(Op.equalIn (k+e) f.type x y).run P w = .ok (eqV ((us.drop n).take a.length) ((vs.drop n).take a.length)) w by
   obtain ⟨x,y,p1,p2,p3⟩:=hx
   simp only [Op.eqFields,hname,ne_eq,not_false_eq_true,if_true,Sem.run_bind,p1,p2,p3,Result.andThen_ok,Sem.run_ite]
   cases h:eqV ((us.drop n).take a.length) ((vs.drop n).take a.length)
   ·simp
   ·simpa using ih
  have he:∃ e',e=e'+1:=by
   cases e with
   | zero => simp [Y0] at ha
   | succ e' => exact ⟨e', rfl⟩
  obtain ⟨e',rfl⟩:=he
  have one:∀ (l:List Value),((l.drop n).take 1).length=1→∃ x,(l.drop n).take 1 = [x]∧l[n]? = some x:=by
   intro l hl
   cases h:l.drop n with
   | nil => rw [h] at hl; simp at hl
   | cons x r =>
    refine ⟨x,rfl,?_⟩
    have:=congrArg (fun l=>l[0]?) h
    simpa using this
  split at hty
  ·rename_i kk hk
   have ha':a = [.int kk]:=by
    simp only [Y0,hk,Option.some.injEq] at ha
    exact ha.symm
   subst ha'
   obtain ⟨x,x1,x2⟩:=one us u3
   obtain ⟨y,y1,y2⟩:=one vs v3
   simp only [List.length_cons,List.length_nil,Nat.zero_add] at u1 v1 ⊢
   rw [x1] at u1 ⊢
   rw [y1] at v1 ⊢
   cases x<;>try exact u1.elim
   cases y<;>try exact v1.elim
   obtain ⟨rfl,_⟩:=u1
   obtain ⟨rfl,_⟩:=v1
   have p1:∀ (l:List Value) (x:Value),l[n]? = some x→(part f.type l.toArray f.offset).run P w = .ok x w:=by
    intro l x h
    rw [hoff]
    have:l.toArray[n]? = some x:=by simpa using h
    simp [part,isAgg,run_underlying hk,this]
   refine ⟨_,_,p1 us _ x2,p1 vs _ y2,?_⟩
   rw [show k+(e'+1)=(k+e')+1 from rfl,run_equalIn_int w (k+e') f.type _ _ _ _ hk]
   simp [eqV]
  ·rename_i hk
   have ha':a = [.bool]:=by
    simp only [Y0,hk,Option.some.injEq] at ha
    exact ha.symm
   subst ha'
   obtain ⟨x,x1,x2⟩:=one us u3
   obtain ⟨y,y1,y2⟩:=one vs v3
   simp only [List.length_cons,List.length_nil,Nat.zero_add] at u1 v1 ⊢
   rw [x1] at u1 ⊢
   rw [y1] at v1 ⊢
   cases x<;>try exact u1.elim
   cases y<;>try exact v1.elim
   have p1:∀ (l:List Value) (x:Value),l[n]? = some x→(part f.type l.toArray f.offset).run P w = .ok x w:=by
    intro l x h
    rw [hoff]
    have:l.toArray[n]? = some x:=by simpa using h
    simp [part,isAgg,run_underlying hk,this]
   refine ⟨_,_,p1 us _ x2,p1 vs _ y2,?_⟩
   rw [show k+(e'+1)=(k+e')+1 from rfl,run_equalIn_bool' w (k+e') f.type _ _ hk]
   simp [eqV]
  ·rename_i gs hk
   rw [Bool.and_eq_true] at hty
   obtain ⟨inf,hinf⟩:=Option.isSome_iff_exists.1 hty.2
   have hsz:P.cellsOf f.type=inf.size:=Zx hinf
   have p1:∀ (l:List Value),(part f.type l.toArray f.offset).run P w = .ok (.agg ((l.drop n).take a.length).toArray) w:=by
    intro l
    rw [hoff]
    have hag:(isAgg f.type).run P w = .ok true w:=by simp [isAgg,run_underlying hk]
    have:l.toArray.extract n (n+inf.size)=((l.drop n).take a.length).toArray:=by
     apply Array.toList_inj.1
     rw [Array.toList_extract]
     simp [List.extract_eq_take_drop,← hcells,hsz]
    rw [← hsz,hcells] at this
    simp [part,hag,Zn hinf,← hsz,hcells]
   exact ⟨_,_,p1 us,p1 vs,hrec f.type hty.1 a _ _ w ha u1 v1⟩
  ·cases hty
theorem Zi9:∀ (e k:Nat) (T:TypeId),Zia P e T=true→ZmI P e k T
 | 0, _, _, h => by simp [Zia] at h
 | e + 1, k, T, h => by
  intro L us vs w hL hu hv
  unfold Zia at h
  split at h
  ·rename_i fs hfs
   simp only [Bool.and_eq_true,Bool.not_eq_true'] at h
   have hfo:P.fieldsOf T=fs:=by simp only [Program.fieldsOf,hfs]
   rw [show k+(e+1)=(k+e)+1 from rfl,run_equalIn_struct w (k+e) T _ _ (by rw [hfo];exact hfs) h.2,hfo]
   have:=Zbu e k (Zia P e) (fun T' h'=>Zi9 e k T' h') w us vs fs.toList 0 L h.1 (by
    rw [Y0] at hL
    simp only [hfs] at hL
    exact hL) (by simpa using hu) (by simpa using hv)
   simpa using this
  ·cases h
theorem Zlz {plain:List TypeId} (h:plain.all (Zqo P)=true):Vf P plain:=by
 intro T hT
 rw [List.all_eq_true] at h
 have hf:=h T hT
 unfold Zqo at hf
 simp only [Bool.and_eq_true,Bool.not_eq_true'] at hf
 exact ⟨hf.2,fun L hL us vs hu hv w=>Zi9 8 9992 T hf.1 L us vs w hL hu hv⟩
end
end Go.AM
end

section
namespace Go.AM
def Zqj (l:List V):Nat→V:=fun n=>(l[n]?).getD (.i 0)
abbrev I (z:Int):AV:=.val (.int .i64 z)
abbrev B (b:Bool):AV:=.val (.bool b)
theorem W6 {z:Int} (h1 : -(2^63:Int)≤z) (h2:z < 2^63):IntKind.i64.wrap z=z:=by
 have e:(2:Int)^63=9223372036854775808:=by decide
 rw [e] at h1 h2
 simp only [IntKind.wrap]
 have:IntKind.i64.signed=true:=rfl
 simp [this,IntKind.bits]
 omega
theorem Kx {z:Int} (h1:0≤z) (h2:z < 2^64):IntKind.u64.wrap z=z:=by
 have e:(2:Int)^64=18446744073709551616:=by decide
 rw [e] at h2
 simp only [IntKind.wrap]
 have:IntKind.u64.signed=false:=rfl
 simp [this,IntKind.bits]
 omega
theorem Kg {a b:Int} (h1 : -(2^63:Int)≤a+b) (h2:a+b < 2^63):iop .add .i64 a b=a+b:=W6 h1 h2
theorem ZlX {a b:Int} (h1 : -(2^63:Int)≤a-b) (h2:a-b < 2^63):iop .sub .i64 a b=a-b:=W6 h1 h2
theorem ZqX {a b:Int} (h1 : -(2^63:Int)≤a*b) (h2:a*b < 2^63):iop .mul .i64 a b=a*b:=W6 h1 h2
theorem ZoG {b:Int} (h2:b≤62):iop .shl .i64 1 b=2^b.toNat:=by
 have hb:b.toNat≤62:=by omega
 have hle:(2:Int)^b.toNat≤2^62:=by
  have:=Nat.pow_le_pow_right (n:=2) (by omega) hb
  exact_mod_cast this
 have hpos:(0:Int) < 2^b.toNat:=by
  have:=Nat.pow_pos (n:=b.toNat) (show 0 < 2 by omega)
  exact_mod_cast this
 have e62:(2:Int)^62=4611686018427387904:=by decide
 have e63:(2:Int)^63=9223372036854775808:=by decide
 have hmin:min b.toNat IntKind.i64.bits=b.toNat:=by
  have:IntKind.i64.bits=64:=rfl
  omega
 simp only [iop,hmin,Int.one_mul]
 rw [W6 (by omega) (by omega)]
theorem J0 (n:Nat):(0:Int) < 2^n:=by
 have:=Nat.pow_pos (n:=n) (show 0 < 2 by omega)
 exact_mod_cast this
theorem Zim {m n:Nat} (h:m≤n):(2:Int)^m≤2^n:=by
 have:=Nat.pow_le_pow_right (n:=2) (by omega) h
 exact_mod_cast this
theorem JC (a b:Int):(cop .lss a b=true)=(a < b):=by simp [cop]
theorem JB (a b:Int):(cop .lss a b=false)=(b≤a):=by simp [cop]
theorem Jw (a b:Int):(cop .leq a b=true)=(a≤b):=by simp [cop]
theorem Jx (a b:Int):(cop .leq a b=false)=(b < a):=by simp [cop]
theorem Ju (a b:Int):(cop .gtr a b=true)=(b < a):=by simp [cop]
theorem Jz (a b:Int):(cop .gtr a b=false)=(a≤b):=by simp [cop]
theorem Jr (a b:Int):(cop .geq a b=true)=(b≤a):=by simp [cop]
theorem Js (a b:Int):(cop .geq a b=false)=(a < b):=by simp [cop]
theorem Jy (a b:Int):(cop .eql a b=true)=(a=b):=by simp [cop]
theorem Jq (a b:Int):(cop .eql a b=false)=(a≠b):=by simp [cop]
theorem Jv (a b:Int):(cop .neq a b=true)=(a≠b):=by simp [cop]
theorem Jt (a b:Int):(cop .neq a b=false)=(a=b):=by simp [cop]
theorem Jf (x y:Bool):(x=y)=(x=true↔y=true):=by cases x<;>cases y<;>simp
end Go.AM
end
