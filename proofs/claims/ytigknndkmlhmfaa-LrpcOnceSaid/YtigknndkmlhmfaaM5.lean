/- AmEvo, AmWeak, AmPat, AmCtl, AmFin, AmPlain, AmUse, AmRow, AmLift: texts of the proof, put together. -/
import Derived.Test.YtigknndkmlhmfaaM4
import Derived.LoopN
import Derived.Scope
import Derived.Laws.Cover3
import Derived.Laws.StructEq
import Derived.ChangeArms
import Derived.ChangeStays
import Derived.ChangeBook
import Derived.ChangeSame
import Derived.RowKit
import Derived.ChangeOld
import GoSem.ClaimJoined
import GoSem.ClaimOpenFrom
import Derived.KernelRfl

section
namespace Go.AM
theorem Tr.get_set:∀ (k:Nat) (t:Tr) (d i:Nat) (x:SV),d < 2^k→i < 2^k→(Tr.set k t d x).get i=if i=d then x else t.get i
 | 0, t, d, i, x, hd, hi => by
  have h1:d=0:=by simpa using hd
  have h2:i=0:=by simpa using hi
  subst h1
  subst h2
  rfl
 | k + 1, .node l r, d, i, x, hd, hi => by
  have hd2:d / 2 < 2^k:=by rw [Nat.pow_succ] at hd;omega
  have hi2:i / 2 < 2^k:=by rw [Nat.pow_succ] at hi;omega
  have ihl:=Tr.get_set k l (d / 2) (i / 2) x hd2 hi2
  have ihr:=Tr.get_set k r (d / 2) (i / 2) x hd2 hi2
  rcases Nat.mod_two_eq_zero_or_one d with h | h<;>rcases Nat.mod_two_eq_zero_or_one i with h' | h'
  ·simp only [Tr.set,h,Tr.get,h',ihl]
   by_cases he:i=d
   ·simp [he]
   ·rw [if_neg he,if_neg (by omega)]
  ·simp only [Tr.set,h,Tr.get,h']
   rw [if_neg (by omega)]
  ·simp only [Tr.set,h,Tr.get,h']
   rw [if_neg (by omega)]
  ·simp only [Tr.set,h,Tr.get,h',ihr]
   by_cases he:i=d
   ·simp [he]
   ·rw [if_neg he,if_neg (by omega)]
 | k + 1, .leaf y, d, i, x, hd, hi => by
  have hd2:d / 2 < 2^k:=by rw [Nat.pow_succ] at hd;omega
  have hi2:i / 2 < 2^k:=by rw [Nat.pow_succ] at hi;omega
  have ih:=Tr.get_set k (.leaf y) (d / 2) (i / 2) x hd2 hi2
  rcases Nat.mod_two_eq_zero_or_one d with h | h<;>rcases Nat.mod_two_eq_zero_or_one i with h' | h'
  ·simp only [Tr.set,h,Tr.get,h',ih]
   by_cases he:i=d
   ·simp [he]
   ·rw [if_neg he,if_neg (by omega)]
  ·simp only [Tr.set,h,Tr.get,h']
   rw [if_neg (by omega)]
  ·simp only [Tr.set,h,Tr.get,h']
   rw [if_neg (by omega)]
  ·simp only [Tr.set,h,Tr.get,h',ih]
   by_cases he:i=d
   ·simp [he]
   ·rw [if_neg he,if_neg (by omega)]
def ZW (E:Env) (s:Tr) (ρ:Nat→V):Nat→AV:=fun d=>(gE E s d).den ρ
def K8 (E:Env) (s:Tr) (n:Nat):Prop:=∀ d,(gE E s d).bd n
section
variable {P:Program} {E:Env} {R:AV→List AV→Prop} {A:Nat→List V→Prop}
theorem JY {d:Nat} (h:d < E.nt):d < E.top:=Nat.lt_of_lt_of_le h (Nat.le_add_right _ _)
theorem Znq (hnt:E.top≤1024) {d:Nat} (hd:d < E.top) (s:Tr) (x:SV) (i:Nat):gE E (s.set depth d x) i=if i=d then x else gE E s i:=by
 unfold gE
 by_cases hi:i < E.top
 ·rw [if_pos hi,if_pos hi]
  exact Tr.get_set 10 s d i x (by omega) (by omega)
 ·rw [if_neg hi,if_neg hi,if_neg (by omega)]
theorem YJ (hnt:E.top≤1024) {d:Nat} (hd:d < E.top) (s:Tr) (x:SV) (ρ:Nat→V):ZW E (s.set depth d x) ρ=upd (ZW E s ρ) d (x.den ρ):=by
 funext i
 simp only [ZW,Znq hnt hd,upd]
 split<;>rfl
theorem J4 (hnt:E.top≤1024) {d n:Nat} (hd:d < E.top) {s:Tr} {x:SV} (hs:K8 E s n) (hx:x.bd n):K8 E (s.set depth d x) n:=by
 intro i
 rw [Znq hnt hd]
 split
 ·exact hx
 ·exact hs i
def KL (E:Env) (us:Ups):Prop:=us.all (fun u=>decide (u.1 < E.top))=true
theorem JG (hnt:E.top≤1024) (ρ:Nat→V):∀ (us:Ups) (s:Tr),KL E us→ZW E (Jn us s) ρ=Ju (ZW E s ρ) (us.map fun u=>(u.1,u.2.den ρ))
 | [], _, _ => rfl
 | (d, x) :: us, s, h => by
  simp only [KL,List.all_cons,Bool.and_eq_true,decide_eq_true_eq] at h
  simp only [Jn,List.map_cons,Ju]
  rw [JG hnt ρ us _ h.2,YJ hnt h.1]
theorem JB (hnt:E.top≤1024) {n:Nat} : ∀ (us:Ups) (s:Tr),KL E us→K8 E s n→(∀ u∈us,u.2.bd n)→K8 E (Jn us s) n
 | [], _, _, hs, _ => hs
 | (d, x) :: us, s, h, hs, hu => by
  simp only [KL,List.all_cons,Bool.and_eq_true,decide_eq_true_eq] at h
  exact JB hnt us _ h.2 (J4 hnt h.1 hs (hu (d,x) (by simp))) fun u h'=>hu u (by simp [h'])
theorem ZfZ {s:Tr} {n n':Nat} (h:K8 E s n) (hn:n≤n'):K8 E s n':=fun d=>SV.bd_mono hn _ (h d)
theorem ZcL {s:Tr} {n:Nat} {ρ ρ':Nat→V} (h:K8 E s n) (hρ:∀ m,m < n→ρ' m=ρ m):ZW E s ρ'=ZW E s ρ:=by
 funext d
 exact SV.den_congr hρ _ (h d)
theorem Zdp {x:SV} (ρ:Nat→V) (h:∀ cs,x≠.box cs):∀ cs,x.den ρ≠.box cs:=by
 intro cs he
 cases x with
 | box ds => exact h ds rfl
 | c y => cases y <;> cases he
 | _ => cases he
theorem Zei {x:SV} (ρ:Nat→V) (h:∀ cs,x≠.gbox cs):(x.den ρ).isG=false:=by
 cases x with
 | gbox cs => exact (h cs rfl).elim
 | c y => cases y <;> rfl
 | _ => rfl
theorem ZiN {a b:AV} (ga:a.isG=false) (gb:b.isG=false) (ha:VQ a) (hb:(∀ cs,b≠.box cs)∨a = .dead):V3 a b=true:=by
 unfold V3
 split
 ·cases ga
 ·cases gb
 ·rename_i cs _;exact (ha.1 cs rfl).elim
 ·exact (ha.2.1 _ _ rfl).elim
 ·rfl
 ·rename_i h1 h2
  rcases hb with hb | hb
  ·exact (hb _ rfl).elim
  ·exact (h2 hb).elim
 ·rfl
theorem ZkW {x:SV} (ρ:Nat→V) (h:∀ cs,x≠.box cs) (h':∀ e l,x≠.own true e l) (h3:∀ cs,x≠.gbox cs):VQ (x.den ρ):=by
 refine ⟨Zdp ρ h,fun e xs he=>?_,fun cs he=>by have:=Zei ρ h3;rw [he] at this;cases this⟩
 cases x with
 | own b e' l =>
  cases b with
  | true => exact h' _ _ rfl
  | false => cases he
 | c y => cases y <;> cases he
 | _ => cases he
theorem Ys {a b:SV} (ρ:Nat→V) (h:Zaw a b=true):V3 (a.den ρ) (b.den ρ)=true:=by
 have h1:∀ cs,a≠.box cs:=by
  rintro cs rfl
  cases b<;>cases h
 have h2:∀ e l,a≠.own true e l:=by
  rintro e l rfl
  cases b<;>cases h
 have h3:∀ cs,a≠.gbox cs:=by
  rintro cs rfl
  cases b<;>cases h
 have h4:∀ cs,b≠.gbox cs:=by
  rintro cs rfl
  cases a with
  | own x e l => cases x <;> cases h
  | _ => cases h
 refine ZiN (Zei ρ h3) (Zei ρ h4) (ZkW ρ h1 h2 h3) ?_
 by_cases hd:a = .dead
 ·subst hd;exact .inr rfl
 ·refine .inl (Zdp ρ ?_)
  rintro cs rfl
  cases a with
  | dead => exact hd rfl
  | own x e l => cases x <;> cases h
  | _ => cases h
theorem ZiV {c:Ctx} {σ:Nat→AV} {tm:Array Value} {w:World} {lim:Nat→Nat} {X:Nat→Nat→Option Nat} (h:Sim c σ tm w lim X) {ops:Array Oper} {j gd:Nat} {b:Bool}
  (hd:(ops[j]?).bind (·.dst)=some gd) (hb:σ gd = .val (.bool b)):yielded ops tm j=some b:=by
 have hlt:gd < tm.size:=by
  rcases Nat.lt_or_ge gd c.nt with h1 | h1
  ·rw [h.size];exact h1
  ·have:=h.out gd h1;rw [hb] at this;rcases this with h2 | h2<;>cases h2
 have hr:=h.rel gd
 rw [hb] at hr
 have hv:tm.getD gd undef = .bool b:=KN hr
 have h2:tm[gd]? = some (.bool b):=by
  simp only [Array.getD,hlt,dite_true] at hv
  rw [Array.getElem?_eq_getElem hlt]
  exact congrArg some hv
 unfold yielded
 simp only [hd,Option.bind_some,h2]
theorem ZeV {c:Ctx} {σ:Nat→AV} {tm:Array Value} {w:World} {lim:Nat→Nat} {X:Nat→Nat→Option Nat} (h:Sim c σ tm w lim X) {ops:Array Oper} {j gd:Nat}
  (hd:(ops[j]?).bind (·.dst)=some gd) (hb:σ gd = .tuple []):yielded ops tm j=none:=by
 have hr:=h.rel gd
 rw [hb] at hr
 obtain ⟨us,h1,h2,_⟩:=hr
 have:us = []:=List.eq_nil_of_length_eq_zero h2
 subst this
 unfold yielded
 simp only [hd,Option.bind_some]
 by_cases hlt:gd < tm.size
 ·simp only [Array.getD,hlt,dite_true] at h1
  have h3:tm[gd]? = some (.tuple #[]):=by
   rw [Array.getElem?_eq_getElem hlt]
   exact congrArg some h1
  simp only [h3]
 ·simp only [Array.getElem?_eq_none (Nat.le_of_not_lt hlt)]
theorem Sim.putUndef {c:Ctx} {σ:Nat→AV} {tm:Array Value} {w:World} {lim:Nat→Nat} {X:Nat→Nat→Option Nat} (h:Sim c σ tm w lim X) {d:Nat} (hd:d < c.nt) (hb:VQ (σ d)) :
  ∃ X',Sim c (upd σ d (.tuple [])) (tm.setIfInBounds d undef) w lim X':=
 ⟨_,h.putRow JV (ZN.refl w lim (fun _=>False)) (fun _ hs=>hs.elim) hd (by simp) (fun i hi=>ZL tm d i undef hi) (.inl hb.1) (fun i q hi hr=>(h.noRefs hb.none i q hi hr).elim)
  ⟨[],by rw [Jz tm d undef (by rw [h.size];exact hd)];rfl,rfl,by simp⟩ (fun k b hk=>by simp [JV] at hk) (fun k k' b hk=>by simp [JV] at hk)⟩
def Zg1 (ops:Array Oper) (o:Oper) (σ:Nat→AV) (gs:List Nat) (v:Bool):Prop:=
 (o.guard=none∧v=true)∨(∃ j want gd b,o.guard=some (j,want)∧(ops[j]?).bind (·.dst)=some gd∧gd∈gs∧σ gd = .val (.bool b)∧(v=true↔want=b))∨
 ∃ j want gd,o.guard=some (j,want)∧(ops[j]?).bind (·.dst)=some gd∧gd∈gs∧σ gd = .tuple []∧v=false
theorem WJ {ops:Array Oper} {o:Oper} {σ:Nat→AV} {gs:List Nat} {v:Bool} (hg:Zg1 ops o σ gs v) {c:Ctx} {σ':Nat→AV} {tm:Array Value} {w:World} {lim:Nat→Nat} {X:Nat→Nat→Option Nat}
  (h:Sim c σ' tm w lim X) (hag:∀ d∈gs,σ' d=σ d):Region.wanted o (yielded ops tm)=v:=by
 rcases hg with ⟨h1,h2⟩ | ⟨j,want,gd,b,h1,h2,h3,h4,h5⟩ | ⟨j,want,gd,h1,h2,h3,h4,h5⟩
 ·unfold Region.wanted;rw [h1,h2]
 ·have hy:=ZiV h h2 ((hag gd h3).trans h4)
  unfold Region.wanted
  rw [h1]
  simp only [hy]
  cases v<;>cases want<;>cases b<;>simp_all
 ·have hy:=ZeV h h2 ((hag gd h3).trans h4)
  unfold Region.wanted
  rw [h1,h5]
  simp only [hy]
  rfl
theorem Zh5 {x:SV} (ρ:Nat→V) (h:Zm8 x=true):ZcQ (x.den ρ):=by
 unfold Zm8 at h
 split at h
 ·rename_i cs;exact ⟨_,rfl⟩
 ·cases h
theorem Zcg {T:Odr} {i:Nat} {x:SV} (ρ:Nat→V) (h:ZbP T i x=true):∀ d k,T.nr d i=true→¬ Je (x.den ρ) d k:=by
 intro d k hd hr
 cases x with
 | mref d' k' =>
  rcases hr with hr | ⟨_,hr⟩ <;> cases hr
  simp [ZbP,hd] at h
 | eref d' k' i s o =>
  rcases hr with hr | ⟨_,hr⟩ <;> cases hr
  simp [ZbP,hd] at h
 | c y => rcases hr with hr | ⟨_, hr⟩ <;> cases y <;> cases hr
 | _ => rcases hr with hr | ⟨_, hr⟩ <;> cases hr
def VB (T:Odr) (P:Program) (E:Env) (R:AV→List AV→Prop) (A:Nat→List V→Prop) (B:Nat→Bool) (ops:Array Oper) (i:Nat) (s:Tr) (ρ:Nat→V) (cont:Tr→Nat→Log→STree):Prop:=
 ∃ (st:Stp) (ρ':Nat→V) (n':Nat) (s':Tr),K8 E s' n'∧(cont s' n' ⟨i,st.F,st.ups.map (·.1)⟩).wp P R A ρ'∧ZnJ T P E.nt ops (fun d=>B d=true) i (ZW E s ρ) st∧ZW E s' ρ'=Ju (ZW E s ρ) st.ups
variable {ops:Array Oper} {o:Oper} {i:Nat} {s:Tr} {n:Nat} {ρ:Nat→V} {cont:Tr→Nat→Log→STree} {gs:List Nat} {tx:Odr} {tk:Bool} {B:Nat→Bool}
theorem Zfx {P:Program} {R:AV→List AV→Prop} {A:Nat→List V→Prop} {ρ:Nat→V} : ∀ (q:List (IE×IE)) (t:STree),(ZjJ q t).wp P R A ρ→(∀ p∈q,p.1.den ρ=p.2.den ρ)∧t.wp P R A ρ
 | [], t, h => ⟨by simp, h⟩
 | (a, b) :: q, t, h => by
  obtain ⟨h1,h2,h3⟩:=h
  obtain ⟨h4,h5⟩:=Zfx q t h3
  refine ⟨fun p hp=>?_,h5⟩
  rcases List.mem_cons.1 hp with rfl | hp
  ·exact Int.le_antisymm h1 h2
  ·exact h4 p hp
theorem ZaQ (ρ:Nat→V) {kp:Nat→Bool} : ∀ {cs' cs:List BC} {j:Nat} {r:List BC} {q:List (IE×IE)},ZaN kp j cs' cs=some (r,q)→(∀ p∈q,p.1.den ρ=p.2.den ρ)→
  r.map (BC.den ρ)=cs'.map (BC.den ρ)∧∀ i,kp (j+i)=true→((r.map (BC.den ρ))[i]?).map JU=((cs.map (BC.den ρ))[i]?).map JU
 | [], [], j, r, q, h, _ => by
  simp only [ZaN,Option.some.injEq,Prod.mk.injEq] at h
  obtain ⟨rfl,rfl⟩:=h
  exact ⟨rfl,fun _ _=>rfl⟩
 | [], _ :: _, _, _, _, h, _ => by simp [ZaN] at h
 | _ :: _, [], _, _, _, h, _ => by simp [ZaN] at h
 | c' :: cs', c :: cs, j, r, q, h, hq => by
  simp only [ZaN] at h
  split at h
  ·rename_i r1 q1 h1
   split at h
   ·rename_i hk
    split at h
    ·rename_i k' e' k e
     split at h
     ·rename_i hkk
      subst hkk
      simp only [Option.some.injEq,Prod.mk.injEq] at h
      obtain ⟨rfl,rfl⟩:=h
      obtain ⟨g1,g2⟩:=ZaQ ρ h1 fun p hp=>hq p (by simp [hp])
      have he:e'.den ρ=e.den ρ:=hq (e',e) (by simp)
      refine ⟨?_,fun i hi=>?_⟩
      ·simp only [List.map_cons,g1,BC.den,SC.den,he]
      ·cases i with
       | zero => rfl
       | succ i => simpa using g2 i (by rw [show j + 1 + i = j + (i + 1) by omega]; exact hi)
     ·cases h
    ·rename_i t' l' t l
     split at h
     ·rename_i hkk
      subst hkk
      simp only [Option.some.injEq,Prod.mk.injEq] at h
      obtain ⟨rfl,rfl⟩:=h
      obtain ⟨g1,g2⟩:=ZaQ ρ h1 hq
      refine ⟨by simp only [List.map_cons,g1],fun i hi=>?_⟩
      cases i with
      | zero => rfl
      | succ i => simpa using g2 i (by rw [show j + 1 + i = j + (i + 1) by omega]; exact hi)
     ·cases h
    ·cases h
   ·rename_i hk
    simp only [Option.some.injEq,Prod.mk.injEq] at h
    obtain ⟨rfl,rfl⟩:=h
    obtain ⟨g1,g2⟩:=ZaQ ρ h1 hq
    refine ⟨by simp only [List.map_cons,g1],fun i hi=>?_⟩
    cases i with
    | zero => rw [Nat.add_zero, hk] at hi; cases hi
    | succ i => simpa using g2 i (by rw [show j + 1 + i = j + (i + 1) by omega]; exact hi)
  ·cases h
theorem ZfB {kp:Nat→Bool} : ∀ {cs' cs:List BC} {j:Nat} {r:List BC} {q:List (IE×IE)},ZaN kp j cs' cs=some (r,q)→∀ b∈r,b∈cs'∨b∈cs
 | [], [], j, r, q, h => by
  simp only [ZaN,Option.some.injEq,Prod.mk.injEq] at h
  obtain ⟨rfl,rfl⟩:=h
  simp
 | [], _ :: _, _, _, _, h => by simp [ZaN] at h
 | _ :: _, [], _, _, _, h => by simp [ZaN] at h
 | c' :: cs', c :: cs, j, r, q, h => by
  simp only [ZaN] at h
  split at h
  ·rename_i r1 q1 h1
   have ih:=ZfB h1
   have key:∀ b∈r1,b∈c'::cs'∨b∈c::cs:=fun b hb=>by
    rcases ih b hb with h2 | h2
    ·exact .inl (by simp [h2])
    ·exact .inr (by simp [h2])
   split at h
   ·split at h
    ·split at h
     ·simp only [Option.some.injEq,Prod.mk.injEq] at h
      obtain ⟨rfl,rfl⟩:=h
      intro b hb
      rcases List.mem_cons.1 hb with rfl | hb
      ·exact .inr (by simp)
      ·exact key b hb
     ·cases h
    ·split at h
     ·simp only [Option.some.injEq,Prod.mk.injEq] at h
      obtain ⟨rfl,rfl⟩:=h
      intro b hb
      rcases List.mem_cons.1 hb with rfl | hb
      ·exact .inl (by simp)
      ·exact key b hb
     ·cases h
    ·cases h
   ·simp only [Option.some.injEq,Prod.mk.injEq] at h
    obtain ⟨rfl,rfl⟩:=h
    intro b hb
    rcases List.mem_cons.1 hb with rfl | hb
    ·exact .inl (by simp)
    ·exact key b hb
  ·cases h
theorem ZqS {T:Odr} {d j:Nat} (h:T.kp d j=true):T.kpAt d=true:=by
 cases T with
 | text => cases h
 | any N M K =>
  simp only [Odr.kp,Odr.kpAt,List.contains_iff_mem,List.any_eq_true] at h ⊢
  exact ⟨_,h,by simp⟩
theorem ZjN (ρ:Nat→V) {T:Odr} {g:Nat→SV} {u u':Nat×SV} {q:List (IE×IE)} (h:Zli T g u=some (u',q)) (hq:∀ p∈q,p.1.den ρ=p.2.den ρ) :
  (u'.1,u'.2.den ρ)=(u.1,u.2.den ρ)∧(∀ j,T.kp u'.1 j=true→Ji (u'.2.den ρ) j=Ji ((g u'.1).den ρ) j)∧∀ n,u.2.bd n→(∀ i,(g i).bd n)→u'.2.bd n:=by
 unfold Zli at h
 split at h
 ·split at h
  ·rename_i cs' cs hu hgu
   split at h
   ·rename_i r q1 h1
    simp only [Option.some.injEq,Prod.mk.injEq] at h
    obtain ⟨rfl,rfl⟩:=h
    obtain ⟨g1,g2⟩:=ZaQ ρ h1 hq
    refine ⟨?_,fun j hj=>?_,fun n hb hg=>?_⟩
    ·rw [hu];simp only [SV.den,g1]
    ·rw [hgu]
     exact g2 j (by rw [Nat.zero_add];exact hj)
    ·rw [hu] at hb
     have hb2:=hg u.1
     rw [hgu] at hb2
     intro b hbr
     rcases ZfB h1 b hbr with h2 | h2
     ·exact hb b h2
     ·exact hb2 b h2
   ·cases h
  ·cases h
 ·rename_i hk
  simp only [Option.some.injEq,Prod.mk.injEq] at h
  obtain ⟨rfl,rfl⟩:=h
  exact ⟨rfl,fun j hj=>(by rw [ZqS hj] at hk;cases hk),fun n hb _=>hb⟩
theorem Zdx (ρ:Nat→V) {T:Odr} {g:Nat→SV} : ∀ {us us':Ups} {q:List (IE×IE)},W7 T g us=some (us',q)→(∀ p∈q,p.1.den ρ=p.2.den ρ)→
  (us'.map fun u=>(u.1,u.2.den ρ))=(us.map fun u=>(u.1,u.2.den ρ))∧(∀ u∈us',∀ j,T.kp u.1 j=true→Ji (u.2.den ρ) j=Ji ((g u.1).den ρ) j)∧∀ n,(∀ u∈us,u.2.bd n)→(∀ i,(g i).bd n)→∀ u∈us',u.2.bd n
 | [], us', q, h, _ => by
  simp only [W7,Option.some.injEq,Prod.mk.injEq] at h
  obtain ⟨rfl,rfl⟩:=h
  exact ⟨rfl,by simp,by simp⟩
 | u :: us, us', q, h, hq => by
  simp only [W7] at h
  split at h
  ·rename_i u1 q1 us1 q2 h1 h2
   simp only [Option.some.injEq,Prod.mk.injEq] at h
   obtain ⟨rfl,rfl⟩:=h
   obtain ⟨a1,a2,a3⟩:=ZjN ρ h1 fun p hp=>hq p (by simp [hp])
   obtain ⟨b1,b2,b3⟩:=Zdx ρ h2 fun p hp=>hq p (by simp [hp])
   refine ⟨by simp only [List.map_cons,a1,b1],fun v hv=>?_,fun n hb hg v hv=>?_⟩
   ·rcases List.mem_cons.1 hv with rfl | hv
    ·exact a2
    ·exact b2 v hv
   ·rcases List.mem_cons.1 hv with rfl | hv
    ·exact a3 n (hb u (by simp)) hg
    ·exact b3 n (fun w hw=>hb w (by simp [hw])) hg v hv
  ·cases h
theorem Wc (hps:EnvSound P E) (hnt:E.top≤1024) (hKB:∀ d j,tx.kp d j=true→B d=true) (hB:∀ d,B d=true→ZcQ (ZW E s ρ d)) (hi:ops[i]? = some o) (hs:K8 E s n) (hg:Zg1 ops o (ZW E s ρ) gs true) (h:(Zii P E tx tk B o i s gs n cont).wp P R A ρ) :
  VB tx P E R A B ops i s ρ cont:=by
 obtain ⟨ρ',n',x,us0,fp,h1,h2,h3,h40,h50,h60⟩:=ZiA hps hs (fun i hi=>by unfold gE;rw [if_neg (by omega)]) h
 have hσ:(fun d=>(gE E s d).den ρ)=ZW E s ρ:=rfl
 rw [hσ] at h60
 have hs':K8 E s n':=ZfZ hs h1
 have hc:=ZcL hs h2
 dsimp only at h50
 cases hst:W7 tx (gE E s) us0 with
 | none => rw [hst] at h50; exact h50.elim
 | some rq =>
 obtain ⟨us,qs⟩:=rq
 rw [hst] at h50
 obtain ⟨hq,h5⟩:=Zfx qs _ h50
 obtain ⟨hus,hkp0,hbd⟩:=Zdx ρ' hst hq
 have h4:=hbd n' h40 hs'
 have h6:=h60
 rw [← hus] at h6
 have hkp:∀ u∈(us.map fun u=>(u.1,u.2.den ρ')),∀ j,tx.kp u.1 j=true→Ji u.2 j=Ji (ZW E s ρ u.1) j:=by
  intro u hu j hj
  obtain ⟨v,hv,rfl⟩:=List.mem_map.1 hu
  rw [← hc]
  exact hkp0 v hv j hj
 clear h60 h50 h40 hus hkp0
 split at h5
 case isFalse=>exact h5.elim
 rename_i hall0
 obtain ⟨hall,hnx⟩:=hall0
 rw [List.all_eq_true] at hall
 have hlow:KL E us:=by
  unfold KL
  rw [List.all_eq_true]
  intro u hu
  have:=hall u hu
  rw [Bool.and_eq_true,Bool.and_eq_true] at this
  exact this.1.1
 have hups:∀ u∈(us.map fun u=>(u.1,u.2.den ρ')),B u.1=true→ZcQ u.2:=by
  intro u hu hb
  obtain ⟨v,hv,rfl⟩:=List.mem_map.1 hu
  have:=hall v hv
  simp only [Bool.and_eq_true,Bool.or_eq_true,Bool.not_eq_true'] at this
  rcases this.1.2 with h0 | h0
  ·have hb':B v.1=true:=hb
   rw [hb'] at h0;cases h0
  ·exact Zh5 ρ' h0
 have hnr:∀ u∈(us.map fun u=>(u.1,u.2.den ρ')),∀ d k,tx.nr d u.1=true→¬ Je u.2 d k:=by
  intro u hu
  obtain ⟨v,hv,rfl⟩:=List.mem_map.1 hu
  have:=hall v hv
  rw [Bool.and_eq_true] at this
  exact Zcg ρ' this.2
 have hids:∀ (σ':Nat→AV),(∀ d∈(K2 o).filter (fun t=>!B t),σ' d=ZW E s ρ d)→(∀ d,B d=true→ZcQ (σ' d))→∀ d∈K2 o,ZcU (ZW E s ρ d) (σ' d):=by
  intro σ' h0 h1 d hd
  cases hb:B d with
  | true => exact .inr ⟨hB d hb, h1 d hb⟩
  | false => exact .inl (h0 d (List.mem_filter.2 ⟨hd, by simp [hb]⟩))
 have hfst:(us.map fun u=>(u.1,u.2.den ρ')).map (·.1)=us.map (·.1):=by rw [List.map_map];rfl
 have hden:ZW E (Jn us s) ρ'=Ju (ZW E s ρ) (us.map fun u=>(u.1,u.2.den ρ')):=by rw [JG hnt ρ' us s hlow,hc]
 split at h5
 ·rename_i d hd
  split at h5
  ·rename_i hh
   refine ⟨⟨(K2 o).filter (fun t=>!B t)++gs++fp++us.map (·.1)++[d],(us.map fun u=>(u.1,u.2.den ρ'))++[(d,x.den ρ')]⟩,ρ',n',(Jn us s).set depth d x,J4 hnt (JY hh.1) (JB hnt us s hlow hs' h4) h3,?_,⟨?_,?_,?_,?_,?_⟩,?_⟩
   ·rw [List.map_append,hfst]
    exact h5
   ·intro u hu
    rcases List.mem_append.1 hu with hu | hu
    ·refine List.mem_append.2 (.inl (List.mem_append.2 (.inr ?_)))
     rw [← hfst]
     exact List.mem_map.2 ⟨u,hu,rfl⟩
    ·rw [List.mem_singleton] at hu
     subst hu
     simp
   ·intro u hu hb
    rcases List.mem_append.1 hu with hu | hu
    ·exact hups u hu hb
    ·rw [List.mem_singleton] at hu
     subst hu
     have hb':B d=true:=hb
     rw [hh.2.2] at hb'
     cases hb'
   ·intro u hu
    rcases List.mem_append.1 hu with hu | hu
    ·exact hnr u hu
    ·rw [List.mem_singleton] at hu
     subst hu
     unfold Zhk at hnx
     rw [hd] at hnx
     exact Zcg ρ' hnx
   ·intro u hu j hj
    rcases List.mem_append.1 hu with hu | hu
    ·exact hkp u hu j hj
    ·rw [List.mem_singleton] at hu
     subst hu
     have hb':=hKB _ j hj
     rw [hh.2.2] at hb'
     cases hb'
   ·intro c hcP hcn σ' tm w lim X hag hpb hT hsim Q K hK
    unfold wpOp
    simp only [hi]
    rw [WJ hg hsim fun d' hd'=>hag d' (by simp [hd'])]
    rw [if_pos rfl]
    refine .inl (h6 c hcP σ' tm w lim X (hids σ' (fun d' hd'=>hag d' (by simp only [List.mem_append];exact .inl (.inl (.inl (.inl hd'))))) hpb) (fun d' hd'=>hag d' (by
     rw [hfst] at hd'
     simp only [List.mem_append] at hd' ⊢
     rcases hd' with hd' | hd'
     ·exact .inl (.inl (.inr hd'))
     ·exact .inl (.inr hd'))) hT hsim K Q fun v w' ha=>?_)
    rw [hd] at ha ⊢
    obtain ⟨lim',X',hsim'⟩:=ha (by rw [hcn];exact hh.1) (by
     have:Ju σ' (us.map fun u=>(u.1,u.2.den ρ')) d=(gE E (Jn us s) d).den ρ':=by
      have h7:=congrFun hden d
      rw [Js] at h7 ⊢
      rw [hag d (by simp)]
      exact h7.symm
     rw [this]
     exact Ys ρ' hh.2.1)
    refine hK _ w' lim' X' ?_
    rw [KR]
    exact hsim'
   ·rw [YJ hnt (JY hh.1),hden,KR]
    rfl
  ·exact h5.elim
 ·rename_i hd
  refine ⟨⟨(K2 o).filter (fun t=>!B t)++gs++fp++us.map (·.1),us.map fun u=>(u.1,u.2.den ρ')⟩,ρ',n',Jn us s,JB hnt us s hlow hs' h4,?_,⟨?_,hups,hnr,hkp,?_⟩,hden⟩
  ·rw [hfst]
   exact h5
  ·intro u hu
   refine List.mem_append.2 (.inr ?_)
   rw [← hfst]
   exact List.mem_map.2 ⟨u,hu,rfl⟩
  ·intro c hcP hcn σ' tm w lim X hag hpb hT hsim Q K hK
   unfold wpOp
   simp only [hi]
   rw [WJ hg hsim fun d' hd'=>hag d' (by simp [hd'])]
   rw [if_pos rfl]
   refine .inl (h6 c hcP σ' tm w lim X (hids σ' (fun d' hd'=>hag d' (by simp only [List.mem_append];exact .inl (.inl (.inl hd')))) hpb) (fun d' hd'=>hag d' (by
    rw [hfst] at hd'
    simp only [List.mem_append] at hd' ⊢
    rcases hd' with hd' | hd'
    ·exact .inl (.inr hd')
    ·exact .inr hd')) hT hsim K Q fun v w' ha=>?_)
   rw [hd] at ha ⊢
   obtain ⟨lim',X',hsim'⟩:=ha
   exact hK _ w' lim' X' hsim'
theorem Vv (hnt:E.top≤1024) (hKB:∀ d j,tx.kp d j=true→B d=true) (hi:ops[i]? = some o) (hs:K8 E s n) (hg:Zg1 ops o (ZW E s ρ) gs false) (h:(ZbJ E B o i s gs n cont).wp P R A ρ) :
  VB tx P E R A B ops i s ρ cont:=by
 unfold ZbJ at h
 split at h
 ·rename_i d hd
  split at h
  ·rename_i hh
   refine ⟨⟨gs++[d],[(d,.tuple [])]⟩,ρ,n,s.set depth d (.tuple []),J4 hnt (JY hh.1) hs (by simp [SV.bd]),h,⟨by simp,fun u hu hb=>?_,fun u hu d k _ hr=>?_,fun u hu j hj=>?_,?_⟩,YJ hnt (JY hh.1) _ _ _⟩
   ·rw [List.mem_singleton] at hu
    subst hu
    have hb':B d=true:=hb
    rw [hh.2.2] at hb'
    cases hb'
   ·rw [List.mem_singleton] at hu
    subst hu
    rcases hr with hr | ⟨_,hr⟩ <;> cases hr
   ·rw [List.mem_singleton] at hu
    subst hu
    have hb':=hKB _ j hj
    rw [hh.2.2] at hb'
    cases hb'
   intro c hcP hcn σ' tm w lim X hag hpb hT hsim Q K hK
   unfold wpOp
   simp only [hi]
   rw [WJ hg hsim fun d' hd'=>hag d' (by simp [hd'])]
   rw [if_neg (by simp),hd]
   obtain ⟨X',hs'⟩:=hsim.putUndef (d:=d) (by rw [hcn];exact hh.1) (by
    rw [hag d (by simp)]
    exact ZD (Ys ρ hh.2.1))
   exact hK _ w lim X' hs'
  ·exact h.elim
 ·rename_i hd
  refine ⟨⟨gs,[]⟩,ρ,n,s,hs,h,⟨by simp,by simp,by simp,by simp,?_⟩,rfl⟩
  intro c hcP hcn σ' tm w lim X hag hpb hT hsim Q K hK
  unfold wpOp
  simp only [hi]
  rw [WJ hg hsim hag]
  rw [if_neg (by simp),hd]
  exact hK _ w lim X hsim
theorem Wb (hnt:E.top≤1024) {t:Nat} {b:BE} {v:Bool} (hb:gE E s t = .c (.bool b)) (hv:b.den ρ=v):t < E.top∧ZW E (s.set depth t (.c (.bool (.lit v)))) ρ=ZW E s ρ:=by
 have hlt:t < E.top:=by
  unfold gE at hb
  split at hb
  ·assumption
  ·cases hb
 refine ⟨hlt,?_⟩
 rw [YJ hnt hlt]
 funext d
 by_cases hd:d=t
 ·subst hd
  rw [ZC]
  simp only [ZW,hb,SV.den,SC.den,hv,BE.den]
 ·rw [Zf _ _ hd]
theorem ZfG (hps:EnvSound P E) (hnt:E.top≤1024) (hKB:∀ d j,tx.kp d j=true→B d=true) (hB:∀ d,B d=true→ZcQ (ZW E s ρ d)) (hi:ops[i]? = some o) (hs:K8 E s n) (h:(Zkd P E tx tk B ops o i s n cont).wp P R A ρ):VB tx P E R A B ops i s ρ cont:=by
 unfold Zkd at h
 split at h
 ·rename_i hg
  exact Wc hps hnt hKB hB hi hs (.inl ⟨hg,rfl⟩) h
 ·rename_i j want hg
  split at h
  ·exact h.elim
  ·rename_i gd hgd
   split at h
   ·rename_i hb
    have hv:ZW E s ρ gd = .tuple []:=by simp only [ZW,hb];rfl
    exact Vv hnt hKB hi hs (.inr (.inr ⟨j,want,gd,hg,hgd,by simp,hv,rfl⟩)) h
   ·rename_i b hb
    have hv:ZW E s ρ gd = .val (.bool b):=by simp only [ZW,hb];rfl
    split at h
    ·rename_i hw
     exact Wc hps hnt hKB hB hi hs (.inr (.inl ⟨j,want,gd,b,hg,hgd,by simp,hv,by simp [hw]⟩)) h
    ·rename_i hw
     exact Vv hnt hKB hi hs (.inr (.inl ⟨j,want,gd,b,hg,hgd,by simp,hv,by simp [hw]⟩)) h
   ·rename_i b _ hb
    obtain ⟨ht,hf⟩:=h
    have hcase:∀ v,b.den ρ=v→(if want=v then Zii P E tx tk B o i (s.set depth gd (.c (.bool (.lit v)))) [gd] n cont else ZbJ E B o i (s.set depth gd (.c (.bool (.lit v)))) [gd] n cont).wp P R A ρ→VB tx P E R A B ops i s ρ cont:=by
     intro v hv hw
     obtain ⟨hlt,hsame⟩:=Wb hnt hb hv
     have hbd:K8 E (s.set depth gd (.c (.bool (.lit v)))) n:=J4 hnt hlt hs trivial
     have hval:ZW E (s.set depth gd (.c (.bool (.lit v)))) ρ gd = .val (.bool v):=by rw [hsame];simp only [ZW,hb,SV.den,SC.den,hv]
     have hgoal:VB tx P E R A B ops i (s.set depth gd (.c (.bool (.lit v)))) ρ cont:=by
      split at hw
      ·rename_i hw'
       exact Wc hps hnt hKB (by rw [hsame];exact hB) hi hbd (.inr (.inl ⟨j,want,gd,v,hg,hgd,by simp,hval,by simp [hw']⟩)) hw
      ·rename_i hw'
       exact Vv hnt hKB hi hbd (.inr (.inl ⟨j,want,gd,v,hg,hgd,by simp,hval,by simp [hw']⟩)) hw
     unfold VB at hgoal ⊢
     rw [hsame] at hgoal
     exact hgoal
    cases hv:b.den ρ with
    | true => exact hcase true hv (ht hv)
    | false => exact hcase false hv (hf hv)
   ·exact h.elim
def ZeX:Nat→List Stp→List Log
 | _, [] => []
 | i, s :: ss => ZeX (i + 1) ss ++ [⟨i, s.F, s.ups.map (·.1)⟩]
theorem W9:∀ (ss:List Stp) (i j:Nat) (s:Stp),ss[j]? = some s→(⟨i+j,s.F,s.ups.map (·.1)⟩:Log)∈ZeX i ss
 | [], i, j, s, h => by simp at h
 | s0 :: ss, i, 0, s, h => by
  simp only [List.getElem?_cons_zero,Option.some.injEq] at h
  subst h
  simp [ZeX]
 | s0 :: ss, i, j + 1, s, h => by
  have:=W9 ss (i+1) j s (by simpa using h)
  rw [show i+(j+1)=i+1+j by omega]
  exact List.mem_append.2 (.inl this)
theorem Zbs (hps:EnvSound P E) (hnt:E.top≤1024) (hKB:∀ d j,tx.kp d j=true→B d=true) {tks:Nat→Bool} {k:Tr→Nat→List Log→STree} : ∀ (l:List Oper) (i:Nat) (s:Tr) (n:Nat) (logs:List Log) (ρ:Nat→V),(∀ j,l[j]? = ops[i+j]?)→(∀ d,B d=true→ZcQ (ZW E s ρ d))→K8 E s n→
  (ZmZ P E tx tks B ops l i s n logs k).wp P R A ρ→∃ (ss:List Stp) (ρ':Nat→V) (n':Nat) (s':Tr),ss.length=l.length∧K8 E s' n'∧(k s' n' (ZeX i ss++logs)).wp P R A ρ'∧
   Ze6 tx P E.nt ops (fun d=>B d=true) i (ZW E s ρ) ss∧ZW E s' ρ'=ZeQ (ZW E s ρ) ss
 | [], i, s, n, logs, ρ, _, _, hs, h => ⟨[], ρ, n, s, rfl, hs, h, trivial, rfl⟩
 | o :: l, i, s, n, logs, ρ, hl, hB, hs, h => by
  have h0:ops[i]? = some o:=by simpa using (hl 0).symm
  obtain ⟨st,ρ1,n1,s1,g1,g2,g3,g4⟩:=ZfG hps hnt hKB hB h0 hs h
  obtain ⟨ss,ρ2,n2,s2,k1,k2,k3,k4,k5⟩:=Zbs hps hnt hKB l (i+1) s1 n1 _ ρ1 (fun j=>by
   have:=hl (j+1)
   rw [show i+(j+1)=i+1+j by omega] at this
   simpa using this) (by rw [g4];exact ZdP _ _ g3.2.1 hB) g1 g2
  refine ⟨st::ss,ρ2,n2,s2,by simp [k1],k2,?_,⟨g3,?_⟩,?_⟩
  ·simp only [ZeX,List.append_assoc,List.singleton_append]
   exact k3
  ·rw [← g4];exact k4
  ·simp only [ZeQ]
   rw [← g4];exact k5
theorem Zj8 {a b:List Nat} (h:Zqq a b=true):∀ d∈a,d∉b:=by
 intro d hd
 simp only [Zqq,List.all_eq_true] at h
 simpa using h d hd
theorem Zbw {E:Env} (s:Tr):∀ i,E.top≤i→gE E s i = .dead:=fun i hi=>by unfold gE;rw [if_neg (by omega)]
theorem Zmm {c:Ctx} {σ:Nat→AV} {tm:Array Value} {w:World} {lim:Nat→Nat} {X:Nat→Nat→Option Nat} (h:Sim c σ tm w lim X) {i k:Nat} (hr:Je (σ i) i k):False:=by
 obtain ⟨p,hp⟩:=Y7 h hr
 rcases hr with hr | ⟨_,hr⟩ <;> rw [hr] at hp<;>cases hp
theorem Zqe {draw:Bool} {d j:Nat} (h:(ZkG P E draw ops s).kp d j=true):Zm8 (gE E s d)=true:=by
 cases draw with
 | false => cases h
 | true =>
  simp only [ZkG,Odr.kp,List.contains_iff_mem,List.mem_filter] at h
  exact h.2
theorem Zfg (hm:P.follows .mixedOrders=true) (hps:EnvSound P E) (hnt:E.top≤1024) {id:Nat} {draw:Bool} {k:Tr→Nat→STree} {tks:Nat→Bool} (hKB:∀ d j,(ZkG P E draw ops s).kp d j=true→B d=true) (hB:∀ d,B d=true→ZcQ (ZW E s ρ d)) (hs:K8 E s n)
  (h:(ZmZ P E (ZkG P E draw ops s) tks B ops ops.toList 0 s n [] fun s' n' logs=>if draw=true then (if ZgB ops logs=true then k s' n' else .stuck 114) else k s' n').wp P R A ρ)
  {c:Ctx} (hcP:c.P=P) (hcn:c.nt=E.nt) {tm:Array Value} {w:World} {lim:Nat→Nat} {X:Nat→Nat→Option Nat} (hsim:Sim c (ZW E s ρ) tm w lim X) {Q:Exit→Act→World→Prop}
  (hk:∀ s' n' ρ',K8 E s' n'→(k s' n').wp P R A ρ'→∀ tm' w' lim' X',Sim c (ZW E s' ρ') tm' w' lim' X'→Q .normal ⟨tm',[]⟩ w'):(Code.region id ops draw).wp P Q ⟨tm,[]⟩ w:=by
 obtain ⟨ss,ρ',n',s',h1,h2,h3,h4,h5⟩:=Zbs hps hnt hKB ops.toList 0 s n [] ρ (by simp) hB hs h
 have hlen:ss.length=ops.size:=by simpa using h1
 cases draw with
 | false =>
  refine wp_region ?_
  rw [List.range_eq_range',← hlen]
  refine Zda hcP hcn ss 0 _ tm w lim X h4 hB hsim fun tm' w' lim' X' hs'=>hk s' n' ρ' h2 (by simpa using h3) tm' w' lim' X' ?_
  rw [h5];exact hs'
 | true =>
  simp only [if_true] at h3
  split at h3
  ·rename_i hi
   rw [List.append_nil] at hi
   simp only [ZgB,Bool.and_eq_true,CheckFast.beforeF_eq] at hi
   obtain ⟨hlow,hind⟩:=hi
   refine wp_region_any hm ?_
   have hsd:Sim c (ZW E s ρ) tm w.drew lim X:=hsim.world (ZN.refl w lim fun _=>False).drew fun b hb=>hb.elim
   refine ZjW hcP hcn h4 (fun d i k hd hr=>?_) hB hlen ?_ ?_ (fun tm' w' lim' X' hs'=>hk s' n' ρ' h2 h3 tm' w' lim' X' (by rw [h5];exact hs')) ops.size _ tm w.drew lim X (by simp) ?_ ?_ ?_
   ·have hd':(ZR (gE E s) d E.top).isEmpty=true:=by
     rcases Bool.or_eq_true_iff.1 hd with h0 | h0
     ·simp only [Bool.and_eq_true] at h0
      exact h0.1.2
     ·by_cases he:(ZR (gE E s) d E.top).isEmpty=true
      ·exact he
      ·dsimp only at h0;rw [if_neg he] at h0;cases h0
    rw [List.isEmpty_iff] at hd'
    have hda:=(JL (g:=gE E s) ρ (Zbw s) (d:=d)).2 i k
    by_cases hid:i=d
    ·subst hid
     exact Zmm hsim hr
    ·have:=hda hid hr
     rw [hd'] at this
     cases this
   ·intro i o hio e he hb
    rw [List.all_eq_true] at hlow
    have:=hlow (o,i) (by
     rw [List.mem_zipIdx_iff_getElem?]
     simpa using hio)
    rw [Array.all_eq_true_iff_forall_mem] at this
    have:=this e he
    simpa [hb] using this
   ·rintro i j a b hia hjb hji ⟨S,hS,hSi,hSj⟩
    rw [List.all_eq_true] at hind
    have m1:=W9 ss 0 i a hia
    have m2:=W9 ss 0 j b hjb
    rw [Nat.zero_add] at m1 m2
    have:=hind _ m1
    rw [List.all_eq_true] at this
    have:=this _ m2
    simp only [Bool.or_eq_true,Bool.and_eq_true,Bool.not_eq_true',decide_eq_false_iff_not] at this
    rcases this with (this | this) | this
    ·exact (this hji).elim
    ·exact (hSj (Zd0 hS i j hSi this)).elim
    ·exact ⟨Zj8 this.1,Zj8 this.2⟩
   ·intro k o hk hl
    have hlt:=(Array.getElem?_eq_some_iff.1 hk).1
    simp [Array.getD,hlt] at hl
   ·have:=List.countP_le_length (p:=fun i=>!(Array.replicate ops.size false).getD i false) (l:=List.range ops.size)
    simpa using this
   ·rw [ZbB]
    ·exact hsd
    ·intro j _ hj
     simp [Array.getD]
  ·exact h3.elim
end
end Go.AM
end

section
namespace Go.AM
inductive Yr (P:Program):AV→AV→Prop
 | same {x : AV} (h : x.isCell = true ∨ ∃ b e xs, x = .own b e xs) : Yr P x x
 | nil {s s' : Nat} {f : Bool} : Yr P (.slice true s []) (.slice f s' [])
 | imm {f : Bool} {s : Nat} {xs : List (List AV)} : Yr P (.slice f s xs) (.slice false s xs)
 | immN {f : Bool} {s s' : Nat} : Yr P (.slice f s []) (.slice false s' [])
 | own {e : TypeId} {xs : List (List AV)} : Yr P (.own false e xs) (.slice false (P.cellsOf e) xs)
 | ownN {b b' : Bool} {e : TypeId} (h : e < 2097152) : Yr P (.own b e []) (.own b' e [])
 | ownZ {b : Bool} {e : TypeId} {s : Nat} : Yr P (.own b e []) (.slice false s [])
 | give {b : Bool} {s : Nat} {e : TypeId} (h : e < 2097152) : Yr P (.slice true s []) (.own b e [])
theorem ZgS {w:World} {lim:Nat→Nat} {b:Bool} {e:TypeId} {xs:List (List AV)} {v:Value} (h:Rep w lim (.own b e xs) v):False:=by cases h
theorem Zaa {P:Program} {w:World} {lim:Nat→Nat} {b b':Bool} {e:TypeId} {v:Value} {ob:Option Nat} (h:WX P w lim b e [] v ob):WX P w lim b' e [] v ob:=by
 rcases h with ⟨us,h1,h2,h3,h4,h5,h6⟩ | h
 ·have hu:us = []:=List.eq_nil_of_length_eq_zero (by rw [h1.1];simp)
  subst hu
  refine .inl ⟨[],h1,h2,fun b0 hb=>?_,h4,h5,h6⟩
  have:=h3 b0 hb
  rw [this]
  simp
 ·exact .inr h
theorem ZjD {P:Program} {w:World} {lim:Nat→Nat} {b:Bool} {e:TypeId} {v:Value} {ob:Option Nat} (h:ZQ P w lim b e [] v ob):WX P w lim b e [] v ob∨WX P w lim true (bT e) [] v ob∧Zg P e=true:=by
 rcases h with h | h | ⟨_,⟨_,_,_,_,_,_,_,_,_,_,_,h,_⟩ | h | ⟨_,_,_,_,_,_,_,_,_,_,_,h,_⟩⟩
 ·exact .inl (.inl h)
 ·exact .inl (.inr h)
 ·obtain ⟨_,h⟩:=h;cases h
 ·exact .inr ⟨h.2.2,h.1⟩
 ·cases h
theorem ZkE {P:Program} {w:World} {lim:Nat→Nat} {b b':Bool} {e:TypeId} {v:Value} {ob:Option Nat} (he:e < 2097152) (h:ZQ P w lim b e [] v ob):ZQ P w lim b' e [] v ob:=by
 rcases ZjD h with h | ⟨_,h⟩
 ·exact (Zaa h).own
 ·rw [Yg he] at h;cases h
theorem ZoZ {P:Program} {w:World} {lim:Nat→Nat} {b:Bool} {e:TypeId} {s:Nat} {v:Value} {ob:Option Nat} (h:ZQ P w lim b e [] v ob):Rep w lim (.slice false s []) v:=by
 rcases ZjD h with h | ⟨h,_⟩
 ·exact Vj (f:=false) (fun h=>h) (ZQ.rep (Zaa (b':=false) h).own false rfl)
 ·exact Vj (f:=false) (fun h=>h) (ZQ.rep (Zaa (b':=false) h).own false rfl)
theorem ZmY {P:Program} {w:World} {lim:Nat→Nat} {x y:AV} {v:Value} (h:Rep w lim x v) (hw:Yr P x y) (hy:y.isCell=true):Rep w lim y v:=by
 cases hw with
 | same _ => exact h
 | nil => exact Vj (fun _ => rfl) h
 | imm => exact ZgF h
 | immN => exact Vj (fun h => by cases h) h
 | own => exact (ZgS h).elim
 | ownN _ => exact (ZgS h).elim
 | ownZ => exact (ZgS h).elim
 | give _ => cases hy
theorem Zj1 {P:Program} {w:World} {lim:Nat→Nat} {ob:Option Nat} {x y:AV} {v:Value} (h:JW P w lim ob x v) (hw:Yr P x y):∃ ob',(ob'=ob∨ob'=none)∧((∃ b e xs,x = .own b e xs)→ob'=ob)∧JW P w lim ob' y v:=by
 cases hw with
 | same _ => exact ⟨ob, .inl rfl, fun _ => rfl, h⟩
 | nil => exact ⟨ob, .inl rfl, fun _ => rfl, Vj (fun _ => rfl) h⟩
 | imm => exact ⟨ob, .inl rfl, fun _ => rfl, ZgF h⟩
 | immN => exact ⟨ob, .inl rfl, fun _ => rfl, Vj (fun h => by cases h) h⟩
 | own => exact ⟨ob, .inl rfl, fun _ => rfl, ZQ.rep h false rfl⟩
 | ownN he => exact ⟨ob, .inl rfl, fun _ => rfl, ZkE he h⟩
 | ownZ => exact ⟨ob, .inl rfl, fun _ => rfl, ZoZ h⟩
 | give _ => exact ⟨none, .inr rfl, fun ⟨_, _, _, h⟩ => (by cases h), Za4 h⟩
inductive ZaG (P:Program):AV→AV→Prop
 | cell {x y : AV} (h : Yr P x y) : ZaG P x y
 | agg {cs cs' : List AV} (hl : cs.length = cs'.length) (hc : ∀ c ∈ cs', c.isCell = true) (h : ∀ (i : Nat) (c c' : AV), cs[i]? = some c → cs'[i]? = some c' → Yr P c c') : ZaG P (.agg cs) (.agg cs')
theorem Zoy {w:World} {lim:Nat→Nat} {cs:List AV} {v:Value} (h:Rep w lim (.agg cs) v):∃ vs:List Value,v = .agg vs.toArray∧cs.length=vs.length∧
  ∀ (i:Nat) (c:AV) (v:Value),cs[i]? = some c→vs[i]? = some v→Rep w lim c v:=by
 cases h with
 | agg hl hc hr => exact ⟨_, rfl, hl, hr⟩
theorem Zfu {P:Program} {w:World} {lim:Nat→Nat} {ob:Option Nat} {x y:AV} {v:Value} (h:JW P w lim ob x v) (hw:ZaG P x y):∃ ob',(ob'=ob∨ob'=none)∧((∃ b e xs,x = .own b e xs)→ob'=ob)∧JW P w lim ob' y v:=by
 cases hw with
 | cell hw => exact Zj1 h hw
 | @agg cs cs' hl hc hp =>
  refine ⟨ob,.inl rfl,fun _=>rfl,?_⟩
  obtain ⟨vs,rfl,h1,h2⟩:=Zoy (show Rep w lim (.agg cs) v from h)
  refine Rep.agg (by omega) hc fun i c' u hc' hu=>?_
  obtain ⟨c,hcc⟩:∃ c,cs[i]? = some c:=⟨_,List.getElem?_eq_getElem (by rw [hl];exact (List.getElem?_eq_some_iff.1 hc').1)⟩
  exact ZmY (h2 i c u hcc hu) (hp i c c' hcc hc') (hc c' (List.mem_of_getElem? hc'))
theorem Zaj {P:Program} {w:World} {lim:Nat→Nat} {cs cs':List AV} {us:List Value} {Y:Nat→Option Nat} (hl:cs.length=cs'.length) (h:∀ (i:Nat) (c:AV) (u:Value),cs[i]? = some c→us[i]? = some u→JW P w lim (Y i) c u)
  (hw:∀ (i:Nat) (c c':AV),cs[i]? = some c→cs'[i]? = some c'→ZaG P c c') :
  ∃ r:Nat→Option Nat,(∀ i,r i=Y i∨r i=none)∧(∀ (i:Nat) (c':AV),i < us.length→cs'[i]? = some c'→(∃ b e xs,cs[i]? = some (.own b e xs))→r i=Y i)∧∀ (i:Nat) (c':AV) (u:Value),cs'[i]? = some c'→us[i]? = some u→JW P w lim (r i) c' u:=by
 have key:∀ i,∃ ob:Option Nat,(ob=Y i∨ob=none)∧(∀ (c':AV),i < us.length→cs'[i]? = some c'→(∃ b e xs,cs[i]? = some (.own b e xs))→ob=Y i)∧∀ (c':AV) (u:Value),cs'[i]? = some c'→us[i]? = some u→JW P w lim ob c' u:=by
  intro i
  cases hc':cs'[i]? with
  | none => exact ⟨none, .inr rfl, fun c' _ h => (by cases h), fun c' u h => by cases h⟩
  | some c' =>
   cases hu:us[i]? with
   | none => exact ⟨none, .inr rfl, fun c' hlt _ => (by have := List.getElem?_eq_none_iff.1 hu; omega), fun c' u _ h => by cases h⟩
   | some u =>
    obtain ⟨c,hc⟩:∃ c,cs[i]? = some c:=⟨_,List.getElem?_eq_getElem (by rw [hl];exact (List.getElem?_eq_some_iff.1 hc').1)⟩
    obtain ⟨ob,h1,h3,h2⟩:=Zfu (h i c u hc hu) (hw i c c' hc hc')
    refine ⟨ob,h1,fun _ _ _ ⟨b,e,xs,hx⟩=>h3 ⟨b,e,xs,by rw [hc] at hx;exact Option.some.inj hx⟩,fun c2 u2 e1 e2=>?_⟩
    cases e1
    cases e2
    exact h2
 obtain ⟨r,hr⟩:=Classical.axiomOfChoice key
 exact ⟨r,fun i=>(hr i).1,fun i=>(hr i).2.1,fun i=>(hr i).2.2⟩
inductive YK (P:Program):AV→AV→Prop
 | dead {x : AV} : YK P x .dead
 | comp {x y : AV} (h : ZaG P x y) : YK P x y
 | tuple {cs cs' : List AV} (hl : cs.length = cs'.length) (h : ∀ (i : Nat) (c c' : AV), cs[i]? = some c → cs'[i]? = some c' → ZaG P c c') : YK P (.tuple cs) (.tuple cs')
 | box {cs cs' : List AV} (hl : cs.length = cs'.length) (h : ∀ (i : Nat) (c c' : AV), cs[i]? = some c → cs'[i]? = some c' → Yr P c c') : YK P (.box cs) (.box cs')
 | gbox {cs cs' : List AV} (hl : cs.length = cs'.length) (h : ∀ (i : Nat) (c c' : AV), cs[i]? = some c → cs'[i]? = some c' → Yr P c c') : YK P (.gbox cs) (.gbox cs')
 | aggo {cs cs' : List AV} (hl : cs.length = cs'.length) (h : ∀ (i : Nat) (c c' : AV), cs[i]? = some c → cs'[i]? = some c' → Yr P c c') : YK P (.aggo cs) (.aggo cs')
theorem Yx {P:Program} {x y:AV} (h:Yr P x y):y.isCell=true∨∃ b e xs,y = .own b e xs:=by
 cases h with
 | same h => exact h
 | nil => exact .inl rfl
 | imm => exact .inl rfl
 | immN => exact .inl rfl
 | own => exact .inl rfl
 | ownN _ => exact .inr ⟨_, _, _, rfl⟩
 | ownZ => exact .inl rfl
 | give _ => exact .inr ⟨_, _, _, rfl⟩
theorem W1 {P:Program} {x y:AV} (h:Yr P x y):x.isCell=true∨∃ b e xs,x = .own b e xs:=by
 cases h with
 | same h => exact h
 | nil => exact .inl rfl
 | imm => exact .inl rfl
 | immN => exact .inl rfl
 | own => exact .inr ⟨_, _, _, rfl⟩
 | ownN _ => exact .inr ⟨_, _, _, rfl⟩
 | ownZ => exact .inr ⟨_, _, _, rfl⟩
 | give _ => exact .inl rfl
theorem Zcr {P:Program} {e e':TypeId} {xs xs':List (List AV)} (h:Yr P (.own true e xs) (.own true e' xs')):e'=e∧xs'=xs:=by
 cases h with
 | same _ => exact ⟨rfl, rfl⟩
 | ownN _ => exact ⟨rfl, rfl⟩
theorem Zdm {P:Program} {x:AV} {e:TypeId} {xs:List (List AV)} (h:Yr P x (.own true e xs)) (hd:Zg P e=true):x = .own true e xs:=by
 cases h with
 | same _ => rfl
 | ownN he => rw [Yg he] at hd; cases hd
 | give he => rw [Yg he] at hd; cases hd
theorem ZiZ {P:Program} {x:AV} {e:TypeId} {xs:List (List AV)} (h:ZaG P x (.own true e xs)) (hd:Zg P e=true):x = .own true e xs:=by
 cases h with
 | cell h => exact Zdm h hd
theorem VA {P:Program} {cs cs':List AV} (hl:cs.length=cs'.length) (h:∀ (i:Nat) (c c':AV),cs[i]? = some c→cs'[i]? = some c'→ZaG P c c') {k:Nat} {e:TypeId} {xs:List (List AV)}
  (hy:(match cs'[k]? with | some (.own true e xs)=>some (e,xs) | _=>none)=some (e,xs)) (hd:Zg P e=true):(match cs[k]? with | some (.own true e xs)=>some (e,xs) | _=>none)=some (e,xs):=by
 split at hy
 ·rename_i e' xs' hk
  simp only [Option.some.injEq,Prod.mk.injEq] at hy
  obtain ⟨rfl,rfl⟩:=hy
  obtain ⟨c,hc⟩:∃ c,cs[k]? = some c:=⟨_,List.getElem?_eq_getElem (by rw [hl];exact (List.getElem?_eq_some_iff.1 hk).1)⟩
  have:=ZiZ (h k c _ hc hk) hd
  subst this
  rw [hc]
 ·cases hy
theorem Zc3 {P:Program} {x y:AV} (h:YK P x y) {k:Nat} {e:TypeId} {xs:List (List AV)} (hy:ZX y k=some (e,xs)) (hd:Zg P e=true):ZX x k=some (e,xs):=by
 cases h with
 | dead => cases k <;> cases hy
 | comp h =>
  cases h with
  | agg _ _ _ => cases k <;> cases hy
  | cell h =>
   rcases Yx h with hc | ⟨b,e',xs',rfl⟩
   ·cases y<;>simp [AV.isCell] at hc<;>(cases k<;>cases hy)
   ·cases b with
    | false => cases k <;> cases hy
    | true =>
     cases k with
     | zero =>
      simp only [ZX,Option.some.injEq,Prod.mk.injEq] at hy
      obtain ⟨rfl,rfl⟩:=hy
      rw [Zdm h hd]
      rfl
     | succ k => cases hy
 | tuple hl h => cases k with | zero => cases hy | succ k => exact VA hl h hy hd
 | box hl h => cases k with | zero => cases hy | succ k => exact VA hl (fun i c c' h1 h2 => .cell (h i c c' h1 h2)) hy hd
 | gbox hl h => cases k with | zero => cases hy | succ k => exact VA hl (fun i c c' h1 h2 => .cell (h i c c' h1 h2)) hy hd
 | aggo hl h => cases k with | zero => cases hy | succ k => exact VA hl (fun i c c' h1 h2 => .cell (h i c c' h1 h2)) hy hd
theorem Zdf {P:Program} {w:World} {lim:Nat→Nat} {Y:Nat→Option Nat} {cs cs':List AV} {v:Value} (h:ZI P w lim Y cs v) (hl:cs.length=cs'.length)
  (hp:∀ (i:Nat) (c c':AV),cs[i]? = some c→cs'[i]? = some c'→Yr P c c'):∃ r:Nat→Option Nat,(∀ k,r k=Y k∨r k=none)∧r 0=Y 0∧(∀ k,(∃ p,Zo (.box cs) k=some p)→r k=Y k)∧ZI P w lim r cs' v:=by
 obtain ⟨b,arr,t,h1,rfl,h3,h4,h5,h6,h7⟩:=h
 obtain ⟨r,g1,g3,g2⟩:=Zaj (P:=P) (w:=w) (lim:=lim) (us:=arr.toList) (Y:=fun i=>Y (i+1)) hl (fun i c u hc hu=>h7 i c u hc (by simpa using hu)) (fun i c c' hc hc'=>.cell (hp i c c' hc hc'))
 refine ⟨fun k=>match k with | 0=>Y 0 | k+1=>r k,fun k=>?_,rfl,fun k hk=>?_,?_⟩
 ·cases k with
  | zero => exact .inl rfl
  | succ k => exact g1 k
 ·obtain ⟨⟨e,xs⟩,hk⟩:=hk
  rcases Zz hk with ⟨h,_⟩ | ⟨ds,q,hd,rfl,hq⟩ | ⟨_,_,h,_⟩
  case inr.inr=>cases h
  ·cases h
  ·cases hd
   have hlt:=(List.getElem?_eq_some_iff.1 hq).1
   exact g3 q _ (by simp;omega) (List.getElem?_eq_getElem (by rw [← hl];exact hlt)) ⟨_,_,_,hq⟩
 ·refine ⟨b,arr,t,h1,rfl,h3,by rw [h4,hl],h5,fun c hc=>?_,fun i c u hc hu=>g2 i c u hc (by simpa using hu)⟩
  obtain ⟨i,hi⟩:=List.mem_iff_getElem?.1 hc
  obtain ⟨c0,hc0⟩:∃ c0,cs[i]? = some c0:=⟨_,List.getElem?_eq_getElem (by rw [hl];exact (List.getElem?_eq_some_iff.1 hi).1)⟩
  exact (Yx (hp i c0 c hc0 hi)).imp id .inl
theorem Yt {P:Program} {x y:AV} (h:ZaG P x y):y.isB=false:=by
 cases h with
 | agg _ _ _ => rfl
 | cell h =>
  rcases Yx h with hy | ⟨_,_,_,rfl⟩
  ·cases y<;>first | rfl | (simp [AV.isCell] at hy)
  ·rfl
theorem Zj4 {P:Program} {x y:AV} (h:YK P x y) (hy:y.isG=true):x.isG=true:=by
 cases h with
 | gbox _ _ => rfl
 | comp h => have := Yt h; rw [W5 hy] at this; cases this
 | _ => cases hy
theorem Zl7 {P:Program} {x y:AV} (h:ZaG P x y):(∀ d o,y≠.ptr d o)∧(∀ d k,y≠.mref d k)∧∀ g ds,y≠.clo g ds:=by
 cases h with
 | agg _ _ _ => exact ⟨fun _ _ h => (by cases h), fun _ _ h => (by cases h), fun _ _ h => (by cases h)⟩
 | cell hw =>
  refine ⟨fun _ _ e=>?_,fun _ _ e=>?_,fun _ _ e=>?_⟩ <;> subst e<;>rcases Yx hw with h | ⟨_,_,_,h⟩ <;> cases h
theorem Wl {P:Program} {x y:AV} (h:YK P x y):(∀ d o,y≠.ptr d o)∧(∀ d k,y≠.mref d k)∧∀ g ds,y≠.clo g ds:=by
 cases h with
 | comp hw => exact Zl7 hw
 | _ => exact ⟨fun _ _ h => (by cases h), fun _ _ h => (by cases h), fun _ _ h => (by cases h)⟩
theorem ZeY {P:Program} {x y:AV} (h:YK P x y) {k:Nat} {e e':TypeId} {xs xs':List (List AV)} (hx:Zo x k=some (e,xs)) (hy:Zo y k=some (e',xs')):e'=e∧xs'=xs:=by
 rcases Zz hx with ⟨rfl,rfl⟩ | ⟨cs,q,rfl,rfl,hq⟩ | ⟨cs,q,rfl,rfl,hq⟩
 ·rcases Zz hy with ⟨rfl,_⟩ | ⟨_,_,_,h0,_⟩ | ⟨_,_,_,h0,_⟩
  ·cases h with
   | comp hw =>
    cases hw with
    | cell hc => exact Zcr hc
  ·cases h0
  ·cases h0
 ·rcases Zz hy with ⟨_,h0⟩ | ⟨cs',q',rfl,h0,hq'⟩ | ⟨cs',q',rfl,h0,hq'⟩
  ·cases h0
  ·cases h0
   cases h with
   | comp hw => have := Yt hw; cases this
   | box hl hp => exact Zcr (hp q _ _ hq hq')
  ·cases h with
   | comp hw => have := Yt hw; cases this
 ·rcases Zz hy with ⟨_,h0⟩ | ⟨cs',q',rfl,h0,hq'⟩ | ⟨cs',q',rfl,h0,hq'⟩
  ·cases h0
  ·cases h with
   | comp hw => have := Yt hw; cases this
  ·cases h0
   cases h with
   | comp hw => have := Yt hw; cases this
   | gbox hl hp => exact Zcr (hp q _ _ hq hq')
theorem Zfy {P:Program} {w:World} {lim:Nat→Nat} {X:Nat→Nat→Option Nat} {σ:Nat→AV} {d:Nat} {x y:AV} {v:Value} (h:ZP P w lim X σ d x v) (hw:YK P x y) :
  ∃ r:Nat→Option Nat,(∀ k,r k=X d k∨r k=none)∧(y.isB=true→r 0=X d 0)∧(∀ k,(∃ p,Zo x k=some p)→(∃ p,Zo y k=some p)→r k=X d k)∧∀ (X':Nat→Nat→Option Nat) (σ':Nat→AV) (d':Nat),X' d'=r→ZP P w lim X' σ' d' y v:=by
 cases hw with
 | dead => exact ⟨fun _ => none, fun _ => .inr rfl, fun h => (by cases h), fun k _ ⟨p, hp⟩ => (by rcases Zz (e := p.1) (xs := p.2) hp with ⟨h, _⟩ | ⟨_, _, h, _⟩ | ⟨_, _, h, _⟩ <;> cases h), fun _ _ _ _ => trivial⟩
 | comp hw =>
  have hnb:=Yt hw
  have hc:JW P w lim (X d 0) x v:=by
   cases hw with
   | agg hl hc hp => exact h
   | cell hw =>
    rcases W1 hw with hx | ⟨b,e,xs,rfl⟩
    ·cases x<;>simp [AV.isCell] at hx<;>exact h
    ·exact h
  obtain ⟨ob,h1,h4,h2⟩:=Zfu hc hw
  refine ⟨fun k=>if k=0 then ob else none,fun k=>?_,fun h=>by (rw [hnb] at h;cases h),fun k ⟨p,hp⟩ _=>?_,fun X' σ' d' hX=>?_⟩
  ·dsimp only
   split
   ·rename_i hk;subst hk;exact h1
   ·exact .inr rfl
  ·rcases Zz (e:=p.1) (xs:=p.2) hp with ⟨hx,rfl⟩ | ⟨cs,q,hx,_⟩ | ⟨cs,q,hx,_⟩
   case inr.inr=>
    subst hx
    cases hw with
    | cell hw => rcases W1 hw with h | ⟨_, _, _, h⟩ <;> cases h
   ·exact h4 ⟨_,_,_,hx⟩
   ·subst hx
    cases hw with
    | cell hw => rcases W1 hw with h | ⟨_, _, _, h⟩ <;> cases h
  ·have h3:X' d' 0=ob:=by rw [hX];rfl
   cases hw with
   | agg hl hc hp => exact h2
   | cell hw =>
    rcases Yx hw with hy | ⟨b,e,xs,rfl⟩
    ·cases y<;>simp [AV.isCell] at hy<;>exact h2
    ·show ZQ P w lim b e xs v (X' d' 0)
     rw [h3]
     exact h2
 | @tuple cs cs' hl hp =>
  obtain ⟨us,rfl,h2,h3⟩:=h
  obtain ⟨r,g1,_,g2⟩:=Zaj (Y:=fun i=>X d (i+1)) hl h3 hp
  refine ⟨fun k=>match k with | 0=>none | k+1=>r k,fun k=>?_,fun h=>(by cases h),fun k ⟨p,hp⟩ _=>(by rcases Zz (e:=p.1) (xs:=p.2) hp with ⟨h,_⟩ | ⟨_,_,h,_⟩ | ⟨_,_,h,_⟩ <;> cases h),fun X' σ' d' hX=>?_⟩
  ·cases k with
   | zero => exact .inr rfl
   | succ k => exact g1 k
  ·refine ⟨us,rfl,by rw [h2,hl],fun i c u hc hu=>?_⟩
   have:X' d' (i+1)=r i:=by rw [hX]
   rw [this]
   exact g2 i c u hc hu
 | @box cs cs' hl hp =>
  obtain ⟨r,g1,g2,g4,g3⟩:=Zdf h hl hp
  exact ⟨r,g1,fun _=>g2,fun k hk _=>g4 k hk,fun X' σ' d' hX=>by (show ZI P w lim (X' d') cs' v;rw [hX];exact g3)⟩
 | @gbox cs cs' hl hp =>
  obtain ⟨v',h⟩:=h
  obtain ⟨r,g1,g2,g4,g3⟩:=Zdf h hl hp
  exact ⟨r,g1,fun _=>g2,fun k hk _=>g4 k (by cases k<;>exact hk),fun X' σ' d' hX=>⟨v',by rw [hX];exact g3⟩⟩
 | @aggo cs cs' hl hp =>
  obtain ⟨us,rfl,h2,h4,h3⟩:=h
  obtain ⟨r,g1,_,g2⟩:=Zaj (Y:=fun i=>X d (i+1)) hl h3 (fun i c c' h1 h2=>.cell (hp i c c' h1 h2))
  refine ⟨fun k=>match k with | 0=>none | k+1=>r k,fun k=>?_,fun h=>(by cases h),fun k ⟨p,hp⟩ _=>(by rcases Zz (e:=p.1) (xs:=p.2) hp with ⟨h,_⟩ | ⟨_,_,h,_⟩ | ⟨_,_,h,_⟩ <;> cases h),fun X' σ' d' hX=>?_⟩
  ·cases k with
   | zero => exact .inr rfl
   | succ k => exact g1 k
  ·refine ⟨us,rfl,by rw [h2,hl],⟨fun c hc=>?_,h4.2⟩,fun i c u hc hu=>?_⟩
   ·obtain ⟨i,hi⟩:=List.mem_iff_getElem?.1 hc
    obtain ⟨c0,hc0⟩:∃ c0,cs[i]? = some c0:=⟨_,List.getElem?_eq_getElem (by rw [hl];exact (List.getElem?_eq_some_iff.1 hi).1)⟩
    exact (Yx (hp i c0 c hc0 hi)).imp id .inl
   ·have:X' d' (i+1)=r i:=by rw [hX]
    rw [this]
    exact g2 i c u hc hu
theorem ZN.wider {w:World} {lim:Nat→Nat} {w':World} {lim':Nat→Nat} {S S':Nat→Prop} (h:ZN w lim w' lim' S) (hs:∀ b,S b→S' b):ZN w lim w' lim' S':=
 ⟨h.os,h.tape,h.output,h.size,h.frz,fun b hb hn=>h.blk b hb fun hS=>hn (hs b hS),h.ext⟩
def Zrr (bs:List AV) (a b:AV):Prop:=∃ g ds,a = .clo g ds∧b = .clo g ds∧∀ d∈ds,(ZM bs d).isB=true
def ZpB (bs:List AV) (a b:AV):Prop:=∃ j q,a = .mref j q∧b = .mref j q∧∃ p,Zo (ZM bs j) q=some p
def K1 (P:Program) (aZ bs:List AV):Prop:=aZ.length=bs.length∧∀ (i:Nat) (a b:AV),aZ[i]? = some a→bs[i]? = some b→YK P a b∨Zrr bs a b∨ZpB bs a b
theorem WD {P:Program} {aZ bs:List AV} (h:K1 P aZ bs) (i:Nat):YK P (ZM aZ i) (ZM bs i)∨Zrr bs (ZM aZ i) (ZM bs i)∨ZpB bs (ZM aZ i) (ZM bs i):=by
 cases hb:bs[i]? with
 | none =>
  have:ZM bs i = .dead:=by simp [ZM,hb]
  rw [this]
  exact .inl .dead
 | some b =>
  obtain ⟨a,ha⟩:∃ a,aZ[i]? = some a:=⟨_,List.getElem?_eq_getElem (by rw [h.1];exact (List.getElem?_eq_some_iff.1 hb).1)⟩
  have h1:ZM aZ i=a:=by simp [ZM,ha]
  have h2:ZM bs i=b:=by simp [ZM,hb]
  rw [h1,h2]
  exact h.2 i a b ha hb
theorem Zee {P:Program} {aZ bs:List AV} (h:K1 P aZ bs) {i:Nat} (hi:(ZM bs i).isG=true):(ZM aZ i).isG=true:=by
 rcases WD h i with h1 | ⟨g,ds,_,h1,_⟩ | ⟨_,_,_,h1,_⟩
 ·exact Zj4 h1 hi
 ·rw [h1] at hi;cases hi
 ·rw [h1] at hi;cases hi
theorem ZfP:∀ (aZ bs:List AV),aZ.length=bs.length→(∀ (i:Nat) (a b:AV),aZ[i]? = some a→bs[i]? = some b→b.isG=true→a.isG=true)→bs.countP AV.isG≤aZ.countP AV.isG
 | [], [], _, _ => Nat.le_refl _
 | [], _ :: _, h, _ => by simp at h
 | _ :: _, [], h, _ => by simp at h
 | a :: aZ, b :: bs, hl, h => by
  have ih:=ZfP aZ bs (by simpa using hl) fun i x y hx hy=>h (i+1) x y (by simpa using hx) (by simpa using hy)
  have h0:=h 0 a b rfl rfl
  rw [List.countP_cons,List.countP_cons]
  by_cases hb:b.isG=true
  ·rw [if_pos hb,if_pos (h0 hb)];omega
  ·rw [if_neg hb];split<;>omega
theorem ZeT {P:Program} {aZ bs:List AV} (h:K1 P aZ bs):bs.countP AV.isG≤aZ.countP AV.isG:=
 ZfP aZ bs h.1 fun i a b ha hb hg=>by
  have h1:ZM aZ i=a:=by simp [ZM,ha]
  have h2:ZM bs i=b:=by simp [ZM,hb]
  have:=Zee h (i:=i) (by rw [h2];exact hg)
  rwa [h1] at this
theorem Zc5 {P:Program} {w:World} {lim:Nat→Nat} {X:Nat→Nat→Option Nat} {aZ bs:List AV} {vs:Nat→Value} (h:∀ i,ZP P w lim X (ZM aZ) i (ZM aZ i) (vs i)) (hw:K1 P aZ bs) :
  ∃ X':Nat→Nat→Option Nat,(∀ i k,X' i k=X i k∨X' i k=none)∧(∀ i,(ZM bs i).isB=true→X' i 0=X i 0)∧(∀ i,ZP P w lim X' (ZM bs) i (ZM bs i) (vs i))∧∀ i,aZ.length≤i→X' i=X i:=by
 have key:∀ i,∃ r:Nat→Option Nat,(aZ.length≤i→r=X i)∧(∀ k,r k=X i k∨r k=none)∧((ZM bs i).isB=true→r 0=X i 0)∧((∀ g ds,ZM bs i≠.clo g ds)→(∀ j q,ZM bs i≠.mref j q)→∀ X':Nat→Nat→Option Nat,X' i=r→ZP P w lim X' (ZM bs) i (ZM bs i) (vs i))∧
   ∀ k e xs e' xs',Zo (ZM aZ i) k=some (e,xs)→Zo (ZM bs i) k=some (e',xs')→e'=e∧xs'=xs∧r k=X i k:=by
  intro i
  by_cases hli:aZ.length≤i
  ·have hdb:ZM bs i = .dead:=by
    have:bs[i]? = none:=List.getElem?_eq_none (by rw [← hw.1];exact hli)
    simp [ZM,this]
   exact ⟨X i,fun _=>rfl,fun _=>.inl rfl,fun _=>rfl,fun _ _ X' _=>by rw [hdb];trivial,fun k e xs e' xs' _ hy=>by (rw [hdb] at hy;cases hy)⟩
  rcases WD hw i with h1 | ⟨g,ds,_,h1,_⟩ | ⟨_,_,_,h1,_⟩
  ·obtain ⟨r,g1,g2,g4,g3⟩:=Zfy (h i) h1
   refine ⟨r,fun h=>(hli h).elim,g1,g2,fun _ _ X' hX=>g3 X' _ _ hX,fun k e xs e' xs' hx hy=>?_⟩
   obtain ⟨h2,h3⟩:=ZeY h1 hx hy
   exact ⟨h2,h3,g4 k ⟨_,hx⟩ ⟨_,hy⟩⟩
  ·exact ⟨fun _=>none,fun h=>(hli h).elim,fun _=>.inr rfl,fun hb=>by (rw [h1] at hb;cases hb),fun hn _=>(hn g ds h1).elim,fun k e xs e' xs' _ hy=>by (rw [h1] at hy;cases hy)⟩
  ·exact ⟨fun _=>none,fun h=>(hli h).elim,fun _=>.inr rfl,fun hb=>by (rw [h1] at hb;cases hb),fun _ hn=>(hn _ _ h1).elim,fun k e xs e' xs' _ hy=>by (rw [h1] at hy;cases hy)⟩
 obtain ⟨X',hX⟩:=Classical.axiomOfChoice key
 refine ⟨X',fun i=>(hX i).2.1,fun i=>(hX i).2.2.1,fun i=>?_,fun i=>(hX i).1⟩
 rcases WD hw i with h1 | ⟨g',ds',h0,h1,h2⟩ | ⟨j,q,h0,h1,p,h2⟩
 ·exact (hX i).2.2.2.1 (fun g ds e=>(Wl h1).2.2 g ds e) (fun j q e=>(Wl h1).2.1 j q e) X' rfl
 ·have hi:=h i
  rw [h0] at hi
  rw [h1]
  obtain ⟨bs',m1,m2,m3⟩:=hi
  refine ⟨bs',m1,m2,fun k d b hd hb=>?_⟩
  have hB:=h2 d (List.mem_of_getElem? hd)
  exact ⟨((hX d).2.2.1 hB).trans (m3 k d b hd hb).1,hB⟩
 ·have hi:=h i
  rw [h0] at hi
  rw [h1]
  obtain ⟨e,xs,m1,m2⟩:=hi
  obtain ⟨e',xs'⟩:=p
  obtain ⟨n1,n2,n3⟩:=(hX j).2.2.2.2 q e xs e' xs' m1 h2
  subst n1
  subst n2
  exact ⟨e',xs',h2,by rw [n3];exact m2⟩
theorem ZeR {X X':Nat→Nat→Option Nat} (h:ZkF X) (hX:∀ i k,X' i k=X i k∨X' i k=none):ZkF X':=by
 intro d k d' k' b h1 h2
 rcases hX d k with e1 | e1
 ·rcases hX d' k' with e2 | e2
  ·exact h d k d' k' b (e1.symm.trans h1) (e2.symm.trans h2)
  ·rw [e2] at h2;cases h2
 ·rw [e1] at h1;cases h1
theorem Zbg {P:Program} {aZ bs:List AV} (h:K1 P aZ bs) {i k:Nat} {e:TypeId} {xs:List (List AV)} (hy:ZX (ZM bs i) k=some (e,xs)) (hd:Zg P e=true):ZX (ZM aZ i) k=some (e,xs):=by
 rcases WD h i with h1 | ⟨g,ds,_,h1,_⟩ | ⟨_,_,_,h1,_⟩
 ·exact Zc3 h1 hy hd
 ·rw [h1] at hy;cases k<;>cases hy
 ·rw [h1] at hy;cases k<;>cases hy
theorem Zf2 {aZ:List AV} {x:AV} {i:Nat} (h:i < aZ.length):ZM (aZ++[x]) i=ZM aZ i:=by
 simp only [ZM];rw [List.getElem?_append_left h]
theorem Zfq {aZ:List AV} {x:AV} : ZM (aZ++[x]) aZ.length=x:=by simp [ZM]
theorem ZgT {P:Program} {res res':AV} {outs outs':List AV} (ho:K1 P (outs++[res]) (outs'++[res'])) (h:V5 P outs):V5 P outs':=by
 have hll:outs.length=outs'.length:=by have:=ho.1;simpa using this
 intro i k e xs hi
 cases hd:Zg P e with
 | false => rfl
 | true =>
  have hlt:i < outs'.length:=by
   rcases Nat.lt_or_ge i outs'.length with hlt | hge
   ·exact hlt
   ·have:outs'[i]? = none:=List.getElem?_eq_none hge
    simp only [ZM,this,Option.getD_none] at hi
    cases k<;>cases hi
  rw [← Zf2 (x:=res') hlt] at hi
  have h1:=Zbg ho hi hd
  rw [Zf2 (by omega)] at h1
  rw [h i k e xs h1] at hd
  exact hd.symm
theorem JM.stronger {P:Program} {f:FuncId} {aZ bs:List AV} {res:AV} {outs:List AV} (h:JM P f bs res outs) (ha:K1 P aZ bs):JM P f aZ res outs:=by
 refine ⟨h.1,by rw [ha.1];exact h.2.1,fun w lim X cargs hcl hrel hdist hsize hfar=>?_⟩
 obtain ⟨X2,g1,g3,g2,g4⟩:=Zc5 hrel ha
 have hX2:∀ i k b,X2 i k=some b→X i k=some b:=by
  intro i k b hb
  rcases g1 i k with e | e
  ·rw [← e];exact hb
  ·rw [e] at hb;cases hb
 refine (h.2.2 w lim X2 cargs (by have:=ZeT ha;have:=ha.1;omega) g2 (ZeR hdist g1) (fun i k b hb=>hsize i k b (hX2 i k b hb)) fun i hi k=>by rw [g4 i (by rw [ha.1];exact hi)];exact hfar i (by rw [ha.1];exact hi) k).mono ?_
 rintro e w' ⟨v,lim',X',he,hst,hol,hr,hd,hin,hgh,hnl,hnr⟩
 refine ⟨v,lim',X',he,hst.wider fun b ⟨i,k,hb⟩=>⟨i,k,hX2 i k b hb⟩,by rw [hol,ha.1],fun i=>by (rw [ha.1];exact hr i),hd,fun i k b hb=>?_,fun i hi=>?_,hnl,by rw [ha.1];exact hnr⟩
 ·obtain ⟨m1,m2⟩:=hin i k b hb
  exact ⟨m1,m2.imp (fun ⟨i,k,h⟩=>⟨i,k,hX2 i k b h⟩) id⟩
 ·obtain ⟨m1,m2⟩:=hgh i hi
  exact ⟨Zee ha m1,by rw [m2,g3 i (W5 m1)]⟩
end Go.AM
end

section
namespace Go.AM
def Zhs (ρ:Nat→V) (n:Nat) (l:List V):Prop:=∀ (j:Nat) (v:V),l[j]? = some v→ρ (n+j)=v
theorem Zhs.tail {ρ:Nat→V} {n:Nat} {v:V} {l:List V} (h:Zhs ρ n (v::l)):ρ n=v∧Zhs ρ (n+1) l:=
 ⟨h 0 v rfl,fun j u hj=>by rw [show n+1+j=n+(j+1) by omega];exact h (j+1) u (by simpa using hj)⟩
theorem Zhs.app {ρ:Nat→V} {n:Nat} {l l':List V} (h:Zhs ρ n (l++l')):Zhs ρ n l∧Zhs ρ (n+l.length) l':=
  ⟨fun j v hj=>h j v (by rw [List.getElem?_append_left (List.getElem?_eq_some_iff.1 hj).1];exact hj),
   fun j v hj=>by
    rw [show n+l.length+j=n+(l.length+j) by omega]
    exact h _ v (by rw [List.getElem?_append_right (by omega)];simpa using hj)⟩
theorem Zhs.bind (ρ:Nat→V) (n:Nat) (vs:List V):Zhs (bind ρ n vs) n vs:=by
 intro j v hj
 unfold AM.bind
 rw [if_neg (by omega),show n+j-n=j by omega,hj]
 rfl
def vAt (us:List V) (j:Nat):V:=(us[j]?).getD (.i 0)
def Y9:Sh→V→AV
 | .int k, v => .val (.int k v.int)
 | .bool, v => .val (.bool v.bool)
 | .str, v => .val (.string v.str)
 | .slice s, v => .slice false s v.list
 | .own x e, v => .own x e v.list
def Z3:List Sh→List V→Nat→List AV
 | [], _, _ => []
 | s :: ss, us, j => Y9 s (vAt us j) :: Z3 ss us (j + 1)
theorem Zig {s:Sh} (h:s.imm=true) (v:V):(Y9 s v).isCell=true:=by cases s<;>simp [Sh.imm] at h<;>rfl
theorem Vh (pre post:List V) (v:V):vAt (pre++v::post) pre.length=v:=by simp [vAt]
theorem Jk:∀ (l:List Sh) (us:List V) (j:Nat),(Z3 l us j).length=l.length
 | [], _, _ => rfl
 | _ :: ss, us, j => by simp [Z3, Jk ss us (j + 1)]
theorem KX:∀ (l:List Sh) (us:List V) (j:Nat),l.all Sh.imm=true→∀ c∈Z3 l us j,c.isCell=true
 | [], _, _, _ => by simp [Z3]
 | s :: ss, us, j, h => by
  rw [List.all_cons,Bool.and_eq_true] at h
  intro c hc
  rcases List.mem_cons.1 hc with rfl | hc
  ·exact Zig h.1 _
  ·exact KX ss us (j+1) h.2 c hc
section
variable {P:Program} {ρ:Nat→V}
theorem Zd4 {s:Sh} {x:SC} {v:VE} (h:Zni s x=some v):Yr P (x.den ρ) (Y9 s (v.den ρ)):=by
 unfold Zni at h
 split at h
 ·split at h
  ·simp only [Option.some.injEq] at h;subst h;rename_i hk;subst hk;exact .same (.inl rfl)
  ·cases h
 ·simp only [Option.some.injEq] at h;subst h;exact .same (.inl rfl)
 ·simp only [Option.some.injEq] at h;subst h;exact .same (.inl rfl)
 ·split at h
  ·simp only [Option.some.injEq] at h;subst h;rename_i hk;subst hk;exact .imm
  ·split at h
   ·simp only [Option.some.injEq] at h;subst h;exact .immN
   ·cases h
 ·split at h
  ·split at h
   ·rename_i hlt
    simp only [Option.some.injEq] at h;subst h;exact .give hlt
   ·cases h
  ·cases h
 ·cases h
theorem ZfY {l:LE} (h:l.isNil=true):l = .nil:=by cases l<;>first | rfl | cases h
theorem ZbZ {s:Sh} {x:Bool} {e:TypeId} {l:LE} {v:VE} (h:Zbh P s x e l=some v):Yr P (.own x e (l.den ρ)) (Y9 s (v.den ρ)):=by
 unfold Zbh at h
 split at h
 ·split at h
  ·simp only [Option.some.injEq] at h
   subst h
   rename_i hk
   obtain ⟨rfl,hk⟩:=hk
   rcases hk with rfl | hk
   ·exact .same (.inr ⟨_,_,_,rfl⟩)
   ·have:=ZfY hk.1
    subst this
    exact .ownN hk.2
  ·cases h
 ·split at h
  ·simp only [Option.some.injEq] at h
   subst h
   rename_i hk
   obtain ⟨rfl,hk⟩:=hk
   rcases hk with rfl | hk
   ·exact .own
   ·have:=ZfY hk
    subst this
    exact .ownZ
  ·cases h
 ·cases h
theorem ZdE:∀ (l:List Sh) (cs:List SC) (vs:List VE),Zfn l cs=some vs→vs.length=l.length∧cs.length=l.length∧∀ pre post:List V,
  ∀ (i:Nat) (c c':AV),(cs.map (SC.den ρ))[i]? = some c→(Z3 l (pre++vs.map (VE.den ρ)++post) pre.length)[i]? = some c'→Yr P c c'
 | [], [], vs, h => by
  simp only [Zfn,Option.some.injEq] at h
  subst h
  exact ⟨rfl,rfl,fun _ _ i c c' h=>by simp at h⟩
 | [], _ :: _, _, h => by simp [Zfn] at h
 | _ :: _, [], _, h => by simp [Zfn] at h
 | s :: ss, c :: cs, us, h => by
  simp only [Zfn] at h
  split at h
  ·rename_i v vs hv hvs
   simp only [Option.some.injEq] at h
   subst h
   obtain ⟨h1,h2,h3⟩:=ZdE ss cs vs hvs
   refine ⟨by simp [h1],by simp [h2],fun pre post i c1 c2 hc1 hc2=>?_⟩
   cases i with
   | zero =>
    simp only [Z3,List.map_cons,List.getElem?_cons_zero,Option.some.injEq] at hc1 hc2
    subst hc1
    subst hc2
    rw [List.append_assoc,List.cons_append,Vh]
    exact Zd4 hv
   | succ i =>
    have:=h3 (pre++[v.den ρ]) post i c1 c2 (by simpa using hc1)
    simp only [List.append_assoc,List.cons_append,List.nil_append,List.length_append,List.length_cons,List.length_nil] at this
    simp only [Z3,List.map_cons,List.getElem?_cons_succ,List.append_assoc,List.cons_append] at hc2
    exact this hc2
  ·cases h
theorem ZoN {s:Sh} {x:BC} {v:VE} (h:Zq0 P s x=some v):Yr P (x.den ρ) (Y9 s (v.den ρ)):=by
 unfold Zq0 at h
 split at h
 ·exact Zd4 h
 ·exact ZbZ h
 ·cases h
theorem KS:∀ (l:List Sh) (cs:List BC) (vs:List VE),ZaD P l cs=some vs→vs.length=l.length∧cs.length=l.length∧∀ pre post:List V,
  ∀ (i:Nat) (c c':AV),(cs.map (BC.den ρ))[i]? = some c→(Z3 l (pre++vs.map (VE.den ρ)++post) pre.length)[i]? = some c'→Yr P c c'
 | [], [], vs, h => by
  simp only [ZaD,Option.some.injEq] at h
  subst h
  exact ⟨rfl,rfl,fun _ _ i c c' h=>by simp at h⟩
 | [], _ :: _, _, h => by simp [ZaD] at h
 | _ :: _, [], _, h => by simp [ZaD] at h
 | s :: ss, c :: cs, us, h => by
  simp only [ZaD] at h
  split at h
  ·rename_i v vs hv hvs
   simp only [Option.some.injEq] at h
   subst h
   obtain ⟨h1,h2,h3⟩:=KS ss cs vs hvs
   refine ⟨by simp [h1],by simp [h2],fun pre post i c1 c2 hc1 hc2=>?_⟩
   cases i with
   | zero =>
    simp only [Z3,List.map_cons,List.getElem?_cons_zero,Option.some.injEq] at hc1 hc2
    subst hc1
    subst hc2
    rw [List.append_assoc,List.cons_append,Vh]
    exact ZoN hv
   | succ i =>
    have:=h3 (pre++[v.den ρ]) post i c1 c2 (by simpa using hc1)
    simp only [List.append_assoc,List.cons_append,List.nil_append,List.length_append,List.length_cons,List.length_nil] at this
    simp only [Z3,List.map_cons,List.getElem?_cons_succ,List.append_assoc,List.cons_append] at hc2
    exact this hc2
  ·cases h
end
theorem ZiI {s:Sh} (hs:s.imm=true) {n:Nat} {ρ:Nat→V} {v:V} (h:ρ n=v):(Jg s n).den ρ=Y9 s v:=by
 subst h
 cases s<;>simp [Sh.imm] at hs<;>rfl
theorem Zcn:∀ (l:List Sh) (n m:Nat) (ρ:Nat→V) (us:List V),l.all Sh.imm=true→(∀ j,j < l.length→ρ (n+j)=vAt us (m+j))→(ZB l n).map (SC.den ρ)=Z3 l us m
 | [], _, _, _, _, _, _ => rfl
 | s :: ss, n, m, ρ, us, hi, h => by
  rw [List.all_cons,Bool.and_eq_true] at hi
  rw [ZB,List.map_cons,Z3,ZiI hi.1 (show ρ n=vAt us m from h 0 (by simp)),Zcn ss (n+1) (m+1) ρ us hi.2 fun j hj=>by
   have:=h (j+1) (by simp;omega)
   rw [show n+1+j=n+(j+1) by omega,show m+1+j=m+(j+1) by omega]
   exact this]
theorem Zlx {s:Sh} {n:Nat} {ρ:Nat→V} {v:V} (h:ρ n=v):(Zoh s n).den ρ=Y9 s v:=by
 subst h
 cases s<;>rfl
theorem WY:∀ (l:List Sh) (n m:Nat) (ρ:Nat→V) (us:List V),(∀ j,j < l.length→ρ (n+j)=vAt us (m+j))→(Ka l n).map (BC.den ρ)=Z3 l us m
 | [], _, _, _, _, _ => rfl
 | s :: ss, n, m, ρ, us, h => by
  rw [Ka,List.map_cons,Z3,Zlx (show ρ n=vAt us m from h 0 (by simp)),WY ss (n+1) (m+1) ρ us fun j hj=>by
   have:=h (j+1) (by simp;omega)
   rw [show n+1+j=n+(j+1) by omega,show m+1+j=m+(j+1) by omega]
   exact this]
def VP (h:HP) (us:List V) (j:Nat):AV:=
 match h with
 | .c s => Y9 s (vAt us j)
 | .agg l => .agg (Z3 l us j)
 | .box l => .box (Z3 l us j)
 | .mref d k => .mref d k
 | .ptr d o => .ptr d o
 | .dead => .dead
 | .gbox l => .gbox (Z3 l us j)
 | .clo g ds => .clo g ds
def HP.fine:HP→Bool
 | .agg l => l.all Sh.imm
 | _ => true
theorem ZkC {h:HP} (hf:h.fine=true) {n m:Nat} {ρ:Nat→V} {us:List V} (hρ:∀ j,j < h.n→ρ (n+j)=vAt us (m+j)):(Zlp h n).den ρ=VP h us m:=by
 cases h with
 | c s =>
  have h0:=hρ 0 (Nat.zero_lt_one)
  simp only [Nat.add_zero] at h0
  cases s<;>simp only [Zlp,VP,SV.den,Jg,SC.den,IE.den,BE.den,SE.den,LE.den,h0,Y9]
 | agg l => simp only [Zlp, VP, SV.den, Zcn l n m ρ us hf hρ]
 | box l => simp only [Zlp, VP, SV.den, WY l n m ρ us hρ]
 | gbox l => simp only [Zlp, VP, SV.den, WY l n m ρ us hρ]
 | clo g ds => rfl
 | mref d k => rfl
 | ptr d o => rfl
 | dead => rfl
def Zq7 (h:HP) (x:AV):Prop:=(∃ d o,h = .ptr d o∧x = .ptr d o)∨(∃ d k,h = .mref d k∧x = .mref d k)∨∃ g ds,h = .clo g ds∧x = .clo g ds
theorem Zkj {P:Program} {ρ:Nat→V} {h:HP} {x:SV} {vs:List VE} (hv:Zhq P h x=some vs):vs.length=h.n∧h.fine=true∧∀ pre post:List V,
  Zq7 h (x.den ρ)∨YK P (x.den ρ) (VP h (pre++vs.map (VE.den ρ)++post) pre.length):=by
 unfold Zhq at hv
 split at hv
 ·cases hd:Zni _ _ with
  | none => rw [hd] at hv; cases hv
  | some v =>
   rw [hd] at hv
   simp only [Option.map_some,Option.some.injEq] at hv
   subst hv
   refine ⟨rfl,rfl,fun pre post=>.inr ?_⟩
   simp only [VP,List.map_cons,List.map_nil,List.append_assoc,List.cons_append,List.nil_append,Vh]
   exact .comp (.cell (Zd4 hd))
 ·cases hd:Zbh P _ _ _ _ with
  | none => rw [hd] at hv; cases hv
  | some v =>
   rw [hd] at hv
   simp only [Option.map_some,Option.some.injEq] at hv
   subst hv
   refine ⟨rfl,rfl,fun pre post=>.inr ?_⟩
   simp only [VP,List.map_cons,List.map_nil,List.append_assoc,List.cons_append,List.nil_append,Vh]
   exact .comp (.cell (ZbZ hd))
 ·split at hv
  ·rename_i hi
   obtain ⟨h1,h2,h3⟩:=ZdE (P:=P) (ρ:=ρ) _ _ _ hv
   exact ⟨h1,hi,fun pre post=>.inr (.comp (.agg (by rw [List.length_map,h2,Jk]) (KX _ _ _ hi) (h3 pre post)))⟩
  ·cases hv
 ·obtain ⟨h1,h2,h3⟩:=KS (P:=P) (ρ:=ρ) _ _ _ hv
  exact ⟨h1,rfl,fun pre post=>.inr (.box (by rw [List.length_map,h2,Jk]) (h3 pre post))⟩
 ·split at hv
  ·rename_i hh
   simp only [Option.some.injEq] at hv
   subst hv
   obtain ⟨rfl,rfl⟩:=hh
   exact ⟨rfl,rfl,fun _ _=>.inl (.inr (.inl ⟨_,_,rfl,rfl⟩))⟩
  ·cases hv
 ·split at hv
  ·rename_i hh
   simp only [Option.some.injEq] at hv
   subst hv
   obtain ⟨rfl,rfl⟩:=hh
   exact ⟨rfl,rfl,fun _ _=>.inl (.inl ⟨_,_,rfl,rfl⟩)⟩
  ·cases hv
 ·simp only [Option.some.injEq] at hv
  subst hv
  exact ⟨rfl,rfl,fun _ _=>.inr .dead⟩
 ·obtain ⟨h1,h2,h3⟩:=KS (P:=P) (ρ:=ρ) _ _ _ hv
  exact ⟨h1,rfl,fun pre post=>.inr (.gbox (by rw [List.length_map,h2,Jk]) (h3 pre post))⟩
 ·split at hv
  ·rename_i hh
   simp only [Option.some.injEq] at hv
   subst hv
   obtain ⟨rfl,rfl⟩:=hh
   exact ⟨rfl,rfl,fun _ _=>.inl (.inr (.inr ⟨_,_,rfl,rfl⟩))⟩
  ·cases hv
 ·cases hv
theorem KV {P:Program} {g:Nat→SV} {ρ:Nat→V} : ∀ (hs:List (Nat×HP)) (n:Nat) (ves:List VE) (pre:List V),YU P g hs=some ves→pre.length=n→
  (Z2 hs n).2=n+ves.length∧(Z2 hs n).1.map (·.1)=hs.map (·.1)∧∀ u∈(Z2 hs n).1,∃ h,(u.1,h)∈hs∧∃ m,u.2=Zlp h m∧m+h.n≤n+ves.length∧h.fine=true∧
   ∀ post:List V,Zq7 h ((g u.1).den ρ)∨YK P ((g u.1).den ρ) (VP h (pre++ves.map (VE.den ρ)++post) m)
 | [], n, ves, pre, h, hp => by
  simp only [YU,Option.some.injEq] at h
  subst h
  exact ⟨rfl,rfl,by simp [Z2]⟩
 | p :: r, n, ves, pre, h, hp => by
  simp only [YU] at h
  split at h
  ·rename_i v vs hv hvs
   simp only [Option.some.injEq] at h
   subst h
   obtain ⟨h1,h2,h3⟩:=Zkj (P:=P) (ρ:=ρ) hv
   obtain ⟨g1,g2,g3⟩:=KV r (n+p.2.n) vs (pre++v.map (VE.den ρ)) hvs (by simp [hp,h1])
   refine ⟨by simp only [Z2,g1,List.length_append,h1];omega,by simp only [Z2,List.map_cons,g2],fun u hu=>?_⟩
   simp only [Z2,List.mem_cons] at hu
   rcases hu with rfl | hu
   ·refine ⟨p.2,by simp,n,rfl,by simp only [List.length_append,h1];omega,h2,fun post=>?_⟩
    have:=h3 pre (vs.map (VE.den ρ)++post)
    rw [hp] at this
    simpa [List.append_assoc] using this
   ·obtain ⟨h,k1,m,k2,k3,k4,k5⟩:=g3 u hu
    refine ⟨h,by simp [k1],m,k2,by simp only [List.length_append,h1];omega,k4,fun post=>?_⟩
    have:=k5 post
    simpa [List.append_assoc] using this
  ·cases h
theorem ZcW:∀ (hs:List (Nat×HP)) (n:Nat),n≤(Z2 hs n).2∧∀ u∈(Z2 hs n).1,u.2.bd (Z2 hs n).2
 | [], n => ⟨Nat.le_refl _, by simp [Z2]⟩
 | p :: r, n => by
  obtain ⟨h1,h2⟩:=ZcW r (n+p.2.n)
  refine ⟨by simp only [Z2];omega,fun u hu=>?_⟩
  simp only [Z2,List.mem_cons] at hu
  rcases hu with rfl | hu
  ·have hb:(Zlp p.2 n).bd (n+p.2.n):=by
    cases hp:p.2 with
    | c s => cases s <;> exact Nat.lt_succ_self n
    | agg l => exact Jq l n
    | box l => exact JS l n
    | mref d k => trivial
    | ptr d o => trivial
    | dead => trivial
    | gbox l => exact JS l n
    | clo g ds => trivial
   exact SV.bd_mono (by simpa [Z2] using h1) _ hb
  ·exact h2 u hu
def ZnL (P:Program) (σ σ':Nat→AV) (d:Nat):Prop:=
 YK P (σ d) (σ' d)∨(∃ d' o,σ d = .ptr d' o∧σ' d = .ptr d' o∧(∃ cs,σ' d' = .box cs))∨(∃ d' k,σ d = .mref d' k∧σ' d = .mref d' k∧∃ p,Zo (σ' d') k=some p)∨
  ∃ g ds,σ d = .clo g ds∧σ' d = .clo g ds∧∀ d'∈ds,(σ' d').isB=true
theorem Zir {P:Program} {x:AV} {e:TypeId} {xs:List (List AV)} (h:YK P x (.own true e xs)):x = .own true e xs∨xs = []:=by
 cases h with
 | comp h =>
  cases h with
  | cell h =>
   cases h with
   | same _ => exact .inl rfl
   | ownN _ => exact .inr rfl
   | give _ => exact .inr rfl
theorem Sim.head {c:Ctx} {σ σ':Nat→AV} {tm:Array Value} {w:World} {lim:Nat→Nat} {X:Nat→Nat→Option Nat} (h:Sim c σ tm w lim X) (hw:∀ d,ZnL c.P σ σ' d) (hout:∀ d,c.nt≤d→σ' d = .dead∨(σ' d).isG=true)
  (hpin:∀ d v,c.pin d=some v→∃ cs,σ' d = .box cs) (hgpin:∀ d b,c.gpin d=some b→(σ' d).isG=true):∃ X',Sim c σ' tm w lim X':=by
 have hG:∀ d,(σ' d).isG=true→(σ d).isG=true:=by
  intro d hd
  rcases hw d with hs | ⟨d',o,_,h2,_⟩ | ⟨d',k,_,h2,_⟩ | ⟨g,ds,_,h2,_⟩
  ·exact Zj4 hs hd
  ·rw [h2] at hd;cases hd
  ·rw [h2] at hd;cases hd
  ·rw [h2] at hd;cases hd
 have hfar:∀ d,ngN≤d→σ' d = .dead:=by
  intro d hd
  rcases hout d (Nat.le_trans h.ntN hd) with h1 | h1
  ·exact h1
  ·have:=hG d h1
   rw [h.far d hd] at this
   cases this
 have key:∀ d,∃ r:Nat→Option Nat,(ngN≤d→r=X d)∧(∀ k,r k=X d k∨r k=none)∧((σ' d).isB=true→r 0=X d 0)∧(∀ k,(∃ p,Zo (σ d) k=some p)→(∃ p,Zo (σ' d) k=some p)→r k=X d k)∧
   (YK c.P (σ d) (σ' d)→∀ X':Nat→Nat→Option Nat,X' d=r→ZP c.P w lim X' σ' d (σ' d) (tm.getD d undef))∧(∀ e xs,σ d = .own true e xs→σ' d = .own true e xs→r=X d):=by
  intro d
  have hd:=h.rel d
  by_cases hdf:ngN≤d
  ·exact ⟨X d,fun _=>rfl,fun _=>.inl rfl,fun _=>rfl,fun _ _ _=>rfl,fun _ X' _=>by rw [hfar d hdf];trivial,fun _ _ _ _=>rfl⟩
  by_cases hsame:∃ e xs,σ d = .own true e xs∧σ' d = .own true e xs
  ·obtain ⟨e,xs,h1,h2⟩:=hsame
   refine ⟨X d,fun _=>rfl,fun _=>.inl rfl,fun _=>rfl,fun _ _ _=>rfl,fun _ X' hX=>?_,fun _ _ _ _=>rfl⟩
   rw [h1] at hd
   rw [h2]
   show ZQ c.P w lim true e xs _ (X' d 0)
   rw [hX]
   exact hd
  have hsm:∀ {r:Nat→Option Nat} (e:TypeId) (xs:List (List AV)),σ d = .own true e xs→σ' d = .own true e xs→r=X d:=fun e xs h1 h2=>(hsame ⟨e,xs,h1,h2⟩).elim
  have hno:∀ {y:AV},σ d=y→(∀ k,Zo y k=none)→∀ k,(∃ p,Zo (σ d) k=some p)→(∃ p,Zo (σ' d) k=some p)→(none:Option Nat)=X d k:=by
   rintro y he hy k ⟨p,hp⟩ _
   rw [he,hy k] at hp
   cases hp
  rcases hw d with hs | ⟨d',o,h1,h2,_⟩ | ⟨d',k,h1,h2,_⟩ | ⟨g,ds,h1,h2,_⟩
  ·obtain ⟨r,g1,g2,g4,g3⟩:=Zfy hd hs
   exact ⟨r,fun h=>(hdf h).elim,g1,g2,g4,fun _ X' hX=>g3 X' σ' d hX,hsm⟩
  ·exact ⟨fun _=>none,fun h=>(hdf h).elim,fun _=>.inr rfl,fun hb=>by (rw [h2] at hb;cases hb),hno h1 (fun _=>rfl),fun hs=>((Wl hs).1 d' o h2).elim,hsm⟩
  ·exact ⟨fun _=>none,fun h=>(hdf h).elim,fun _=>.inr rfl,fun hb=>by (rw [h2] at hb;cases hb),hno h1 (fun _=>rfl),fun hs=>((Wl hs).2.1 d' k h2).elim,hsm⟩
  ·exact ⟨fun _=>none,fun h=>(hdf h).elim,fun _=>.inr rfl,fun hb=>by (rw [h2] at hb;cases hb),hno h1 (fun _=>rfl),fun hs=>((Wl hs).2.2 g ds h2).elim,hsm⟩
 obtain ⟨X',hX⟩:=Classical.axiomOfChoice key
 have hle:∀ d k b,X' d k=some b→X d k=some b:=by
  intro d k b hb
  rcases (hX d).2.1 k with e | e
  ·rw [← e];exact hb
  ·rw [e] at hb;cases hb
 refine ⟨X',⟨fun d=>?_,h.size,hout,fun d hd=>h.ghost d (hG d hd),fun d k d' k' b h1 h2=>h.dist d k d' k' b (hle _ _ _ h1) (hle _ _ _ h2),fun d k b hb=>h.ours d k b (hle _ _ _ hb),h.frm,fun d v hv=>⟨(h.pin d v hv).1,hpin d v hv⟩,fun d e xs hdo=>?_,
  fun d b hb=>⟨((hX d).2.2.1 (W5 (hgpin d b hb))).trans (h.gpin d b hb).1,hgpin d b hb⟩,h.ntN,hfar,fun d k e xs b m1 m2 m3=>?_,fun b m b' hb=>h.yfr b m b' (hle _ _ _ hb)⟩⟩
 rotate_left
 ·have hs:YK c.P (σ d) (.own true e xs):=by
   rcases hw d with hs | ⟨_,_,_,h2,_⟩ | ⟨_,_,_,h2,_⟩ | ⟨_,_,_,h2,_⟩
   ·rw [hdo] at hs;exact hs
   ·rw [hdo] at h2;cases h2
   ·rw [hdo] at h2;cases h2
   ·rw [hdo] at h2;cases h2
  rcases Zir hs with h1 | rfl
  ·rw [(hX d).2.2.2.2.2 e xs h1 hdo];exact h.mp d e xs h1
  ·intro _ _ _ _ _ _ _ _ _ _ h3;cases h3
 ·rw [(hX (ngN+b)).1 (Nat.le_add_right _ _)]
  refine h.nst d k e xs b ?_ m2 (hle _ _ _ m3)
  rcases hw d with hs | ⟨_,_,_,h2,_⟩ | ⟨_,_,_,h2,_⟩ | ⟨_,_,_,h2,_⟩
  ·exact Zc3 hs m1 m2
  ·rw [h2] at m1;cases k<;>cases m1
  ·rw [h2] at m1;cases k<;>cases m1
  ·rw [h2] at m1;cases k<;>cases m1
 have hd:=h.rel d
 rcases hw d with hs | ⟨d2,o2,h1,h2,cs',h3⟩ | ⟨d2,k2,h1,h2,p2,h3⟩ | ⟨g,ds,h1,h2,h3⟩
 ·exact (hX d).2.2.2.2.1 hs X' rfl
 ·rw [h1] at hd
  obtain ⟨b,cs,g1,g2,g3⟩:=hd
  rw [h2]
  exact ⟨b,cs',by rw [(hX d2).2.2.1 (by rw [h3];rfl),g1],h3,g3⟩
 ·rw [h1] at hd
  obtain ⟨e,xs,g1,g2⟩:=hd
  rw [h2]
  refine ⟨e,xs,?_,by rw [(hX d2).2.2.2.1 k2 ⟨_,g1⟩ ⟨_,h3⟩];exact g2⟩
  rcases hw d2 with hs | ⟨d3,o3,q1,q2,_⟩ | ⟨d3,k3,q1,q2,_⟩ | ⟨g,ds,q1,q2,_⟩
  ·obtain ⟨m1,m2⟩:=ZeY hs g1 (e':=p2.1) (xs':=p2.2) h3
   rw [h3,← m1,← m2]
  ·rw [q1] at g1;cases g1
  ·rw [q1] at g1;cases g1
  ·rw [q1] at g1;cases g1
 ·rw [h1] at hd
  obtain ⟨bs,g1,g2,g3⟩:=hd
  rw [h2]
  refine ⟨bs,g1,g2,fun i d' b hd' hb=>?_⟩
  have hB:=h3 d' (List.mem_of_getElem? hd')
  exact ⟨((hX d').2.2.1 hB).trans (g3 i d' b hd' hb).1,hB⟩
end Go.AM
end

section
namespace Go.AM
theorem Zj6:∀ (hs:List (Nat×HP)) (d:Nat) (h h':HP),(hs.map (·.1)).Nodup→(d,h)∈hs→(d,h')∈hs→h=h'
 | [], _, _, _, _, h, _ => by simp at h
 | p :: r, d, h, h', hn, h1, h2 => by
  rw [List.map_cons,List.nodup_cons] at hn
  rcases List.mem_cons.1 h1 with e1 | e1
  ·rcases List.mem_cons.1 h2 with e2 | e2
   ·rw [← e1] at e2
    exact (Prod.mk.inj e2).2.symm
   ·exact (hn.1 (by rw [← e1];exact List.mem_map.2 ⟨_,e2,rfl⟩)).elim
  ·rcases List.mem_cons.1 h2 with e2 | e2
   ·exact (hn.1 (by rw [← e2];exact List.mem_map.2 ⟨_,e1,rfl⟩)).elim
   ·exact Zj6 r d h h' hn.2 e1 e2
theorem Zbj:∀ (us:List (Nat×AV)) (d:Nat) (x:AV),W2 us d=some x→(d,x)∈us
 | [], d, x, h => by simp [W2] at h
 | (e, y) :: us, d, x, h => by
  simp only [W2] at h
  cases hl:W2 us d with
  | some z =>
   rw [hl] at h
   simp only [Option.some.injEq] at h
   subst h
   exact List.mem_cons_of_mem _ (Zbj us d _ hl)
  | none =>
   rw [hl] at h
   simp only at h
   split at h
   ·rename_i hd
    simp only [Option.some.injEq] at h
    subst h
    subst hd
    exact List.mem_cons_self
   ·cases h
theorem Zi5 {E:Env} {d:Nat} {h:HP} (hp:h.place E d=true):d < E.top∧(h.isG=true∨d < E.nt):=by
 cases h<;>simp only [HP.place,Bool.and_eq_true,decide_eq_true_eq] at hp
 case gbox l=>exact ⟨hp.2,.inl rfl⟩
 all_goals exact ⟨JY hp,.inr hp⟩
theorem V0 {E:Env} {hs:List (Nat×HP)} (h:ZeI E hs=true):(hs.map (·.1)).Nodup∧(∀ p∈hs,p.1 < E.top∧(p.2.isG=true∨p.1 < E.nt))∧((∀ d d' o,(d,HP.ptr d' o)∈hs→∃ l:HP,l.isBox=true∧(d',l)∈hs)∧∀ d d' k,(d,HP.mref d' k)∈hs→∃ l:HP,l.isPl k=true∧(d',l)∈hs)∧
  (∀ d∈E.pins,∃ l:HP,l.isBox=true∧(d,l)∈hs)∧(∀ d g ds,(d,HP.clo g ds)∈hs→∀ d'∈ds,∃ l:HP,(l.isBox||l.isG)=true∧(d',l)∈hs)∧∀ d,E.nt≤d→d < E.top→∃ l:HP,l.isG=true∧(d,l)∈hs:=by
 have hany:∀ (f:HP→Bool) (d:Nat),(hs.any fun q=>decide (q.1=d)&&f q.2)=true→∃ l:HP,f l=true∧(d,l)∈hs:=by
  intro f d hd
  rw [List.any_eq_true] at hd
  obtain ⟨q,hq,hd⟩:=hd
  obtain ⟨q1,q2⟩:=q
  simp only [Bool.and_eq_true,decide_eq_true_eq] at hd
  obtain ⟨rfl,hd⟩:=hd
  exact ⟨_,hd,hq⟩
 simp only [ZeI,Bool.and_eq_true] at h
 obtain ⟨⟨⟨h1,h2⟩,h3⟩,h4⟩:=h
 rw [List.all_eq_true] at h2 h3 h4
 refine ⟨WV _ h1,fun p hp=>?_,⟨fun d d' o hm=>?_,fun d d' k hm=>?_⟩,fun d hd=>hany HP.isBox d (h3 d hd),fun d g ds hm d' hd'=>?_,fun d hd hd'=>?_⟩
 ·have:=h2 p hp
  simp only [Bool.and_eq_true] at this
  exact Zi5 this.1
 ·have:=h2 _ hm
  simp only [Bool.and_eq_true] at this
  exact hany HP.isBox d' this.2
 ·have:=h2 _ hm
  simp only [Bool.and_eq_true] at this
  exact hany (fun h=>h.isPl k) d' this.2
 ·have:=h2 _ hm
  simp only [Bool.and_eq_true] at this
  have h5:=this.2
  rw [List.all_eq_true] at h5
  exact hany (fun h=>h.isBox||h.isG) d' (h5 d' hd')
 ·have:=h4 (d-E.nt) (List.mem_range.2 (by have:E.top=E.nt+E.ng:=rfl;omega))
  rw [show E.nt+(d-E.nt)=d by omega] at this
  exact hany HP.isG d this
theorem ZnR {P:Program} {E:Env} (hnt:E.top≤1024) {hs:List (Nat×HP)} (hok:ZeI E hs=true) {s:Tr} {ρ ρ0:Nat→V} {ves:List VE} (hv:YU P (gE E s) hs=some ves) :
  (∀ d,d∉hs.map (·.1)→ZW E (Jn (Z2 hs 0).1 (.leaf .dead)) (bind ρ0 0 (ves.map (VE.den ρ))) d = .dead)∧
  ∀ d h,(d,h)∈hs→∃ m,ZW E (Jn (Z2 hs 0).1 (.leaf .dead)) (bind ρ0 0 (ves.map (VE.den ρ))) d=VP h (ves.map (VE.den ρ)) m∧
   (Zq7 h (ZW E s ρ d)∨YK P (ZW E s ρ d) (VP h (ves.map (VE.den ρ)) m)):=by
 obtain ⟨k1,k2,k3,k4,k5,k6⟩:=V0 hok
 obtain ⟨h1,h2,h3⟩:=KV (P:=P) (g:=gE E s) (ρ:=ρ) hs 0 ves [] hv rfl
 have hl:KL E (Z2 hs 0).1:=by
  unfold KL
  rw [List.all_eq_true]
  intro u hu
  have hm:u.1∈hs.map (·.1):=by rw [← h2];exact List.mem_map.2 ⟨u,hu,rfl⟩
  obtain ⟨p,hp,he⟩:=List.mem_map.1 hm
  have:=(k2 p hp).1
  rw [he] at this
  simpa using this
 have hdead:∀ d,ZW E (.leaf .dead) (bind ρ0 0 (ves.map (VE.den ρ))) d = .dead:=by
  intro d
  simp only [ZW,gE]
  split<;>rfl
 have hfst:((Z2 hs 0).1.map fun u=>(u.1,u.2.den (bind ρ0 0 (ves.map (VE.den ρ))))).map (·.1)=hs.map (·.1):=by rw [List.map_map];exact h2
 rw [JG hnt _ _ _ hl]
 refine ⟨fun d hd=>?_,fun d h hm=>?_⟩
 ·rw [Js,Y0 _ d (by rw [hfst];exact hd),hdead]
  rfl
 ·obtain ⟨x,hx⟩:=VD ((Z2 hs 0).1.map fun u=>(u.1,u.2.den (bind ρ0 0 (ves.map (VE.den ρ))))) d (by rw [hfst];exact List.mem_map.2 ⟨_,hm,rfl⟩)
  obtain ⟨u,hu,he⟩:=List.mem_map.1 (Zbj _ _ _ hx)
  simp only [Prod.mk.injEq] at he
  obtain ⟨rfl,rfl⟩:=he
  obtain ⟨h',g1,m,g2,g3,g4,g5⟩:=h3 u hu
  have:h'=h:=Zj6 hs u.1 h' h k1 g1 hm
  subst this
  have hden:u.2.den (bind ρ0 0 (ves.map (VE.den ρ)))=VP h' (ves.map (VE.den ρ)) m:=by
   rw [g2]
   refine ZkC g4 fun j hj=>?_
   have hlt:m+j < (ves.map (VE.den ρ)).length:=by rw [List.length_map];omega
   have:=Zhs.bind ρ0 0 (ves.map (VE.den ρ)) (m+j) _ (List.getElem?_eq_getElem hlt)
   rw [Nat.zero_add] at this
   rw [this,vAt,List.getElem?_eq_getElem hlt]
   rfl
  refine ⟨m,?_,?_⟩
  ·rw [Js,hx,← hden]
   rfl
  ·have:=g5 []
   simp only [List.nil_append,List.append_nil] at this
   exact this
theorem Zbt:∀ (l:List Sh) (us:List V) (j k:Nat) (s:Sh),l[k]? = some s→(Z3 l us j)[k]? = some (Y9 s (vAt us (j+k)))
 | [], _, _, _, _, h => by simp at h
 | t :: ts, us, j, 0, s, h => by
  simp only [List.getElem?_cons_zero,Option.some.injEq] at h
  subst h
  rfl
 | t :: ts, us, j, k + 1, s, h => by
  have:=Zbt ts us (j+1) k s (by simpa using h)
  rw [show j+1+k=j+(k+1) by omega] at this
  simpa [Z3] using this
theorem Zhm {h:HP} {k:Nat} (hk:h.isPl k=true) (us:List V) (m:Nat):∃ p,Zo (VP h us m) k=some p:=by
 unfold HP.isPl at hk
 split at hk
 ·exact ⟨_,rfl⟩
 ·rename_i l k
  split at hk
  ·rename_i e hl
   have:=Zbt l us m k _ hl
   refine ⟨(e,(vAt us (m+k)).list),?_⟩
   simp only [VP,Zo,this,Y9]
  ·cases hk
 ·rename_i l k
  split at hk
  ·rename_i e hl
   have:=Zbt l us m k _ hl
   refine ⟨(e,(vAt us (m+k)).list),?_⟩
   simp only [VP,Zo,this,Y9]
  ·cases hk
 ·cases hk
theorem Zhg {P:Program} {E:Env} (hnt:E.top≤1024) {c:Ctx} (hcP:c.P=P) (hcn:c.nt=E.nt) (hpin:∀ d v,c.pin d=some v→d∈E.pins) (hgpin:∀ d b,c.gpin d=some b→E.nt≤d∧d < E.top) {hs:List (Nat×HP)} (hok:ZeI E hs=true) {s:Tr} {ρ:Nat→V} (ρ0:Nat→V) {ves:List VE}
  (hv:YU P (gE E s) hs=some ves) {tm:Array Value} {w:World} {lim:Nat→Nat} {X:Nat→Nat→Option Nat} (hsim:Sim c (ZW E s ρ) tm w lim X) :
  ∃ X',Sim c (ZW E (Jn (Z2 hs 0).1 (.leaf .dead)) (bind ρ0 0 (ves.map (VE.den ρ)))) tm w lim X':=by
 obtain ⟨k1,k2,k3,k4,k5,k6⟩:=V0 hok
 obtain ⟨h1,h2⟩:=ZnR (P:=P) hnt hok (ρ0:=ρ0) (ρ:=ρ) hv
 have hbox:∀ d (l:HP),l.isBox=true→(d,l)∈hs→∃ cs,ZW E (Jn (Z2 hs 0).1 (.leaf .dead)) (bind ρ0 0 (ves.map (VE.den ρ))) d = .box cs:=by
  intro d l hl hm
  obtain ⟨m,g1,_⟩:=h2 d _ hm
  cases l<;>simp [HP.isBox] at hl<;>exact ⟨_,g1⟩
 have hgb:∀ d (l:HP),l.isG=true→(d,l)∈hs→(ZW E (Jn (Z2 hs 0).1 (.leaf .dead)) (bind ρ0 0 (ves.map (VE.den ρ))) d).isG=true:=by
  intro d l hl hm
  obtain ⟨m,g1,_⟩:=h2 d _ hm
  rw [g1]
  cases l<;>simp [HP.isG] at hl<;>rfl
 refine hsim.head (fun d=>?_) (fun d hd=>?_) (fun d v hp=>?_) fun d b hp=>?_
 ·by_cases hm:d∈hs.map (·.1)
  ·obtain ⟨p,hp,rfl⟩:=List.mem_map.1 hm
   obtain ⟨m,g1,g2⟩:=h2 p.1 p.2 hp
   unfold ZnL
   rw [g1,hcP]
   rcases g2 with (⟨d',o,g2,g3⟩ | ⟨d',k,g2,g3⟩ | ⟨g,ds,g2,g3⟩) | g2
   ·obtain ⟨l,hl,hm⟩:=k3.1 p.1 d' o (by rw [← g2];exact hp)
    exact .inr (.inl ⟨d',o,g3,by rw [g2];rfl,hbox d' l hl hm⟩)
   ·obtain ⟨l,hl,hm⟩:=k3.2 p.1 d' k (by rw [← g2];exact hp)
    obtain ⟨m',q1,_⟩:=h2 d' l hm
    exact .inr (.inr (.inl ⟨d',k,g3,by rw [g2];rfl,by rw [q1];exact Zhm hl _ _⟩))
   ·refine .inr (.inr (.inr ⟨g,ds,g3,by rw [g2];rfl,fun d' hd'=>?_⟩))
    obtain ⟨l,hl,hm⟩:=k5 p.1 g ds (by rw [← g2];exact hp) d' hd'
    rw [Bool.or_eq_true] at hl
    rcases hl with hl | hl
    ·obtain ⟨cs,hcs⟩:=hbox d' l hl hm
     rw [hcs];rfl
    ·exact W5 (hgb d' l hl hm)
   ·exact .inl g2
  ·unfold ZnL
   rw [h1 d hm]
   exact .inl .dead
 ·by_cases hm:d∈hs.map (·.1)
  ·obtain ⟨p,hp,rfl⟩:=List.mem_map.1 hm
   rcases (k2 p hp).2 with h3 | h3
   ·exact .inr (hgb p.1 p.2 h3 hp)
   ·omega
  ·exact .inl (h1 d hm)
 ·obtain ⟨l,hl,hm⟩:=k4 d (hpin d v hp)
  exact hbox d l hl hm
 ·obtain ⟨m1,m2⟩:=hgpin d b hp
  obtain ⟨l,hl,hm⟩:=k6 d m1 m2
  exact hgb d l hl hm
theorem Zf4 {ops:Array Oper} {x a d:Nat} {T:TypeId} {neg:Bool} (h:ZgZ ops=some (x,a,d,T,neg)) :
  ∃ o p U,ops.toList = [o,p]∧o.guard=none∧p.guard=none∧o.op = .move (.tmp x)∧o.dst=some a∧p.op = .binOp (if neg=true then .neq else .eql) T (.tmp a) (.const (.slice none 0 0)) U∧p.dst=some d:=by
 unfold ZgZ at h
 split at h
 ·rename_i o p hops
  split at h
  ·rename_i hg
   simp only [Option.isNone_iff_eq_none] at hg
   split at h
   ·rename_i h1 h2 h3 h4
    split at h
    ·rename_i hb
     subst hb
     simp only [Option.some.injEq,Prod.mk.injEq] at h
     obtain ⟨rfl,rfl,rfl,rfl,rfl⟩:=h
     exact ⟨o,p,_,hops,hg.1,hg.2,h1,h2,by simpa using h3,h4⟩
    ·cases h
   ·rename_i h1 h2 h3 h4
    split at h
    ·rename_i hb
     subst hb
     simp only [Option.some.injEq,Prod.mk.injEq] at h
     obtain ⟨rfl,rfl,rfl,rfl,rfl⟩:=h
     exact ⟨o,p,_,hops,hg.1,hg.2,h1,h2,by simpa using h3,h4⟩
    ·cases h
   ·cases h
  ·cases h
 ·cases h
theorem ZcE {ops:Array Oper} {x i a b c:Nat} {T:TypeId} (h:Zb6 ops=some (x,i,a,b,c,T)) :
  ∃ o p q r,ops.toList = [o,p,q,r]∧o.guard=none∧p.guard=none∧q.guard=none∧r.guard=none∧o.op = .move (.tmp x)∧o.dst=some a∧p.op = .move (.tmp i)∧p.dst=some b∧
   q.op = .slice T (.tmp a) (some (.tmp b)) none none∧q.dst=some c∧(∃ cl,r.op = .call cl∧cl.callee = .builtin .clear∧cl.args = #[.tmp c]∧cl.argTypes = #[T])∧r.dst=none:=by
 unfold Zb6 at h
 split at h
 case h_2=>cases h
 rename_i o p q r hops
 split at h
 case isFalse=>cases h
 rename_i hg
 simp only [Option.isNone_iff_eq_none] at hg
 split at h
 case h_2=>cases h
 rename_i x' a' i' b' h1 h2 h3 h4
 split at h
 case h_2=>cases h
 rename_i T' a'' b'' c' cl h5 h6 h7 h8
 split at h
 case h_2=>cases h
 rename_i c'' T'' h9 h10 h11
 split at h
 case isFalse=>cases h
 rename_i he
 obtain ⟨e1,e2,e3,e4⟩:=he
 subst e1 e2 e3 e4
 simp only [Option.some.injEq,Prod.mk.injEq] at h
 obtain ⟨rfl,rfl,rfl,rfl,rfl,rfl⟩:=h
 exact ⟨o,p,q,r,hops,hg.1,hg.2.1,hg.2.2.1,hg.2.2.2,h1,h2,h3,h4,h5,h6,⟨cl,h7,h9,by rw [← h10,Array.toArray_toList],by rw [← h11,Array.toArray_toList]⟩,h8⟩
theorem ZiJ {P:Program} {w:World} {lim:Nat→Nat} {X:Nat→Nat→Option Nat} {g:Nat→SV} {d:Nat} {x:SV} {l:LE} {ρ:Nat→V} {v:Value} (hx:ZjL P g x=some l) (h:ZP P w lim X (fun d=>(g d).den ρ) d (x.den ρ) v) :
  ∃ a k cap,v = .slice a k cap∧(a.isNone=true→l.den ρ = []):=by
 have hrep:∀ f s,Rep w lim (.slice f s (l.den ρ)) v→∃ a k cap,v = .slice a k cap∧(a.isNone=true→l.den ρ = []):=by
  intro f s hr
  have key:∀ y,Rep w lim y v→y = .slice f s (l.den ρ)→∃ a k cap,v = .slice a k cap∧(a.isNone=true→l.den ρ = []):=by
   intro y hy hye
   cases hy with
   | sliceN => injection hye with _ _ h3; exact ⟨none, 0, 0, rfl, fun _ => h3.symm⟩
   | sliceE _ => injection hye with _ _ h3; exact ⟨_, _, _, rfl, fun _ => h3.symm⟩
   | sliceC _ _ _ _ _ _ _ _ => exact ⟨_, _, _, rfl, fun h => by cases h⟩
   | val _ => cases hye
   | agg _ _ _ => cases hye
   | nest => cases hye
  exact key _ hr rfl
 unfold ZjL at hx
 split at hx
 ·simp only [Option.some.injEq] at hx
  subst hx
  exact hrep _ _ h
 ·split at hx
  case isFalse=>cases hx
  rename_i hnm
  simp only [Option.some.injEq] at hx
  subst hx
  rcases ZQ.noMap (show ZQ P w lim _ _ _ v (X d 0) from h) hnm with ⟨us,h1,_⟩ | ⟨h1,_,a,h2⟩
  ·rcases h1.2 with ⟨hv,hn⟩ | ⟨g,cap,cur,hv,_⟩
   ·exact ⟨none,0,0,hv,fun _=>List.eq_nil_of_length_eq_zero hn⟩
   ·exact ⟨_,_,_,hv,fun h=>by cases h⟩
  ·exact ⟨_,_,_,h2,fun h=>by cases h⟩
 ·rename_i d' q
  cases hp:Jd (g d') q with
  | none => rw [hp] at hx; cases hx
  | some p =>
   rw [hp] at hx
   dsimp only at hx
   split at hx
   case isFalse=>cases hx
   rename_i hnm
   simp only [Option.some.injEq] at hx
   subst hx
   obtain ⟨e,xs,h1,h2⟩:=h
   have h3:Zo ((g d').den ρ) q=some (p.1,p.2.den ρ):=ZO ρ hp
   have h1':Zo ((g d').den ρ) q=some (e,xs):=h1
   rw [h3] at h1'
   simp only [Option.some.injEq,Prod.mk.injEq] at h1'
   obtain ⟨he,rfl⟩:=h1'
   rw [he] at hnm
   rcases h2.noMap hnm with ⟨_,h1,h2 | ⟨a,h2⟩⟩ | ⟨b,arr,cap,_,_,_,h2⟩
   ·exact ⟨none,0,0,h2,fun _=>List.eq_nil_of_length_eq_zero h1⟩
   ·exact ⟨_,_,_,h2,fun h=>by cases h⟩
   ·exact ⟨_,_,_,h2,fun h=>by cases h⟩
 ·cases hx
theorem Sim.refit {c:Ctx} {σ σ':Nat→AV} {tm:Array Value} {w:World} {lim lim':Nat→Nat} {X:Nat→Nat→Option Nat} {S:Nat→Prop} (h:Sim c σ tm w lim X) (hw:ZN w lim w lim' S) (hS:∀ b,S b→c.A b∨c.w0.heap.size≤b)
  (hrel:∀ i,ZP c.P w lim' X σ' i (σ' i) (tm.getD i undef)) (hout:∀ i,c.nt≤i→σ' i = .dead∨(σ' i).isG=true) (hG:∀ i,(σ' i).isG=(σ i).isG) (hB:∀ i cs,σ i = .box cs→∃ cs',σ' i = .box cs') (hmp:∀ d e xs,σ' d = .own true e xs→ZeA c.P w lim' e xs (X d))
  (hns:∀ d k e xs b,ZX (σ' d) k=some (e,xs)→Zg c.P e=true→X d k=some b→VN c.P w lim' e xs b (X (ngN+b))):Sim c σ' tm w lim' X where
 mp:=hmp
 nst:=hns
 ntN:=h.ntN
 yfr:=h.yfr
 far d hd:=by
  rcases hout d (Nat.le_trans h.ntN hd) with h1 | h1
  ·exact h1
  ·rw [hG,h.far d hd] at h1;cases h1
 rel:=hrel
 size:=h.size
 out:=hout
 ghost d hd:=h.ghost d (by rw [← hG];exact hd)
 dist:=h.dist
 ours:=h.ours
 frm:=h.frm.step hw hS
 pin d v hv:=by
  obtain ⟨h1,cs,h2⟩:=h.pin d v hv
  exact ⟨h1,hB d cs h2⟩
 gpin d b hb:=by
  obtain ⟨h1,h2⟩:=h.gpin d b hb
  exact ⟨h1,by rw [hG];exact h2⟩
theorem Sim.freeze {c:Ctx} {σ:Nat→AV} {tm:Array Value} {w:World} {lim:Nat→Nat} {X:Nat→Nat→Option Nat} (h:Sim c σ tm w lim X) {d q:Nat} {e:TypeId} {xs:List (List AV)} {us:List (Nat×AV)} (hdn:(σ d).isG=false) (hp:Zo (σ d) q=some (e,xs))
  (hs0:c.P.cellsOf e≠0) (hnm:Zm c.P e=false) (h1:∀ u∈us,u.1≠d∧((σ u.1 = .mref d q∧u.2 = .slice false (c.P.cellsOf e) xs)∨((∃ o,σ u.1 = .eref d q o)∧u.2 = .dead))) (h2:∀ i,Je (σ i) d q→i∈us.map (·.1)) :
  ∃ lim',Sim c (Ju (upd σ d (Zn (σ d) q false e xs)) us) tm w lim' X:=by
 have hnG:∀ cs,σ d≠.gbox cs:=fun cs he=>by rw [he] at hdn;cases hdn
 obtain ⟨v0,ho⟩:=JI h hp
 refine ⟨fun b=>if X d q=some b then xs.length*c.P.cellsOf e else lim b,?_⟩
 have hlim0:∀ b,X d q=some b→lim b=0:=by
  intro b hb
  rw [hb] at ho
  obtain ⟨_,_,_,_,g,_⟩:=Vk ho (.inl hnm)
  exact g
 have hw:ZN w lim w (fun b=>if X d q=some b then xs.length*c.P.cellsOf e else lim b) (fun b=>X d q=some b):=by
  refine ⟨rfl,rfl,rfl,Nat.le_refl _,fun _ _=>rfl,fun b _ hb=>⟨rfl,if_neg hb⟩,fun b _=>⟨?_,fun _ _ _ hu=>hu⟩⟩
  show lim b≤if X d q=some b then xs.length*c.P.cellsOf e else lim b
  split
  ·rename_i hb;rw [hlim0 b hb];exact Nat.zero_le _
  ·exact Nat.le_refl _
 have hnew:∀ v,ZQ c.P w lim true e xs v (X d q)→ZQ c.P w (fun b=>if X d q=some b then xs.length*c.P.cellsOf e else lim b) false e xs v (X d q):=by
  intro v hv
  rcases hv.noMap hnm with ⟨ws,g1,g2,g3,g4,g5,g6⟩ | hv
  ·refine .inl ⟨ws,g1,g2,fun b hb=>?_,g4,g5,fun j z u hz hu=>(g6 j z u hz hu).mono hw.ext⟩
   show (if X d q=some b then xs.length*c.P.cellsOf e else lim b)=_
   rw [if_pos hb,if_neg (by simp),g1.1]
  ·exact .inr (.inl hv)
 have hkept:∀ i k b,(i≠d∨k≠q)→X i k=some b→Zf6 w lim w (fun b=>if X d q=some b then xs.length*c.P.cellsOf e else lim b) b:=by
  intro i k b hik hb
  refine ⟨rfl,if_neg fun hb'=>?_⟩
  obtain ⟨e1,e2⟩:=h.dist i k d q b hb hb'
  exact hik.elim (fun h=>h e1) fun h=>h e2
 have hdu:d∉us.map (·.1):=by
  intro hm
  obtain ⟨u,hu,rfl⟩:=List.mem_map.1 hm
  exact (h1 u hu).1 rfl
 -- what stands where
 have hat:∀ i,i≠d→(i∉us.map (·.1)∧Ju (upd σ d (Zn (σ d) q false e xs)) us i=σ i)∨
   (σ i = .mref d q∧Ju (upd σ d (Zn (σ d) q false e xs)) us i = .slice false (c.P.cellsOf e) xs)∨((∃ o,σ i = .eref d q o)∧Ju (upd σ d (Zn (σ d) q false e xs)) us i = .dead):=by
  intro i hi
  rw [Js]
  by_cases hm:i∈us.map (·.1)
  ·obtain ⟨x,hx⟩:=VD us i hm
   rw [hx]
   rcases (h1 _ (Zbj us i x hx)).2 with ⟨g1,g2⟩ | ⟨g1,g2⟩
   ·exact .inr (.inl ⟨g1,g2⟩)
   ·exact .inr (.inr ⟨g1,g2⟩)
  ·rw [Y0 us i hm]
   exact .inl ⟨hm,Zf _ _ hi⟩
 have hatd:Ju (upd σ d (Zn (σ d) q false e xs)) us d=Zn (σ d) q false e xs:=by
  rw [Js,Y0 us d hdu]
  exact ZC _ _ _
 have hdG:(Zn (σ d) q false e xs).isG=false∧(σ d).isG=false:=by
  rcases Zz hp with ⟨g1,rfl⟩ | ⟨cs,k,g1,rfl,_⟩ | ⟨cs,k,g1,rfl,_⟩
  case inr.inr=>exact (hnG _ g1).elim
  all_goals rw [g1];exact ⟨rfl,rfl⟩
 have hdB:∀ cs,σ d = .box cs→∃ cs',Zn (σ d) q false e xs = .box cs':=by
  intro cs hcs
  rcases Zz hp with ⟨g1,rfl⟩ | ⟨cs',k,g1,rfl,_⟩ | ⟨cs,k,g1,rfl,_⟩
  case inr.inr=>exact (hnG _ g1).elim
  ·rw [g1] at hcs;cases hcs
  ·rw [g1];exact ⟨_,rfl⟩
 have hGall:∀ i,(Ju (upd σ d (Zn (σ d) q false e xs)) us i).isG=(σ i).isG:=by
  intro i
  by_cases hi:i=d
  ·subst hi;rw [hatd,hdG.1,hdG.2]
  ·rcases hat i hi with ⟨_,g⟩ | ⟨g,g'⟩ | ⟨⟨o,g⟩,g'⟩
   ·rw [g]
   ·rw [g,g'];rfl
   ·rw [g,g'];rfl
 have hBall:∀ i cs,σ i = .box cs→∃ cs',Ju (upd σ d (Zn (σ d) q false e xs)) us i = .box cs':=by
  intro i cs hcs
  by_cases hi:i=d
  ·subst hi;rw [hatd];exact hdB cs hcs
  ·rcases hat i hi with ⟨_,g⟩ | ⟨g,g'⟩ | ⟨⟨o,g⟩,g'⟩
   ·exact ⟨cs,g.trans hcs⟩
   ·rw [g] at hcs;cases hcs
   ·rw [g] at hcs;cases hcs
 have hmp:∀ i e1 xs1,Ju (upd σ d (Zn (σ d) q false e xs)) us i = .own true e1 xs1→ZeA c.P w (fun b=>if X d q=some b then xs.length*c.P.cellsOf e else lim b) e1 xs1 (X i):=by
  intro i e1 xs1 he
  by_cases hi:i=d
  ·subst hi
   rw [hatd] at he
   rcases Zz hp with ⟨g1,rfl⟩ | ⟨cs,k,g1,rfl,_⟩ | ⟨cs,k,g1,rfl,_⟩
   ·rw [g1] at he;simp [Zn] at he
   ·rw [g1] at he;simp [Zn] at he
   ·exact (hnG _ g1).elim
  ·rcases hat i hi with ⟨_,g⟩ | ⟨_,g'⟩ | ⟨_,g'⟩
   ·rw [g] at he
    exact (h.mp i e1 xs1 he).mono hw.ext fun k b hb=>hkept i k b (.inl hi) hb
   ·rw [g'] at he;cases he
   ·rw [g'] at he;cases he
 have hdf:d < ngN:=by
  rcases Nat.lt_or_ge d ngN with hlt | hge
  ·exact hlt
  ·rw [h.far d hge] at hp;cases hp
 have hns:∀ i k e1 xs1 b,ZX (Ju (upd σ d (Zn (σ d) q false e xs)) us i) k=some (e1,xs1)→Zg c.P e1=true→X i k=some b→VN c.P w (fun b=>if X d q=some b then xs.length*c.P.cellsOf e else lim b) e1 xs1 b (X (ngN+b)):=by
  intro i k e1 xs1 b m1 m2 m3
  have old:(i≠d∨k≠q)→ZX (σ i) k=some (e1,xs1)→VN c.P w (fun b=>if X d q=some b then xs.length*c.P.cellsOf e else lim b) e1 xs1 b (X (ngN+b)):=fun hik ho=>
   (h.nst i k e1 xs1 b ho m2 m3).mono hw.ext (hkept i k b hik m3).1 fun j b' hb'=>hkept (ngN+b) j b' (.inl (by omega)) hb'
  by_cases hi:i=d
  ·subst hi
   rw [hatd] at m1
   rcases Zz hp with ⟨g1,rfl⟩ | ⟨cs,k',g1,rfl,g2⟩ | ⟨cs,k',g1,rfl,_⟩
   case inr.inr=>exact (hnG _ g1).elim
   ·rw [g1] at m1
    cases k with
    | zero => cases m1
    | succ k => cases m1
   ·rw [g1] at m1
    rcases Yp m1 with ⟨_,m4⟩ | ⟨m4,m5⟩
    ·cases m4
    ·exact old (.inr m4) (by rw [g1];exact m5)
  ·rcases hat i hi with ⟨_,g⟩ | ⟨_,g'⟩ | ⟨_,g'⟩
   ·rw [g] at m1;exact old (.inl hi) m1
   ·rw [g'] at m1;cases k<;>cases m1
   ·rw [g'] at m1;cases k<;>cases m1
 refine h.refit hw (fun b hb=>(h.ours d q b hb).2) (fun i=>?_) (fun i hi=>?_) hGall hBall hmp hns
 ·by_cases hi:i=d
  ·subst hi
   rw [hatd]
   have hr:=h.rel i
   rcases Zz hp with ⟨g1,rfl⟩ | ⟨cs,k,g1,rfl,g2⟩ | ⟨cs,k,g1,rfl,_⟩
   case inr.inr=>exact (hnG _ g1).elim
   ·rw [g1] at hr ⊢
    exact hnew _ hr
   ·rw [g1] at hr ⊢
    obtain ⟨b,arr,t,k1,k2,k3,k4,k5,k6,k7⟩:=(show ZI c.P w lim (X i) cs _ from hr)
    refine ⟨b,arr,t,k1,k2,k3,by rw [List.length_set];exact k4,((hkept i 0 b (.inr (by omega)) k1).2).trans k5,fun x hx=>?_,fun j x u hx hu=>?_⟩
    ·rcases List.mem_or_eq_of_mem_set hx with hx | hx
     ·exact k6 x hx
     ·exact .inr (.inl ⟨_,_,_,hx⟩)
    ·by_cases hj:j=k
     ·subst hj
      rw [List.getElem?_set_self (List.getElem?_eq_some_iff.1 g2).1] at hx
      simp only [Option.some.injEq] at hx
      subst hx
      exact hnew u (k7 j _ u g2 hu)
     ·rw [List.getElem?_set_ne (fun h=>hj h.symm)] at hx
      exact (k7 j x u hx hu).mono hw.ext fun b' hb'=>hkept i (j+1) b' (.inr (by omega)) hb'
  ·rcases hat i hi with ⟨hm,g⟩ | ⟨g,g'⟩ | ⟨⟨o,g⟩,g'⟩
   ·rw [g]
    have hr:=(h.rel i).mono hw.ext (fun k b hb=>hkept i k b (.inl hi) hb) fun d' k b _ _=>.of rfl
    refine hr.chg rfl (fun d' cs hd'=>⟨hBall d' cs hd',rfl⟩) (fun d' hd'=>⟨by rw [hGall];exact hd',rfl⟩) fun d' k hrf=>⟨?_,rfl⟩
    by_cases hdd:d'=d
    ·subst hdd
     rw [hatd]
     have hkq:k≠q:=fun he=>hm (h2 i (he ▸ hrf))
     intro e' ys hy
     rcases Zz hy with ⟨m1,rfl⟩ | ⟨cs,k',m1,rfl,m2⟩ | ⟨_,_,m1,_⟩
     case inr.inr=>exact (hnG _ m1).elim
     ·rcases Zz hp with ⟨_,h0⟩ | ⟨_,_,h0,_⟩ | ⟨_,_,h0,_⟩
      case inr.inr=>exact (hnG _ h0).elim
      ·exact (hkq h0.symm).elim
      ·rw [m1] at h0;cases h0
     ·rcases Zz hp with ⟨h0,_⟩ | ⟨cs2,q',h0,rfl,_⟩ | ⟨_,_,h0,_⟩
      case inr.inr=>exact (hnG _ h0).elim
      ·rw [m1] at h0;cases h0
      ·refine ⟨ys,?_,rfl⟩
       rw [m1]
       simp only [Zn,Zo]
       rw [List.getElem?_set_ne (by omega),m2]
    ·rcases hat d' hdd with ⟨_,m⟩ | ⟨m,m'⟩ | ⟨⟨o,m⟩,m'⟩
     ·rw [m];exact Kl.refl _ _
     ·intro e' ys hy
      rw [m] at hy;cases hy
     ·intro e' ys hy
      rw [m] at hy;cases hy
   ·rw [g']
    have hr:=h.rel i
    rw [g] at hr
    obtain ⟨e',xs',k1,k2⟩:=hr
    rw [hp] at k1
    simp only [Option.some.injEq,Prod.mk.injEq] at k1
    obtain ⟨rfl,rfl⟩:=k1
    show Rep w _ _ _
    rcases k2.noMap hnm with ⟨_,k2,k3 | ⟨a,k3⟩⟩ | ⟨b,arr,cap,k2,k3,k4,k5⟩
    ·have:xs = []:=List.eq_nil_of_length_eq_zero k2
     subst this
     rw [k3];exact .sliceN
    ·have:xs = []:=List.eq_nil_of_length_eq_zero k2
     subst this
     rw [k3];exact .sliceE fun h=>by cases h
    ·have ho':=ho
     rw [k2] at ho'
     obtain ⟨arr0,cap0,m1,m2,_,_,_,m6,_⟩:=Vk ho' (.inl hnm)
     rw [k3] at m2
     simp only [Option.some.injEq,Obj.cells.injEq,and_true] at m2
     subst m2
     have hcap:cap=cap0:=Nat.eq_of_mul_eq_mul_right (by omega) (k4.symm.trans m6)
     subst hcap
     rw [k5,← m1]
     exact ZQ.rep (hnew v0 ho) false rfl
   ·rw [g']
    trivial
 ·by_cases hid:i=d
  ·subst hid
   rcases h.out i hi with h0 | h0
   ·rw [h0] at hp;cases hp
   ·rw [hdG.2] at h0;cases h0
  ·rcases hat i hid with ⟨_,g⟩ | ⟨g,_⟩ | ⟨⟨o,g⟩,_⟩
   ·rw [g];exact h.out i hi
   ·rcases h.out i hi with h0 | h0<;>rw [g] at h0<;>cases h0
   ·rcases h.out i hi with h0 | h0<;>rw [g] at h0<;>cases h0
theorem YD {P:Program} {g:Nat→SV} {d q:Nat} {e:TypeId} {l:LE} : ∀ (n:Nat) (u:Nat×SV),u∈KE P g d q e l n↔u.1 < n∧((g u.1 = .mref d q∧u.2 = .c (.slice false (P.cellsOf e) l))∨((∃ i s o,g u.1 = .eref d q i s o)∧u.2 = .dead))
 | 0, u => by simp [KE]
 | n + 1, u => by
  have ih:=YD (P:=P) (g:=g) (d:=d) (q:=q) (e:=e) (l:=l) n u
  have up:∀ {p:Prop},(u.1 < n∧p)→(u.1 < n+1∧p):=fun h=>⟨by omega,h.2⟩
  simp only [KE]
  split
  ·rename_i d' q' hg
   split
   ·rename_i hh
    obtain ⟨rfl,rfl⟩:=hh
    rw [List.mem_cons,ih]
    constructor
    ·rintro (rfl | h)
     ·exact ⟨Nat.lt_succ_self n,.inl ⟨hg,rfl⟩⟩
     ·exact up h
    ·rintro ⟨h1,h2⟩
     by_cases hn:u.1=n
     ·left
      obtain ⟨a,b⟩:=u
      simp only at hn h2
      subst hn
      rcases h2 with ⟨_,h2⟩ | ⟨⟨_,_,_,h2⟩,_⟩
      ·rw [h2]
      ·rw [hg] at h2;cases h2
     ·exact .inr ⟨by omega,h2⟩
   ·rename_i hh
    rw [ih]
    refine ⟨up,fun ⟨h1,h2⟩=>⟨?_,h2⟩⟩
    by_cases hn:u.1=n
    ·rw [hn,hg] at h2
     rcases h2 with ⟨h2,_⟩ | ⟨⟨_,_,_,h2⟩,_⟩
     ·cases h2;exact (hh ⟨rfl,rfl⟩).elim
     ·cases h2
    ·omega
  ·rename_i d' q' i s o hg
   split
   ·rename_i hh
    obtain ⟨rfl,rfl⟩:=hh
    rw [List.mem_cons,ih]
    constructor
    ·rintro (rfl | h)
     ·exact ⟨Nat.lt_succ_self n,.inr ⟨⟨_,_,_,hg⟩,rfl⟩⟩
     ·exact up h
    ·rintro ⟨h1,h2⟩
     by_cases hn:u.1=n
     ·left
      obtain ⟨a,b⟩:=u
      simp only at hn h2
      subst hn
      rcases h2 with ⟨h2,_⟩ | ⟨_,h2⟩
      ·rw [hg] at h2;cases h2
      ·rw [h2]
     ·exact .inr ⟨by omega,h2⟩
   ·rename_i hh
    rw [ih]
    refine ⟨up,fun ⟨h1,h2⟩=>⟨?_,h2⟩⟩
    by_cases hn:u.1=n
    ·rw [hn,hg] at h2
     rcases h2 with ⟨h2,_⟩ | ⟨⟨_,_,_,h2⟩,_⟩
     ·cases h2
     ·cases h2;exact (hh ⟨rfl,rfl⟩).elim
    ·omega
  ·rename_i h1 h2
   rw [ih]
   refine ⟨up,fun ⟨g1,g2⟩=>⟨?_,g2⟩⟩
   by_cases hn:u.1=n
   ·rw [hn] at g2
    rcases g2 with ⟨g2,_⟩ | ⟨⟨_,_,_,g2⟩,_⟩
    ·exact (h1 _ _ g2).elim
    ·exact (h2 _ _ _ _ _ g2).elim
   ·omega
theorem ZfS {P:Program} {x y:SV} {k:Nat} (h:ZgA P x k=some y):∃ cs j e l,x = .box cs∧k=j+1∧cs[j]? = some (.own false e l)∧y = .box (cs.set j (.c (.slice false (P.cellsOf e) l))):=by
 unfold ZgA at h
 split at h
 ·rename_i cs j
  split at h
  ·rename_i e l hc
   cases h
   exact ⟨cs,j,e,l,rfl,rfl,hc,rfl⟩
  ·cases h
 ·cases h
theorem Sim.loose {c:Ctx} {σ:Nat→AV} {tm:Array Value} {w:World} {lim:Nat→Nat} {X:Nat→Nat→Option Nat} (h:Sim c σ tm w lim X) {d k:Nat} {e:TypeId} {xs:List (List AV)} {cs:List AV} (hd:σ d = .box cs) (hk:cs[k]? = some (.own false e xs)) :
  ∃ X',Sim c (upd σ d (.box (cs.set k (.slice false (c.P.cellsOf e) xs)))) tm w lim X':=by
 have hdn:d < c.nt:=by
  rcases Nat.lt_or_ge d c.nt with hlt | hge
  ·exact hlt
  ·have:=h.out d hge;rw [hd] at this;rcases this with h0 | h0<;>cases h0
 have hr:=h.rel d
 rw [hd] at hr
 obtain ⟨b,arr,t,h1,h2,h3,h4,h5,h6,h7⟩:=(show ZI c.P w lim (X d) cs _ from hr)
 refine ⟨_,h.putRow (hns:=fun q e1 xs1 b' m1 m2 m3=>by
  rcases Yp m1 with ⟨_,m4⟩ | ⟨m4,m5⟩
  ·cases m4
  ·exact h.nst d q e1 xs1 b' (by rw [hd];exact m5) m2 m3) (S:=fun _=>False) (X d) (ZN.refl w lim _) (fun _ hs=>hs.elim) hdn rfl (fun _ _=>rfl) (.inr ⟨⟨_,rfl⟩,rfl,rfl⟩) (fun i q _ _=>⟨fun e1 xs1 ho=>?_,rfl,fun _ _=>.of rfl⟩) ?_
  (fun q b' hq=>⟨(h.ours d q b' hq).1,(h.ours d q b' hq).2,fun i j hij hx=>hij (h.dist i j d q b' hx hq).1⟩) (fun q q' b' hq hq'=>(h.dist d q d q' b' hq hq').2)⟩
 ·rw [hd] at ho
  cases q with
  | zero => cases ho
  | succ q =>
   refine ⟨xs1,?_,rfl⟩
   have hq:q≠k:=fun he=>by
    subst he
    simp only [Zo,hk] at ho
    cases ho
   simp only [Zo,List.getElem?_set,if_neg (Ne.symm hq)] at ho ⊢
   exact ho
 ·show ZI c.P w lim (KH X d (X d) d) _ _
  rw [Zp]
  refine ⟨b,arr,t,h1,h2,h3,by rw [List.length_set];exact h4,h5,fun y hy=>?_,fun i y u hy hu=>?_⟩
  ·rcases List.mem_or_eq_of_mem_set hy with hy | rfl
   ·exact h6 y hy
   ·exact .inl rfl
  ·rw [List.getElem?_set] at hy
   split at hy
   ·rename_i hik
    subst hik
    split at hy
    ·cases hy
     exact ZQ.rep (h7 k _ u hk hu) false rfl
    ·cases hy
   ·exact h7 i y u hy hu
theorem ZgJ {P:Program} {E:Env} (hnt:E.top≤1024) {c:Ctx} (hcP:c.P=P) {s s':Tr} {n:Nat} {ρ:Nat→V} (p:Nat×Nat) {tm:Array Value} {w:World} (hs:K8 E s n) (h:∃ lim X,Sim c (ZW E s ρ) tm w lim X) (hd:ZgY P E s p=some s') :
  K8 E s' n∧∃ lim X,Sim c (ZW E s' ρ) tm w lim X:=by
 unfold ZgY at hd
 split at hd
 case h_2=>cases hd
 rename_i e l hp
 split at hd
 case isFalse=>cases hd
 rename_i hh
 obtain ⟨hlt,hng⟩:=hh
 obtain ⟨lim,X,hsim⟩:=h
 have hl:=Jv hp (hs p.1)
 have hat:Zo (ZW E s ρ p.1) (p.2 % 1000)=some (e,l.den ρ):=ZO ρ hp
 have hda:Kf (ZW E s ρ) p.1 ((ZR (gE E s) p.1 E.top).map fun u=>(u.1,u.2.den ρ)):=JL (g:=gE E s) ρ (Zbw s)
 have gen:∀ (e2:TypeId) (l2:LE),l2.bd n→(∀ σ X,Sim c σ tm w lim X→Zo (σ p.1) (p.2 % 1000)=some (e,l.den ρ)→(σ p.1).isG=false→(∀ i,¬ Je (σ i) p.1 (p.2 % 1000))→∃ lim' X',Sim c (upd σ p.1 (Zn (σ p.1) (p.2 % 1000) true e2 (l2.den ρ))) tm w lim' X')→
   K8 E (Jn (ZR (gE E s) p.1 E.top++[(p.1,Z5 (gE E s p.1) (p.2 % 1000) true e2 l2)]) s) n∧∃ lim X,Sim c (ZW E (Jn (ZR (gE E s) p.1 E.top++[(p.1,Z5 (gE E s p.1) (p.2 % 1000) true e2 l2)]) s) ρ) tm w lim X:=by
  intro e2 l2 hb2 hstep
  have hlow:KL E (ZR (gE E s) p.1 E.top++[(p.1,Z5 (gE E s p.1) (p.2 % 1000) true e2 l2)]):=by
   unfold KL
   rw [List.all_eq_true]
   intro u hu
   rcases List.mem_append.1 hu with hu | hu
   ·simpa using ((Jp E.top u).1 hu).2.1
   ·rw [List.mem_singleton.1 hu];simpa using JY hlt
  refine ⟨JB hnt _ _ hlow hs fun u hu=>?_,?_⟩
  ·rcases List.mem_append.1 hu with hu | hu
   ·rw [((Jp E.top u).1 hu).1];trivial
   ·rw [List.mem_singleton.1 hu];exact JD (hs p.1) hb2
  ·rw [JG hnt _ _ _ hlow,List.map_append,List.map_cons,List.map_nil,Jl,Vr]
   obtain ⟨X1,k1,k2⟩:=hsim.drops ((ZR (gE E s) p.1 E.top).map fun u=>(u.1,u.2.den ρ)) fun u hu=>by
    obtain ⟨m0,m1,k,m3⟩:=hda.1 u hu
    obtain ⟨p1,p2,p3⟩:=Yw m3
    exact ⟨m1,p2,Yl hsim (fun e=>by rw [e] at m3;rcases m3 with m3 | ⟨_,m3⟩ <;> cases m3) p3⟩
   have hnd:p.1∉((ZR (gE E s) p.1 E.top).map fun u=>(u.1,u.2.den ρ)).map (·.1):=by
    intro hm
    obtain ⟨u,hu,he⟩:=List.mem_map.1 hm
    exact (hda.1 u hu).1 he
   have hsame:Ju (ZW E s ρ) ((ZR (gE E s) p.1 E.top).map fun u=>(u.1,u.2.den ρ)) p.1=ZW E s ρ p.1:=Zca _ _ _ hnd
   have hdead:∀ i,Ju (ZW E s ρ) ((ZR (gE E s) p.1 E.top).map fun u=>(u.1,u.2.den ρ)) i=if i∈((ZR (gE E s) p.1 E.top).map fun u=>(u.1,u.2.den ρ)).map (·.1) then .dead else ZW E s ρ i:=fun i=>Kt _ _ i fun u hu=>(hda.1 u hu).2.1
   have:=hstep _ X1 k1 (by rw [hsame];exact hat) (by rw [hsame];exact Ks ρ hng) (fun i hr=>by
    rw [hdead] at hr
    split at hr
    ·rcases hr with hr | ⟨_,hr⟩ <;> cases hr
    ·rename_i hm
     by_cases hi:i=p.1
     ·subst hi
      rcases hr with hr | ⟨_,hr⟩ <;> (rw [hr] at hat;cases hat)
     ·exact hm (hda.2 i _ hi hr))
   rw [hsame] at this
   exact this
 split at hd
 ·split at hd
  case isFalse=>cases hd
  rename_i hh
  cases hd
  refine gen _ _ ⟨hl,trivial,trivial,trivial⟩ fun σ X hs h1 h2 h3=>?_
  obtain ⟨X',hx⟩:=hs.deepen h1 h2 (by rw [hcP];exact hh.1) (by rw [hcP];exact hh.2) (ZnU hh.2) h3
  exact ⟨lim,X',hx⟩
 ·rename_i hdp
  split at hd
  case isFalse=>cases hd
  rename_i hh
  cases hd
  refine gen _ _ ⟨hl,trivial,trivial,trivial⟩ fun σ X hs h1 h2 h3=>?_
  exact hs.undeep h1 h2 (by rw [hcP];exact hdp) (by rw [hcP];exact hh) h3
 ·cases hd
theorem Zej {P:Program} {E:Env} (hnt:E.top≤1024) {c:Ctx} (hcP:c.P=P) {s:Tr} {n:Nat} {ρ:Nat→V} (p:Nat×Nat) {tm:Array Value} {w:World} (hs:K8 E s n) (h:∃ lim X,Sim c (ZW E s ρ) tm w lim X) :
  K8 E (Kx P E s p) n∧∃ lim X,Sim c (ZW E (Kx P E s p) ρ) tm w lim X:=by
 unfold Kx
 split
 ·rename_i s' hd
  exact ZgJ hnt hcP p hs h hd
 split
 ·rename_i e l hp
  split
  ·rename_i hh
   have hlow:KL E ((p.1,Z5 (gE E s p.1) p.2 false e l)::KE P (gE E s) p.1 p.2 e l E.top):=by
    unfold KL
    rw [List.all_eq_true]
    intro u hu
    rcases List.mem_cons.1 hu with rfl | hu
    ·simpa using JY hh.1
    ·simpa using ((YD E.top u).1 hu).1
   have hl:=Jv hp (hs p.1)
   refine ⟨JB hnt _ _ hlow hs fun u hu=>?_,?_⟩
   ·rcases List.mem_cons.1 hu with rfl | hu
    ·exact JD (hs p.1) hl
    ·rcases ((YD E.top u).1 hu).2 with ⟨_,h2⟩ | ⟨_,h2⟩ <;> rw [h2]
     ·exact hl
     ·trivial
   ·obtain ⟨lim,X,hsim⟩:=h
    rw [JG hnt _ _ _ hlow]
    have hA:∀ u∈((KE P (gE E s) p.1 p.2 e l E.top).map fun u=>(u.1,u.2.den ρ)),u.1≠p.1∧((ZW E s ρ u.1 = .mref p.1 p.2∧u.2 = .slice false (c.P.cellsOf e) (l.den ρ))∨((∃ o,ZW E s ρ u.1 = .eref p.1 p.2 o)∧u.2 = .dead)):=by
     intro u hu
     obtain ⟨v,hv,rfl⟩:=List.mem_map.1 hu
     have hne:v.1≠p.1:=by
      intro he
      have h2:=((YD E.top v).1 hv).2
      rw [he] at h2
      rcases h2 with ⟨h2,_⟩ | ⟨⟨_,_,_,h2⟩,_⟩ <;> rw [h2] at hp<;>cases hp
     refine ⟨hne,?_⟩
     rcases ((YD E.top v).1 hv).2 with ⟨h1,h2⟩ | ⟨⟨i,s',o,h1⟩,h2⟩
     ·exact .inl ⟨by show (gE E s v.1).den ρ=_;rw [h1];rfl,by rw [h2,hcP];rfl⟩
     ·exact .inr ⟨⟨_,by show (gE E s v.1).den ρ=_;rw [h1];rfl⟩,by rw [h2];rfl⟩
    have hB:∀ i,Je (ZW E s ρ i) p.1 p.2→i∈((KE P (gE E s) p.1 p.2 e l E.top).map fun u=>(u.1,u.2.den ρ)).map (·.1):=by
     intro i hi
     rw [List.map_map]
     have hi':Je ((gE E s i).den ρ) p.1 p.2:=hi
     have hlt:i < E.top:=by
      rcases Nat.lt_or_ge i E.top with h | h
      ·exact h
      ·rw [Zbw s i h] at hi'
       rcases hi' with h0 | ⟨_,h0⟩ <;> cases h0
     have hex:∃ x,(i,x)∈KE P (gE E s) p.1 p.2 e l E.top:=by
      cases hg:gE E s i with
      | mref d' q' =>
       rw [hg] at hi'
       rcases hi' with h0 | ⟨_,h0⟩ <;> cases h0
       exact ⟨_,(YD E.top (i,_)).2 ⟨hlt,.inl ⟨hg,rfl⟩⟩⟩
      | eref d' q' a b o =>
       rw [hg] at hi'
       rcases hi' with h0 | ⟨_,h0⟩ <;> cases h0
       exact ⟨_,(YD E.top (i,_)).2 ⟨hlt,.inr ⟨⟨_,_,_,hg⟩,rfl⟩⟩⟩
      | c y => rw [hg] at hi'; rcases hi' with h0 | ⟨_, h0⟩ <;> cases y <;> cases h0
      | _ => rw [hg] at hi'; rcases hi' with h0 | ⟨_, h0⟩ <;> cases h0
     obtain ⟨x,hx⟩:=hex
     exact List.mem_map.2 ⟨_,hx,rfl⟩
    obtain ⟨lim',hf⟩:=hsim.freeze (d:=p.1) (q:=p.2) (Ks ρ hh.2.2.1) (ZO ρ hp) (by rw [hcP];omega) (by rw [hcP];exact hh.2.2.2) hA hB
    refine ⟨lim',X,?_⟩
    rw [List.map_cons,Jl]
    exact hf
  ·exact ⟨hs,h⟩
 ·split
  ·rename_i x hx
   split
   ·rename_i hlt
    have hlow:KL E [(p.1,x)]:=by simpa [KL] using JY hlt
    obtain ⟨cs,k,e,l,h1,h2,h3,rfl⟩:=ZfS hx
    have hbd:=hs p.1
    rw [h1] at hbd
    refine ⟨JB hnt _ _ hlow hs fun u hu=>?_,?_⟩
    ·rw [List.mem_singleton.1 hu]
     intro y hy
     rcases List.mem_or_eq_of_mem_set hy with hy | rfl
     ·exact hbd y hy
     ·exact (show l.bd n from hbd (.own false e l) (List.mem_of_getElem? h3))
    ·obtain ⟨lim,X,hsim⟩:=h
     rw [JG hnt _ _ _ hlow]
     have hd:ZW E s ρ p.1 = .box (cs.map (BC.den ρ)):=by show (gE E s p.1).den ρ=_;rw [h1];rfl
     obtain ⟨X',hX⟩:=hsim.loose hd (k:=k) (e:=e) (xs:=l.den ρ) (by rw [List.getElem?_map,h3];rfl)
     refine ⟨lim,X',?_⟩
     have e1:(SV.box (cs.set k (.c (.slice false (P.cellsOf e) l)))).den ρ = .box ((cs.map (BC.den ρ)).set k (.slice false (c.P.cellsOf e) (l.den ρ))):=by
      rw [hcP]
      simp only [SV.den,List.map_set]
      rfl
     show Sim c (upd (ZW E s ρ) p.1 ((SV.box (cs.set k (.c (.slice false (P.cellsOf e) l)))).den ρ)) tm w lim X'
     rw [e1]
     exact hX
   ·exact ⟨hs,h⟩
  ·exact ⟨hs,h⟩
theorem Zgf {E:Env} (hnt:E.top≤1024) {c:Ctx} {used:List Nat} {s:Tr} {n:Nat} {ρ:Nat→V} (d:Nat) {tm:Array Value} {w:World} (hs:K8 E s n) (h:∃ lim X,Sim c (ZW E s ρ) tm w lim X) :
  K8 E (W4 E used s d) n∧∃ lim X,Sim c (ZW E (W4 E used s d) ρ) tm w lim X:=by
 unfold W4
 split
 ·rename_i e l hp
  split
  ·rename_i hh
   have hlow:KL E ((d,.dead)::ZR (gE E s) d E.top):=by
    unfold KL
    rw [List.all_eq_true]
    intro u hu
    rcases List.mem_cons.1 hu with rfl | hu
    ·simpa using JY hh.1
    ·simpa using ((Jp E.top u).1 hu).2.1
   refine ⟨JB hnt _ _ hlow hs fun u hu=>?_,?_⟩
   ·rcases List.mem_cons.1 hu with rfl | hu
    ·trivial
    ·rw [((Jp E.top u).1 hu).1];trivial
   ·obtain ⟨lim,X,hsim⟩:=h
    rw [JG hnt _ _ _ hlow]
    have hd:Kf (ZW E s ρ) d ((ZR (gE E s) d E.top).map fun u=>(u.1,u.2.den ρ)):=JL (g:=gE E s) ρ (Zbw s)
    obtain ⟨X',h1,_⟩:=hsim.freeAll (t:=d) (x:=true) (e:=e) (xs:=l.den ρ) (by show (gE E s d).den ρ=_;rw [hp];rfl) (.inr hd)
    exact ⟨lim,X',h1⟩
  ·exact ⟨hs,h⟩
 ·exact ⟨hs,h⟩
theorem ZdQ {P:Program} {E:Env} (hnt:E.top≤1024) {c:Ctx} (hcP:c.P=P) {id:Nat} {ops:Array Oper} {s:Tr} {n:Nat} {ρ:Nat→V} {tm:Array Value} {w:World} {lim:Nat→Nat} {X:Nat→Nat→Option Nat} (hs:K8 E s n) (h:Sim c (ZW E s ρ) tm w lim X) :
  K8 E (ZpE P E id ops s) n∧∃ lim X,Sim c (ZW E (ZpE P E id ops s) ρ) tm w lim X:=by
 have step1:∀ (l:List (Nat×Nat)) (s:Tr),K8 E s n→(∃ lim X,Sim c (ZW E s ρ) tm w lim X)→K8 E (l.foldl (Kx P E) s) n∧∃ lim X,Sim c (ZW E (l.foldl (Kx P E) s) ρ) tm w lim X:=by
  intro l
  induction l with
  | nil => exact fun s h1 h2 => ⟨h1, h2⟩
  | cons p l ih =>
   intro s h1 h2
   obtain ⟨g1,g2⟩:=Zej hnt hcP p h1 h2
   exact ih _ g1 g2
 have step2:∀ (l:List Nat) (s:Tr),K8 E s n→(∃ lim X,Sim c (ZW E s ρ) tm w lim X)→K8 E (l.foldl (W4 E (Zgj ops)) s) n∧∃ lim X,Sim c (ZW E (l.foldl (W4 E (Zgj ops)) s) ρ) tm w lim X:=by
  intro l
  induction l with
  | nil => exact fun s h1 h2 => ⟨h1, h2⟩
  | cons p l ih =>
   intro s h1 h2
   obtain ⟨g1,g2⟩:=Zgf hnt p h1 h2
   exact ih _ g1 g2
 obtain ⟨g1,g2⟩:=step1 (E.fz id) s hs ⟨lim,X,h⟩
 exact step2 (Zrc ops) _ g1 g2
section
variable {P:Program} {E:Env} {R:AV→List AV→Prop}
def Zj3 (lv:Nat) (A A':Nat→List V→Prop):Prop:=∀ i,i < lv→A' i=A i
theorem ZmH (hm:P.follows .mixedOrders=true) (hps:EnvSound P E) (hnt:E.top≤1024) {c:Ctx} (hcP:c.P=P) (hcn:c.nt=E.nt) (hpin:∀ d v,c.pin d=some v→d∈E.pins) (hgpin:∀ d b,c.gpin d=some b→E.nt≤d∧d < E.top) :
  ∀ (code:Code) (lv n:Nat) (s:Tr) (kn:Tr→Nat→STree) (kx:Nat→Tr→Nat→STree) (kr:Tr→Nat→STree) (A:Nat→List V→Prop) (ρ:Nat→V) (tm:Array Value) (w:World) (lim:Nat→Nat) (X:Nat→Nat→Option Nat)
   (Q:Exit→Act→World→Prop),K8 E s n→(ev P E lv code s n kn kx kr).wp P R A ρ→Sim c (ZW E s ρ) tm w lim X→
   (∀ s' n' ρ' A',Zj3 lv A A'→K8 E s' n'→(kn s' n').wp P R A' ρ'→∀ tm' w' lim' X',Sim c (ZW E s' ρ') tm' w' lim' X'→Q .normal ⟨tm',[]⟩ w')→
   (∀ id s' n' ρ' A',Zj3 lv A A'→K8 E s' n'→(kx id s' n').wp P R A' ρ'→∀ tm' w' lim' X',Sim c (ZW E s' ρ') tm' w' lim' X'→Q (.exit id) ⟨tm',[]⟩ w')→
   (∀ s' n' ρ' A',Zj3 lv A A'→K8 E s' n'→(kr s' n').wp P R A' ρ'→∀ tm' w' lim' X',Sim c (ZW E s' ρ') tm' w' lim' X'→Q .ret ⟨tm',[]⟩ w')→
   code.wp P Q ⟨tm,[]⟩ w:=by
 intro code
 induction code with
 | skip => intro lv n s kn kx kr A ρ tm w lim X Q hs h hsim hn hx hr; exact wp_skip (hn s n ρ A (fun _ _ => rfl) hs h tm w lim X hsim)
 | label l => intro lv n s kn kx kr A ρ tm w lim X Q hs h hsim hn hx hr; exact wp_label (hn s n ρ A (fun _ _ => rfl) hs h tm w lim X hsim)
 | exit id => intro lv n s kn kx kr A ρ tm w lim X Q hs h hsim hn hx hr; exact wp_exit (hx id s n ρ A (fun _ _ => rfl) hs h tm w lim X hsim)
 | ret => intro lv n s kn kx kr A ρ tm w lim X Q hs h hsim hn hx hr; exact wp_ret (hr s n ρ A (fun _ _ => rfl) hs h tm w lim X hsim)
 | seq a b iha ihb =>
  intro lv n s kn kx kr A ρ tm w lim X Q hs h hsim hn hx hr
  refine wp_seq (iha lv n s _ kx kr A ρ tm w lim X _ hs h hsim ?_ hx hr)
  intro s' n' ρ' A' hA hs' h' tm' w' lim' X' hsim'
  exact ihb lv n' s' kn kx kr A' ρ' tm' w' lim' X' Q hs' h' hsim' (fun s2 n2 ρ2 A2 hA2=>hn s2 n2 ρ2 A2 fun i hi=>(hA2 i hi).trans (hA i hi))
   (fun id s2 n2 ρ2 A2 hA2=>hx id s2 n2 ρ2 A2 fun i hi=>(hA2 i hi).trans (hA i hi)) (fun s2 n2 ρ2 A2 hA2=>hr s2 n2 ρ2 A2 fun i hi=>(hA2 i hi).trans (hA i hi))
 | cond x a b iha ihb =>
  intro lv n s kn kx kr A ρ tm w lim X Q hs h hsim hn hx hr
  simp only [ev] at h
  split at h
  ·rename_i t ht
   have hxt:x = .tmp t:=by cases x<;>simp [ZS] at ht;rw [ht]
   subst hxt
   have heval:∀ v:BE,gE E s t = .c (.bool v)→Act.eval ⟨tm,[]⟩ (.tmp t) = .bool (v.den ρ):=by
    intro v hv
    have hrel:=hsim.rel t
    have:ZW E s ρ t = .val (.bool (v.den ρ)):=by simp only [ZW,hv,SV.den,SC.den]
    rw [this] at hrel
    exact KN hrel
   split at h
   ·rename_i v hv
    have he:=heval _ hv
    simp only [BE.den] at he
    split at h
    ·rename_i hvt
     subst hvt
     exact wp_cond_true he (iha lv n s kn kx kr A ρ tm w lim X Q hs h hsim hn hx hr)
    ·rename_i hvt
     have:v=false:=by simpa using hvt
     subst this
     exact wp_cond_false he (ihb lv n s kn kx kr A ρ tm w lim X Q hs h hsim hn hx hr)
   ·rename_i v _ hv
    refine wp_cond_split (heval v hv) (fun hv'=>?_) fun hv'=>?_
    ·obtain ⟨hlt,hsame⟩:=Wb hnt hv hv'
     exact iha lv n _ kn kx kr A ρ tm w lim X Q (J4 (x:=.c (.bool (.lit true))) hnt hlt hs trivial) (h.1 hv') (by rw [hsame];exact hsim) hn hx hr
    ·obtain ⟨hlt,hsame⟩:=Wb hnt hv hv'
     exact ihb lv n _ kn kx kr A ρ tm w lim X Q (J4 (x:=.c (.bool (.lit false))) hnt hlt hs trivial) (h.2 hv') (by rw [hsame];exact hsim) hn hx hr
   ·exact h.elim
  ·exact h.elim
 | block id body ih =>
  intro lv n s kn kx kr A ρ tm w lim X Q hs h hsim hn hx hr
  refine wp_block (ih lv n s kn _ kr A ρ tm w lim X _ hs h hsim hn ?_ hr)
  intro id' s' n' ρ' A' hA hs' h' tm' w' lim' X' hsim'
  unfold Exit.inBlock
  by_cases hid:id'=id
  ·rw [if_pos hid] at h'
   simp only [hid,if_true]
   exact hn s' n' ρ' A' hA hs' h' tm' w' lim' X' hsim'
  ·rw [if_neg hid] at h'
   simp only [hid,if_false]
   exact hx id' s' n' ρ' A' hA hs' h' tm' w' lim' X' hsim'
 | scope body ih =>
  intro lv n s kn kx kr A ρ tm w lim X Q hs h hsim hn hx hr
  exact wp_scope_straight (ih lv n s kn kx kr A ρ tm w lim X _ hs h hsim hn hx hr)
 | loop body ih =>
  intro lv n s kn kx kr A ρ tm w lim X Q hs h hsim hn hx hr
  simp only [ev] at h
  split at h
  case isFalse=>exact h.elim
  rename_i hok
  split at h
  case h_2=>exact h.elim
  rename_i init hinit
  obtain ⟨I,m,h0,hround⟩:=h
  have hlen:∀ {s':Tr} {ves:List VE},YU P (gE E s') (E.keep (Jf body))=some ves→(Z2 (E.keep (Jf body)) 0).2=ves.length:=by
   intro s' ves hv
   have:=(KV (P:=P) (g:=gE E s') (ρ:=ρ) _ 0 ves [] hv rfl).1
   omega
  have key:∀ (k:Nat) (vs:List V) (tm:Array Value) (w:World) (lim:Nat→Nat) (X:Nat→Nat→Option Nat),m vs < k→vs.length=init.length→I vs→
    Sim c (ZW E (Jn (Z2 (E.keep (Jf body)) 0).1 (.leaf .dead)) (bind Ze1 0 vs)) tm w lim X→Code.rounds P body Q k ⟨tm,[]⟩ w:=by
   intro k
   induction k with
   | zero => intro vs tm w lim X hlt; omega
   | succ k ihk =>
    intro vs tm w lim X hlt hlv hI hsim
    rw [rounds_succ]
    obtain ⟨k1,k2,k3,k4,k5,k6⟩:=V0 hok
    have hbd:K8 E (Jn (Z2 (E.keep (Jf body)) 0).1 (.leaf .dead)) (Z2 (E.keep (Jf body)) 0).2:=by
     refine JB hnt _ _ ?_ (fun d=>?_) (ZcW _ 0).2
     ·unfold KL
      rw [List.all_eq_true]
      intro u hu
      have h2:=(KV (P:=P) (g:=gE E s) (ρ:=ρ) _ 0 init [] hinit rfl).2.1
      have hm:u.1∈(E.keep (Jf body)).map (·.1):=by rw [← h2];exact List.mem_map.2 ⟨u,hu,rfl⟩
      obtain ⟨p,hp,he⟩:=List.mem_map.1 hm
      have:=(k2 p hp).1
      rw [he] at this
      simpa using this
     ·unfold gE
      split<;>trivial
    refine ih (lv+1) _ _ _ kx kr _ (bind Ze1 0 vs) tm w lim X _ hbd (hround vs hlv hI) hsim ?_ ?_ ?_
    ·intro s' n' ρ' A' hA hs' h' tm' w' lim' X' hsim'
     split at h'
     ·rename_i vals hvals
      have hAl:A' lv=fun vs'=>I vs'∧m vs' < m vs:=by
       rw [hA lv (Nat.lt_succ_self _)]
       funext vs'
       simp only [ZpZ,if_true]
      have h'':A' lv (vals.map (VE.den ρ')):=h'
      rw [hAl] at h''
      obtain ⟨hI',hm'⟩:=h''
      obtain ⟨X2,hs2⟩:=Zhg hnt hcP hcn hpin hgpin hok Ze1 hvals hsim'
      exact ihk _ tm' w' lim' X2 (by omega) (by rw [List.length_map,← hlen hvals,hlen hinit]) hI' hs2
     ·exact h'.elim
    ·intro id s' n' ρ' A' hA hs' h' tm' w' lim' X' hsim'
     exact hx id s' n' ρ' A' (fun i hi=>by rw [hA i (by omega)];funext vs';simp only [ZpZ,Nat.ne_of_lt hi,if_false]) hs' h' tm' w' lim' X' hsim'
    ·intro s' n' ρ' A' hA hs' h' tm' w' lim' X' hsim'
     exact hr s' n' ρ' A' (fun i hi=>by rw [hA i (by omega)];funext vs';simp only [ZpZ,Nat.ne_of_lt hi,if_false]) hs' h' tm' w' lim' X' hsim'
  obtain ⟨X0,hs0⟩:=Zhg hnt hcP hcn hpin hgpin hok Ze1 hinit hsim
  exact wp_loop_rounds _ (key (m (init.map (VE.den ρ))+1) _ tm w lim X0 (Nat.lt_succ_self _) (by rw [List.length_map]) h0 hs0)
 | region id ops draw =>
  intro lv n s0 kn kx kr A ρ tm w lim0 X0 Q hs0 h hsim0 hn hx hr
  simp only [ev] at h
  obtain ⟨hs,lim,X,hsim⟩:=ZdQ (P:=P) hnt hcP (id:=id) (ops:=ops) hs0 hsim0
  generalize ZpE P E id ops s0=s at h hs hsim
  split at h
  ·rename_i x a d T neg htest
   split at h
   case h_2=>exact h.elim
   rename_i e l hT hl
   split at h
   case isFalse=>exact h.elim
   rename_i hh
   obtain ⟨ha,hd,hma,hmd,had,hxa⟩:=hh
   obtain ⟨o,p,U,hops,hgo,hgp,h1,h2,h3,h4⟩:=Zf4 htest
   obtain ⟨va,k,cap,hv,hnil⟩:=ZiJ hl (show ZP P w lim X (ZW E s ρ) x (ZW E s ρ x) (tm.getD x undef) from hcP ▸ hsim.rel x)
   have hsz:ops.size=2:=by rw [← Array.length_toList,hops];rfl
   have ho0:ops[0]? = some o:=by rw [← Array.getElem?_toList,hops];rfl
   have ho1:ops[1]? = some p:=by rw [← Array.getElem?_toList,hops];rfl
   refine wp_region ?_
   rw [hsz,show List.range 2 = [0,1] from rfl,wpOps_cons]
   unfold wpOp
   simp only [ho0,Region.wanted,hgo]
   simp only [if_true]
   refine .inl (Zq (v:=.slice va k cap) (w':=w) ?_ ?_)
   ·have hev:Act.eval ⟨tm,[]⟩ (.tmp x)=tm.getD x undef:=rfl
    simp only [execOp,h1,hev,hv,Sem.run_pure]
   ·rw [wpOps_cons]
    unfold wpOp
    simp only [ho1,Region.wanted,hgp]
    simp only [if_true]
    have hea:Act.eval (Act.put ⟨tm,[]⟩ o.dst (.slice va k cap)) (.tmp a) = .slice va k cap:=by
     rw [h2]
     exact Jz tm a _ (by rw [hsim.size,hcn];exact ha)
    refine .inl (Zq (v:=.bool (if neg=true then !va.isNone else va.isNone)) (w':=w) ?_ ?_)
    ·have hec:Act.eval (Act.put ⟨tm,[]⟩ o.dst (.slice va k cap)) (.const (.slice none 0 0)) = .slice none 0 0:=rfl
     have heq:=run_equal_slice_nil (P:=P) w T _ va k cap hT
     cases neg
     ·simp [execOp,h3,hea,hec,eqGuard,binOp,heq]
     ·simp [execOp,h3,hea,hec,eqGuard,binOp,heq]
    ·have hb:=h va.isNone hnil
     have hna:VQ (ZW E s ρ a):=ZD (Ys (a:=gE E s a) (b:=.dead) ρ hma)
     have hnd:VQ (ZW E s ρ d):=ZD (Ys (a:=gE E s d) (b:=.dead) ρ hmd)
     have s1:=hsim.put (k:=0) (x:=.dead) (v:=.slice va k cap) (by rw [hcn];exact ha) hna rfl trivial
     have s2:=s1.put (d:=d) (k:=0) (x:=.val (.bool (if neg=true then !va.isNone else va.isNone))) (v:=.bool (if neg=true then !va.isNone else va.isNone)) (by rw [hcn];exact hd) (by rw [Zf _ _ (Ne.symm had)];exact hnd) rfl (Rep.val rfl)
     have hbv:(BE.den (bind ρ n [.b va.isNone]) (if neg=true then .not (.var n) else .var n))=(if neg=true then !va.isNone else va.isNone):=by
      have hvar:bind ρ n [.b va.isNone] n = .b va.isNone:=by simp [bind]
      cases neg
      ·simp only [Bool.false_eq_true,if_false,BE.den,hvar,V.bool]
      ·simp only [if_true,BE.den,hvar,V.bool]
     have hσ:ZW E ((s.set depth a .dead).set depth d (.c (.bool (if neg=true then .not (.var n) else .var n)))) (bind ρ n [.b va.isNone])=upd (upd (ZW E s ρ) a .dead) d (.val (.bool (if neg=true then !va.isNone else va.isNone))):=by
      rw [YJ hnt (JY hd),YJ hnt (JY ha),ZcL hs (YB ρ n _)]
      simp only [SV.den,SC.den,hbv]
     have hs2:K8 E ((s.set depth a .dead).set depth d (.c (.bool (if neg=true then .not (.var n) else .var n)))) (n+1):=by
      refine J4 hnt (JY hd) (J4 hnt (JY ha) (ZfZ hs (Nat.le_succ n)) trivial) ?_
      cases neg
      ·exact Nat.lt_succ_self n
      ·exact Nat.lt_succ_self n
     rw [h2,h4]
     show Q .normal ⟨(tm.setIfInBounds a (.slice va k cap)).setIfInBounds d (.bool (if neg=true then !va.isNone else va.isNone)),[]⟩ w
     exact hn _ _ _ A (fun _ _=>rfl) hs2 hb _ w lim _ (by rw [hσ];exact s2)
  ·split at h
   ·rename_i x i a b cc T htest _
    split at h
    case h_2=>exact h.elim
    rename_i e0 e l ie hT hgx hgi
    split at h
    case h_2=>exact h.elim
    rename_i inf hinf
    split at h
    case h_2=>exact h.elim
    rename_i z hz
    split at h
    case h_2=>exact h.elim
    rename_i zc sh hzc hsh
    split at h
    case h_2=>exact h.elim
    rename_i zc' hzc'
    split at h
    case isFalse=>exact h.elim
    rename_i hh
    obtain ⟨rfl,hzs,⟨h0,hnm⟩,hok⟩:=hh
    simp only [Zkl,Bool.and_eq_true,decide_eq_true_eq] at hok
    obtain ⟨⟨hxn,han,hbn,hcn',hxa,hxb,hxc,hia,hab,hac,hbc⟩,hma,hmb,hmc⟩:=hok
    obtain ⟨r1,r2,h⟩:=h
    have r1':(0:Int)≤ie.den ρ:=r1
    have r2':ie.den ρ≤((l.den ρ).length:Int):=r2
    obtain ⟨o,p,q,r,hops,hgo,hgp,hgq,hgr,h1,h2,h3,h4,h5,h6,⟨cl,h7,h9,h10,h11⟩,h8⟩:=ZcE htest
    have hσx:ZW E s ρ x = .own true e (l.den ρ):=by show (gE E s x).den ρ=_;rw [hgx];rfl
    have hσi:ZW E s ρ i = .val (.int .i64 (ie.den ρ)):=by show (gE E s i).den ρ=_;rw [hgi];rfl
    have hzd:=Ki ρ z.cells.toList
    rw [hzc] at hzd
    have hzr0:∀ (w:World) (lim:Nat→Nat),Yf w lim (zc.map (SC.den ρ)) z.cells.toList:=fun w lim=>YZ (h:=hzd.symm)
    have hzr:∀ (w:World) (lim:Nat→Nat),Yf w lim (zc'.map (SC.den ρ)) z.cells.toList:=fun w lim=>(Vw ρ _ _ _ hzc').2 w lim _ (hzr0 w lim)
    have h1z:∀ v∈z.cells.toList,v.oneCell'=true:=by
     intro v hv
     obtain ⟨j,hj⟩:=List.mem_iff_getElem?.1 hv
     have hjl:=(List.getElem?_eq_some_iff.1 hj).1
     have hr0:=hzr0 w lim
     have hjz:j < (zc.map (SC.den ρ)).length:=by rw [hr0.1];exact hjl
     exact (hr0.2.2 j _ v (List.getElem?_eq_getElem hjz) hj).oneCell (hr0.2.1 _ (List.getElem_mem hjz))
    obtain ⟨v2,w',X',hsl,hcl,hs',hmx⟩:=hsim.clear (x:=x) (n:=(ie.den ρ).toNat) (T:=T) (zc:=zc'.map (SC.den ρ)) hσx (by rw [hcP];exact hT) (by rw [hcP];exact hinf) hz hzs h0 hzr h1z (by omega) (by rw [hcP];exact hnm)
    rw [hcP] at hsl hcl
    have hvi:tm.getD i undef = .int .i64 (ie.den ρ):=by
     have:=hsim.rel i
     rw [hσi] at this
     exact KN (show Rep w lim _ _ from this)
    have hin:((ie.den ρ).toNat:Int)=ie.den ρ:=by omega
    rw [hin] at hsl
    have hsz:ops.size=4:=by rw [← Array.length_toList,hops];rfl
    have ho0:ops[0]? = some o:=by rw [← Array.getElem?_toList,hops];rfl
    have ho1:ops[1]? = some p:=by rw [← Array.getElem?_toList,hops];rfl
    have ho2:ops[2]? = some q:=by rw [← Array.getElem?_toList,hops];rfl
    have ho3:ops[3]? = some r:=by rw [← Array.getElem?_toList,hops];rfl
    have hts:tm.size=E.nt:=by rw [hsim.size,hcn]
    refine wp_region ?_
    rw [hsz,show List.range 4 = [0,1,2,3] from rfl,wpOps_cons]
    unfold wpOp
    simp only [ho0,Region.wanted,hgo]
    simp only [if_true]
    refine .inl (Zq (v:=tm.getD x undef) (w':=w) ?_ ?_)
    ·have hev:Act.eval ⟨tm,[]⟩ (.tmp x)=tm.getD x undef:=rfl
     simp only [execOp,h1,hev,Sem.run_pure]
    rw [wpOps_cons]
    unfold wpOp
    simp only [ho1,Region.wanted,hgp]
    simp only [if_true]
    have e1:Act.eval (Act.put ⟨tm,[]⟩ o.dst (tm.getD x undef)) (.tmp i) = .int .i64 (ie.den ρ):=by
     rw [h2]
     exact (ZL tm a i _ hia).trans hvi
    refine .inl (Zq (v:=.int .i64 (ie.den ρ)) (w':=w) ?_ ?_)
    ·simp only [execOp,h3,e1,Sem.run_pure]
    rw [wpOps_cons]
    unfold wpOp
    simp only [ho2,Region.wanted,hgq]
    simp only [if_true]
    have e2:Act.eval (Act.put (Act.put ⟨tm,[]⟩ o.dst (tm.getD x undef)) p.dst (.int .i64 (ie.den ρ))) (.tmp a)=tm.getD x undef:=by
     rw [h2,h4]
     exact (ZL _ b a _ hab).trans (Jz tm a _ (by rw [hts];exact han))
    have e3:Act.eval (Act.put (Act.put ⟨tm,[]⟩ o.dst (tm.getD x undef)) p.dst (.int .i64 (ie.den ρ))) (.tmp b) = .int .i64 (ie.den ρ):=by
     rw [h2,h4]
     exact Jz _ b _ (by show b < (tm.setIfInBounds a _).size;rw [Array.size_setIfInBounds,hts];exact hbn)
    refine .inl (Zq (v:=v2) (w':=w) ?_ ?_)
    ·simp only [execOp,h5,Option.map_some,Option.map_none,Sem.run_bind,e2,e3,hsl,Result.andThen_ok,Sem.run_pure]
    rw [wpOps_cons]
    unfold wpOp
    simp only [ho3,Region.wanted,hgr]
    simp only [if_true]
    have e4:Act.eval (Act.put (Act.put (Act.put ⟨tm,[]⟩ o.dst (tm.getD x undef)) p.dst (.int .i64 (ie.den ρ))) q.dst v2) (.tmp cc)=v2:=by
     rw [h2,h4,h6]
     exact Jz _ cc _ (by show cc < ((tm.setIfInBounds a _).setIfInBounds b _).size;rw [Array.size_setIfInBounds,Array.size_setIfInBounds,hts];exact hcn')
    refine .inl (Zq (v:=.tuple #[]) (w':=w') ?_ ?_)
    ·simp only [execOp,h7,h9,h10,h11,resolve,invoke,builtin,Sem.run_bind,Sem.run_pure,Result.andThen_ok,List.map_toArray,List.map_cons,List.map_nil,e4,hcl]
    have hna:VQ (ZW E s ρ a):=ZD (Ys (a:=gE E s a) (b:=.dead) ρ hma)
    have hnb:VQ (ZW E s ρ b):=ZD (Ys (a:=gE E s b) (b:=.dead) ρ hmb)
    have hnc:VQ (ZW E s ρ cc):=ZD (Ys (a:=gE E s cc) (b:=.dead) ρ hmc)
    have s1:=hs'.put (d:=a) (k:=0) (x:=.dead) (v:=tm.getD x undef) (by rw [hcn];exact han) (by rw [Zf _ _ (Ne.symm hxa)];exact hna) rfl trivial
    have s2:=s1.put (d:=b) (k:=0) (x:=.dead) (v:=.int .i64 (ie.den ρ)) (by rw [hcn];exact hbn) (by rw [Zf _ _ (Ne.symm hab),Zf _ _ (Ne.symm hxb)];exact hnb) rfl trivial
    have s3:=s2.put (d:=cc) (k:=0) (x:=.dead) (v:=v2) (by rw [hcn];exact hcn') (by rw [Zf _ _ (Ne.symm hbc),Zf _ _ (Ne.symm hac),Zf _ _ (Ne.symm hxc)];exact hnc) rfl trivial
    have hwr:iop .sub .i64 ((l.den ρ).length:Int) (ie.den ρ)=((l.den ρ).length:Int)-ie.den ρ:=by
     show IntKind.i64.wrap _=_
     rw [IntKind.wrap_i64]
     unfold maxLen at hmx
     omega
    have hlist:(LE.app (.take l ie) (.rep (.bin .sub .i64 (.len l) ie) (Zij zc'))).den ρ=(l.den ρ).take (ie.den ρ).toNat++List.replicate ((l.den ρ).length-(ie.den ρ).toNat) (zc'.map (SC.den ρ)):=by
     show (l.den ρ).take (ie.den ρ).toNat++List.replicate (iop .sub .i64 ((l.den ρ).length:Int) (ie.den ρ)).toNat ((Zij zc').den ρ)=_
     rw [hwr,Vz]
     congr 2
     omega
    have bx:(gE E s x).bd n:=hs x
    have bi:(gE E s i).bd n:=hs i
    rw [hgx] at bx
    rw [hgi] at bi
    have hσ:ZW E ((((s.set depth x (.own true e (.app (.take l ie) (.rep (.bin .sub .i64 (.len l) ie) (Zij zc'))))).set depth a .dead).set depth b .dead).set depth cc .dead) ρ=upd (upd (upd (upd (ZW E s ρ) x (.own true e ((l.den ρ).take (ie.den ρ).toNat++List.replicate ((l.den ρ).length-(ie.den ρ).toNat) (zc'.map (SC.den ρ))))) a .dead) b .dead) cc .dead:=by
     rw [YJ hnt (JY hcn'),YJ hnt (JY hbn),YJ hnt (JY han),YJ hnt (JY hxn)]
     simp only [SV.den,hlist]
    have hs2:K8 E ((((s.set depth x (.own true e (.app (.take l ie) (.rep (.bin .sub .i64 (.len l) ie) (Zij zc'))))).set depth a .dead).set depth b .dead).set depth cc .dead) n:=
     J4 hnt (JY hcn') (J4 hnt (JY hbn) (J4 hnt (JY han) (J4 hnt (JY hxn) hs ⟨⟨bx,bi⟩,⟨bx,bi⟩,Zah _ (Ku _ _ _ hzc' (Vt hzc))⟩) trivial) trivial) trivial
    rw [h2,h4,h6,h8]
    exact hn _ _ ρ A (fun _ _=>rfl) hs2 h _ w' lim _ (by rw [hσ];exact s3)
   ·exact Zfg hm hps hnt (fun d j=>Zqe) (fun d hd=>Zh5 ρ hd) hs h hcP hcn hsim fun s' n' ρ' hs' h'=>hn s' n' ρ' A (fun _ _=>rfl) hs' h'
 | _ => intro lv n s kn kx kr A ρ tm w lim X Q hs h hsim hn hx hr; exact h.elim
end
end Go.AM
end

section
namespace Go.AM
def Vq (tm:Array Value):ResultVar→Sem Value
 | .tmp t => pure (tm.getD t undef)
 | .cell a t => do loadVar t (← asAddr (tm.getD a undef))
def Wx:ResultVar→Nat
 | .tmp _ => 0
 | .cell _ _ => 1
theorem ZiM (fn:Func) (tm:Array Value):results fn tm=(do
  let vs ← fn.results.mapM (Vq tm)
  pure (if h:vs.size=1 then vs[0] else .tuple vs)):=by
 unfold results
 congr 1
theorem Zh1 {P:Program} {w:World} {f:ResultVar→Sem Value} : ∀ (rs:List ResultVar) (vs:List Value),rs.length=vs.length→
  (∀ (i:Nat) (r:ResultVar) (v:Value),rs[i]? = some r→vs[i]? = some v→(f r).run P w = .ok v w)→(rs.mapM f).run P w = .ok vs w
 | [], [], _, _ => by simp
 | [], _ :: _, h, _ => by simp at h
 | _ :: _, [], h, _ => by simp at h
 | r :: rs, v :: vs, h, hf => by
  have h1:=hf 0 r v rfl rfl
  have h2:=Zh1 rs vs (by simpa using h) fun i r' v' hr hv=>hf (i+1) r' v' (by simpa using hr) (by simpa using hv)
  simp [List.mapM_cons,h1,h2]
theorem KO {P:Program} {w:World} {fn:Func} {tm:Array Value} {vs:List Value} (hl:fn.results.toList.length=vs.length)
  (hf:∀ (i:Nat) (r:ResultVar) (v:Value),fn.results.toList[i]? = some r→vs[i]? = some v→(Vq tm r).run P w = .ok v w) :
  (results fn tm).run P w = .ok (match vs with | [v]=>v | vs=>.tuple vs.toArray) w:=by
 have h:=Zh1 _ _ hl hf
 rw [ZiM,Array.mapM_eq_mapM_toList]
 simp only [Sem.run_bind,Sem.run_map,h,Result.andThen_ok]
 rcases vs with _ | ⟨v,_ | ⟨u,l⟩⟩ <;> simp
section
variable {P:Program} {E:Env}
theorem Zfd {c:Ctx} (hc:c.P=P) {s:Tr} {ρ:Nat→V} {tm:Array Value} {w:World} {lim:Nat→Nat} {X:Nat→Nat→Option Nat} (hs:Sim c (ZW E s ρ) tm w lim X) {r:ResultVar} {x:TC}
  (h:KF P (gE E s) r=some x):∃ v,(Vq tm r).run P w = .ok v w∧JW P w lim (X (Z6 r) (Wx r)) (x.den ρ) v:=by
 cases r with
 | tmp t =>
  have hr:=hs.rel t
  simp only [KF] at h
  split at h
  ·rename_i y hy
   simp only [Option.some.injEq] at h
   subst h
   have:ZW E s ρ t=y.den ρ:=by simp only [ZW,hy,SV.den]
   rw [this] at hr
   exact ⟨_,rfl,by cases y<;>exact hr⟩
  ·rename_i cs hy
   simp only [Option.some.injEq] at h
   subst h
   have:ZW E s ρ t = .agg (cs.map (SC.den ρ)):=by simp only [ZW,hy,SV.den]
   rw [this] at hr
   exact ⟨_,rfl,hr⟩
  ·rename_i b e xs hy
   simp only [Option.some.injEq] at h
   subst h
   have:ZW E s ρ t = .own b e (xs.den ρ):=by simp only [ZW,hy,SV.den]
   rw [this,hc] at hr
   exact ⟨_,rfl,hr⟩
  ·cases h
 | cell t T =>
  have hr:=hs.rel t
  simp only [KF] at h
  split at h
  ·rename_i cs hT hy
   split at h
   ·rename_i hl
    simp only [Option.some.injEq] at h
    subst h
    have:ZW E s ρ t = .box (cs.map (BC.den ρ)):=by simp only [ZW,hy,SV.den]
    rw [this,hc] at hr
    obtain ⟨b,us,g1,g2,g3,g4,g5,g6⟩:=ZI.part (show ZI P w lim (X t) _ _ from hr) 0 (P.cellsOf T) (by simp [hl.1]) (by rw [List.drop_zero,List.take_of_length_le (by simp [hl.1])];exact Zbe hl.2.1 ρ) (by rw [List.drop_zero,List.take_of_length_le (by simp [hl.1])];exact Vs hl.2.2 ρ)
    refine ⟨.agg us.toArray,?_,?_⟩
    ·obtain ⟨i,hi⟩:=Zab hT
     have hl2:=run_loadCells_list (P:=P) w ⟨b,0,none⟩ us (fun j v hj=>by rw [JC];exact g4 j v hj)
     rw [g3] at hl2
     simp [Vq,g2,asAddr,loadVar,VF hT,Zx hi,hl2]
    ·have he:(TC.agg (cs.map (Zdb P))).den ρ = .agg ((((cs.map (BC.den ρ)).drop 0).take (P.cellsOf T)).map (Yq P)):=by
      rw [List.drop_zero,List.take_of_length_le (by simp [hl.1])]
      simp only [TC.den,List.map_map]
      congr 1
      exact List.map_congr_left fun b _=>Zdq P ρ b
     rw [he]
     exact .agg (by simp [g3,hl.1]) g5 g6
   ·cases h
  ·rename_i bx e xs hT hy
   simp only [Option.some.injEq] at h
   subst h
   have:ZW E s ρ t = .box [.own bx e (xs.den ρ)]:=by simp only [ZW,hy,SV.den];rfl
   rw [this,hc] at hr
   obtain ⟨b,arr,ty,h1,h2,h3,h4,h5,h6,h7⟩:=(show ZI P w lim (X t) _ _ from hr)
   obtain ⟨u,hu⟩:∃ u,arr[0]? = some u:=⟨_,Array.getElem?_eq_getElem (by rw [h4];simp)⟩
   refine ⟨u,?_,h7 0 _ u rfl hu⟩
   have hcell:w.cell? ⟨b,0,none⟩=some u:=by rw [Zs h3];exact hu
   simp [Vq,h2,asAddr,loadVar,KZ hT,hcell]
  ·rename_i y hT hy
   simp only [Option.some.injEq] at h
   subst h
   have:ZW E s ρ t = .box [y.den ρ]:=by simp only [ZW,hy,SV.den];rfl
   rw [this,hc] at hr
   obtain ⟨b,arr,ty,h1,h2,h3,h4,h5,h6,h7⟩:=(show ZI P w lim (X t) _ _ from hr)
   obtain ⟨u,hu⟩:∃ u,arr[0]? = some u:=⟨_,Array.getElem?_eq_getElem (by rw [h4];simp)⟩
   have h70:=h7 0 _ u rfl hu
   refine ⟨u,?_,by cases y<;>exact h70⟩
   have hcell:w.cell? ⟨b,0,none⟩=some u:=by rw [Zs h3];exact hu
   simp [Vq,h2,asAddr,loadVar,KZ hT,hcell]
  ·cases h
theorem Zfo {c:Ctx} (hc:c.P=P) {s:Tr} {ρ:Nat→V} {tm:Array Value} {w:World} {lim:Nat→Nat} {X:Nat→Nat→Option Nat} (hs:Sim c (ZW E s ρ) tm w lim X):∀ (rs:List ResultVar) (xs:List TC),
  Va P (gE E s) rs=some xs→∃ vs:List Value,rs.length=vs.length∧xs.length=vs.length∧∀ (i:Nat) (r:ResultVar) (v:Value),rs[i]? = some r→vs[i]? = some v→
   (Vq tm r).run P w = .ok v w∧∀ x,xs[i]? = some x→JW P w lim (X (Z6 r) (Wx r)) (x.den ρ) v
 | [], xs, h => by
  simp only [Va,Option.some.injEq] at h
  subst h
  exact ⟨[],rfl,rfl,by simp⟩
 | r :: rs, xs, h => by
  simp only [Va] at h
  split at h
  ·rename_i x xs' hx hxs
   simp only [Option.some.injEq] at h
   subst h
   obtain ⟨v,h1,h2⟩:=Zfd hc hs hx
   obtain ⟨vs,g1,g2,g3⟩:=Zfo hc hs rs xs' hxs
   refine ⟨v::vs,by simp [g1],by simp [g2],fun i r' v' hr hv=>?_⟩
   cases i with
   | zero =>
    simp only [List.getElem?_cons_zero,Option.some.injEq] at hr hv
    subst hr
    subst hv
    refine ⟨h1,fun y hy=>?_⟩
    simp only [List.getElem?_cons_zero,Option.some.injEq] at hy
    subst hy
    exact h2
   | succ i =>
    obtain ⟨k1,k2⟩:=g3 i r' v' (by simpa using hr) (by simpa using hv)
    exact ⟨k1,fun y hy=>k2 y (by simpa using hy)⟩
  ·cases h
theorem Zgk {w:World} {lim:Nat→Nat} {X:Nat→Nat→Option Nat} {σ:Nat→AV} {d:Nat} {x:TC} {ρ:Nat→V} {v:Value} (h:JW P w lim (X d 0) (x.den ρ) v):ZP P w lim X σ d (x.den ρ) v:=by
 cases x with
 | c y => cases y <;> exact h
 | agg cs => exact h
 | own x e l => exact h
 | gone => trivial
theorem Zc7 (ρ:Nat→V):∀ (aZ:List SV) (i:Nat) (σ:Nat→AV) (d:Nat),Ju σ ((Vi aZ i).map fun u=>(u.1,u.2.den ρ)) d=if i≤d∧d < i+aZ.length then ZM (aZ.map (SV.den ρ)) (d-i) else σ d
 | [], i, σ, d => by
  rw [if_neg (by simp)]
  rfl
 | a :: aZ, i, σ, d => by
  simp only [Vi,List.map_cons,Ju]
  rw [Zc7 ρ aZ (i+1)]
  by_cases h:i+1≤d∧d < i+1+aZ.length
  ·rw [if_pos h,if_pos (by simp only [List.length_cons];omega)]
   obtain ⟨k,hk⟩:∃ k,d-i=k+1:=⟨d-i-1,by omega⟩
   rw [hk,show d-(i+1)=k by omega]
   simp [ZM]
  ·rw [if_neg h]
   by_cases hd:d=i
   ·subst hd
    rw [ZC,if_pos (by simp)]
    simp [ZM]
   ·rw [Zf _ _ hd,if_neg (by simp only [List.length_cons];omega)]
theorem Zfb {n:Nat} : ∀ (aZ:List SV) (i:Nat),(∀ a∈aZ,a.bd n)→∀ u∈Vi aZ i,u.2.bd n
 | [], i, _, u, hu => by simp [Vi] at hu
 | a :: aZ, i, h, u, hu => by
  rcases List.mem_cons.1 hu with rfl | hu
  ·exact h a (by simp)
  ·exact Zfb aZ (i+1) (fun b hb=>h b (by simp [hb])) u hu
theorem Zc2:∀ (aZ:List SV) (i m:Nat),i+aZ.length≤m→∀ u∈Vi aZ i,u.1 < m
 | [], i, m, _, u, hu => by simp [Vi] at hu
 | a :: aZ, i, m, h, u, hu => by
  simp only [List.length_cons] at h
  rcases List.mem_cons.1 hu with rfl | hu
  ·show i < m;omega
  ·exact Zc2 aZ (i+1) m (by omega) u hu
def SV.isBx:SV→Bool
 | .box _ => true
 | .gbox _ => true
 | _ => false
theorem KM {a:SV} {aZ:List SV} {i:Nat} (h:Jr E (a::aZ) i=true):Jr E aZ (i+1)=true:=by
 cases a<;>simp only [Jr,Bool.and_eq_true,Bool.false_eq_true] at h<;>exact h.2
theorem VY:∀ (aZ:List SV) (i:Nat),Jr E aZ i=true→∀ (j:Nat) (a:SV),aZ[j]? = some a→(∀ cs,a = .box cs→i+j∈E.pins)∧(a.isG=true↔E.nt≤i+j)
 | [], i, _, j, a, h => by simp at h
 | a :: aZ, i, hf, j, b, h => by
  cases j with
  | zero =>
   simp only [List.getElem?_cons_zero,Option.some.injEq] at h
   subst h
   refine ⟨fun cs e=>?_,?_⟩
   ·subst e
    simp only [Jr,Bool.and_eq_true,List.contains_iff_mem] at hf
    exact hf.1.2
   ·cases a<;>simp only [Jr,Bool.and_eq_true,decide_eq_true_eq,Bool.false_eq_true] at hf<;>simp only [SV.isG,Bool.false_eq_true,false_iff,true_iff]<;>omega
  | succ j =>
   have:=VY aZ (i+1) (KM hf) j b (by simpa using h)
   rw [show i+(j+1)=i+1+j by omega]
   exact this
theorem Zhl (g:Nat→SV):∀ (aZ:List SV) (i j:Nat),(YW g aZ i)[j]? = (aZ[j]?).map fun a=>if a.isBx=true then g (i+j) else .dead
 | [], i, j => by simp [YW]
 | a :: aZ, i, 0 => by cases a <;> rfl
 | a :: aZ, i, j + 1 => by
  have:=Zhl g aZ (i+1) j
  rw [show i+1+j=i+(j+1) by omega] at this
  cases a<;>simpa [YW] using this
theorem ZfA (g:Nat→SV):∀ (aZ:List SV) (i:Nat),(YW g aZ i).length=aZ.length
 | [], i => rfl
 | a :: aZ, i => by cases a <;> simp [YW, ZfA g aZ]
def ZeB (args:List SV) (rs:List ResultVar) (i k:Nat):Option (Nat×Nat):=
 if i < args.length then (if (args[i]?).map SV.isBx=some true then some (i,k) else none)
 else if i=args.length then
  match rs with
  | [r] => if k = 0 then some (Z6 r, Wx r) else none
  | rs => match k with | 0 => none | k + 1 => (rs[k]?).map fun r => (Z6 r, Wx r)
 else none
theorem ZhB:∀ (rs:List ResultVar),(rs.map Z6).Nodup→∀ (i j:Nat) (a b:ResultVar),rs[i]? = some a→rs[j]? = some b→Z6 a=Z6 b→i=j
 | [], _, i, j, a, b, h, _, _ => by simp at h
 | r :: rs, hn, i, j, a, b, ha, hb, he => by
  rw [List.map_cons,List.nodup_cons] at hn
  cases i with
  | zero =>
   cases j with
   | zero => rfl
   | succ j =>
    simp only [List.getElem?_cons_zero,Option.some.injEq] at ha
    subst ha
    exact (hn.1 (List.mem_map.2 ⟨b,List.mem_of_getElem? (by simpa using hb),he.symm⟩)).elim
  | succ i =>
   cases j with
   | zero =>
    simp only [List.getElem?_cons_zero,Option.some.injEq] at hb
    subst hb
    exact (hn.1 (List.mem_map.2 ⟨a,List.mem_of_getElem? (by simpa using ha),he⟩)).elim
   | succ j => rw [ZhB rs hn.2 i j a b (by simpa using ha) (by simpa using hb) he]
theorem Za5 {args:List SV} {rs:List ResultVar} {k:Nat} {p:Nat×Nat} (h:ZeB args rs args.length k=some p) :
  ∃ j r,rs[j]? = some r∧p=(Z6 r,Wx r)∧((rs.length=1∧j=0∧k=0)∨(rs.length≠1∧k=j+1)):=by
 unfold ZeB at h
 rw [if_neg (Nat.lt_irrefl _),if_pos rfl] at h
 split at h
 ·rename_i r
  split at h
  ·rename_i hk
   simp only [Option.some.injEq] at h
   exact ⟨0,r,rfl,h.symm,.inl ⟨rfl,rfl,hk⟩⟩
  ·cases h
 ·rename_i hne
  split at h
  ·cases h
  ·rename_i k
   cases hr:rs[k]? with
   | none => simp [hr] at h
   | some r =>
    simp only [hr,Option.map_some,Option.some.injEq] at h
    refine ⟨k,r,hr,h.symm,.inr ⟨fun h1=>?_,rfl⟩⟩
    obtain ⟨r',hr'⟩:=List.length_eq_one_iff.1 h1
    exact hne r' hr'
theorem ZmM {args:List SV} {rs:List ResultVar} (hf:Zal args rs=true) {i k i' k':Nat} {p:Nat×Nat} (h:ZeB args rs i k=some p) (h':ZeB args rs i' k'=some p):i=i'∧k=k':=by
 simp only [Zal,Bool.and_eq_true] at hf
 obtain ⟨hn,hb⟩:=hf
 have hnd:=WV _ hn
 have hform:∀ i k p,ZeB args rs i k=some p→(i < args.length∧p=(i,k)∧∃ a,args[i]? = some a∧a.isBx=true)∨i=args.length:=by
  intro i k p h
  unfold ZeB at h
  split at h
  ·rename_i hi
   split at h
   ·rename_i hbx
    simp only [Option.some.injEq] at h
    obtain ⟨a,ha,hax⟩:=Option.map_eq_some_iff.1 hbx
    exact .inl ⟨hi,h.symm,a,ha,hax⟩
   ·cases h
  ·split at h
   ·rename_i hi;exact .inr hi
   ·cases h
 have hno:∀ (j:Nat) (r:ResultVar),rs[j]? = some r→∀ a,args[Z6 r]? = some a→a.isBx=true→False:=by
  intro j r hr a ha hax
  rw [List.all_eq_true] at hb
  have:=hb r (List.mem_of_getElem? hr)
  rw [ha] at this
  cases a<;>simp [SV.isBx] at hax<;>cases this
 rcases hform i k p h with ⟨h1,h2,a,h3,h4⟩ | h1<;>rcases hform i' k' p h' with ⟨h1',h2',a',h3',h4'⟩ | h1'
 ·rw [h2] at h2'
  simp only [Prod.mk.injEq] at h2'
  exact h2'
 ·subst h1'
  obtain ⟨j,r,g1,g2,_⟩:=Za5 h'
  rw [h2] at g2
  simp only [Prod.mk.injEq] at g2
  exact (hno j r g1 a (by rw [← g2.1];exact h3) h4).elim
 ·subst h1
  obtain ⟨j,r,g1,g2,_⟩:=Za5 h
  rw [h2'] at g2
  simp only [Prod.mk.injEq] at g2
  exact (hno j r g1 a' (by rw [← g2.1];exact h3') h4').elim
 ·subst h1
  subst h1'
  obtain ⟨j,r,g1,g2,g3⟩:=Za5 h
  obtain ⟨j',r',g1',g2',g3'⟩:=Za5 h'
  rw [g2] at g2'
  simp only [Prod.mk.injEq] at g2'
  have:=ZhB rs hnd j j' r r' g1 g1' g2'.1
  refine ⟨rfl,?_⟩
  omega
end
end Go.AM
end

section
namespace Go.AM
def ZlN (P:Program) (rec:TypeId→Bool) (e:Nat):List Field→Nat→Bool
 | [], _ => true
 | f :: fs, off => (f.name != "_") && (f.offset == off) &&
  (match P.underlying f.type with
   | some (.int _) => true
   | some .bool => true
   | some (.struct _) => rec f.type && (P.info? f.type).isSome
   | _ => false) &&
  (match YA P e f.type with | some l=>(P.cellsOf f.type == l.length)&&ZlN P rec e fs (off+l.length) | none=>false)
def ZiS (P:Program):Nat→TypeId→Bool
 | 0, _ => false
 | e + 1, T =>
  match P.underlying T with
  | some (.struct fs) => ZlN P (ZiS P e) e fs.toList 0 && !P.stoodInHeld T
  | _ => false
def Zp7 (P:Program) (T:TypeId):Bool:=ZiS P 8 T&&!P.eqGuardType P.depth T
theorem VK:∀ (L1 L2:List Sh) (us:List Value),YM (L1++L2) us→YM L1 (us.take L1.length)∧YM L2 (us.drop L1.length)∧(us.take L1.length).length=L1.length
 | [], L2, us, h => ⟨by simp [YM], by simpa using h, by simp⟩
 | s :: L1, L2, [], h => by cases s <;> exact h.elim
 | s :: L1, L2, u :: us, h => by
  cases s<;>cases u<;>try exact h.elim
  ·obtain ⟨h1,h2,h3⟩:=VK L1 L2 us h.2
   exact ⟨⟨h.1,h1⟩,h2,by simpa using h3⟩
  ·obtain ⟨h1,h2,h3⟩:=VK L1 L2 us h
   exact ⟨h1,h2,by simpa using h3⟩
theorem ZgV:∀ (L:List Sh) (a c b d:List Value),YM L a→YM L c→eqV (a++b) (c++d)=(eqV a c&&eqV b d)
 | [], [], [], b, d, _, _ => by simp [eqV]
 | [], _ :: _, _, _, _, h, _ => h.elim
 | [], [], _ :: _, _, _, _, h => h.elim
 | s :: L, [], _, _, _, h, _ => by cases s <;> exact h.elim
 | s :: L, _ :: _, [], _, _, _, h => by cases s <;> exact h.elim
 | s :: L, x :: a, y :: c, b, d, h, h' => by
  cases s<;>cases x<;>(try exact h.elim)<;>cases y<;>try exact h'.elim
  ·simp only [List.cons_append,eqV,ZgV L a c b d h.2 h'.2,Bool.and_assoc]
  ·simp only [List.cons_append,eqV,ZgV L a c b d h h',Bool.and_assoc]
section
variable {P:Program}
def Zm9 (P:Program) (e k:Nat) (T:TypeId):Prop:=∀ (L:List Sh) (us vs:List Value) (w:World),YA P e T=some L→YM L us→YM L vs→
 (Op.equalIn (k+e) T (.agg us.toArray) (.agg vs.toArray)).run P w = .ok (eqV us vs) w
theorem Zbn (e k:Nat) (rec:TypeId→Bool) (hrec:∀ T,rec T=true→Zm9 P e k T) (w:World) (us vs:List Value):∀ (fs:List Field) (n:Nat) (L:List Sh),ZlN P rec e fs n=true→
  fs.foldr (fun f acc=>match YA P e f.type,acc with | some a,some b=>some (a++b) | _,_=>none) (some [])=some L→YM L (us.drop n)→YM L (vs.drop n)→
  (Op.eqFields (k+e) us.toArray vs.toArray fs).run P w = .ok (eqV (us.drop n) (vs.drop n)) w
 | [], n, L, _, hL, hu, hv => by
  simp only [List.foldr_nil,Option.some.injEq] at hL
  subst hL
  cases h:us.drop n with
  | nil => simp [Op.eqFields, eqV]
  | cons x l => rw [h] at hu; exact hu.elim
 | f :: fs, n, L, hf, hL, hu, hv => by
  simp only [ZlN,Bool.and_eq_true,bne_iff_ne,ne_eq,beq_iff_eq] at hf
  obtain ⟨⟨⟨hname,hoff⟩,hty⟩,hrest⟩:=hf
  simp only [List.foldr_cons] at hL
  split at hL
  case h_2=>cases hL
  rename_i a L' ha hL'
  simp only [Option.some.injEq] at hL
  subst hL
  rw [ha] at hrest
  simp only [Bool.and_eq_true,beq_iff_eq] at hrest
  obtain ⟨hcells,hrest⟩:=hrest
  obtain ⟨u1,u2,u3⟩:=VK a L' _ hu
  obtain ⟨v1,v2,v3⟩:=VK a L' _ hv
  rw [List.drop_drop] at u2 v2
  have ih:=Zbn e k rec hrec w us vs fs (n+a.length) L' hrest hL' u2 v2
  have hus:us.drop n=(us.drop n).take a.length++us.drop (n+a.length):=by
   rw [← List.drop_drop,List.take_append_drop]
  have hvs:vs.drop n=(vs.drop n).take a.length++vs.drop (n+a.length):=by
   rw [← List.drop_drop,List.take_append_drop]
  have hev:eqV (us.drop n) (vs.drop n)=(eqV ((us.drop n).take a.length) ((vs.drop n).take a.length)&&eqV (us.drop (n+a.length)) (vs.drop (n+a.length))):=by
   rw [hus,hvs]
   have:=ZgV a ((us.drop n).take a.length) ((vs.drop n).take a.length) (us.drop (n+a.length)) (vs.drop (n+a.length)) u1 v1
   rw [← hus,← hvs] at this ⊢
   exact this
  rw [hev]
  -- the field's value
  suffices hx:∃ x y,(part f.type us.toArray f.offset).run P w = .ok x w∧(part f.type vs.toArray f.offset).run P w = .ok y w∧(Op.equalIn (k+e) f.type x y).run P w = .ok (eqV ((us.drop n).take a.length) ((vs.drop n).take a.length)) w by
   obtain ⟨x,y,p1,p2,p3⟩:=hx
   simp only [Op.eqFields,hname,ne_eq,not_false_eq_true,if_true,Sem.run_bind,p1,p2,p3,Result.andThen_ok,Sem.run_ite]
   cases h:eqV ((us.drop n).take a.length) ((vs.drop n).take a.length)
   ·simp
   ·simpa using ih
  have he:∃ e',e=e'+1:=by
   cases e with
   | zero => simp [YA] at ha
   | succ e' => exact ⟨e', rfl⟩
  obtain ⟨e',rfl⟩:=he
  have one:∀ (l:List Value),((l.drop n).take 1).length=1→∃ x,(l.drop n).take 1 = [x]∧l[n]? = some x:=by
   intro l hl
   cases h:l.drop n with
   | nil => rw [h] at hl; simp at hl
   | cons x r =>
    refine ⟨x,rfl,?_⟩
    have:=congrArg (fun l=>l[0]?) h
    simpa using this
  split at hty
  ·rename_i kk hk
   have ha':a = [.int kk]:=by
    simp only [YA,hk,Option.some.injEq] at ha
    exact ha.symm
   subst ha'
   obtain ⟨x,x1,x2⟩:=one us u3
   obtain ⟨y,y1,y2⟩:=one vs v3
   simp only [List.length_cons,List.length_nil,Nat.zero_add] at u1 v1 ⊢
   rw [x1] at u1 ⊢
   rw [y1] at v1 ⊢
   cases x<;>try exact u1.elim
   cases y<;>try exact v1.elim
   obtain ⟨rfl,_⟩:=u1
   obtain ⟨rfl,_⟩:=v1
   have p1:∀ (l:List Value) (x:Value),l[n]? = some x→(part f.type l.toArray f.offset).run P w = .ok x w:=by
    intro l x h
    rw [hoff]
    have:l.toArray[n]? = some x:=by simpa using h
    simp [part,isAgg,run_underlying hk,this]
   refine ⟨_,_,p1 us _ x2,p1 vs _ y2,?_⟩
   rw [show k+(e'+1)=(k+e')+1 from rfl,run_equalIn_int w (k+e') f.type _ _ _ _ hk]
   simp [eqV]
  ·rename_i hk
   have ha':a = [.bool]:=by
    simp only [YA,hk,Option.some.injEq] at ha
    exact ha.symm
   subst ha'
   obtain ⟨x,x1,x2⟩:=one us u3
   obtain ⟨y,y1,y2⟩:=one vs v3
   simp only [List.length_cons,List.length_nil,Nat.zero_add] at u1 v1 ⊢
   rw [x1] at u1 ⊢
   rw [y1] at v1 ⊢
   cases x<;>try exact u1.elim
   cases y<;>try exact v1.elim
   have p1:∀ (l:List Value) (x:Value),l[n]? = some x→(part f.type l.toArray f.offset).run P w = .ok x w:=by
    intro l x h
    rw [hoff]
    have:l.toArray[n]? = some x:=by simpa using h
    simp [part,isAgg,run_underlying hk,this]
   refine ⟨_,_,p1 us _ x2,p1 vs _ y2,?_⟩
   rw [show k+(e'+1)=(k+e')+1 from rfl,run_equalIn_bool' w (k+e') f.type _ _ hk]
   simp [eqV]
  ·rename_i gs hk
   rw [Bool.and_eq_true] at hty
   obtain ⟨inf,hinf⟩:=Option.isSome_iff_exists.1 hty.2
   have hsz:P.cellsOf f.type=inf.size:=ZG hinf
   have p1:∀ (l:List Value),(part f.type l.toArray f.offset).run P w = .ok (.agg ((l.drop n).take a.length).toArray) w:=by
    intro l
    rw [hoff]
    have hag:(isAgg f.type).run P w = .ok true w:=by simp [isAgg,run_underlying hk]
    have:l.toArray.extract n (n+inf.size)=((l.drop n).take a.length).toArray:=by
     apply Array.toList_inj.1
     rw [Array.toList_extract]
     simp [List.extract_eq_take_drop,← hcells,hsz]
    rw [← hsz,hcells] at this
    simp [part,hag,Zx hinf,← hsz,hcells]
   exact ⟨_,_,p1 us,p1 vs,hrec f.type hty.1 a _ _ w ha u1 v1⟩
  ·cases hty
theorem Zk5:∀ (e k:Nat) (T:TypeId),ZiS P e T=true→Zm9 P e k T
 | 0, _, _, h => by simp [ZiS] at h
 | e + 1, k, T, h => by
  intro L us vs w hL hu hv
  unfold ZiS at h
  split at h
  ·rename_i fs hfs
   simp only [Bool.and_eq_true,Bool.not_eq_true'] at h
   have hfo:P.fieldsOf T=fs:=by simp only [Program.fieldsOf,hfs]
   rw [show k+(e+1)=(k+e)+1 from rfl,run_equalIn_struct w (k+e) T _ _ (by rw [hfo];exact hfs) h.2,hfo]
   have:=Zbn e k (ZiS P e) (fun T' h'=>Zk5 e k T' h') w us vs fs.toList 0 L h.1 (by
    rw [YA] at hL
    simp only [hfs] at hL
    exact hL) (by simpa using hu) (by simpa using hv)
   simpa using this
  ·cases h
theorem ZlY {plain:List TypeId} (h:plain.all (Zp7 P)=true):VC P plain:=by
 intro T hT
 rw [List.all_eq_true] at h
 have hf:=h T hT
 unfold Zp7 at hf
 simp only [Bool.and_eq_true,Bool.not_eq_true'] at hf
 exact ⟨hf.2,fun L hL us vs hu hv w=>Zk5 8 9992 T hf.1 L us vs w hL hu hv⟩
end
end Go.AM
end

section
namespace Go.AM
def Zqk (l:List V):Nat→V:=fun n=>(l[n]?).getD (.i 0)
abbrev I (z:Int):AV:=.val (.int .i64 z)
abbrev B (b:Bool):AV:=.val (.bool b)
theorem ZgI {z:Int} (h1 : -(2^63:Int)≤z) (h2:z < 2^63):IntKind.i64.wrap z=z:=by
 have e:(2:Int)^63=9223372036854775808:=by decide
 rw [e] at h1 h2
 simp only [IntKind.wrap]
 have:IntKind.i64.signed=true:=rfl
 simp [this,IntKind.bits]
 omega
theorem ZfD {a b:Int} (h1 : -(2^63:Int)≤a+b) (h2:a+b < 2^63):iop .add .i64 a b=a+b:=ZgI h1 h2
theorem Zmu {a b:Int} (h1 : -(2^63:Int)≤a-b) (h2:a-b < 2^63):iop .sub .i64 a b=a-b:=ZgI h1 h2
theorem ZqO {a b:Int} (h1 : -(2^63:Int)≤a*b) (h2:a*b < 2^63):iop .mul .i64 a b=a*b:=ZgI h1 h2
theorem ZkN (a b:Int):(cop .lss a b=true)=(a < b):=by simp [cop]
theorem Zkq (a b:Int):(cop .lss a b=false)=(b≤a):=by simp [cop]
theorem Zle (a b:Int):(cop .leq a b=true)=(a≤b):=by simp [cop]
theorem ZjE (a b:Int):(cop .leq a b=false)=(b < a):=by simp [cop]
theorem Zj5 (a b:Int):(cop .gtr a b=true)=(b < a):=by simp [cop]
theorem Zla (a b:Int):(cop .gtr a b=false)=(a≤b):=by simp [cop]
theorem Zk4 (a b:Int):(cop .geq a b=true)=(b≤a):=by simp [cop]
theorem ZkO (a b:Int):(cop .geq a b=false)=(a < b):=by simp [cop]
theorem Zk3 (a b:Int):(cop .eql a b=true)=(a=b):=by simp [cop]
theorem Zkc (a b:Int):(cop .eql a b=false)=(a≠b):=by simp [cop]
theorem ZjP (a b:Int):(cop .neq a b=true)=(a≠b):=by simp [cop]
theorem ZkJ (a b:Int):(cop .neq a b=false)=(a=b):=by simp [cop]
end Go.AM
end

section
namespace Go.AM
def TyR (P:Program):Nat→TypeId→List AV→Prop
 | 0, _, _ => False
 | d + 1, T, cs =>
  match P.underlying T with
  | some (.int k) => ∃ z, cs = [.val (.int k z)] ∧ (Lit.int k z).wf = true
  | some .bool => ∃ b, cs = [.val (.bool b)]
  | some .string => ∃ s, cs = [.val (.string s)]
  | some (.slice e) => ∃ xs : List (List AV), cs = [.slice false (P.cellsOf e) xs] ∧ xs.length ≤ maxLen ∧ ∀ x ∈ xs, TyR P d e x
  | some (.struct fs) => ∃ parts : List (List AV), cs = parts.flatten ∧ parts.length = fs.size ∧ ∀ (i : Nat) (f : Field) (p : List AV), fs[i]? = some f → parts[i]? = some p → TyR P d f.type p
  | _ => False
def ZaO (P:Program):Nat→TypeId→Bool
 | 0, _ => false
 | d + 1, T =>
  match P.underlying T with
  | some (.int _) => true
  | some .bool => true
  | some .string => true
  | some (.slice e) => ZaO P d e && decide (0 < P.cellsOf e)
  | some (.struct fs) => (fs.toList.all fun f => ZaO P d f.type) && decide (P.cellsOf T = (fs.toList.map fun f => P.cellsOf f.type).sum) &&
    (fs.toList.zipIdx.all fun p=>decide (p.1.offset=((fs.toList.take p.2).map fun f=>P.cellsOf f.type).sum))
  | _ => false
def K4 (w:World):Nat→Nat:=fun b=>match w.heap[b]? with | some (.cells c _ _)=>c.size | _=>0
theorem Zjw {w:World} {b o:Nat} {u:Value} (h:w.cell? ⟨b,o,none⟩=some u):o < K4 w b:=by
 unfold World.cell? at h
 unfold K4
 split at h
 ·rename_i c t fr hc
  have h':c[o]? = some u:=by simpa using h
  have hc':w.heap[b]? = some (.cells c t fr):=hc
  rw [hc']
  exact (Array.getElem?_eq_some_iff.1 h').1
 ·cases h
theorem Yf.flat {w:World} {lim:Nat→Nat} : ∀ (aZ:List (List AV)) (us:List (List Value)),aZ.length=us.length→(∀ (i:Nat) (a:List AV) (u:List Value),aZ[i]? = some a→us[i]? = some u→Yf w lim a u)→Yf w lim aZ.flatten us.flatten
 | [], [], _, _ => Yf.nil w lim
 | [], _ :: _, h, _ => by simp at h
 | _ :: _, [], h, _ => by simp at h
 | a :: aZ, u :: us, h, hr => by
  have h1:=hr 0 a u rfl rfl
  have h2:=Yf.flat aZ us (by simpa using h) fun i a' u' ha hu=>hr (i+1) a' u' (by simpa using ha) (by simpa using hu)
  refine ⟨by simp [h1.1,h2.1],fun c hc=>?_,fun i c v hc hv=>?_⟩
  ·rw [List.flatten_cons,List.mem_append] at hc
   rcases hc with hc | hc
   ·exact h1.2.1 c hc
   ·exact h2.2.1 c hc
  ·rw [List.flatten_cons] at hc hv
   by_cases hi:i < a.length
   ·rw [List.getElem?_append_left hi] at hc
    rw [List.getElem?_append_left (by rw [← h1.1];exact hi)] at hv
    exact h1.2.2 i c v hc hv
   ·rw [List.getElem?_append_right (by omega)] at hc
    rw [List.getElem?_append_right (by rw [← h1.1];omega),← h1.1] at hv
    exact h2.2.2 _ c v hc hv
theorem Zm6 {α:Type} : ∀ (ns:List Nat) (cs:List α),cs.length=ns.sum→∃ ps:List (List α),ps.length=ns.length∧ps.flatten=cs∧∀ (i:Nat) (n:Nat),ns[i]? = some n→ps[i]? = some ((cs.drop (ns.take i).sum).take n)
 | [], cs, h => ⟨[], rfl, by simp at h; simp [h], by simp⟩
 | n :: ns, cs, h => by
  obtain ⟨ps,h1,h2,h3⟩:=Zm6 ns (cs.drop n) (by simp only [List.sum_cons] at h;simp;omega)
  refine ⟨cs.take n::ps,by simp [h1],by rw [List.flatten_cons,h2,List.take_append_drop],fun i m hi=>?_⟩
  cases i with
  | zero => simp at hi; subst hi; simp
  | succ i =>
   have:=h3 i m (by simpa using hi)
   simp only [List.getElem?_cons_succ,this,List.take_succ_cons,List.sum_cons,List.drop_drop]
theorem Wd {β:Type} {Q:Nat→β→Prop} : ∀ (n:Nat),(∀ i,i < n→∃ b,Q i b)→∃ l:List β,l.length=n∧∀ (i:Nat) (b:β),l[i]? = some b→Q i b
 | 0, _ => ⟨[], rfl, by simp⟩
 | n + 1, h => by
  obtain ⟨l,h1,h2⟩:=Wd n fun i hi=>h i (by omega)
  obtain ⟨b,hb⟩:=h n (by omega)
  refine ⟨l++[b],by simp [h1],fun i c hc=>?_⟩
  by_cases hi:i < l.length
  ·rw [List.getElem?_append_left hi] at hc
   exact h2 i c hc
  ·rw [List.getElem?_append_right (by omega)] at hc
   have h0:i-l.length=0:=by
    have:=(List.getElem?_eq_some_iff.1 hc).1
    simp at this
    omega
   rw [h0] at hc
   simp only [List.getElem?_cons_zero,Option.some.injEq] at hc
   subst hc
   have:i=n:=by omega
   rw [this]
   exact hb
theorem Zc6 {s:Nat} {cell:Nat→Option Value} : ∀ (l:List (List Value)) (o:Nat),(∀ (i:Nat) (us:List Value),l[i]? = some us→us.length=s∧∀ (k:Nat) (u:Value),us[k]? = some u→cell (o+i*s+k)=some u)→
  ∀ (j:Nat) (u:Value),l.flatten[j]? = some u→cell (o+j)=some u
 | [], o, _, j, u, h => by simp at h
 | us :: l, o, h, j, u, hj => by
  obtain ⟨h1,h2⟩:=h 0 us rfl
  rw [List.flatten_cons] at hj
  by_cases hlt:j < us.length
  ·rw [List.getElem?_append_left hlt] at hj
   have:=h2 j u hj
   simpa using this
  ·rw [List.getElem?_append_right (by omega)] at hj
   have:=Zc6 l (o+s) (fun i us' hi=>by
    obtain ⟨g1,g2⟩:=h (i+1) us' (by simpa using hi)
    refine ⟨g1,fun k u' hk=>?_⟩
    have:=g2 k u' hk
    rw [Nat.add_mul,Nat.one_mul] at this
    rw [show o+s+i*s+k=o+(i*s+s)+k by omega]
    exact this) (j-us.length) u hj
   rw [show o+s+(j-us.length)=o+j by omega] at this
   exact this
theorem Zif {H:Type} {f:Func} {s:ChangeSpec} {apart fresh handsOn again:Bool} {W W':World} {args:Array Value} {v:Value} {ds gs:List (DataW H)} {before pa:List MemPlace} {P:Program} {enc:TypeId×Value→H}
  (hW:DataW.Whole enc P f.params.toList s.vars apart W args.toList ds gs before)
  (hres:∀ (b:Nat) (sp:Nat→Bool) (hd:Bool),DataW.TrodAll enc P W' b sp hd f.resultTypes.toList (v.resultList f.resultTypes.size) (s.fn H (ds++gs)).results [])
  (hargs:∀ sp:Nat→Bool,(∀ p∈before,sp p.block=true)→DataW.TrodAll enc P W' 0 sp true f.params.toList args.toList (s.fn H (ds++gs)).args pa)
  (hvars:∀ sp:Nat→Bool,(∀ p∈before,sp p.block=true)→DataW.TrodVars enc P W' sp s.vars (s.fn H (ds++gs)).vars [])
  (hps:before=pa++[]) (hk:W.keptBut W' (·∈before)) (hfz:∀ a:Addr,a.block < W.heap.size→W'.frozen? a=W.frozen? a)
  (hok:∀ (j:Nat) (t:TypeId) (r:Value),f.resultTypes[j]? = some t→(v.resultList f.resultTypes.size)[j]? = some r→Value.okWide P W' .any 0 t r) :
  s.post enc P f apart fresh handsOn again W args v W':=by
 have hin:∀ p∈before,p.block < W.heap.size:=fun p hp=>hW.lt p hp
 have hdec:∀ p∈before,(fun b=>decide (b < W.heap.size)) p.block=true:=fun p hp=>decide_eq_true (hin p hp)
 refine ⟨ds,gs,before,[],pa,[],hW,hres _ _ _,hargs _ hdec,hvars _ hdec,World.keptBut_mono (fun p hp=>⟨hp,?_⟩) hk,fun _=>?_⟩
 ·refine Or.inr (Or.inl ?_)
  rwa [hps,List.append_nil] at hp
 ·have hWp:=hW
  obtain ⟨_,_,_,_,_,hz,hn⟩:=hWp
  refine ⟨hok,_,_,([]++pa)++[],⟨[]++pa,[],ChangeShapes.trodAll_append (hargs _ fun _ _=>rfl) (hres _ _ _),hvars _ fun _ _=>rfl,rfl,?_,?_⟩,?_⟩
  ·intro b off hp
   have hmem:MemPlace.cell b off∈before:=by rw [hps];simpa using hp
   rw [hfz _ (hin _ hmem)]
   exact hz b off hmem
  ·intro ha
   have h1:=hn ha
   rw [hps] at h1
   simpa using h1
  ·intro p hp _
   rw [hps]
   simpa using hp
section
variable {P:Program} {H:Type} {enc:TypeId×Value→H} {w:World} {sp:Nat→Bool} {held:Bool}
theorem Zg2:∀ (d n:Nat) (T:TypeId) (cs:List Value) (x:DataW H×List MemPlace),ZaO P d T=true→DataW.trod enc P w 0 sp held n T cs=some x→∃ avs,TyR P d T avs∧Yf w (K4 w) avs cs
 | 0, n, T, cs, x, hf, _ => by simp [ZaO] at hf
 | d + 1, n, T, cs, x, hf, h => by
  simp only [ZaO] at hf
  split at hf
  ·rename_i k hk
   obtain ⟨z,rfl,_,hw⟩:=DataW.trod_int hk h
   refine ⟨[.val (.int k z)],?_,rfl,by simp [AV.isCell],fun i c u hc hu=>?_⟩
   ·simp only [TyR,hk];exact ⟨z,rfl,hw⟩
   ·cases i with
    | zero => simp at hc hu; subst hc; subst hu; exact .val rfl
    | succ i => simp at hc
  ·rename_i hk
   obtain ⟨b,rfl,_⟩:=DataW.trod_bool hk h
   refine ⟨[.val (.bool b)],?_,rfl,by simp [AV.isCell],fun i c u hc hu=>?_⟩
   ·simp only [TyR,hk];exact ⟨b,rfl⟩
   ·cases i with
    | zero => simp at hc hu; subst hc; subst hu; exact .val rfl
    | succ i => simp at hc
  ·rename_i hk
   obtain ⟨s,rfl,_⟩:=DataW.trod_string hk h
   refine ⟨[.val (.string s)],?_,rfl,by simp [AV.isCell],fun i c u hc hu=>?_⟩
   ·simp only [TyR,hk];exact ⟨s,rfl⟩
   ·cases i with
    | zero => simp at hc hu; subst hc; subst hu; exact .val rfl
    | succ i => simp at hc
  ·rename_i e hk
   simp only [Bool.and_eq_true,decide_eq_true_eq] at hf
   rcases DataW.trod_slice hk h with ⟨rfl,_⟩ | ⟨a,len,cap,Wi,rest,m,_,rfl,_,_,hlc,hcm,hel,hcells,_,_⟩
   ·refine ⟨[.slice false (P.cellsOf e) []],?_,rfl,by simp [AV.isCell],fun i c u hc hu=>?_⟩
    ·simp only [TyR,hk];exact ⟨[],rfl,by simp,by simp⟩
    ·cases i with
     | zero => simp at hc hu; subst hc; subst hu; exact .sliceN
     | succ i => simp at hc
   ·obtain ⟨l,hl1,hl2⟩:=Wd (Q:=fun i (p:List Value×List AV)=>w.cells? 0 (a.add (i*P.cellsOf e)) (P.cellsOf e)=some p.1∧TyR P d e p.2∧Yf w (K4 w) p.2 p.1) len fun i hi=>by
     have h1:=hcells i hi
     obtain ⟨y,hy⟩:∃ y,Wi[i]? = some y:=⟨_,List.getElem?_eq_getElem (by omega)⟩
     rw [hy,Option.bind_eq_some_iff] at h1
     obtain ⟨us,h2,h3⟩:=h1
     obtain ⟨avs,h4,h5⟩:=Zg2 d m e us y hf.1 h3
     exact ⟨(us,avs),h2,h4,h5⟩
    have hall:∀ p∈l,TyR P d e p.2∧Yf w (K4 w) p.2 p.1∧p.1.length=P.cellsOf e:=by
     intro p hp
     obtain ⟨i,hi⟩:=List.mem_iff_getElem?.1 hp
     obtain ⟨g1,g2,g3⟩:=hl2 i p hi
     exact ⟨g2,g3,(World.cells?_some g1).2.1⟩
    refine ⟨[.slice false (P.cellsOf e) (l.map (·.2))],?_,rfl,by simp [AV.isCell],fun i c u hc hu=>?_⟩
    ·simp only [TyR,hk]
     refine ⟨_,rfl,by simp;omega,fun y hy=>?_⟩
     obtain ⟨p,hp,rfl⟩:=List.mem_map.1 hy
     exact (hall p hp).1
    ·cases i with
     | succ i => simp at hc
     | zero =>
      simp only [List.getElem?_cons_zero,Option.some.injEq] at hc hu
      subst hc
      subst hu
      cases l with
      | nil =>
       have:len=0:=by simpa using hl1.symm
       subst this
       exact .sliceE (fun h=>by cases h)
      | cons p l' =>
       have hcell:∀ (j:Nat) (u:Value),((p::l').map (·.1)).flatten[j]? = some u→w.cell? ⟨a.block,a.off+j,none⟩=some u:=by
        refine Zc6 (s:=P.cellsOf e) (cell:=fun o=>w.cell? ⟨a.block,o,none⟩) _ a.off fun i us hi=>?_
        rw [List.getElem?_map] at hi
        cases hpi:(p::l')[i]? with
        | none => simp [hpi] at hi
        | some q =>
         simp only [hpi,Option.map_some,Option.some.injEq] at hi
         subst hi
         obtain ⟨g1,_,_⟩:=hl2 i q hpi
         obtain ⟨_,k2,k3⟩:=World.cells?_some g1
         refine ⟨k2,fun k u hu=>?_⟩
         have hk':k < P.cellsOf e:=by rw [← k2];exact (List.getElem?_eq_some_iff.1 hu).1
         have:=k3 k hk'
         rw [hu] at this
         have hblk:((a.add (i*P.cellsOf e)).add k).block=a.block∧((a.add (i*P.cellsOf e)).add k).off=a.off+i*P.cellsOf e+k:=by
          unfold Addr.add
          split<;>split<;>simp_all
         have hspot:((a.add (i*P.cellsOf e)).add k).spot=none:=by
          unfold World.cell? at this
          split at this
          ·split at this
           ·cases this
           ·rename_i hs;simpa using hs
          ·cases this
         have heq:(a.add (i*P.cellsOf e)).add k=⟨a.block,a.off+i*P.cellsOf e+k,none⟩:=by
          rw [← hblk.1,← hblk.2,← hspot]
         rw [heq] at this
         exact this
       have hspot:a.spot=none:=by
        obtain ⟨g1,_,_⟩:=hl2 0 p rfl
        obtain ⟨_,k2,k3⟩:=World.cells?_some g1
        have:=k3 0 hf.2
        obtain ⟨u,hu⟩:∃ u,p.1[0]? = some u:=⟨_,List.getElem?_eq_getElem (by rw [k2];exact hf.2)⟩
        rw [hu] at this
        have ha:(a.add (0*P.cellsOf e)).add 0=a:=by simp [Addr.add]
        rw [ha] at this
        unfold World.cell? at this
        split at this
        ·split at this
         ·cases this
         ·rename_i hs;simpa using hs
        ·cases this
       have ha:a=⟨a.block,a.off,none⟩:=by rw [← hspot]
       have hlen:((p::l').map (·.2)).length=len:=by rw [List.length_map];exact hl1
       rw [ha,← hlen]
       have hrel:Yf w (K4 w) ((p::l').map (·.2)).flatten ((p::l').map (·.1)).flatten:=by
        refine Yf.flat _ _ (by simp) fun i x us hx hus=>?_
        rw [List.getElem?_map] at hx hus
        cases hpi:(p::l')[i]? with
        | none => simp [hpi] at hx
        | some q =>
         simp only [hpi,Option.map_some,Option.some.injEq] at hx hus
         subst hx
         subst hus
         exact (hl2 i q hpi).2.2
       have hsz:∀ x∈(p::l').map (·.2),x.length=P.cellsOf e:=by
        intro x hx
        obtain ⟨q,hq,rfl⟩:=List.mem_map.1 hx
        obtain ⟨_,g2,g3⟩:=hall q hq
        rw [g2.1,g3]
       refine .sliceC (us:=((p::l').map (·.1)).flatten) hsz (fun x hx=>?_) (fun h=>by cases h) (by rw [hlen];exact hlc) (fun hne=>?_) ?_ hcell hrel.2.2
       ·obtain ⟨q,hq,rfl⟩:=List.mem_map.1 hx
        exact (hall q hq).2.1.2.1
       ·have hpos:0 < (((p::l').map (·.1)).flatten).length:=List.length_pos_iff.2 hne
        have hlast:=hcell ((((p::l').map (·.1)).flatten).length-1) _ (List.getElem?_eq_getElem (by omega))
        have:=Zjw hlast
        omega
       ·rw [← hrel.1,Zl _ _ hsz]
  ·rename_i fs hk
   simp only [Bool.and_eq_true,decide_eq_true_eq,List.all_eq_true] at hf
   obtain ⟨⟨h1,h2⟩,h3⟩:=hf
   obtain ⟨xs,m,_,_,hlen,hxl,hparts⟩:=DataW.trod_struct hk h
   obtain ⟨ps,q1,q2,q3⟩:=Zm6 (fs.toList.map fun f=>P.cellsOf f.type) cs (by rw [hlen,h2])
   have hps:ps.length=fs.size:=by rw [q1];simp
   obtain ⟨l,hl1,hl2⟩:=Wd (Q:=fun i (avs:List AV)=>∃ (f:Field) (us:List Value),fs[i]? = some f∧ps[i]? = some us∧TyR P d f.type avs∧Yf w (K4 w) avs us) fs.size fun i hi=>by
    have hfi:fs[i]? = some fs[i]:=Array.getElem?_eq_getElem hi
    have hn:(fs.toList.map fun f=>P.cellsOf f.type)[i]? = some (P.cellsOf fs[i].type):=by simp [hi]
    have h4:=q3 i _ hn
    have h5:=hparts i _ hfi
    have hoff:=h3 (fs[i],i) (by rw [List.mem_zipIdx_iff_getElem?];simp [hi])
    simp only at hoff
    rw [hoff,List.map_take] at h5
    obtain ⟨y,hy⟩:∃ y,xs[i]? = some y:=⟨_,List.getElem?_eq_getElem (by omega)⟩
    rw [hy] at h5
    obtain ⟨avs,h6,h7⟩:=Zg2 d m _ _ y (h1 fs[i] (by simp)) h5
    exact ⟨avs,fs[i],_,hfi,h4,h6,h7⟩
   refine ⟨l.flatten,?_,?_⟩
   ·simp only [TyR,hk]
    refine ⟨l,rfl,hl1,fun i f p hf hp=>?_⟩
    obtain ⟨f',us,g1,g2,g3,g4⟩:=hl2 i p hp
    rw [hf] at g1
    cases g1
    exact g3
   ·rw [← q2]
    refine Yf.flat _ _ (by rw [hl1,hps]) fun i avs us ha hu=>?_
    obtain ⟨f',us',g1,g2,g3,g4⟩:=hl2 i avs ha
    rw [hu] at g2
    cases g2
    exact g4
  ·cases hf
def ZcI (P:Program) (d:Nat) (T:TypeId) (x:AV):Prop:=
 match P.underlying T with
 | some (.struct _) => ∃ cs, x = .agg cs ∧ TyR P d T cs
 | _ => x.isCell = true ∧ TyR P d T [x]
theorem ZmF {lim:Nat→Nat} {avs:List AV} {v:Value} (h:Yf w lim avs [v]):∃ x,avs = [x]∧x.isCell=true∧Rep w lim x v:=by
 obtain ⟨x,rfl⟩:=List.length_eq_one_iff.1 (by simpa using h.1:avs.length=1)
 exact ⟨x,rfl,h.2.1 x (by simp),h.2.2 0 x v rfl rfl⟩
theorem ZlD {d:Nat} {T:TypeId} {v:Value} {x:DataW H} {ps:List MemPlace} {r:Reach} {base:Nat} (hf:ZaO P d T=true) (hok:Value.okWide P w r base T v)
  (h:DataW.Trod enc P w 0 sp held T v x ps):∃ y,ZcI P d T y∧∀ X σ k,ZP P w (K4 w) X σ k y v:=by
 obtain ⟨n,h⟩:=h
 obtain ⟨avs,h1,h2⟩:=Zg2 d n T _ _ hf h
 cases d with
 | zero => simp [ZaO] at hf
 | succ d =>
  have one:v.cells.toList = [v]→(∀ fs,P.underlying T≠some (.struct fs))→∃ y,ZcI P (d+1) T y∧∀ X σ k,ZP P w (K4 w) X σ k y v:=by
   intro hv hns
   rw [hv] at h2
   obtain ⟨y,rfl,h3,h4⟩:=ZmF h2
   refine ⟨y,?_,fun X σ k=>(Kv h3 h4).2⟩
   unfold ZcI
   split
   ·rename_i fs hfs;exact (hns fs hfs).elim
   ·exact ⟨h3,h1⟩
  simp only [ZaO] at hf
  split at hf
  ·rename_i kd hk
   obtain ⟨z,hz,_⟩:=DataW.trod_int hk h
   refine one ?_ (by rw [hk];simp)
   simp only [Value.okWide,hk,Cell.okWide] at hok
   cases v<;>simp_all [Cell.ok,Value.cells]
  ·rename_i hk
   refine one ?_ (by rw [hk];simp)
   simp only [Value.okWide,hk,Cell.okWide] at hok
   cases v<;>simp_all [Cell.ok,Value.cells]
  ·rename_i hk
   refine one ?_ (by rw [hk];simp)
   simp only [Value.okWide,hk,Cell.okWide] at hok
   cases v<;>simp_all [Cell.ok,Value.cells]
  ·rename_i e hk
   refine one ?_ (by rw [hk];simp)
   simp only [Value.okWide,hk,Cell.okWide] at hok
   cases v<;>simp_all [Cell.ok,Value.cells]
  ·rename_i fs hk
   simp only [Value.okWide,hk] at hok
   obtain ⟨cs,rfl,_,_⟩:=hok
   refine ⟨.agg avs,?_,?_⟩
   ·unfold ZcI
    simp only [hk]
    exact ⟨avs,rfl,h1⟩
   ·have:cs=cs.toList.toArray:=by simp
    intro X σ k
    show Rep w (K4 w) (.agg avs) (.agg cs)
    rw [this]
    exact .agg h2.1 h2.2.1 h2.2.2
  ·cases hf
theorem ZfQ {d:Nat} {r:Reach} {base:Nat} : ∀ (ts:List TypeId) (vs:List Value) (ds:List (DataW H)) (ps:List MemPlace),(∀ t∈ts,ZaO P d t=true)→
  (∀ (j:Nat) (t:TypeId) (v:Value),ts[j]? = some t→vs[j]? = some v→Value.okWide P w r base t v)→DataW.TrodAll enc P w 0 sp held ts vs ds ps→
  vs.length=ts.length∧∃ xs:List AV,xs.length=ts.length∧∀ (i:Nat) (t:TypeId) (x:AV) (v:Value),ts[i]? = some t→xs[i]? = some x→vs[i]? = some v→ZcI P d t x∧∀ X σ k,ZP P w (K4 w) X σ k x v
 | [], [], [], ps, _, _, _ => ⟨rfl, [], rfl, by simp⟩
 | t :: ts, v :: vs, x :: ds, ps, hf, hok, h => by
  obtain ⟨p,q,h1,h2,_⟩:=h
  obtain ⟨y,g1,g2⟩:=ZlD (hf t (by simp)) (hok 0 t v rfl rfl) h1
  obtain ⟨k1,xs,k2,k3⟩:=ZfQ ts vs ds q (fun t ht=>hf t (by simp [ht])) (fun j t' v' ht hv=>hok (j+1) t' v' (by simpa using ht) (by simpa using hv)) h2
  refine ⟨by simp [k1],y::xs,by simp [k2],fun i t' x' v' ht hx hv=>?_⟩
  cases i with
  | zero =>
   simp only [List.getElem?_cons_zero,Option.some.injEq] at ht hx hv
   subst ht
   subst hx
   subst hv
   exact ⟨g1,g2⟩
  | succ i => exact k3 i t' x' v' (by simpa using ht) (by simpa using hx) (by simpa using hv)
 | [], _ :: _, _, _, _, _, h => h.elim
 | [], [], _ :: _, _, _, _, h => h.elim
 | _ :: _, [], _, _, _, _, h => h.elim
 | _ :: _, _ :: _, [], _, _, _, h => h.elim
theorem Ze3 {w':World} {sp':Nat→Bool} (hl:laidOutB P=true):∀ (ts:List TypeId) (vs:List Value) (ds:List (DataW H)) (ps:List MemPlace),(∀ t∈ts,t < P.types.size∧P.readableRec t=true)→
  DataW.TrodAll enc P w 0 (fun _=>true) true ts vs ds ps→(∀ p∈ps,w.sameAt w' p)→(∀ p∈ps,sp' p.block=true)→DataW.TrodAll enc P w' 0 sp' true ts vs ds ps
 | [], [], [], _, _, h, _, _ => h
 | t :: ts, v :: vs, x :: ds, ps, ht, h, hs, hp => by
  obtain ⟨p,q,⟨n,h1⟩,h2,rfl⟩:=h
  refine ⟨p,q,⟨n,?_⟩,Ze3 hl ts vs ds q (fun t' h'=>ht t' (by simp [h'])) h2 (fun z hz=>hs z (by simp [hz])) (fun z hz=>hp z (by simp [hz])),rfl⟩
  have hr:=(ht t (by simp)).2
  exact DataW.trod_stays (T:=InBook P t) (kids_book hl hr) (fun {t' e} h' hu=>book_sized hr h' hu) (fun h=>by cases h) ⟨(ht t (by simp)).1,book_self t⟩ h1 (fun z hz=>hs z (by simp [hz])) (fun z hz=>hp z (by simp [hz]))
 | [], _ :: _, _, _, _, h, _, _ => h.elim
 | [], [], _ :: _, _, _, h, _, _ => h.elim
 | _ :: _, [], _, _, _, h, _, _ => h.elim
 | _ :: _, _ :: _, [], _, _, h, _, _ => h.elim
theorem Zer {fn:Func} {f:FuncId} {s:ChangeSpec} {apart fresh handsOn again:Bool} {tb:TypeId} {d:Nat} (hl:laidOutB P=true) (hpar:∀ t∈fn.params.toList,ZaO P d t=true∧t < P.types.size∧P.readableRec t=true)
  (hres:fn.resultTypes = #[tb]) (htb:P.underlying tb=some .bool) (hvars:s.vars = []) (hs:∀ ds,ds.length=fn.params.size→s.fn H ds = { results:=[.lit (.bool true)],args:=ds })
  (hcall:∀ xs:List AV,xs.length=fn.params.toList.length→(∀ (i:Nat) (t:TypeId) (x:AV),fn.params.toList[i]? = some t→xs[i]? = some x→ZcI P d t x)→∃ outs,JM P f xs (B true) outs)
  (W:World) (base:Nat) (args:Array Value) (ds gs:List (DataW H)) (before:List MemPlace)
  (hval:∀ (j:Nat) t v,fn.params[j]? = some t→args[j]? = some v→Value.okWide P W .any base t v) (hW:DataW.Whole enc P fn.params.toList s.vars apart W args.toList ds gs before) :
  Calls P f args W fun e W'=>∃ v,e = .returned v∧s.post enc P fn apart fresh handsOn again W args v W':=by
 have hW':=hW
 obtain ⟨p,q,hA,hV,rfl,_,_⟩:=hW
 rw [hvars] at hV
 obtain ⟨rfl,rfl⟩:=ChangeShapes.trodVars_none hV
 obtain ⟨hlen,xs,hx1,hx2⟩:=ZfQ (r:=.any) (base:=base) _ _ _ _ (fun t ht=>(hpar t ht).1) (fun j t v ht hv=>hval j t v (by simpa using ht) (by simpa using hv)) hA
 have hdl:ds.length=fn.params.size:=by
  have:∀ (ts:List TypeId) (vs:List Value) (ds:List (DataW H)) (ps:List MemPlace),DataW.TrodAll enc P W 0 (fun _=>true) true ts vs ds ps→ds.length=ts.length:=by
   intro ts
   induction ts with
   | nil => intro vs ds ps h; cases vs <;> cases ds <;> simp_all [DataW.TrodAll]
   | cons t ts ih =>
    intro vs ds ps h
    cases vs with
    | nil => exact h.elim
    | cons v vs =>
     cases ds with
     | nil => exact h.elim
     | cons x ds => obtain ⟨_, _, _, h2, _⟩ := h; simp [ih _ _ _ h2]
  simpa using this _ _ _ _ hA
 obtain ⟨outs,_,hc⟩:=hcall xs hx1 fun i t x ht hx=>by
  obtain ⟨v,hv⟩:∃ v,args.toList[i]? = some v:=⟨_,List.getElem?_eq_getElem (by rw [hlen];exact (List.getElem?_eq_some_iff.1 ht).1)⟩
  exact (hx2 i t x v ht hx hv).1
 have hng:xs.countP AV.isG=0:=by
  rw [List.countP_eq_zero]
  intro x hx hg
  obtain ⟨i,hi⟩:=List.mem_iff_getElem?.1 hx
  have hlt:=(List.getElem?_eq_some_iff.1 hi).1
  obtain ⟨v,hv⟩:∃ v,args.toList[i]? = some v:=⟨_,List.getElem?_eq_getElem (by omega)⟩
  obtain ⟨t,ht⟩:∃ t,fn.params.toList[i]? = some t:=⟨_,List.getElem?_eq_getElem (by omega)⟩
  have hr:=(hx2 i t x v ht hi hv).2 (fun _ _=>none) (fun _=>.dead) 0
  cases x<;>simp [AV.isG] at hg
  obtain ⟨v',b,_,_,h,_⟩:=hr
  cases h
 have hcalls:=hc.2 W (K4 W) (fun _ _=>none) args.toList (by rw [hng,hlen,hx1];exact Nat.le_refl _) (fun i=>by
  cases hxi:xs[i]? with
  | none =>
   have:ZM xs i = .dead:=by simp [ZM,hxi]
   rw [this]
   trivial
  | some x =>
   have hi:=(List.getElem?_eq_some_iff.1 hxi).1
   obtain ⟨v,hv⟩:∃ v,args.toList[i]? = some v:=⟨_,List.getElem?_eq_getElem (by omega)⟩
   obtain ⟨t,ht⟩:∃ t,fn.params.toList[i]? = some t:=⟨_,List.getElem?_eq_getElem (by omega)⟩
   have h1:ZM xs i=x:=by simp [ZM,hxi]
   have h2:args.toList.getD i undef=v:=by rw [List.getD_eq_getElem?_getD,hv];rfl
   rw [h1,h2]
   exact (hx2 i t x v ht hxi hv).2 _ _ _) (fun _ _ _ _ _ h=>by cases h) (fun _ _ _ h=>by cases h) (fun _ _ _=>rfl)
 rw [Array.toArray_toList] at hcalls
 refine hcalls.mono ?_
 rintro e W' ⟨v,lim',X',rfl,hst,hol,hrel,_,_,_⟩
 have hv:v = .bool true:=by
  have h:=hrel xs.length
  have h1:ZM (outs++[B true]) xs.length=B true:=by
   simp only [ZM]
   rw [List.getElem?_append_right (by omega),hol]
   simp
  have h2:W3 xs.length args.toList v xs.length=v:=if_pos rfl
  rw [h1,h2] at h
  exact KN h
 subst hv
 have hkept:∀ b,b < W.heap.size→W'.heap[b]? = W.heap[b]?:=fun b hb=>(hst.blk b hb (by rintro ⟨_,_,h⟩;cases h)).1
 have hsame:∀ z∈p++[],W.sameAt W' z:=by
  intro z hz
  have hlt:=hW'.lt z hz
  cases z with
  | cell b off =>
   show W'.cell? ⟨b,off,none⟩=W.cell? ⟨b,off,none⟩
   unfold World.cell?
   rw [hkept b hlt]
  | map b => exact hkept b hlt
 refine ⟨_,rfl,Zif (pa:=p) hW' (fun b sp hd=>?_) (fun sp hp=>?_) (fun sp _=>?_) rfl ?_ hst.frz ?_⟩
 ·rw [hs _ (by simpa using hdl),hres]
  exact ⟨[],[],⟨1,by simp [DataW.trod,htb,Value.cells]⟩,rfl,rfl⟩
 ·rw [hs _ (by simpa using hdl),List.append_nil]
  exact Ze3 hl _ _ _ _ (fun t ht=>(hpar t ht).2) hA (fun z hz=>hsame z (by simpa using hz)) (fun z hz=>hp z (by simpa using hz))
 ·rw [hs _ (by simpa using hdl),hvars]
  rfl
 ·refine ⟨hst.os,hst.output,fun i hi=>?_⟩
  rw [hkept i hi]
  cases W.heap[i]? with
  | none => rfl
  | some o => cases o <;> simp
 ·exact RowKit.ok_one hres rfl (RowKit.okWide_bool_mk htb true)
end
end Go.AM
end

section
namespace Go.AM
open Go
set_option linter.unusedSimpArgs false
set_option linter.unusedVariables false
def blank:Char:=Char.ofNat 32
theorem Zgn (r:List Char):wordsSigns (blank::r) = []::wordsSigns r:=by
 show wordsSigns (Char.ofNat 32::r)=_
 rw [wordsSigns]
theorem Zgt (c:Char) (r:List Char) (h:c≠blank):wordsSigns (c::r)=match wordsSigns r with | w::ws=>(c::w)::ws | []=>[[c]]:=by
 rw [wordsSigns]
 ·rfl
 ·exact h
theorem VM (r:List Char):∀ (w:List Char),(w.all fun c=>c != blank)=true→wordsSigns (w++blank::r)=w::wordsSigns r
 | [], _ => Zgn r
 | c :: w, h => by
  rw [List.all_cons,Bool.and_eq_true] at h
  rw [List.cons_append,Zgt c _ (by simpa using h.1),VM r w h.2]
theorem ZeF {L:List Char} (h1:((L.take 7).all fun c=>c != blank)=true) (h2:(((L.drop 8).take 64).all fun c=>c != blank)=true) (h3:(((L.drop 73).take 3).all fun c=>c != blank)=true)
  (hL : L = L.take 7 ++ blank :: ((L.drop 8).take 64 ++ blank :: ((L.drop 73).take 3 ++ blank :: L.drop 77))) (hm : ((L.take 7 == "harness".toList || L.take 7 == "ownmain".toList) && isSumSigns ((L.drop 8).take 64)) = true)
  (hc : (L.drop 73).take 3 = "cut".toList) : ∃ ws, behindMainWord (wordsSigns L) = "cut".toList :: ws := by
 refine ⟨wordsSigns (L.drop 77),?_⟩
 have h:wordsSigns L=L.take 7::(L.drop 8).take 64::(L.drop 73).take 3::wordsSigns (L.drop 77):=by
  rw [hL,VM _ _ h1,VM _ _ h2,VM _ _ h3,← hL]
 rw [h,behindMainWord,if_pos hm,hc]
theorem enters_of {P : Program} {ws : List (List Char)} (h : behindMainWord (wordsSigns P.initOrder.toList) = "cut".toList :: ws) (h1 : P.laysLater = false) (h2 : P.bearsReflect = false) (h3 : P.doorFits [] = true) : P.mayEnter = true := by
 unfold Program.mayEnter
 rw [h]
 have hs : stripLifts liftWords ("cut".toList :: ws) = ([], "cut".toList :: ws) := by kernel_rfl
 simp only [hs]
 simp [h1,h2,h3]
theorem lifts_of {P : Program} {ws : List (List Char)} (h : behindMainWord (wordsSigns P.initOrder.toList) = "cut".toList :: ws) : P.headLifts = [] := by
 unfold Program.headLifts
 rw [h]
 have hs : stripLifts liftWords ("cut".toList :: ws) = ([], "cut".toList :: ws) := by kernel_rfl
 simp only [hs]
 simp
theorem final_of {P : Program} {ws : List (List Char)} (h : behindMainWord (wordsSigns P.initOrder.toList) = "cut".toList :: ws) : P.liftsFinal = false := by
 unfold Program.liftsFinal
 rw [lifts_of h,h]
 have hs : ("cut".toList == "carried".toList) = false := by decide +kernel
 simp [hs]
theorem make_of {P : Program} {ws : List (List Char)} (h : behindMainWord (wordsSigns P.initOrder.toList) = "cut".toList :: ws) : P.make = some .cut := by
 unfold Program.make
 rw [h]
 simp
end Go.AM
end
