/- AmSnd3, AmReg, AmEvo, AmWeak, AmPat, AmCtl, AmFin, AmPlain, AmUse: texts of the proof, put together. -/
import Derived.Test.YtmjkdbpffdampaaM2
import Derived.Orders
import Derived.LoopN
import Derived.Scope
import Derived.Laws.Cover3
import Derived.Laws.StructEq

section
namespace Go.AM
theorem us1 {t n:Nat} {x:SV} (h:x.bd n):∀ u∈[(t,x)],u.2.bd n:=by
 intro u hu
 rw [List.mem_singleton] at hu
 subst hu
 exact h
theorem us2 {t t' n:Nat} {x y:SV} (h:x.bd n) (h':y.bd n):∀ u∈[(t,x),(t',y)],u.2.bd n:=by
 intro u hu
 rcases List.mem_cons.1 hu with rfl | hu
 ·exact h
 ·exact us1 h' u hu
theorem J3 {g:Nat→SV} {d:Nat} : ∀ (n:Nat) (u:Nat×SV),u∈JK g d n↔u.2 = .dead∧u.1 < n∧u.1≠d∧ZbQ d (g u.1)=true
 | 0, u => by simp [JK]
 | n + 1, u => by
  have ih:=J3 (g:=g) (d:=d) n u
  have key:∀ p:Prop,(u∈(if n≠d∧ZbQ d (g n)=true then (n,SV.dead)::JK g d n else JK g d n)↔p)→(u∈JK g d (n+1)↔p):=fun p h=>h
  apply key
  split
  ·rename_i h
   rw [List.mem_cons,ih]
   constructor
   ·rintro (rfl | ⟨h1,h2,h3⟩)
    ·exact ⟨rfl,Nat.lt_succ_self n,h.1,h.2⟩
    ·exact ⟨h1,by omega,h3⟩
   ·rintro ⟨h1,h2,h3⟩
    by_cases hn:u.1=n
    ·left
     obtain ⟨a,b⟩:=u
     simp only at h1 hn
     rw [h1,hn]
    ·exact .inr ⟨h1,by omega,h3⟩
  ·rename_i h
   rw [ih]
   constructor
   ·rintro ⟨h1,h2,h3⟩
    exact ⟨h1,by omega,h3⟩
   ·rintro ⟨h1,h2,h3,h4⟩
    refine ⟨h1,?_,h3,h4⟩
    by_cases hn:u.1=n
    ·subst hn;exact (h ⟨h3,h4⟩).elim
    ·omega
theorem Zby (ρ:Nat→V) (d:Nat) (x:SV):ZbQ d x=true↔∃ k,Jq (x.den ρ) d k:=by
 cases x with
 | mref d' k' =>
  simp only [ZbQ,beq_iff_eq]
  constructor
  ·rintro rfl;exact ⟨k',.inl rfl⟩
  ·rintro ⟨k,h | ⟨_,h⟩⟩ <;> cases h
   rfl
 | eref d' k' i s o =>
  simp only [ZbQ,beq_iff_eq]
  constructor
  ·rintro rfl;exact ⟨k',.inr ⟨_,rfl⟩⟩
  ·rintro ⟨k,h | ⟨_,h⟩⟩ <;> cases h
   rfl
 | c y =>
  constructor
  ·intro h;cases h
  ·rintro ⟨k,h | ⟨_,h⟩⟩ <;> cases y<;>cases h
 | _ =>
  constructor
  ·intro h;cases h
  ·rintro ⟨k,h | ⟨_,h⟩⟩ <;> cases h
theorem Y2 {g:Nat→SV} (ρ:Nat→V) {d top:Nat} (htop:∀ i,top≤i→g i = .dead):Y6 (fun d=>(g d).den ρ) d ((JK g d top).map fun u=>(u.1,u.2.den ρ)):=by
 refine ⟨fun u hu=>?_,fun i k hi hr=>?_⟩
 ·obtain ⟨v,hv,rfl⟩:=List.mem_map.1 hu
  obtain ⟨h1,h2,h3,h4⟩:=(J3 top v).1 hv
  exact ⟨h3,by show v.2.den ρ=_;rw [h1];rfl,(Zby ρ d _).1 h4⟩
 ·have hr':=(Zby ρ d (g i)).2 ⟨k,hr⟩
  have hlt:i < top:=by
   rcases Nat.lt_or_ge i top with h | h
   ·exact h
   ·rw [htop i h] at hr';cases hr'
  rw [List.map_map]
  exact List.mem_map.2 ⟨(i,.dead),(J3 top (i,.dead)).2 ⟨rfl,hlt,hi,hr'⟩,rfl⟩
theorem Yn {P:Program} {g:Nat→SV} (ρ:Nat→V) {top:Nat} (htop:∀ i,top≤i→g i = .dead) {txt:Odr} {x:Bool} {t:Nat} {e:TypeId} {l:LE} {us:Ups} (ht:g t = .own x e l) (h:Y4 P txt g top t x e l=some us) :
  ∃ us',us=us'∧(us'.map fun u=>(u.1,u.2.den ρ))=(t,ZaA P x e (l.den ρ))::(us'.tail.map fun u=>(u.1,u.2.den ρ))∧((x=false∧(us'.tail.map fun u=>(u.1,u.2.den ρ)) = [])∨Kp txt (fun d=>(g d).den ρ) t (us'.tail.map fun u=>(u.1,u.2.den ρ))):=by
 unfold Y4 at h
 split at h
 ·simp only [Option.some.injEq] at h
  subst h
  exact ⟨_,rfl,rfl,.inl ⟨rfl,rfl⟩⟩
 ·split at h
  ·simp only [Option.some.injEq] at h
   subst h
   exact ⟨_,rfl,rfl,.inr (.inl ⟨rfl,Y2 ρ htop⟩)⟩
  ·rename_i N
   split at h
   ·rename_i hN
    simp only [Option.some.injEq] at h
    subst h
    exact ⟨_,rfl,rfl,.inr (.inr ⟨N,rfl,hN,rfl⟩)⟩
   ·cases h
theorem Yo {P:Program} {g:Nat→SV} {top n:Nat} {txt:Odr} {x:Bool} {t:Nat} {e:TypeId} {l:LE} {us:Ups} (h:Y4 P txt g top t x e l=some us) (hl:l.bd n):∀ u∈us,u.2.bd n:=by
 unfold Y4 at h
 split at h
 ·simp only [Option.some.injEq] at h
  subst h
  exact us1 hl
 ·split at h
  ·simp only [Option.some.injEq] at h
   subst h
   intro u hu
   rcases List.mem_cons.1 hu with rfl | hu
   ·trivial
   ·rw [((J3 top u).1 hu).1];trivial
  ·split at h
   ·simp only [Option.some.injEq] at h
    subst h
    exact us1 trivial
   ·cases h
theorem KO {cs:List BC} {off m:Nat} (h:Km ((cs.drop off).take m)=true) (ρ:Nat→V):KF (((cs.map (BC.den ρ)).drop off).take m):=by
 rw [← List.map_drop,← List.map_take]
 exact KG h ρ
theorem JZ {x:SV} {k:Nat} {e:TypeId} {l:LE} (ρ:Nat→V) (h:JY x k=some (e,l)):Zs (x.den ρ) k=some (e,l.den ρ):=by
 unfold JY at h
 split at h
 ·simp only [Option.some.injEq,Prod.mk.injEq] at h
  obtain ⟨rfl,rfl⟩:=h
  rfl
 ·rename_i cs q
  split at h
  ·rename_i e' l' hc
   simp only [Option.some.injEq,Prod.mk.injEq] at h
   obtain ⟨rfl,rfl⟩:=h
   simp only [SV.den,Zs,List.getElem?_map,hc]
   rfl
  ·cases h
 ·cases h
theorem KR {x:SV} {k n:Nat} {e:TypeId} {l:LE} (h:JY x k=some (e,l)) (hb:x.bd n):l.bd n:=by
 unfold JY at h
 split at h
 ·simp only [Option.some.injEq,Prod.mk.injEq] at h
  obtain ⟨rfl,rfl⟩:=h
  exact hb
 ·rename_i cs q
  split at h
  ·rename_i e' l' hc
   simp only [Option.some.injEq,Prod.mk.injEq] at h
   obtain ⟨rfl,rfl⟩:=h
   exact hb _ (List.mem_of_getElem? hc)
  ·cases h
 ·cases h
theorem Ky (ρ:Nat→V) (x:SV) (k:Nat) (b:Bool) (e:TypeId) (l:LE):(YC x k b e l).den ρ=ZW (x.den ρ) k b e (l.den ρ):=by
 cases x with
 | own x e' l' => cases k <;> rfl
 | box cs =>
  cases k with
  | zero => rfl
  | succ k => simp only [YC, SV.den, ZW, List.map_set]; rfl
 | c y => cases y <;> rfl
 | _ => cases k <;> rfl
theorem Vv {x:SV} {k n:Nat} {b:Bool} {e:TypeId} {l:LE} (hx:x.bd n) (hl:l.bd n):(YC x k b e l).bd n:=by
 unfold YC
 split
 ·exact hl
 ·intro c hc
  rcases List.mem_or_eq_of_mem_set hc with hc | rfl
  ·exact hx c hc
  ·exact hl
 ·exact hx
section
variable {P:Program} {E:Env} {tx:Odr} {tk:Bool} {R:AV→List AV→Prop} {A:Nat→List V→Prop} {ρ:Nat→V} {g:Nat→SV} {o:Oper} {n:Nat} {k:K}
theorem Zlb {x:Operand} (hg:∀ d,(g d).bd n) (htop:∀ i,E.top≤i→g i = .dead) (ho:o.op = .move x) (h:(JU P E tx tk g o n k).wp P R A ρ):Kl tx P R A ρ g o n k:=by
 have plain:(k (JD P g x) [] [] n).wp P R A ρ→Kl tx P R A ρ g o n k:=fun hk=>ZZ hk (ZN hg x) (by rw [J8];exact Zc8 (.inl ho))
 simp only [JU,ho] at h
 split at h
 ·rename_i t
  have ht:=hg t
  split at h
  ·rename_i vs hv
   rw [hv] at ht
   exact ZcC h ht (us1 trivial) (ZfL ho (by rw [hv];rfl))
  ·rename_i b e xs hv
   rw [hv] at ht
   unfold Zb0 at h
   split at h
   ·split at h
    ·rename_i us hus
     obtain ⟨us',rfl,q1,q2⟩:=Yn ρ htop (t:=t) hv hus
     exact ZfR h ht (Yo hus ht) (by rw [q1];exact Zde (.inl ho) (by rw [hv];rfl) q2)
    ·exact h.elim
   ·refine plain ?_
    have:JD P g (.tmp t)=match b with | true=>.mref t 0 | false=>.c (.slice false (P.cellsOf e) xs):=by simp only [JD,hv];cases b<;>rfl
    rw [this]
    cases b<;>exact h
  ·exact plain h
 ·exact plain h
theorem Zhh {x:Operand} (hg:∀ d,(g d).bd n) (htop:∀ i,E.top≤i→g i = .dead) (ho:o.op = .assign x) (h:(JU P E tx tk g o n k).wp P R A ρ):Kl tx P R A ρ g o n k:=by
 have plain:(k (JD P g x) [] [] n).wp P R A ρ→Kl tx P R A ρ g o n k:=fun hk=>ZZ hk (ZN hg x) (by rw [J8];exact Zc8 (.inr ho))
 simp only [JU,ho] at h
 split at h
 ·rename_i t
  have ht:=hg t
  split at h
  ·exact h.elim
  ·rename_i b e xs hv
   rw [hv] at ht
   unfold Zb0 at h
   split at h
   ·split at h
    ·rename_i us hus
     obtain ⟨us',rfl,q1,q2⟩:=Yn ρ htop (t:=t) hv hus
     exact ZfR h ht (Yo hus ht) (by rw [q1];exact Zde (.inr ho) (by rw [hv];rfl) q2)
    ·exact h.elim
   ·refine plain ?_
    have:JD P g (.tmp t)=match b with | true=>.mref t 0 | false=>.c (.slice false (P.cellsOf e) xs):=by simp only [JD,hv];cases b<;>rfl
    rw [this]
    cases b<;>exact h
  ·exact plain h
 ·split at h
  ·exact ZZ h trivial (ZiX ho)
  ·exact h.elim
 ·exact plain h
theorem Zkz {c a b:Operand} (hg:∀ d,(g d).bd n) (ho:o.op = .pick c a b) (h:(JU P E tx tk g o n k).wp P R A ρ):Kl tx P R A ρ g o n k:=by
 simp only [JU,ho] at h
 split at h
 ·rename_i v hv
  obtain ⟨h1,h2⟩:=ZdT h
  have hc:=Zh ρ hv
  have hex:=ZhC ho hc
  cases hb:v.den ρ with
  | true =>
   rw [hb,if_pos rfl] at hex
   exact ZZ (h1 hb) (ZN hg a) (by rw [J8];exact hex)
  | false =>
   rw [hb,if_neg (by simp)] at hex
   exact ZZ (h2 hb) (ZN hg b) (by rw [J8];exact hex)
 ·exact h.elim
theorem ZiQ {T:TypeId} (ho:o.op = .alloc T) (h:(JU P E tx tk g o n k).wp P R A ρ):Kl tx P R A ρ g o n k:=by
 simp only [JU,ho] at h
 split at h
 ·rename_i cs hcs
  obtain ⟨i,z,h1,h2,h3,h4⟩:=ZiO ρ n hcs
  exact ZZ h h4 (ZfU ho h1 h2 h3)
 ·exact h.elim
theorem Zmu {T:TypeId} {x:Operand} (hg:∀ d,(g d).bd n) (ho:o.op = .box T x) (h:(JU P E tx tk g o n k).wp P R A ρ):Kl tx P R A ρ g o n k:=by
 simp only [JU,ho] at h
 split at h
 ·rename_i cs hcs
  refine ZZ h (fun c hc=>?_) ?_
  ·obtain ⟨y,hy,rfl⟩:=List.mem_map.1 hc
   exact WV hcs (ZN hg x) y hy
  ·have hd:=VL ρ hcs
   have:=Zjc ho (J8 P g ρ x).symm hd
   have he:((SV.box (cs.map .c)).den ρ) = .box (cs.map (SC.den ρ)):=by simp only [SV.den,List.map_map];rfl
   rw [he]
   exact this
 ·exact h.elim
theorem ZcU (parts:Array (Nat×Operand)):(parts.toList.map fun p=>(p.1,getS P (fun d=>(g d).den ρ) p.2))=(parts.toList.map fun p=>(p.1,JD P g p.2)).map fun p=>(p.1,p.2.den ρ):=by
 rw [List.map_map]
 refine List.map_congr_left fun p _=>?_
 simp only [Function.comp,J8]
theorem Ze5 (hg:∀ d,(g d).bd n) (parts:Array (Nat×Operand)):∀ p∈(parts.toList.map fun p=>(p.1,JD P g p.2)),p.2.bd n:=by
 intro p hp
 obtain ⟨q,_,rfl⟩:=List.mem_map.1 hp
 exact ZN hg q.2
theorem Zeg {T:TypeId} {parts:Array (Nat×Operand)} {f t:Nat} {e:TypeId} {l:LE} (hg:∀ d,(g d).bd n) (htop:∀ i,E.top≤i→g i = .dead) (ho:o.op = .build T parts) (hp:Zeo g parts.toList=some (f,t,e,l)) (h:(Zcj P E tx g T f t e l n k).wp P R A ρ):Kl tx P R A ρ g o n k:=by
 have hparts:parts.toList = [(f,.tmp t)]∧g t = .own true e l:=by
  unfold Zeo at hp
  split at hp
  ·split at hp
   ·rename_i h1 _ _ _ h2
    simp only [Option.some.injEq,Prod.mk.injEq] at hp
    obtain ⟨rfl,rfl,rfl,rfl⟩:=hp
    exact ⟨h1,h2⟩
   ·cases hp
  ·cases hp
 obtain ⟨hp1,ht⟩:=hparts
 have hbl:=hg t
 rw [ht] at hbl
 unfold Zcj at h
 split at h
 ·rename_i fs i hT hi
  split at h
  ·rename_i hall
   split at h
   ·rename_i z fd hz hfd
    split at h
    ·rename_i zc us hzc hus
     split at h
     ·rename_i hh
      have h1:=YD ρ z.cells.toList
      rw [hzc] at h1
      have hz1:V5 z.cells.toList=some (zc.map (SC.den ρ)):=h1.symm
      obtain ⟨us',rfl,q1,q2⟩:=Yn ρ htop (t:=t) ht hus
      refine ZfR h (fun c hc=>?_) (Yo hus hbl) ?_
      ·rcases List.mem_or_eq_of_mem_set hc with hc | rfl
       ·obtain ⟨y,hy,rfl⟩:=List.mem_map.1 hc
        exact KH hzc y hy
       ·exact hbl
      ·have hod:Kp tx (fun d=>(g d).den ρ) t (us.tail.map fun u=>(u.1,u.2.den ρ)):=by
        rcases q2 with ⟨h0,_⟩ | q2
        ·cases h0
        ·exact q2
       have:=Za8 (zc:=zc.map (SC.den ρ)) ho hp1 hT hi hz hz1 hall hfd hh.1 (by simpa using hh.2) (show (fun d=>(g d).den ρ) t = .own true e (l.den ρ) by show (g t).den ρ=_;rw [ht];rfl) hod
       rw [q1]
       have he:(SV.aggo ((zc.map .c).set fd.offset (.own true e l))).den ρ = .aggo ((zc.map (SC.den ρ)).set fd.offset (.own true e (l.den ρ))):=by
        simp only [SV.den,List.map_set,List.map_map]
        rfl
       rw [he]
       exact this
     ·exact h.elim
    ·exact h.elim
   ·exact h.elim
  ·exact h.elim
 ·exact h.elim
theorem Zi0 {T:TypeId} {parts:Array (Nat×Operand)} (hg:∀ d,(g d).bd n) (htop:∀ i,E.top≤i→g i = .dead) (ho:o.op = .build T parts) (h:(JU P E tx tk g o n k).wp P R A ρ):Kl tx P R A ρ g o n k:=by
 simp only [JU,ho] at h
 split at h
 ·rename_i f t e l hp
  exact Zeg hg htop ho hp h
 split at h
 ·rename_i fs i hT hi
  split at h
  ·rename_i hall
   split at h
   ·rename_i z hz
    split at h
    ·rename_i zc hzc
     split at h
     ·rename_i cs hcs
      refine ZZ h (Zcy _ _ _ _ (KH hzc) (Ze5 hg parts) hcs) ?_
      have h1:=YD ρ z.cells.toList
      rw [hzc] at h1
      refine Zf5 ho hT hi hz h1.symm hall ?_
      rw [ZcU]
      exact Zac ρ _ _ _ _ hcs
     ·exact h.elim
    ·exact h.elim
   ·exact h.elim
  ·exact h.elim
 ·exact h.elim
theorem V7 {w:World} {lim:Nat→Nat} {f g:Bool} {s s':Nat} {v:Value} (hg:g=true→f=true) (h:Rep w lim (.slice f s []) v):Rep w lim (.slice g s' []) v:=by
 have key:∀ (y:AV),Rep w lim y v→y = .slice f s []→Rep w lim (.slice g s' []) v:=by
  intro y hy hye
  cases hy with
  | sliceN => exact .sliceN
  | @sliceE f' s2 a cap hf =>
   injection hye with h1 h2 h3
   exact .sliceE fun h=>hf (h1.trans (hg h))
  | @sliceC f' s2 xs b o cap us hs hc hf hle hlim hus hcell hr =>
   injection hye with h1 h2 h3
   subst h3
   exact .sliceE fun h=>by have:=hf (h1.trans (hg h));simpa using this
  | val _ => cases hye
  | agg _ _ _ => cases hye
 exact key _ h rfl
theorem Zep {w:World} {lim:Nat→Nat} {f:Bool} {s:Nat} {xs:List (List AV)} {v:Value} (h:Rep w lim (.slice f s xs) v):Rep w lim (.slice false s xs) v:=by
 have key:∀ (y:AV),Rep w lim y v→y = .slice f s xs→Rep w lim (.slice false s xs) v:=by
  intro y hy hye
  cases hy with
  | sliceN => injection hye with h1 h2 h3; subst h3; exact .sliceN
  | @sliceE f' s2 a cap hf => injection hye with h1 h2 h3; subst h3; exact .sliceE fun h => by cases h
  | @sliceC f' s2 xs b o cap us hs hc hf hle hlim hus hcell hr =>
   injection hye with h1 h2 h3
   subst h2
   subst h3
   exact .sliceC hs hc (fun h=>by cases h) hle hlim hus hcell hr
  | val _ => cases hye
  | agg _ _ _ => cases hye
 exact key _ h rfl
theorem ZiP (ρ:Nat→V) {s:Sh} {c c':SC} (h:Zhk s c=some c'):∀ (w:World) (lim:Nat→Nat) (u:Value),Rep w lim (c.den ρ) u→Rep w lim (c'.den ρ) u:=by
 unfold Zhk at h
 split at h
 ·split at h
  ·simp only [Option.some.injEq] at h
   subst h
   rename_i hk
   subst hk
   exact fun w lim u hr=>Zep hr
  ·split at h
   ·simp only [Option.some.injEq] at h
    subst h
    exact fun w lim u hr=>V7 (fun h=>by cases h) hr
   ·cases h
 ·simp only [Option.some.injEq] at h
  subst h
  exact fun _ _ _ h=>h
theorem Zja {n:Nat} {s:Sh} {c c':SC} (h:Zhk s c=some c') (hb:c.bd n):c'.bd n:=by
 unfold Zhk at h
 split at h
 ·split at h
  ·simp only [Option.some.injEq] at h
   subst h
   exact hb
  ·split at h
   ·simp only [Option.some.injEq] at h
    subst h
    trivial
   ·cases h
 ·simp only [Option.some.injEq] at h
  subst h
  exact hb
theorem KA {n:Nat} : ∀ (l:List Sh) (cs cs':List SC),Yj l cs=some cs'→(∀ c∈cs,c.bd n)→∀ c∈cs',c.bd n
 | [], [], _, h, _ => by simp only [Yj, Option.some.injEq] at h; subst h; simp
 | [], _ :: _, _, h, _ => by simp [Yj] at h
 | _ :: _, [], _, h, _ => by simp [Yj] at h
 | s :: ss, c :: cs, r, h, hb => by
  simp only [Yj] at h
  split at h
  ·rename_i v vs hv hvs
   simp only [Option.some.injEq] at h
   subst h
   intro x hx
   rcases List.mem_cons.1 hx with rfl | hx
   ·exact Zja hv (hb c (by simp))
   ·exact KA ss cs vs hvs (fun y hy=>hb y (by simp [hy])) x hx
  ·cases h
theorem Zc2 (ρ:Nat→V):∀ (l:List Sh) (cs cs':List SC),Yj l cs=some cs'→cs'.length=cs.length∧∀ (i:Nat) (c:SC),cs'[i]? = some c→∃ c0,cs[i]? = some c0∧∀ (w:World) (lim:Nat→Nat) (u:Value),Rep w lim (c0.den ρ) u→Rep w lim (c.den ρ) u
 | [], [], _, h => by simp only [Yj, Option.some.injEq] at h; subst h; exact ⟨rfl, by simp⟩
 | [], _ :: _, _, h => by simp [Yj] at h
 | _ :: _, [], _, h => by simp [Yj] at h
 | s :: ss, c :: cs, r, h => by
  simp only [Yj] at h
  split at h
  ·rename_i v vs hv hvs
   simp only [Option.some.injEq] at h
   subst h
   obtain ⟨h1,h2⟩:=Zc2 ρ ss cs vs hvs
   refine ⟨by simp [h1],fun i x hx=>?_⟩
   cases i with
   | zero =>
    simp only [List.getElem?_cons_zero,Option.some.injEq] at hx
    subst hx
    exact ⟨c,rfl,ZiP ρ hv⟩
   | succ i => exact h2 i x (by simpa using hx)
  ·cases h
theorem VZ (ρ:Nat→V) (l:List Sh) (cs cs':List SC) (h:Yj l cs=some cs'):(cs'.map (SC.den ρ)).length=(cs.map (SC.den ρ)).length∧
  ∀ (w:World) (lim:Nat→Nat) (us:List Value),Yf w lim (cs.map (SC.den ρ)) us→Yf w lim (cs'.map (SC.den ρ)) us:=by
 obtain ⟨h1,h2⟩:=Zc2 ρ l cs cs' h
 refine ⟨by simp [h1],fun w lim us hr=>⟨by rw [← hr.1];simp [h1],fun x hx=>?_,fun i x u hx hu=>?_⟩⟩
 ·obtain ⟨y,_,rfl⟩:=List.mem_map.1 hx
  exact Zgv ρ y
 ·rw [List.getElem?_map] at hx
  cases hc:cs'[i]? with
  | none => rw [hc] at hx; cases hx
  | some c =>
   rw [hc] at hx
   simp only [Option.map_some,Option.some.injEq] at hx
   subst hx
   obtain ⟨c0,g1,g2⟩:=h2 i c hc
   exact g2 w lim u (hr.2.2 i _ u (by rw [List.getElem?_map,g1];rfl) hu)
theorem Zb3 {T:TypeId} {len:Nat} {parts:Array (Nat×Operand)} (hg:∀ d,(g d).bd n) (ho:o.op = .buildSlice T len parts) (h:(JU P E tx tk g o n k).wp P R A ρ):Kl tx P R A ρ g o n k:=by
 simp only [JU,ho] at h
 split at h
 ·rename_i e hT
  split at h
  ·rename_i i hi
   split at h
   ·rename_i z hz
    split at h
    ·rename_i zc hzc
     split at h
     ·rename_i hh
      split at h
      ·rename_i cs sh hcs hsh
       split at h
       ·rename_i cs' hcs'
        have hb:∀ c∈cs,c.bd n:=Zcy _ _ _ _ (fun c hc=>by
         obtain ⟨l,hl,hc⟩:=List.mem_flatten.1 hc
         rw [(List.mem_replicate.1 hl).2] at hc
         exact KH hzc c hc) (Ze5 hg parts) hcs
        refine ZZ h (x:=.own _ e _) (ZjS _ _ (KA _ _ _ hcs' hb) _) ?_
        have h1:=YD ρ z.cells.toList
        rw [hzc] at h1
        have h2:=Zac ρ _ _ _ _ hcs
        rw [← ZcU,List.map_flatten,List.map_replicate] at h2
        have:=ZaH (E.exO o) ho hT hi hz h1.symm hh.1 hh.2.1 hh.2.2 h2 (VZ ρ _ _ _ hcs')
        rw [← Zh7] at this
        exact this
       ·exact h.elim
      ·exact h.elim
     ·exact h.elim
    ·exact h.elim
   ·exact h.elim
  ·exact h.elim
 ·exact h.elim
theorem ZiA (ρ:Nat→V) (x:SC):YH P (x.den ρ)=x.den ρ:=by cases x<;>rfl
theorem ZkP {T:TypeId} {a:Operand} (hg:∀ d,(g d).bd n) (ho:o.op = .load T a) (h:(JU P E tx tk g o n k).wp P R A ρ):Kl tx P R A ρ g o n k:=by
 have ba:=ZN (P:=P) hg a
 simp only [JU,ho] at h
 split at h
 ·rename_i d off hT ha
  split at h
  ·rename_i cs hcs
   split at h
   ·rename_i hle
    have hb:=hg d
    rw [hcs] at hb
    refine ZZ h (fun c hc=>?_) ?_
    ·obtain ⟨y,hy,rfl⟩:=List.mem_map.1 hc
     exact ZhB (hb y (List.mem_of_mem_drop (List.mem_of_mem_take hy)))
    ·have:=Zce (cs:=cs.map (BC.den ρ)) ho hT (Zh ρ ha) (by rw [hcs];rfl) (by simpa using hle.1) (KO hle.2 ρ)
     have he:(SV.agg (((cs.drop off).take (P.cellsOf T)).map (Zbs P))).den ρ = .agg (((((cs.map (BC.den ρ)).drop off).take (P.cellsOf T))).map (YH P)):=by
      simp only [SV.den,List.map_map,← List.map_take,← List.map_drop]
      congr 1
      exact List.map_congr_left fun b _=>Zbq P ρ b
     rw [he]
     exact this
   ·exact h.elim
  ·exact h.elim
 ·rename_i d off hT ha
  split at h
  ·rename_i cs hcs
   have hb:=hg d
   rw [hcs] at hb
   have hd:(fun d=>(g d).den ρ) d = .box (cs.map (BC.den ρ)):=by show (g d).den ρ=_;rw [hcs];rfl
   split at h
   ·rename_i b e xs hx
    have hx':(cs.map (BC.den ρ))[off]? = some (.own b e (xs.den ρ)):=by rw [List.getElem?_map,hx];rfl
    have hbx:=hb _ (List.mem_of_getElem? hx)
    split at h
    ·exact ZZ h trivial (Zb7 ho hT (Zh ρ ha) hd hx')
    ·split at h
     ·refine ZcC h hbx (us1 (fun c hc=>?_)) ?_
      ·rcases List.mem_or_eq_of_mem_set hc with hc | rfl
       ·exact hb c hc
       ·exact hbx
      ·have:=Zb2 ho hT (Zh ρ ha) hd hx'
       simp only [List.map_cons,List.map_nil,SV.den,List.map_set]
       exact this
     ·exact ZZ h hbx (K4 ho hT (Zh ρ ha) hd hx' (fun e xs h=>by cases h))
   ·rename_i x hx
    have hx':(cs.map (BC.den ρ))[off]? = some (x.den ρ):=by rw [List.getElem?_map,hx];rfl
    have:=K4 ho hT (Zh ρ ha) hd hx' (fun e xs h=>by cases x<;>cases h)
    rw [ZiA] at this
    exact ZZ h (hb _ (List.mem_of_getElem? hx)) this
   ·exact h.elim
  ·exact h.elim
 ·rename_i agg d q i s off hT ha
  split at h
  ·rename_i e l hp
   split at h
   ·rename_i sh hsh
    split at h
    ·rename_i hh
     obtain ⟨rfl,h2,h3,h4⟩:=hh
     obtain ⟨vs,w1,w2,w3⟩:=h
     have hbd:=J2 sh n
     have hat:=JZ ρ hp
     have hlen:(ZY sh n).length=P.cellsOf e:=by
      have hsl:∀ (l:List Sh) (n:Nat),(ZY l n).length=l.length:=by
       intro l
       induction l with
       | nil => intro n; rfl
       | cons s l ih => intro n; simp only [ZY, List.length_cons, ih]
      rw [hsl,h2]
     refine ⟨bind ρ n vs,n+sh.length,_,[],[d],Nat.le_add_right _ _,Zb5 ρ n vs,?_,by simp,w3,?_⟩
     ·cases agg with
      | true => exact fun c hc => hbd c (List.mem_of_mem_drop (List.mem_of_mem_take hc))
      | false =>
       show SV.bd _ (match (ZY sh n)[off]? with | some x=>.c x | none=>.dead)
       split
       ·rename_i x hx;exact hbd x (List.mem_of_getElem? hx)
       ·trivial
     ·cases agg with
      | true =>
       have:=Vz ho hT (Zh ρ ha) (show Zs ((fun d=>(g d).den ρ) d) q=_ from hat) w2 h3
       rw [← List.map_drop,← List.map_take] at this
       exact this.t
      | false =>
       have hon:P.cellsOf T=1∨off < (ZY sh n).length:=.inr (by omega)
       have hlt:off < (ZY sh n).length:=by omega
       show Za6 tx P o _ ((match (ZY sh n)[off]? with | some x=>SV.c x | none=>.dead).den (bind ρ n vs)) _ _
       rw [List.getElem?_eq_getElem hlt]
       exact (Vm ho hT (Zh ρ ha) (show Zs ((fun d=>(g d).den ρ) d) q=_ from hat) w2 (by omega) (by rw [List.getElem?_map,List.getElem?_eq_getElem hlt];rfl)).t
    ·exact h.elim
   ·exact h.elim
  ·exact h.elim
 ·rename_i cs hT ha
  rw [ha] at ba
  split at h
  ·rename_i hle
   refine ZZ h (fun c hc=>ba c (List.mem_of_mem_take hc)) ?_
   have:=Zbd (cs:=cs.map (SC.den ρ)) ho hT (Zh ρ ha) (by simpa using hle)
   rw [← List.map_take] at this
   exact this
  ·exact h.elim
 ·rename_i cs hT ha
  rw [ha] at ba
  split at h
  ·rename_i x rest
   exact ZZ h (ba x (by simp)) (Zae (cs:=rest.map (SC.den ρ)) ho hT (Zh ρ ha))
  ·exact h.elim
 ·exact h.elim
theorem ZiS {T:TypeId} {a x:Operand} (hg:∀ d,(g d).bd n) (htop:∀ i,E.top≤i→g i = .dead) (ho:o.op = .store T a x) (h:(JU P E tx tk g o n k).wp P R A ρ):Kl tx P R A ρ g o n k:=by
 have bx:=ZN (P:=P) hg x
 simp only [JU,ho] at h
 split at h
 ·rename_i d off ha
  split at h
  ·rename_i cs hcs
   have hb:=hg d
   rw [hcs] at hb
   have hd:(fun d=>(g d).den ρ) d = .box (cs.map (BC.den ρ)):=by show (g d).den ρ=_;rw [hcs];rfl
   split at h
   ·rename_i t b e xs h1 h2
    have hx:x = .tmp t:=by cases x<;>simp [Jl] at h1;rw [h1]
    subst hx
    simp only [Jl,Option.map_some,Option.some.injEq] at h2
    have ht:=hg t
    rw [h2] at ht
    split at h
    ·rename_i us hus
     split at h
     ·rename_i hh
      obtain ⟨us',rfl,q1,q2⟩:=Yn ρ htop (t:=t) h2 hus
      refine ZfR h trivial (fun u hu=>?_) ?_
      ·rcases List.mem_append.1 hu with hu | hu
       ·exact Yo hus ht u hu
       ·rw [List.mem_singleton] at hu
        subst hu
        intro c hc
        rcases List.mem_or_eq_of_mem_set hc with hc | rfl
        ·exact hb c hc
        ·exact ht
      ·have:=Za2 (T':=tx) (e:=e) (xs:=xs.den ρ) ho (Zh ρ ha) hd (by show (g t).den ρ=_;rw [h2];rfl) hh.1 (by simpa using hh.2.1) (KO hh.2.2 ρ) q2
       rw [List.map_append,q1]
       simp only [List.map_cons,List.map_nil,SV.den,List.map_set]
       exact this
     ·exact h.elim
    ·exact h.elim
   ·rename_i t vc h1 h2
    have hx:x = .tmp t:=by cases x<;>simp [Jl] at h1;rw [h1]
    subst hx
    simp only [Jl,Option.map_some,Option.some.injEq] at h2
    have ht:=hg t
    rw [h2] at ht
    split at h
    ·rename_i hh
     refine ZcC h trivial (us2 trivial (fun c hc=>?_)) ?_
     ·rcases List.mem_append.1 hc with hc | hc
      ·rcases List.mem_append.1 hc with hc | hc
       ·exact hb c (List.mem_of_mem_take hc)
       ·exact ht c hc
      ·exact hb c (List.mem_of_mem_drop hc)
     ·have:=Zaz (vc:=vc.map (BC.den ρ)) ho (Zh ρ ha) hd (show (fun d=>(g d).den ρ) t = .aggo (vc.map (BC.den ρ)) by show (g t).den ρ=_;rw [h2];rfl) (by simpa using hh.1) (by omega) (by simpa using hh.2.2.1) (KO hh.2.2.2 ρ)
      have he:(SV.box (cs.take off++vc++cs.drop (off+P.cellsOf T))).den ρ = .box ((cs.map (BC.den ρ)).take off++vc.map (BC.den ρ)++(cs.map (BC.den ρ)).drop (off+P.cellsOf T)):=by
       simp only [SV.den,List.map_append,List.map_take,List.map_drop]
      simp only [List.map_cons,List.map_nil,he]
      exact this
    ·exact h.elim
   ·split at h
    ·rename_i vc hvc
     split at h
     ·rename_i hh
      refine ZcC h trivial (us1 (fun c hc=>?_)) ?_
      ·rcases List.mem_append.1 hc with hc | hc
       ·rcases List.mem_append.1 hc with hc | hc
        ·exact hb c (List.mem_of_mem_take hc)
        ·obtain ⟨y,hy,rfl⟩:=List.mem_map.1 hc
         exact WV hvc bx y hy
       ·exact hb c (List.mem_of_mem_drop hc)
      ·have:=Zgy (vc:=vc.map (SC.den ρ)) ho (Zh ρ ha) hd (J8 P g ρ x).symm (VL ρ hvc) (by simpa using hh.1) (by omega) (by simpa using hh.2.2.1) (KO hh.2.2.2 ρ)
       have he:(SV.box (cs.take off++vc.map .c++cs.drop (off+P.cellsOf T))).den ρ = .box ((cs.map (BC.den ρ)).take off++vc.map (SC.den ρ)++(cs.map (BC.den ρ)).drop (off+P.cellsOf T)):=by
        simp only [SV.den,List.map_append,List.map_map,List.map_take,List.map_drop]
        rfl
       simp only [List.map_cons,List.map_nil,he]
       exact this
     ·exact h.elim
    ·exact h.elim
  ·exact h.elim
 ·rename_i d q i s off ha
  split at h
  ·rename_i e l vc hp hvc
   have hpt:=ZN (P:=P) hg a
   rw [ha] at hpt
   have hat:=JZ ρ hp
   split at h
   ·rename_i sh hsh
    split at h
    ·rename_i vc' hvc'
     split at h
     ·rename_i hh
      obtain ⟨r1,r2,h⟩:=h
      have r1':0≤i.den ρ:=r1
      have r2':i.den ρ < ((l.den ρ).length:Int):=r2
      have hbv:=KA _ _ _ hvc' (WV hvc bx)
      refine ZcC h trivial (us1 (Vv (hg d) ⟨KR hp (hg d),hpt,ZaU _ hbv⟩)) ?_
      obtain ⟨h1,h2,h3,h4⟩:=hh
      subst h1
      have:=Zag (vc:=vc.map (SC.den ρ)) (vc':=vc'.map (SC.den ρ)) ho (Zh ρ ha) (show Zs ((fun d=>(g d).den ρ) d) q=_ from hat) (J8 P g ρ x).symm (VL ρ hvc) (by simpa using h2) (by omega) (by omega) h4 (VZ ρ _ _ _ hvc')
      rw [← VB] at this
      simp only [List.map_cons,List.map_nil,Ky]
      exact this
     ·exact h.elim
    ·exact h.elim
   ·exact h.elim
  ·exact h.elim
 ·exact h.elim
theorem Zd7 {x:Operand} (hg:∀ d,(g d).bd n) (ho:o.op = .nilCheck x) (h:(JU P E tx tk g o n k).wp P R A ρ):Kl tx P R A ρ g o n k:=by
 have bx:=ZN (P:=P) hg x
 simp only [JU,ho] at h
 split at h
 ·rename_i d off hx
  exact ZZ h trivial (YR ho (Zh ρ hx) (.inl ⟨_,_,rfl⟩))
 ·rename_i cs hx
  rw [hx] at bx
  exact ZZ h bx (YR ho (Zh ρ hx) (.inr (.inl ⟨_,rfl⟩)))
 ·rename_i d q i s off hx
  rw [hx] at bx
  exact ZZ h bx (YR ho (Zh ρ hx) (.inr (.inr ⟨_,_,_,rfl⟩)))
 ·exact h.elim
theorem ZkB {op:UnOp} {T:TypeId} {x:Operand} (hg:∀ d,(g d).bd n) (ho:o.op = .unOp op T x) (h:(JU P E tx tk g o n k).wp P R A ρ):Kl tx P R A ρ g o n k:=by
 have bx:=ZN (P:=P) hg x
 simp only [JU,ho] at h
 split at h
 ·rename_i b hx
  rw [hx] at bx
  refine ZZ h (ZiG bx) ?_
  have:=Ziu ho (Zh ρ hx)
  rw [← ZhS] at this
  exact this
 ·rename_i kd e hx
  rw [hx] at bx
  exact ZZ h ⟨trivial,bx⟩ (ZiL ho (Zh ρ hx))
 ·rename_i kd e hx
  rw [hx] at bx
  exact ZZ h ⟨trivial,bx⟩ (Zgc ho (Zh ρ hx))
 ·exact h.elim
theorem ZfZ {S T:TypeId} {x:Operand} (hg:∀ d,(g d).bd n) (ho:o.op = .convert S T x) (h:(JU P E tx tk g o n k).wp P R A ρ):Kl tx P R A ρ g o n k:=by
 have bx:=ZN (P:=P) hg x
 simp only [JU,ho] at h
 split at h
 ·rename_i hS hT hx
  rw [hx] at bx
  exact ZZ h bx (ZhM ho hS hT (Zh ρ hx))
 ·rename_i hS hT hx
  rw [hx] at bx
  split at h
  ·rename_i he
   split at h
   ·rename_i hs
    subst hs
    exact ZZ h.2 bx (Zgf ho hS he hT (Zh ρ hx) h.1)
   ·exact h.elim
  ·exact h.elim
 ·exact h.elim
theorem ZdJ {T:TypeId} {x:Operand} {f:Nat} (hg:∀ d,(g d).bd n) (ho:o.op = .fieldAddr T x f) (h:(JU P E tx tk g o n k).wp P R A ρ):Kl tx P R A ρ g o n k:=by
 have bx:=ZN (P:=P) hg x
 simp only [JU,ho] at h
 split at h
 ·rename_i hf hx
  exact ZZ h trivial (Zbb ho hf (Zh ρ hx))
 ·rename_i off cs hf hx
  rw [hx] at bx
  refine ZZ h (fun c hc=>bx c (List.mem_of_mem_drop hc)) ?_
  have:=Zah (cs:=cs.map (SC.den ρ)) ho hf (Zh ρ hx)
  rw [← List.map_drop] at this
  exact this
 ·rename_i off d q i s off' hf hx
  rw [hx] at bx
  refine ZZ h bx ?_
  have:=Zar ho hf (Zh ρ hx)
  rw [Nat.add_assoc] at this
  exact this
 ·exact h.elim
theorem ZiI {T:TypeId} {x:Operand} {f:Nat} (hg:∀ d,(g d).bd n) (ho:o.op = .field T x f) (h:(JU P E tx tk g o n k).wp P R A ρ):Kl tx P R A ρ g o n k:=by
 have bx:=ZN (P:=P) hg x
 simp only [JU,ho] at h
 split at h
 ·rename_i off agg sz cs hf hs hx
  rw [hx] at bx
  split at h
  ·rename_i hh
   have hx':getS P (fun d=>(g d).den ρ) x = .agg (cs.map (SC.den ρ)):=Zh ρ hx
   cases agg with
   | true =>
    simp only at h
    refine ZZ h (fun c hc=>bx c (List.mem_of_mem_drop (List.mem_of_mem_take hc))) ?_
    have:=Zav (y:=.agg (((cs.map (SC.den ρ)).drop off).take sz)) ho hf hs hx' (by simpa using hh.1) hh.2 (.inl ⟨rfl,rfl⟩)
    rw [← List.map_drop,← List.map_take] at this
    exact this
   | false =>
    simp only at h
    split at h
    ·rename_i c hc
     refine ZZ h (bx c (List.mem_of_getElem? hc)) ?_
     exact Zav (y:=c.den ρ) ho hf hs hx' (by simpa using hh.1) hh.2 (.inr ⟨rfl,by simp [hc],by cases c<;>rfl⟩)
    ·exact h.elim
  ·exact h.elim
 ·exact h.elim
theorem Ze3 {ix:IE} {d off s m:Nat} {kk:SV→STree} : ∀ (j:Nat),j≤m→(Zky ix d off s m kk j).wp P R A ρ→∃ i:Nat,i < m∧ix.den ρ=(i:Int)∧(kk (.ptr d (off+i*s))).wp P R A ρ
 | 0, _, h => h.elim
 | 1, hj, h => by
  obtain ⟨h1,h2,h3⟩:=h
  have h1':((m-1:Nat):Int)≤ix.den ρ:=h1
  have h2':ix.den ρ≤((m-1:Nat):Int):=h2
  exact ⟨m-1,by omega,by omega,h3⟩
 | j + 2, hj, h => by
  obtain ⟨h1,h2⟩:=h
  by_cases he:ix.den ρ=((m-(j+2):Nat):Int)
  ·exact ⟨m-(j+2),by omega,he,h1 (by simp [BE.den,IE.den,cop,he])⟩
  ·exact Ze3 (j+1) (by omega) (h2 (by simp [BE.den,IE.den,cop,he]))
theorem ZdA {T:TypeId} {x i:Operand} (hg:∀ d,(g d).bd n) (ho:o.op = .indexAddr T x i) (h:(JU P E tx tk g o n k).wp P R A ρ):Kl tx P R A ρ g o n k:=by
 simp only [JU,ho] at h
 split at h
 ·rename_i hT hx hi
  split at h
  ·rename_i sh hsh
   split at h
   ·rename_i hh
    obtain ⟨vs,h1,h2,h3⟩:=h
    exact ⟨bind ρ n vs,n+sh.length,.eptr (ZY sh n),[],[],Nat.le_add_right _ _,Zb5 ρ n vs,J2 sh n,by simp,h3,
     (ZfJ ho hT hh.1 (by omega) (Zh ρ hx) (Zh ρ hi) h1 h2).t⟩
   ·exact h.elim
  ·exact h.elim
 ·rename_i m e d off kd ix hT hx hi
  split at h
  ·rename_i hh
   split at h
   ·rename_i z
    split at h
    ·rename_i hz
     exact ZZ h trivial (K5 (kd:=kd) (z:=z) ho hT (by omega) (Zh ρ hx) (Zh ρ hi) hz.1 hz.2)
    ·exact h.elim
   ·obtain ⟨i',h1,h2,h3⟩:=Ze3 m (Nat.le_refl _) h
    have:=K5 (kd:=kd) (z:=(i':Int)) ho hT (by omega) (Zh ρ hx) (by rw [← h2];exact Zh ρ hi) (by omega) (by omega)
    rw [Int.toNat_natCast] at this
    exact ZZ h3 trivial this
  ·exact h.elim
 ·rename_i e d q kd ix hT hx hi
  split at h
  ·rename_i e' l hp
   split at h
   ·rename_i hh
    obtain ⟨rfl,h0⟩:=hh
    obtain ⟨r1,r2,h⟩:=h
    have r1':0≤ix.den ρ:=r1
    have r2':ix.den ρ < ((l.den ρ).length:Int):=r2
    have bi:=ZN (P:=P) hg i
    rw [hi] at bi
    exact ZZ h bi (ZaC ho hT (by omega) (Zh ρ hx) (show Zs ((fun d=>(g d).den ρ) d) q=_ from JZ ρ hp) (Zh ρ hi) r1' (by omega))
   ·exact h.elim
  ·exact h.elim
 ·exact h.elim
theorem Zks {T:TypeId} {a b:Operand} (hg:∀ d,(g d).bd n) (ho:o.op = .makeSlice T a b) (h:(JU P E tx tk g o n k).wp P R A ρ):Kl tx P R A ρ g o n k:=by
 simp only [JU,ho] at h
 split at h
 ·rename_i m m' ha hb
  split at h
  ·rename_i e hT
   have bm:=ZN (P:=P) hg a
   rw [ha] at bm
   split at h
   ·rename_i i hi
    split at h
    ·rename_i z hz
     split at h
     ·rename_i zc sh hzc hsh
      split at h
      ·rename_i zc' hzc'
       split at h
       ·rename_i hzs
        have h1:=YD ρ z.cells.toList
        rw [hzc] at h1
        obtain ⟨r1,r2,r3,h⟩:=h
        have r2':m.den ρ≤m'.den ρ:=r2
        have r3':m'.den ρ≤m.den ρ:=r3
        have hmm:m'.den ρ=m.den ρ:=by omega
        refine ZZ h (x:=.own (!(E.exO o)) e _) ⟨bm,ZaU _ (KA _ _ _ hzc' (KH hzc))⟩ ?_
        have hb':getS P (fun d=>(g d).den ρ) b = .val (.int .i64 (m.den ρ)):=by rw [← hmm];exact Zh ρ hb
        have:=ZgH (!(E.exO o)) (zc:=zc.map (SC.den ρ)) (zc':=zc'.map (SC.den ρ)) ho hT hi hz hzs h1.symm (Zh ρ ha) hb' r1.1 r1.2 (VZ ρ _ _ _ hzc')
        rw [← VB] at this
        exact this
       ·exact h.elim
      ·exact h.elim
     ·exact h.elim
    ·exact h.elim
   ·exact h.elim
  ·exact h.elim
 ·exact h.elim
theorem Zjg {T:TypeId} {x:Operand} {lo hi mx:Option Operand} (hg:∀ d,(g d).bd n) (htop:∀ i,E.top≤i→g i = .dead) (ho:o.op = .slice T x lo hi mx) (h:(JU P E tx tk g o n k).wp P R A ρ):Kl tx P R A ρ g o n k:=by
 have bx:=ZN (P:=P) hg x
 simp only [JU,ho] at h
 split at h
 ·rename_i e full s xs hT hx
  rw [hx] at bx
  have sx:=Zh ρ hx
  split at h
  ·rename_i hh
   have hs0:P.cellsOf e≠0:=by omega
   unfold Zik at h
   split at h
   ·rename_i k1 k2 h1 h2 h3
    cases lo with
    | some y => simp at h1
    | none =>
     cases hi with
     | none => simp at h2
     | some y =>
      cases mx with
      | none => simp at h3
      | some z =>
       simp only [Option.map_some,Option.some.injEq] at h2 h3
       exact ZZ h trivial (Zgh ho hT hs0 sx (Zh ρ h2) (Zh ρ h3))
   ·rename_i h1 h2 h3
    cases lo with
    | some y => simp at h1
    | none =>
     cases hi with
     | some y => simp at h2
     | none =>
      cases mx with
      | some z => simp at h3
      | none =>
       have:=WK (l:=0) (h:=(xs.den ρ).length) (f':=full) ho hT hh.1 hs0 sx (Nat.zero_le _) (Nat.le_refl _) (.inl ⟨rfl,rfl⟩) (.inl ⟨rfl,rfl⟩) (fun h=>⟨h,rfl⟩)
       rw [List.take_length,List.drop_zero] at this
       exact ZZ h bx this
   ·rename_i kl l h1 h2 h3
    cases lo with
    | none => simp at h1
    | some y =>
     cases hi with
     | some y => simp at h2
     | none =>
      cases mx with
      | some z => simp at h3
      | none =>
       simp only [Option.map_some,Option.some.injEq] at h1
       have by1:=ZN (P:=P) hg y
       rw [h1] at by1
       obtain ⟨r1,r2,h⟩:=h
       have r1':0≤l.den ρ:=r1
       have r2':l.den ρ≤((xs.den ρ).length:Int):=r2
       have sy:=Zh ρ h1
       have e1:((l.den ρ).toNat:Int)=l.den ρ:=Int.toNat_of_nonneg r1'
       have:=WK (l:=(l.den ρ).toNat) (h:=(xs.den ρ).length) (f':=full) ho hT hh.1 hs0 sx (by omega) (Nat.le_refl _) (.inr ⟨y,kl,rfl,by rw [e1];exact sy⟩) (.inl ⟨rfl,rfl⟩) (fun h=>⟨h,rfl⟩)
       rw [List.take_length] at this
       exact ZZ h ⟨bx,by1⟩ this
   ·rename_i kl l h1 h2 h3
    cases lo with
    | some y => simp at h1
    | none =>
     cases hi with
     | none => simp at h2
     | some y =>
      cases mx with
      | some z => simp at h3
      | none =>
       simp only [Option.map_some,Option.some.injEq] at h2
       have by1:=ZN (P:=P) hg y
       rw [h2] at by1
       obtain ⟨r1,r2,h⟩:=h
       have r1':0≤l.den ρ:=r1
       have r2':l.den ρ≤((xs.den ρ).length:Int):=r2
       have sy:=Zh ρ h2
       have e1:((l.den ρ).toNat:Int)=l.den ρ:=Int.toNat_of_nonneg r1'
       have:=WK (l:=0) (h:=(l.den ρ).toNat) (f':=false) ho hT hh.1 hs0 sx (Nat.zero_le _) (by omega) (.inl ⟨rfl,rfl⟩) (.inr ⟨y,kl,rfl,by rw [e1];exact sy⟩) (fun h=>by simp at h)
       rw [List.drop_zero] at this
       exact ZZ h ⟨bx,by1⟩ this
   ·rename_i kl l kh hb h1 h2 h3
    cases lo with
    | none => simp at h1
    | some y =>
     cases hi with
     | none => simp at h2
     | some z =>
      cases mx with
      | some z => simp at h3
      | none =>
       simp only [Option.map_some,Option.some.injEq] at h1 h2
       have by1:=ZN (P:=P) hg y
       rw [h1] at by1
       have by2:=ZN (P:=P) hg z
       rw [h2] at by2
       obtain ⟨r1,r2,r3,h⟩:=h
       have r1':0≤l.den ρ:=r1
       have r2':l.den ρ≤hb.den ρ:=r2
       have r3':hb.den ρ≤((xs.den ρ).length:Int):=r3
       have sy:=Zh ρ h1
       have sz:=Zh ρ h2
       have e1:((l.den ρ).toNat:Int)=l.den ρ:=Int.toNat_of_nonneg r1'
       have e2:((hb.den ρ).toNat:Int)=hb.den ρ:=Int.toNat_of_nonneg (by omega)
       have:=WK (l:=(l.den ρ).toNat) (h:=(hb.den ρ).toNat) (f':=false) ho hT hh.1 hs0 sx (by omega) (by omega) (.inr ⟨y,kl,rfl,by rw [e1];exact sy⟩) (.inr ⟨z,kh,rfl,by rw [e2];exact sz⟩) (fun h=>by simp at h)
       exact ZZ h ⟨⟨bx,by2⟩,by1⟩ this
   ·exact h.elim
  ·exact h.elim
 ·rename_i e d hT hx
  split at h
  ·rename_i kh hv e' l hhi hd
   have hb:=hg d
   rw [hd] at hb
   split at h
   ·rename_i us hus
    split at h
    ·rename_i hh
     obtain ⟨rfl,h0⟩:=hh
     cases hi with
     | none => simp at hhi
     | some z =>
      simp only [Option.map_some,Option.some.injEq] at hhi
      have bz:=ZN (P:=P) hg z
      rw [hhi] at bz
      obtain ⟨r1,r2,h⟩:=h
      have r1':0≤hv.den ρ:=r1
      have r2':hv.den ρ≤((l.den ρ).length:Int):=r2
      have e1:((hv.den ρ).toNat:Int)=hv.den ρ:=Int.toNat_of_nonneg r1'
      obtain ⟨us',rfl,q1,q2⟩:=Yn ρ htop (t:=d) hd hus
      have hod:Kp tx (fun d=>(g d).den ρ) d (us.tail.map fun u=>(u.1,u.2.den ρ)):=by
       rcases q2 with ⟨h0,_⟩ | q2
       ·cases h0
       ·exact q2
      refine ZfR h ⟨hb,bz⟩ (Yo hus hb) ?_
      rw [q1]
      exact Zd8 (h:=(hv.den ρ).toNat) ho hT (by omega) (Zh ρ hx) (show (fun d=>(g d).den ρ) d = .own true e' (l.den ρ) by show (g d).den ρ=_;rw [hd];rfl) (by rw [e1];exact Zh ρ hhi) (by omega) hod
    ·exact h.elim
   ·exact h.elim
  ·exact h.elim
 ·exact h.elim
theorem Zf3 {x:Operand} {i:Nat} (hg:∀ d,(g d).bd n) (ho:o.op = .extract x i) (h:(JU P E tx tk g o n k).wp P R A ρ):Kl tx P R A ρ g o n k:=by
 simp only [JU,ho] at h
 split at h
 ·rename_i t vs h1 h2
  have hx:x = .tmp t:=by cases x<;>simp [Jl] at h1;rw [h1]
  subst hx
  simp only [Jl,Option.map_some,Option.some.injEq] at h2
  have hb:=hg t
  rw [h2] at hb
  have ht:(fun d=>(g d).den ρ) t = .tuple (vs.map (TC.den ρ)):=by show (g t).den ρ=_;rw [h2];rfl
  split at h
  ·rename_i b e xs hv
   have hv':(vs.map (TC.den ρ))[i]? = some (.own b e (xs.den ρ)):=by rw [List.getElem?_map,hv];rfl
   have hbx:=hb _ (List.mem_of_getElem? hv)
   refine ZcC h hbx (us1 (fun c hc=>?_)) ?_
   ·rcases List.mem_or_eq_of_mem_set hc with hc | rfl
    ·exact hb c hc
    ·cases b<;>first | exact hbx | trivial
   ·have:=WC (P:=P) (σ:=fun d=>(g d).den ρ) ho ht hv'
    simp only [List.map_cons,List.map_nil,SV.den,List.map_set]
    cases b<;>exact this
  ·rename_i y hv
   have hv':(vs.map (TC.den ρ))[i]? = some (y.den ρ):=by rw [List.getElem?_map,hv];rfl
   refine ZZ h (hb _ (List.mem_of_getElem? hv)) (Wx (σ:=fun d=>(g d).den ρ) ho ht hv' ?_ ?_ ?_ ?_ ?_)
   ·cases y<;>rfl
   all_goals first
    | (intro d p; cases y <;> simp [SV.den, SC.den])
    | (intro d; cases y <;> simp [SV.den, SC.den])
    | (cases y <;> simp [SV.den, SC.den])
  ·rename_i cs hv
   have hv':(vs.map (TC.den ρ))[i]? = some (.agg (cs.map (SC.den ρ))):=by rw [List.getElem?_map,hv];rfl
   exact ZZ h (hb _ (List.mem_of_getElem? hv)) (Wx (σ:=fun d=>(g d).den ρ) ho ht hv' rfl (fun _ _ h=>by cases h) (fun _ h=>by cases h) (fun h=>by cases h) (fun h=>by cases h))
  ·exact h.elim
  ·exact h.elim
 ·exact h.elim
theorem ZmR {c:Call} (hg:∀ d,(g d).bd n) (ho:o.op = .call c) (hc:c.callee = .builtin .len) (h:(JU P E tx tk g o n k).wp P R A ρ):Kl tx P R A ρ g o n k:=by
 simp only [JU,ho,hc] at h
 split at h
 ·rename_i x T hargs hts
  have bx:=ZN (P:=P) hg x
  split at h
  ·rename_i d q hx
   split at h
   ·rename_i e e' l hT hp
    exact ZZ h (KR hp (hg d)) (Zcg ho hc hargs hts hT (Zh ρ hx) (show Zs ((fun d=>(g d).den ρ) d) q=_ from JZ ρ hp))
   ·exact h.elim
  ·unfold Znl at h
   split at h
   ·rename_i hT hx
    rw [hx] at bx
    exact ZZ h bx (Zbf ho hc hargs hts hT (Zh ρ hx))
   ·rename_i hT hx
    rw [hx] at bx
    exact ZZ h bx (Zdw ho hc hargs hts hT (Zh ρ hx))
   ·exact h.elim
 ·exact h.elim
theorem ZkE {c:Call} (hg:∀ d,(g d).bd n) (ho:o.op = .call c) (hc:c.callee = .builtin .copy) (h:(JU P E tx tk g o n k).wp P R A ρ):Kl tx P R A ρ g o n k:=by
 simp only [JU,ho,hc] at h
 split at h
 ·rename_i x y T T' hargs hts
  split at h
  ·rename_i e d q f s ys hT hx hy
   split at h
   ·rename_i e' l hp
    split at h
    ·rename_i hh
     obtain ⟨rfl,h1,rfl⟩:=hh
     have by1:=ZN (P:=P) hg y
     rw [hy] at by1
     refine ZcC h trivial (us1 (Vv (hg d) ⟨KR hp (hg d),by1⟩)) ?_
     simp only [List.map_cons,List.map_nil,Ky]
     exact Za5 (f:=f) ho hc hargs hts hT h1 (Zh ρ hx) (show Zs ((fun d=>(g d).den ρ) d) q=_ from JZ ρ hp) (Zh ρ hy)
    ·exact h.elim
   ·exact h.elim
  ·exact h.elim
 ·exact h.elim
theorem ZaQ {c:Call} {T:TypeId} {x y:Operand} (src:Option Nat) {xv:SV} {ex:Bool} (hg:∀ d,(g d).bd n) (htop:∀ i,E.top≤i→g i = .dead) (ho:o.op = .call c) (hc:c.callee = .builtin .append) (hargs:c.args.toList = [x,y])
  (hts:c.argTypes.toList = [T,T]) (hsrc:∀ t,src=some t→x = .tmp t∧xv=g t) (hnone:src=none→xv=JD P g x)
  (h:(WL P T tx g E.top ex src xv (JD P g y) fun v us=>k v us [] n).wp P R A ρ):Kl tx P R A ρ g o n k:=by
 have bY:=ZN (P:=P) hg y
 have hxv:xv.bd n:=by
  cases src with
  | none => rw [hnone rfl]; exact ZN hg x
  | some t => rw [(hsrc t rfl).2]; exact hg t
 unfold WL at h
 split at h
 ·rename_i e hT
  split at h
  ·rename_i i hi
   split at h
   ·rename_i z hz
    split at h
    ·rename_i hh
     split at h
     ·rename_i b e' xs f s ys hy
      rw [hy] at bY
      split at h
      ·rename_i t
       obtain ⟨rfl,hx⟩:=hsrc t rfl
       split at h
       ·rename_i us hus
        split at h
        ·rename_i he
         obtain ⟨rfl,rfl⟩:=he
         obtain ⟨us',rfl,q1,q2⟩:=Yn ρ htop (t:=t) hx.symm hus
         refine ZfR h.2 ⟨hxv,bY⟩ (Yo hus hxv) ?_
         rw [q1]
         exact Zaj (σ:=fun d=>(g d).den ρ) ho hc hargs hts hT hi hz hh.1 (by show (g t).den ρ=_;rw [← hx];rfl) (Zh ρ hy) h.1 q2
        ·exact h.elim
       ·exact h.elim
      ·exact h.elim
     ·rename_i s0 f s ys hy
      rw [hy] at bY
      split at h
      ·rename_i he
       subst he
       refine ZcC h.2 bY (by simp) ?_
       have hx:getS P (fun d=>(g d).den ρ) x = .slice true s0 []:=by
        cases src with
        | none => exact Zh ρ (hnone rfl).symm
        | some t =>
         obtain ⟨rfl,hx⟩:=hsrc t rfl
         simp only [getS,← hx]
         rfl
       exact WD (σ:=fun d=>(g d).den ρ) ex ho hc hargs hts hT hi hz hh.1 hx (Zh ρ hy) h.1
      ·exact h.elim
     ·exact h.elim
    ·exact h.elim
   ·exact h.elim
  ·exact h.elim
 ·exact h.elim
theorem Zhy {c:Call} (hg:∀ d,(g d).bd n) (htop:∀ i,E.top≤i→g i = .dead) (ho:o.op = .call c) (hc:c.callee = .builtin .append) (h:(JU P E tx tk g o n k).wp P R A ρ):Kl tx P R A ρ g o n k:=by
 simp only [JU,ho,hc] at h
 split at h
 ·rename_i x y T T' hargs hts
  split at h
  ·rename_i hTT
   subst hTT
   split at h
   ·rename_i t ht
    have hx:x = .tmp t:=by cases x<;>simp [Jl] at ht;rw [ht]
    exact ZaQ (some t) hg htop ho hc hargs hts (fun t' ht'=>by simp only [Option.some.injEq] at ht';subst ht';exact ⟨hx,rfl⟩) (fun h=>by cases h) h
   ·exact ZaQ none hg htop ho hc hargs hts (fun t' ht'=>by cases ht') (fun _=>rfl) h
  ·exact h.elim
 ·exact h.elim
theorem ZjU {c:Call} {ka kb:IntKind} {a b:IE} (h:c.args.toList.map (JD P g) = [.c (.int ka a),.c (.int kb b)]) :
  ∃ x y,c.args.toList = [x,y]∧JD P g x = .c (.int ka a)∧JD P g y = .c (.int kb b):=by
 cases hl:c.args.toList with
 | nil => simp [hl] at h
 | cons x l =>
  cases l with
  | nil => simp [hl] at h
  | cons y l =>
   cases l with
   | nil => simp only [hl, List.map_cons, List.map_nil, List.cons.injEq, and_true] at h; exact ⟨x, y, rfl, h.1, h.2⟩
   | cons z l => simp [hl] at h
theorem ZlH {c:Call} (hg:∀ d,(g d).bd n) (ho:o.op = .call c) (hc:c.callee = .builtin .min) (h:(JU P E tx tk g o n k).wp P R A ρ):Kl tx P R A ρ g o n k:=by
 simp only [JU,ho,hc] at h
 split at h
 ·rename_i ka a kb b hl
  obtain ⟨x,y,h1,h2,h3⟩:=ZjU hl
  split at h
  ·rename_i he
   subst he
   have b1:=ZN (P:=P) hg x
   have b2:=ZN (P:=P) hg y
   rw [h2] at b1
   rw [h3] at b2
   exact ZZ h ⟨b1,b2⟩ (Zam (mn:=true) ho hc h1 (Zh ρ h2) (Zh ρ h3))
  ·exact h.elim
 ·exact h.elim
theorem ZmG {c:Call} (hg:∀ d,(g d).bd n) (ho:o.op = .call c) (hc:c.callee = .builtin .max) (h:(JU P E tx tk g o n k).wp P R A ρ):Kl tx P R A ρ g o n k:=by
 simp only [JU,ho,hc] at h
 split at h
 ·rename_i ka a kb b hl
  obtain ⟨x,y,h1,h2,h3⟩:=ZjU hl
  split at h
  ·rename_i he
   subst he
   have b1:=ZN (P:=P) hg x
   have b2:=ZN (P:=P) hg y
   rw [h2] at b1
   rw [h3] at b2
   exact ZZ h ⟨b1,b2⟩ (Zam (mn:=false) ho hc h1 (Zh ρ h2) (Zh ρ h3))
  ·exact h.elim
 ·exact h.elim
theorem ZcW (ρ:Nat→V) (l:List SAK):(l.map (SAK.den ρ)).filterMap AK.slot=l.filterMap SAK.slot:=by
 rw [List.filterMap_map]
 congr 1
 funext a
 exact ZeB ρ a
theorem ZhL {c:Call} {f:FuncId} {ds:List Nat} {aZ:List SAK} (htop:∀ i,E.top≤i→g i = .dead) (ho:o.op = .call c) (hc:(c.callee = .value (.func f)∧ds = [])∨∃ t,c.callee = .value (.tmp t)∧(g t).den ρ = .clo f ds)
  (ha:Kh P g ρ (c.args.toList.map V4.op++ds.map V4.cap) aZ) (hraw:Raw aZ) (h:(Zfi P E tx g f (Zct P g c.args.toList) (Zau g (Zn9 P f) aZ) n k).wp P R A ρ):Kl tx P R A ρ g o n k:=by
 unfold Zfi at h
 split at h
 ·rename_i saks Ts hs _
  split at h
  ·rename_i hnd0
   obtain ⟨hnd,hfree⟩:=hnd0
   split at h
   ·rename_i res sh n' hr
    obtain ⟨q1,q2,q3⟩:=ZdS hr
    dsimp only at h
    split at h
    case isFalse=>exact h.elim
    rename_i hbo
    obtain ⟨vs,h1,h2⟩:=h
    obtain ⟨tail,a1,a2,a3,a4⟩:=Zgs ρ ha hraw hs
    have hlen:((Jg (saks.map SAK.sv) n').1).length=saks.length:=by rw [Zbm,List.length_map]
    refine ⟨bind ρ n vs,(Jg (saks.map SAK.sv) n').2.2,res,WA saks (Jg (saks.map SAK.sv) n').1,saks.filterMap SAK.slot++(Zct P g c.args.toList).map (·.1),Nat.le_trans q1 (Yx _ _),Zb5 ρ n vs,SV.bd_mono (Yx _ _) _ q2,
     KL _ _ (VD _ _),h2,?_⟩
    have:=Zhm (T:=tx) (((Zct P g c.args.toList).head?.getD (0,0)).1) (((Zct P g c.args.toList).head?.getD (0,0)).2) ((Zct P g c.args.toList).map (·.1)) (P:=P) (σ:=fun d=>(g d).den ρ) (aks:=saks.map (SAK.den ρ)) (res:=res.den (bind ρ n vs)) (outs:=(Jg (saks.map SAK.sv) n').1.map (SV.den (bind ρ n vs))) (tail:=tail) ho hc (by simpa using a1.1)
     (fun i x a hx hi=>?_) a2 (by simpa using a3) a4
     (by rw [ZcW];exact VF _ hnd) (by simp [hlen]) (fun i d fr to cs y hi hy=>?_) (q3 _) (fun i t e xs hi=>?_) (fun x hx d q hxm hno=>?_) ?_
    ·rw [ZdN,ZcW] at this
     exact this
    ·rw [List.getElem?_map] at hi
     cases hsi:saks[i]? with
     | none => simp [hsi] at hi
     | some a0 =>
      simp only [hsi,Option.map_some,Option.some.injEq] at hi
      subst hi
      exact a1.2 i x a0 hx hsi
    ·rw [List.getElem?_map] at hi hy
     cases hsi:saks[i]? with
     | none => simp [hsi] at hi
     | some a =>
      cases hyi:(Jg (saks.map SAK.sv) n').1[i]? with
      | none => simp [hyi] at hy
      | some y0 =>
       simp only [hsi,hyi,Option.map_some,Option.some.injEq] at hi hy
       subst hy
       cases a with
       | box d0 fr0 to0 cs0 =>
        simp only [SAK.den,AK.box.injEq] at hi
        obtain ⟨rfl,rfl,rfl,rfl⟩:=hi
        obtain ⟨cs',rfl⟩:=KQ (saks.map SAK.sv) n' i to0 cs0 y0 (by rw [List.getElem?_map,hsi];rfl) hyi
        exact ⟨_,WR _ _ _⟩
       | _ => cases hi
    ·rw [List.getElem?_map] at hi
     cases hsi:saks[i]? with
     | none => simp [hsi] at hi
     | some a =>
      simp only [hsi,Option.map_some,Option.some.injEq] at hi
      cases a with
      | own t0 x0 e0 l0 =>
       simp only [SAK.den,AK.own.injEq] at hi
       obtain ⟨rfl,rfl,rfl,_⟩:=hi
       unfold ZeI at hfree
       rw [List.all_eq_true] at hfree
       have hf:=hfree _ (List.mem_of_getElem? hsi)
       cases tx with
       | any N => exact .inr ⟨N, rfl, hf, rfl⟩
       | text =>
       simp only [List.isEmpty_iff] at hf
       refine .inl ⟨rfl,by simp,fun j q _ hr=>?_⟩
       have hda:=(Y2 ρ htop (d:=t0)).2 j q
       by_cases hj:j=t0
       ·subst hj
        have hok:=a1.2 i
        have hlt:=(List.getElem?_eq_some_iff.1 hsi).1
        obtain ⟨x,hx⟩:∃ x,(c.args.toList.map V4.op++ds.map V4.cap++tail)[i]? = some x:=⟨_,List.getElem?_eq_getElem (by rw [a1.1];exact hlt)⟩
        have hk:=hok x _ hx hsi
        cases x with
        | op y =>
         have h1:(g j).den ρ = .own true e0 (l0.den ρ):=hk.2
         have hr':Jq ((g j).den ρ) j q:=hr
         rw [h1] at hr'
         rcases hr' with h2 | ⟨_,h2⟩ <;> cases h2
        | _ => exact hk.elim
       ·have:=hda hj hr
        rw [hf] at this
        cases this
      | _ => cases hi
    ·have hm:=Zig (P:=P) (g:=g) ρ hx hxm hno
     generalize Zct P g c.args.toList=bs at hm hbo
     cases bs with
     | nil => cases hm
     | cons p r =>
      simp only [Zm1,Bool.and_eq_true,List.all_eq_true,decide_eq_true_eq,Bool.not_eq_true',List.contains_eq_mem,decide_eq_false_iff_not] at hbo
      obtain ⟨⟨⟨b1,b2⟩,b3⟩,b4⟩:=hbo
      have hp:d=p.1∧q=p.2:=by
       rcases List.mem_cons.1 hm with h0 | h0
       ·rw [← h0];exact ⟨rfl,rfl⟩
       ·exact b1 _ h0
      refine ⟨hp.1,hp.2,by simp,fun a ha hs=>b2 ?_,fun i=>?_⟩
      ·obtain ⟨a0,ha0,rfl⟩:=List.mem_map.1 ha
       rw [ZeB] at hs
       exact List.mem_filterMap.2 ⟨a0,ha0,hs⟩
      ·simp only [ZX]
       rcases Nat.lt_or_ge i ((Jg (saks.map SAK.sv) n').1.map (SV.den (bind ρ n vs))).length with hi | hi
       ·rw [List.getElem?_append_left hi,List.getElem?_map]
        cases hy:(Jg (saks.map SAK.sv) n').1[i]? with
        | none => rfl
        | some y => exact Zbo _ (b4 y (List.mem_of_getElem? hy))
       ·rw [List.getElem?_append_right hi]
        cases hj:i-((Jg (saks.map SAK.sv) n').1.map (SV.den (bind ρ n vs))).length with
        | zero => exact Zbo _ b3
        | succ j => rfl
    ·have he:(saks.map (SAK.den ρ)).map AK.av=(saks.map SAK.sv).map (SV.den ρ):=by
      rw [List.map_map,List.map_map]
      exact List.map_congr_left fun a _=>ZjN ρ a
     rw [he]
     exact h1
   ·exact h.elim
  ·exact h.elim
 ·exact h.elim
theorem ZdL:∀ (l:List SV) (ds:List Nat),ZbH l=some ds→l.length=ds.length∧∀ (i d:Nat),ds[i]? = some d→l[i]? = some (.ptr d 0)
 | [], ds, h => by simp only [ZbH, Option.some.injEq] at h; subst h; exact ⟨rfl, by simp⟩
 | x :: l, ds, h => by
  unfold ZbH at h
  split at h
  ·rename_i heq;cases heq
  ·rename_i d r heq
   simp only [List.cons.injEq] at heq
   obtain ⟨rfl,rfl⟩:=heq
   cases hr:ZbH l with
   | none => rw [hr] at h; cases h
   | some es =>
    rw [hr] at h
    simp only [Option.map_some,Option.some.injEq] at h
    subst h
    obtain ⟨h1,h2⟩:=ZdL l es hr
    refine ⟨by simp [h1],fun i e he=>?_⟩
    cases i with
    | zero => simp only [List.getElem?_cons_zero, Option.some.injEq] at he ⊢; rw [he]
    | succ i => simpa using h2 i e (by simpa using he)
  ·cases h
theorem ZdZ {fn:Fn} {first captured:Array Operand} (ho:o.op = .makeFunc fn first captured) (h:(JU P E tx tk g o n k).wp P R A ρ):Kl tx P R A ρ g o n k:=by
 simp only [JU,ho] at h
 split at h
 ·rename_i f ds hf hds
  split at h
  ·rename_i hall
   obtain ⟨h1,h2⟩:=ZdL _ _ hds
   refine ZZ h trivial (Zcf ho hf (by simpa using h1) fun i x d hx hd=>?_)
   have h3:=h2 i d hd
   rw [List.getElem?_map,hx] at h3
   simp only [Option.map_some,Option.some.injEq] at h3
   rw [List.all_eq_true] at hall
   have h4:=hall d (List.mem_of_getElem? hd)
   refine ⟨Zh ρ h3,?_⟩
   show ∃ cs,(g d).den ρ = .box cs
   split at h4
   ·rename_i cs hcs;rw [hcs];exact ⟨_,rfl⟩
   ·cases h4
  ·exact h.elim
 ·exact h.elim
theorem Zgz (hps:PlainSound P E.plain) (hg:∀ d,(g d).bd n) (htop:∀ i,E.top≤i→g i = .dead) (h:(JU P E tx tk g o n k).wp P R A ρ):Kl tx P R A ρ g o n k:=by
 cases ho:o.op with
 | move x => exact Zlb hg htop ho h
 | assign x => exact Zhh hg htop ho h
 | pick c a b => exact Zkz hg ho h
 | alloc T => exact ZiQ ho h
 | box T x => exact Zmu hg ho h
 | build T parts => exact Zi0 hg htop ho h
 | buildSlice T len parts => exact Zb3 hg ho h
 | load T a => exact ZkP hg ho h
 | store T a x => exact ZiS hg htop ho h
 | nilCheck x => exact Zd7 hg ho h
 | binOp op T x y T' => exact ZgE hps hg ho (by simp only [JU, ho] at h; exact h)
 | unOp op T x => exact ZkB hg ho h
 | convert S T x => exact ZfZ hg ho h
 | fieldAddr T x f => exact ZdJ hg ho h
 | field T x f => exact ZiI hg ho h
 | indexAddr T x i => exact ZdA hg ho h
 | makeSlice T a b => exact Zks hg ho h
 | makeFunc fn first captured => exact ZdZ ho h
 | slice T x lo hi mx => exact Zjg hg htop ho h
 | extract x i => exact Zf3 hg ho h
 | call c =>
  cases hc:c.callee with
  | builtin b =>
   cases b with
   | len => exact ZmR hg ho hc h
   | append => exact Zhy hg htop ho hc h
   | copy => exact ZkE hg ho hc h
   | min => exact ZlH hg ho hc h
   | max => exact ZmG hg ho hc h
   | _ => simp only [JU, ho, hc] at h; exact h.elim
  | value x =>
   cases x with
   | func f =>
    simp only [JU,ho,hc] at h
    split at h
    ·rename_i aZ has
     obtain ⟨h1,h2⟩:=WY ρ _ _ has
     exact ZhL (ds:=[]) htop ho (.inl ⟨hc,rfl⟩) (by simpa using h1) h2 h
    ·exact h.elim
   | tmp t =>
    simp only [JU,ho,hc] at h
    split at h
    ·rename_i f ds aZ ht has
     obtain ⟨h1,h2⟩:=WY ρ _ _ has
     split at h
     ·rename_i cs hcs
      obtain ⟨k1,k2⟩:=ZkN (P:=P) ρ hcs
      refine ZhL (ds:=ds) htop ho (.inr ⟨t,hc,by rw [ht];rfl⟩) (h1.append k1) (fun a ha=>?_) h
      rcases List.mem_append.1 ha with ha | ha
      ·exact h2 a ha
      ·exact k2 a ha
     ·exact h.elim
    ·exact h.elim
   | _ => simp only [JU, ho, hc] at h; exact h.elim
  | _ => simp only [JU, ho, hc] at h; exact h.elim
 | _ => simp only [JU, ho] at h; exact h.elim
end
end Go.AM
end

section
namespace Go.AM
structure Stp where
 F:List Nat
 ups:List (Nat×AV)
def ZkO (T:Odr) (P:Program) (nt:Nat) (ops:Array Oper) (B:Nat→Prop) (i:Nat) (pre:Nat→AV) (s:Stp):Prop:=
 (∀ u∈s.ups,u.1∈s.F)∧(∀ u∈s.ups,B u.1→ZbW u.2)∧(∀ N,T = .any N→∀ u∈s.ups,∀ d k,N d=true→¬ Jq u.2 d k)∧
 ∀ (c:Ctx),c.P=P→c.nt=nt→∀ (σ':Nat→AV) (tm:Array Value) (w:World) (lim:Nat→Nat) (X:Nat→Nat→Option Nat),
  (∀ d∈s.F,σ' d=pre d)→(∀ d,B d→ZbW (σ' d))→T.rel pre σ'→Sim c σ' tm w lim X→∀ (Q:Exit→Act→World→Prop) (K:Act→World→Prop),
   (∀ tm' w' lim' X',Sim c (JJ σ' s.ups) tm' w' lim' X'→K ⟨tm',[]⟩ w')→wpOp P ops Q i K ⟨tm,[]⟩ w
def Zeu (T:Odr) (P:Program) (nt:Nat) (ops:Array Oper) (B:Nat→Prop):Nat→(Nat→AV)→List Stp→Prop
 | _, _, [] => True
 | i, σ, s :: ss => ZkO T P nt ops B i σ s ∧ Zeu T P nt ops B (i + 1) (JJ σ s.ups) ss
theorem Zco {B:Nat→Prop} : ∀ (us:List (Nat×AV)) (σ:Nat→AV),(∀ u∈us,B u.1→ZbW u.2)→(∀ d,B d→ZbW (σ d))→∀ d,B d→ZbW (JJ σ us d)
 | [], _, _, h, d, hd => h d hd
 | (e, x) :: us, σ, hu, h, d, hd => by
  refine Zco us (upd σ e x) (fun u h'=>hu u (by simp [h'])) (fun d hd=>?_) d hd
  by_cases he:d=e
  ·subst he;rw [Jf];exact hu (d,x) (by simp) hd
  ·rw [Zi _ _ he];exact h d hd
def Zd4 (σ:Nat→AV):List Stp→(Nat→AV)
 | [] => σ
 | s :: ss => Zd4 (JJ σ s.ups) ss
section
variable {T:Odr} {P:Program} {nt:Nat} {ops:Array Oper} {B:Nat→Prop} {Q:Exit→Act→World→Prop} {c:Ctx}
theorem Zbw (hc:c.P=P) (hn:c.nt=nt):∀ (ss:List Stp) (i:Nat) (σ:Nat→AV) (tm:Array Value) (w:World) (lim:Nat→Nat) (X:Nat→Nat→Option Nat),
  Zeu .text P nt ops B i σ ss→(∀ d,B d→ZbW (σ d))→Sim c σ tm w lim X→(∀ tm' w' lim' X',Sim c (Zd4 σ ss) tm' w' lim' X'→Q .normal ⟨tm',[]⟩ w')→wpOps P ops Q (List.range' i ss.length) ⟨tm,[]⟩ w
 | [], i, σ, tm, w, lim, X, _, _, hs, hk => by
  show Q .normal ⟨tm,[]⟩ w
  exact hk tm w lim X hs
 | s :: ss, i, σ, tm, w, lim, X, h, hb, hs, hk => by
  rw [List.length_cons,List.range'_succ,wpOps_cons]
  exact h.1.2.2.2 c hc hn σ tm w lim X (fun _ _=>rfl) hb rfl hs Q _ fun tm' w' lim' X' hs'=>Zbw hc hn ss (i+1) _ tm' w' lim' X' h.2 (Zco _ _ h.1.2.1 hb) hs' hk
def Wj:List (Nat×AV)→Nat→Option AV
 | [], _ => none
 | (e, x) :: us, d => match Wj us d with | some y => some y | none => if d = e then some x else none
theorem Ji:∀ (us:List (Nat×AV)) (σ:Nat→AV) (d:Nat),JJ σ us d=(Wj us d).getD (σ d)
 | [], σ, d => rfl
 | (e, x) :: us, σ, d => by
  simp only [JJ,Wj,Ji us]
  cases Wj us d with
  | some y => rfl
  | none =>
   by_cases h:d=e
   ·subst h;simp [upd]
   ·simp [upd,h]
theorem Yq:∀ (us:List (Nat×AV)) (d:Nat),d∉us.map (·.1)→Wj us d=none
 | [], d, _ => rfl
 | (e, x) :: us, d, h => by
  simp only [List.map_cons,List.mem_cons,not_or] at h
  simp only [Wj,Yq us d h.2,if_neg h.1]
theorem KI:∀ (us:List (Nat×AV)) (d:Nat),d∈us.map (·.1)→∃ x,Wj us d=some x
 | [], d, h => by simp at h
 | (e, x) :: us, d, h => by
  simp only [Wj]
  cases hl:Wj us d with
  | some y => exact ⟨y, rfl⟩
  | none =>
   simp only [List.map_cons,List.mem_cons] at h
   rcases h with h | h
   ·subst h;exact ⟨x,by simp⟩
   ·obtain ⟨y,hy⟩:=KI us d h;rw [hl] at hy;cases hy
def comp (S:Nat→Bool):Nat→(Nat→AV)→List Stp→(Nat→AV)
 | _, σ, [] => σ
 | i, σ, s :: ss => comp S (i + 1) (if S i = true then JJ σ s.ups else σ) ss
theorem Zfk (S:Nat→Bool):∀ (ss:List Stp) (i:Nat) (σ:Nat→AV),(∀ j,i≤j→j < i+ss.length→S j=true)→comp S i σ ss=Zd4 σ ss
 | [], _, _, _ => rfl
 | s :: ss, i, σ, h => by
  simp only [comp,Zd4,h i (Nat.le_refl _) (by simp),if_true]
  exact Zfk S ss (i+1) _ fun j h1 h2=>h j (by omega) (by simp only [List.length_cons];omega)
theorem W0 (S:Nat→Bool):∀ (ss:List Stp) (i:Nat) (σ:Nat→AV),(∀ j,i≤j→j < i+ss.length→S j=false)→comp S i σ ss=σ
 | [], _, _, _ => rfl
 | s :: ss, i, σ, h => by
  simp only [comp,h i (Nat.le_refl _) (by simp),Bool.false_eq_true,if_false]
  exact W0 S ss (i+1) _ fun j h1 h2=>h j (by omega) (by simp only [List.length_cons];omega)
theorem KU {d:Nat} (S T:Nat→Bool):∀ (ss:List Stp) (i:Nat) (σ τ:Nat→AV),σ d=τ d→(∀ (j:Nat) (s:Stp),ss[j]? = some s→d∈s.ups.map (·.1)→S (i+j)=T (i+j))→comp S i σ ss d=comp T i τ ss d
 | [], _, _, _, h, _ => h
 | s :: ss, i, σ, τ, h, hS => by
  simp only [comp]
  refine KU S T ss (i+1) _ _ ?_ fun j s' hs' hd=>by
   have:=hS (j+1) s' (by simpa using hs') hd
   rw [show i+1+j=i+(j+1) by omega]
   exact this
  by_cases hd:d∈s.ups.map (·.1)
  ·have h0:=hS 0 s rfl hd
   rw [Nat.add_zero] at h0
   rw [h0]
   split
   ·rw [Ji,Ji,h]
   ·exact h
  ·have hl:=Yq s.ups d hd
   split<;>split<;>first
    | (rw [Ji, Ji, hl]; exact h)
    | (rw [Ji, hl]; exact h)
    | exact h
theorem Zaq:∀ (ss:List Stp) (i:Nat) (σ:Nat→AV) (m:Nat),comp (fun j=>decide (j < i+m)) i σ ss=Zd4 σ (ss.take m)
 | [], i, σ, m => by simp [comp, Zd4]
 | s :: ss, i, σ, 0 => by
  rw [List.take_zero]
  exact W0 _ (s::ss) i σ fun j h1 _=>by simp;omega
 | s :: ss, i, σ, m + 1 => by
  simp only [comp,List.take_succ_cons,Zd4,decide_eq_true_eq]
  rw [if_pos (by omega),← Zaq ss (i+1)]
  congr 1
  funext j
  rw [show i+1+m=i+(m+1) by omega]
theorem Zha (S:Nat→Bool):∀ (ss:List Stp) (i:Nat) (σ:Nat→AV),(∀ s∈ss,∀ u∈s.ups,B u.1→ZbW u.2)→(∀ d,B d→ZbW (σ d))→∀ d,B d→ZbW (comp S i σ ss d)
 | [], _, _, _, h, d, hd => h d hd
 | s :: ss, i, σ, hu, h, d, hd => by
  simp only [comp]
  refine Zha S ss (i+1) _ (fun s' hs'=>hu s' (by simp [hs'])) (fun d hd=>?_) d hd
  split
  ·exact Zco _ _ (hu s (by simp)) h d hd
  ·exact h d hd
theorem ZcO:∀ (ss:List Stp) (i:Nat) (σ:Nat→AV),Zeu T P nt ops B i σ ss→∀ s∈ss,∀ u∈s.ups,B u.1→ZbW u.2
 | [], _, _, _, s, hs => by simp at hs
 | s0 :: ss, i, σ, h, s, hs => by
  rcases List.mem_cons.1 hs with rfl | hs
  ·exact h.1.2.1
  ·exact ZcO ss (i+1) _ h.2 s hs
theorem ZhU {N:Nat→Bool} : ∀ (us:List (Nat×AV)) (σ:Nat→AV),(∀ u∈us,∀ d k,N d=true→¬ Jq u.2 d k)→(∀ d,N d=true→∀ i k,¬ Jq (σ i) d k)→∀ d,N d=true→∀ i k,¬ Jq (JJ σ us i) d k
 | [], _, _, h => h
 | (e, x) :: us, σ, hu, h => by
  refine ZhU us (upd σ e x) (fun u h'=>hu u (by simp [h'])) fun d hd i k=>?_
  by_cases he:i=e
  ·subst he;rw [Jf];exact hu (i,x) (by simp) d k hd
  ·rw [Zi _ _ he];exact h d hd i k
theorem ZhV {N:Nat→Bool} (S:Nat→Bool):∀ (ss:List Stp) (i:Nat) (σ:Nat→AV),(∀ s∈ss,∀ u∈s.ups,∀ d k,N d=true→¬ Jq u.2 d k)→(∀ d,N d=true→∀ i k,¬ Jq (σ i) d k)→∀ d,N d=true→∀ j k,¬ Jq (comp S i σ ss j) d k
 | [], _, _, _, h => h
 | s :: ss, i, σ, hu, h => by
  simp only [comp]
  refine ZhV S ss (i+1) _ (fun s' hs'=>hu s' (by simp [hs'])) fun d hd=>?_
  split
  ·exact ZhU _ _ (hu s (by simp)) h d hd
  ·exact h d hd
theorem Zft {N:Nat→Bool} : ∀ (ss:List Stp) (i:Nat) (σ:Nat→AV),Zeu (.any N) P nt ops B i σ ss→∀ s∈ss,∀ u∈s.ups,∀ d k,N d=true→¬ Jq u.2 d k
 | [], _, _, _, s, hs => by simp at hs
 | s0 :: ss, i, σ, h, s, hs => by
  rcases List.mem_cons.1 hs with rfl | hs
  ·exact h.1.2.2.1 N rfl
  ·exact Zft ss (i+1) _ h.2 s hs
theorem ZeN:∀ (ss:List Stp) (i:Nat) (σ:Nat→AV),Zeu T P nt ops B i σ ss→∀ (j:Nat) (s:Stp),ss[j]? = some s→ZkO T P nt ops B (i+j) (Zd4 σ (ss.take j)) s
 | [], _, _, _, j, s, h => by simp at h
 | s0 :: ss, i, σ, hc, 0, s, h => by
  simp only [List.getElem?_cons_zero,Option.some.injEq] at h
  subst h
  exact hc.1
 | s0 :: ss, i, σ, hc, j + 1, s, h => by
  have:=ZeN ss (i+1) _ hc.2 j s (by simpa using h)
  rw [show i+(j+1)=i+1+j by omega]
  exact this
theorem Zhn (hc:c.P=P) (hn:c.nt=nt) {N:Nat→Bool} {ss:List Stp} {σ:Nat→AV} (hch:Zeu (.any N) P nt ops B 0 σ ss) (hN:∀ d,N d=true→∀ i k,¬ Jq (σ i) d k) (hpb:∀ d,B d→ZbW (σ d)) (hlen:ss.length=ops.size)
  (hlow:∀ (i:Nat) (o:Oper),ops[i]? = some o→∀ e∈o.after,Region.binds .any e=true→e.on < i)
  (hind:∀ (i j:Nat) (a b:Stp),ss[i]? = some a→ss[j]? = some b→j < i→(∃ S:Nat→Prop,(∀ k o,ops[k]? = some o→S k→∀ e∈o.after,Region.binds .any e=true→S e.on)∧S i∧¬ S j)→
   (∀ d∈b.ups.map (·.1),d∉a.F)∧∀ d∈a.ups.map (·.1),d∉b.F) (hfin:∀ tm' w' lim' X',Sim c (Zd4 σ ss) tm' w' lim' X'→Q .normal ⟨tm',[]⟩ w') :
  ∀ (fuel:Nat) (listed:Array Bool) (tm:Array Value) (w:World) (lim:Nat→Nat) (X:Nat→Nat→Option Nat),listed.size=ops.size→
   (∀ k o,ops[k]? = some o→listed.getD k false=true→∀ e∈o.after,Region.binds .any e=true→listed.getD e.on false=true)→
   ((List.range ops.size).countP (fun i=>!listed.getD i false)≤fuel)→
   Sim c (comp (fun i=>listed.getD i false) 0 σ ss) tm w lim X→wpAny P .any ops Q fuel listed ⟨tm,[]⟩ w:=by
 -- where nothing is ready, all is done
 have hdone:∀ (listed:Array Bool),listed.size=ops.size→Region.ready .any ops listed = []→∀ j,j < ops.size→listed.getD j false=true:=by
  intro listed hsz hr j
  induction j using Nat.strongRecOn with
  | _ j ih =>
   intro hj
   cases hl:listed.getD j false with
   | true => rfl
   | false =>
    have:j∈Region.ready .any ops listed:=by
     rw [mem_ready]
     refine ⟨?_,ops[j],Array.getElem?_eq_getElem hj,fun e he hb=>?_⟩
     ·simp only [Array.getD,hsz,hj,dite_true] at hl ⊢
      exact hl
     ·have hlt:=hlow j _ (Array.getElem?_eq_getElem hj) e he hb
      exact ih e.on hlt (by omega)
    rw [hr] at this
    cases this
 have hend:∀ (listed:Array Bool) (tm:Array Value) (w:World) (lim:Nat→Nat) (X:Nat→Nat→Option Nat),listed.size=ops.size→Region.ready .any ops listed = []→
   Sim c (comp (fun i=>listed.getD i false) 0 σ ss) tm w lim X→Q .normal ⟨tm,[]⟩ w:=by
  intro listed tm w lim X hsz hr hs
  rw [Zfk _ ss 0 σ fun j _ h2=>hdone listed hsz hr j (by omega)] at hs
  exact hfin tm w lim X hs
 intro fuel
 induction fuel with
 | zero =>
  intro listed tm w lim X hsz hcl hcnt hs
  have hall:∀ j,j < ops.size→listed.getD j false=true:=by
   intro j hj
   have h0:(List.range ops.size).countP (fun i=>!listed.getD i false)=0:=by omega
   have:=(List.countP_eq_zero.1 h0) j (by simpa using hj)
   simpa using this
  have hr:Region.ready .any ops listed = []:=by
   refine List.eq_nil_iff_forall_not_mem.2 fun j hj=>?_
   obtain ⟨h1,o,h2,_⟩:=mem_ready.1 hj
   have hlt:=(Array.getElem?_eq_some_iff.1 h2).1
   have:=hall j hlt
   simp only [Array.getD,hsz,hlt,dite_true] at h1 this
   rw [h1] at this
   cases this
  exact ⟨hr,hend listed tm w lim X hsz hr hs⟩
 | succ fuel ih =>
  intro listed tm w lim X hsz hcl hcnt hs
  refine ⟨fun hr=>hend listed tm w lim X hsz hr hs,fun i hi=>?_⟩
  obtain ⟨h1,o,h2,h3⟩:=mem_ready.1 hi
  have hlt:=(Array.getElem?_eq_some_iff.1 h2).1
  have hun:listed.getD i false=false:=by
   simp only [Array.getD,hsz,hlt,dite_true] at h1 ⊢
   exact h1
  obtain ⟨s,hsi⟩:∃ s,ss[i]? = some s:=⟨_,List.getElem?_eq_getElem (by omega)⟩
  have hst:=ZeN ss 0 σ hch i s hsi
  rw [Nat.zero_add] at hst
  have hset:∀ j,(listed.setIfInBounds i true).getD j false=if j=i then true else listed.getD j false:=by
   intro j
   by_cases hji:j=i
   ·subst hji
    simp [Array.getD,hsz,hlt]
   ·rw [if_neg hji,getD_set_ne false (Ne.symm hji)]
  -- i is not before what is listed
  have hnot:∀ j,listed.getD j false=true→∃ S:Nat→Prop,(∀ k o,ops[k]? = some o→S k→∀ e∈o.after,Region.binds .any e=true→S e.on)∧S j∧¬ S i:=
   fun j hj=>⟨fun k=>listed.getD k false=true,hcl,hj,by simp [hun]⟩
  -- what is not listed is not before i
  have hnot':∀ j,j≠i→listed.getD j false=false→∃ S:Nat→Prop,(∀ k o,ops[k]? = some o→S k→∀ e∈o.after,Region.binds .any e=true→S e.on)∧S i∧¬ S j:=by
   intro j hji hj
   refine ⟨fun k=>k=i∨listed.getD k false=true,fun k o' hk hS e he hb=>?_,.inl rfl,by simp [hji,hj]⟩
   rcases hS with rfl | hS
   ·rw [h2] at hk
    cases hk
    exact .inr (h3 e he hb)
   ·exact .inr (hcl k o' hk hS e he hb)
  have hpre:∀ d∈s.F,comp (fun i=>listed.getD i false) 0 σ ss d=Zd4 σ (ss.take i) d:=by
   intro d hd
   rw [← Zaq ss 0 σ i]
   refine KU _ _ ss 0 σ σ rfl fun j s' hj hdj=>?_
   simp only [Nat.zero_add]
   rcases Nat.lt_trichotomy j i with hlt' | rfl | hgt
   ·simp only [hlt',decide_true]
    cases hl:listed.getD j false with
    | true => rfl
    | false => exact (((hind i j s s' hsi hj hlt' (hnot' j (by omega) hl)).1 d hdj) hd).elim
   ·simp [hun]
   ·have hf:decide (j < i)=false:=by simp;omega
    rw [hf]
    cases hl:listed.getD j false with
    | false => rfl
    | true => exact (((hind j i s' s hj hsi hgt (hnot j hl)).2 d hdj) hd).elim
  refine hst.2.2.2 c hc hn _ tm w lim X hpre (Zha _ ss 0 σ (ZcO ss 0 σ hch) hpb) (ZhV _ ss 0 σ (Zft ss 0 σ hch) hN) hs Q _ fun tm' w' lim' X' hs'=>?_
  refine ih (listed.setIfInBounds i true) tm' w' lim' X' (by simpa using hsz) ?_ ?_ ?_
  ·intro k o' hk hl e he hb
   rw [hset] at hl ⊢
   by_cases hei:e.on=i
   ·simp [hei]
   ·rw [if_neg hei]
    by_cases hki:k=i
    ·subst hki
     rw [h2] at hk
     cases hk
     exact h3 e he hb
    ·rw [if_neg hki] at hl
     exact hcl k o' hk hl e he hb
  ·have hlt2:(List.range ops.size).countP (fun j=>!(listed.setIfInBounds i true).getD j false) < (List.range ops.size).countP (fun j=>!listed.getD j false):=by
    have key:∀ (l:List Nat),i∈l→l.countP (fun j=>!(listed.setIfInBounds i true).getD j false) < l.countP (fun j=>!listed.getD j false):=by
     have hle:∀ (l:List Nat),l.countP (fun j=>!(listed.setIfInBounds i true).getD j false)≤l.countP (fun j=>!listed.getD j false):=by
      intro l
      refine List.countP_mono_left fun j _ hj=>?_
      rw [hset] at hj
      split at hj
      ·simp at hj
      ·exact hj
     intro l
     induction l with
     | nil => intro h; cases h
     | cons x l ihl =>
      intro h
      rw [List.countP_cons,List.countP_cons]
      by_cases hx:x=i
      ·subst hx
       have h1:(listed.setIfInBounds x true).getD x false=true:=by rw [hset,if_pos rfl]
       have:=hle l
       rw [h1,hun]
       simp only [Bool.not_true,Bool.not_false,Bool.false_eq_true,if_false,if_true]
       omega
      ·have:=ihl (by rcases List.mem_cons.1 h with h | h;exact (hx h.symm).elim;exact h)
       rw [hset x,if_neg hx]
       omega
    exact key _ (by simpa using hlt)
   omega
  ·have he:comp (fun j=>(listed.setIfInBounds i true).getD j false) 0 σ ss=JJ (comp (fun i=>listed.getD i false) 0 σ ss) s.ups:=by
    funext d
    rw [Ji]
    by_cases hd:d∈s.ups.map (·.1)
    ·have hdF:d∈s.F:=by
      obtain ⟨u,hu,rfl⟩:=List.mem_map.1 hd
      exact hst.1 u hu
     -- nothing behind i that is listed writes d
     rw [KU (d:=d) _ (fun j=>decide (j < i+1)) ss 0 σ σ rfl fun j s' hj hdj=>?_]
     ·have:=Zaq ss 0 σ (i+1)
      rw [Nat.zero_add] at this
      rw [this,List.take_add_one,hsi]
      have happ:∀ (l:List Stp) (τ:Nat→AV),Zd4 τ (l++[s])=JJ (Zd4 τ l) s.ups:=by
       intro l
       induction l with
       | nil => intro τ; rfl
       | cons x l ihl => intro τ; exact ihl _
      show Zd4 σ (ss.take i++[s]) d=_
      rw [happ,Ji]
      obtain ⟨x,hx⟩:=KI s.ups d hd
      rw [hx]
      rfl
     ·rw [Nat.zero_add,hset]
      rcases Nat.lt_trichotomy j i with hlt' | rfl | hgt
      ·have:decide (j < i+1)=true:=by simp;omega
       rw [this,if_neg (by omega)]
       cases hl:listed.getD j false with
       | true => rfl
       | false => exact (((hind i j s s' hsi hj hlt' (hnot' j (by omega) hl)).1 d hdj) hdF).elim
      ·simp
      ·have:decide (j < i+1)=false:=by simp;omega
       rw [this,if_neg (by omega)]
       cases hl:listed.getD j false with
       | false => rfl
       | true => exact (((hind j i s' s hj hsi hgt (hnot j hl)).2 d hdj) hdF).elim
    ·rw [Yq s.ups d hd]
     refine KU _ _ ss 0 σ σ rfl fun j s' hj hdj=>?_
     rw [Nat.zero_add,hset]
     by_cases hji:j=i
     ·subst hji
      rw [hsi] at hj
      cases hj
      exact (hd hdj).elim
     ·rw [if_neg hji]
   rw [he]
   exact hs'
end
theorem ZcD {ops:Array Oper} {S:Nat→Prop} (hS:∀ k o,ops[k]? = some o→S k→∀ e∈o.after,Region.binds .any e=true→S e.on) (i j:Nat) (hi:S i)
  (hb:((Region.before ops).getD i 0).testBit j=true):S j:=by
 have inner:∀ (acc:Array Nat),(∀ i j,S i→(acc.getD i 0).testBit j=true→S j)→∀ (l:List Edge),(∀ e∈l,Region.binds .any e=true→S e.on)→∀ (s:Nat),(∀ j,s.testBit j=true→S j)→
   ∀ j,(l.foldl (fun s e=>if Region.binds .any e then s||| 2^e.on||| acc.getD e.on 0 else s) s).testBit j=true→S j:=by
  intro acc hacc l
  induction l with
  | nil => intro _ s hs j hj; exact hs j hj
  | cons e l ih =>
   intro hl s hs j hj
   rw [List.foldl_cons] at hj
   refine ih (fun e' he'=>hl e' (by simp [he'])) _ ?_ j hj
   intro j' hj'
   split at hj'
   ·rename_i hbd
    have hon:=hl e (by simp) hbd
    rw [Nat.testBit_or,Nat.testBit_or,Nat.testBit_two_pow,Bool.or_eq_true,Bool.or_eq_true,decide_eq_true_eq] at hj'
    rcases hj' with (h | h) | h
    ·exact hs j' h
    ·rw [← h];exact hon
    ·exact hacc e.on j' hon h
   ·exact hs j' hj'
 have outer:∀ (l:List Oper) (acc:Array Nat),(∀ j,l[j]? = ops[acc.size+j]?)→(∀ i j,S i→(acc.getD i 0).testBit j=true→S j)→
   ∀ i j,S i→((l.foldl (fun acc o=>acc.push (o.after.foldl (fun s e=>if Region.binds .any e then s||| 2^e.on||| acc.getD e.on 0 else s) 0)) acc).getD i 0).testBit j=true→S j:=by
  intro l
  induction l with
  | nil => intro acc _ hacc i j hi hj; exact hacc i j hi hj
  | cons o l ih =>
   intro acc hl hacc i j hi hj
   rw [List.foldl_cons] at hj
   refine ih _ (fun j=>?_) ?_ i j hi hj
   ·have:=hl (j+1)
    simp only [List.getElem?_cons_succ,Array.size_push] at this ⊢
    rw [this]
    congr 1
    omega
   ·intro i' j' hi' hj'
    have h0:ops[acc.size]? = some o:=by simpa using (hl 0).symm
    by_cases h:i' < acc.size
    ·refine hacc i' j' hi' ?_
     simp only [Array.getD,Array.size_push,h,dite_true] at hj' ⊢
     rw [dif_pos (by omega)] at hj'
     simp only [Array.getInternal_eq_getElem,Array.getElem_push,h,dite_true] at hj' ⊢
     exact hj'
    ·by_cases h':i'=acc.size
     ·subst h'
      have:(acc.push (o.after.foldl (fun s e=>if Region.binds .any e then s||| 2^e.on||| acc.getD e.on 0 else s) 0)).getD acc.size 0=o.after.foldl (fun s e=>if Region.binds .any e then s||| 2^e.on||| acc.getD e.on 0 else s) 0:=by
       simp [Array.getD]
      rw [this,← Array.foldl_toList] at hj'
      exact inner acc hacc o.after.toList (fun e he hb=>hS acc.size o h0 hi' e (by simpa using he) hb) 0 (by simp) j' hj'
     ·have:(acc.push (o.after.foldl (fun s e=>if Region.binds .any e then s||| 2^e.on||| acc.getD e.on 0 else s) 0)).getD i' 0=0:=by
       simp only [Array.getD,Array.size_push]
       rw [dif_neg (by omega)]
      rw [this] at hj'
      simp at hj'
 have:=outer ops.toList #[] (fun j=>by simp) (fun i j _ h=>by simp at h) i j hi
 apply this
 rw [Array.foldl_toList]
 exact hb
end Go.AM
end

section
namespace Go.AM
theorem Tr.get_set:∀ (k:Nat) (t:Tr) (d i:Nat) (x:SV),d < 2^k→i < 2^k→(Tr.set k t d x).get i=if i=d then x else t.get i
 | 0, t, d, i, x, hd, hi => by
  have h1:d=0:=by simpa using hd
  have h2:i=0:=by simpa using hi
  subst h1
  subst h2
  rfl
 | k + 1, .node l r, d, i, x, hd, hi => by
  have hd2:d / 2 < 2^k:=by rw [Nat.pow_succ] at hd;omega
  have hi2:i / 2 < 2^k:=by rw [Nat.pow_succ] at hi;omega
  have ihl:=Tr.get_set k l (d / 2) (i / 2) x hd2 hi2
  have ihr:=Tr.get_set k r (d / 2) (i / 2) x hd2 hi2
  rcases Nat.mod_two_eq_zero_or_one d with h | h<;>rcases Nat.mod_two_eq_zero_or_one i with h' | h'
  ·simp only [Tr.set,h,Tr.get,h',ihl]
   by_cases he:i=d
   ·simp [he]
   ·rw [if_neg he,if_neg (by omega)]
  ·simp only [Tr.set,h,Tr.get,h']
   rw [if_neg (by omega)]
  ·simp only [Tr.set,h,Tr.get,h']
   rw [if_neg (by omega)]
  ·simp only [Tr.set,h,Tr.get,h',ihr]
   by_cases he:i=d
   ·simp [he]
   ·rw [if_neg he,if_neg (by omega)]
 | k + 1, .leaf y, d, i, x, hd, hi => by
  have hd2:d / 2 < 2^k:=by rw [Nat.pow_succ] at hd;omega
  have hi2:i / 2 < 2^k:=by rw [Nat.pow_succ] at hi;omega
  have ih:=Tr.get_set k (.leaf y) (d / 2) (i / 2) x hd2 hi2
  rcases Nat.mod_two_eq_zero_or_one d with h | h<;>rcases Nat.mod_two_eq_zero_or_one i with h' | h'
  ·simp only [Tr.set,h,Tr.get,h',ih]
   by_cases he:i=d
   ·simp [he]
   ·rw [if_neg he,if_neg (by omega)]
  ·simp only [Tr.set,h,Tr.get,h']
   rw [if_neg (by omega)]
  ·simp only [Tr.set,h,Tr.get,h']
   rw [if_neg (by omega)]
  ·simp only [Tr.set,h,Tr.get,h',ih]
   by_cases he:i=d
   ·simp [he]
   ·rw [if_neg he,if_neg (by omega)]
def Ja (E:Env) (s:Tr) (ρ:Nat→V):Nat→AV:=fun d=>(gE E s d).den ρ
def KB (E:Env) (s:Tr) (n:Nat):Prop:=∀ d,(gE E s d).bd n
section
variable {P:Program} {E:Env} {R:AV→List AV→Prop} {A:Nat→List V→Prop}
theorem JQ {d:Nat} (h:d < E.nt):d < E.top:=Nat.lt_of_lt_of_le h (Nat.le_add_right _ _)
theorem ZjY (hnt:E.top≤1024) {d:Nat} (hd:d < E.top) (s:Tr) (x:SV) (i:Nat):gE E (s.set depth d x) i=if i=d then x else gE E s i:=by
 unfold gE
 by_cases hi:i < E.top
 ·rw [if_pos hi,if_pos hi]
  exact Tr.get_set 10 s d i x (by omega) (by omega)
 ·rw [if_neg hi,if_neg hi,if_neg (by omega)]
theorem J7 (hnt:E.top≤1024) {d:Nat} (hd:d < E.top) (s:Tr) (x:SV) (ρ:Nat→V):Ja E (s.set depth d x) ρ=upd (Ja E s ρ) d (x.den ρ):=by
 funext i
 simp only [Ja,ZjY hnt hd,upd]
 split<;>rfl
theorem JG (hnt:E.top≤1024) {d n:Nat} (hd:d < E.top) {s:Tr} {x:SV} (hs:KB E s n) (hx:x.bd n):KB E (s.set depth d x) n:=by
 intro i
 rw [ZjY hnt hd]
 split
 ·exact hx
 ·exact hs i
def Vq (E:Env) (us:Ups):Prop:=us.all (fun u=>decide (u.1 < E.top))=true
theorem J5 (hnt:E.top≤1024) (ρ:Nat→V):∀ (us:Ups) (s:Tr),Vq E us→Ja E (Ju us s) ρ=JJ (Ja E s ρ) (us.map fun u=>(u.1,u.2.den ρ))
 | [], _, _ => rfl
 | (d, x) :: us, s, h => by
  simp only [Vq,List.all_cons,Bool.and_eq_true,decide_eq_true_eq] at h
  simp only [Ju,List.map_cons,JJ]
  rw [J5 hnt ρ us _ h.2,J7 hnt h.1]
theorem JI (hnt:E.top≤1024) {n:Nat} : ∀ (us:Ups) (s:Tr),Vq E us→KB E s n→(∀ u∈us,u.2.bd n)→KB E (Ju us s) n
 | [], _, _, hs, _ => hs
 | (d, x) :: us, s, h, hs, hu => by
  simp only [Vq,List.all_cons,Bool.and_eq_true,decide_eq_true_eq] at h
  exact JI hnt us _ h.2 (JG hnt h.1 hs (hu (d,x) (by simp))) fun u h'=>hu u (by simp [h'])
theorem Zdn {s:Tr} {n n':Nat} (h:KB E s n) (hn:n≤n'):KB E s n':=fun d=>SV.bd_mono hn _ (h d)
theorem Zbl {s:Tr} {n:Nat} {ρ ρ':Nat→V} (h:KB E s n) (hρ:∀ m,m < n→ρ' m=ρ m):Ja E s ρ'=Ja E s ρ:=by
 funext d
 exact SV.den_congr hρ _ (h d)
theorem ZbB {x:SV} (ρ:Nat→V) (h:∀ cs,x≠.box cs):∀ cs,x.den ρ≠.box cs:=by
 intro cs he
 cases x with
 | box ds => exact h ds rfl
 | c y => cases y <;> cases he
 | _ => cases he
theorem Zfj {x:SV} (ρ:Nat→V) (h:∀ cs,x≠.gbox cs):(x.den ρ).isG=false:=by
 cases x with
 | gbox cs => exact (h cs rfl).elim
 | c y => cases y <;> rfl
 | _ => rfl
theorem Zgx {a b:AV} (ga:a.isG=false) (gb:b.isG=false) (ha:KX a) (hb:(∀ cs,b≠.box cs)∨a = .dead):Vw a b=true:=by
 unfold Vw
 split
 ·cases ga
 ·cases gb
 ·rename_i cs _;exact (ha.1 cs rfl).elim
 ·exact (ha.2 _ _ rfl).elim
 ·rfl
 ·rename_i h1 h2
  rcases hb with hb | hb
  ·exact (hb _ rfl).elim
  ·exact (h2 hb).elim
 ·rfl
theorem Zic {x:SV} (ρ:Nat→V) (h:∀ cs,x≠.box cs) (h':∀ e l,x≠.own true e l):KX (x.den ρ):=by
 refine ⟨ZbB ρ h,fun e xs he=>?_⟩
 cases x with
 | own b e' l =>
  cases b with
  | true => exact h' _ _ rfl
  | false => cases he
 | c y => cases y <;> cases he
 | _ => cases he
theorem J0 {a b:SV} (ρ:Nat→V) (h:Wy a b=true):Vw (a.den ρ) (b.den ρ)=true:=by
 have h1:∀ cs,a≠.box cs:=by
  rintro cs rfl
  cases b<;>cases h
 have h2:∀ e l,a≠.own true e l:=by
  rintro e l rfl
  cases b<;>cases h
 have h3:∀ cs,a≠.gbox cs:=by
  rintro cs rfl
  cases b<;>cases h
 have h4:∀ cs,b≠.gbox cs:=by
  rintro cs rfl
  cases a with
  | own x e l => cases x <;> cases h
  | _ => cases h
 refine Zgx (Zfj ρ h3) (Zfj ρ h4) (Zic ρ h1 h2) ?_
 by_cases hd:a = .dead
 ·subst hd;exact .inr rfl
 ·refine .inl (ZbB ρ ?_)
  rintro cs rfl
  cases a with
  | dead => exact hd rfl
  | own x e l => cases x <;> cases h
  | _ => cases h
theorem Vj (σ:Nat→AV):∀ (us vs:List (Nat×AV)),JJ σ (us++vs)=JJ (JJ σ us) vs
 | [], _ => rfl
 | (d, x) :: us, vs => by
  simp only [List.cons_append,JJ]
  exact Vj _ us vs
theorem Zf0 {c:Ctx} {σ:Nat→AV} {tm:Array Value} {w:World} {lim:Nat→Nat} {X:Nat→Nat→Option Nat} (h:Sim c σ tm w lim X) {ops:Array Oper} {j gd:Nat} {b:Bool}
  (hd:(ops[j]?).bind (·.dst)=some gd) (hb:σ gd = .val (.bool b)):yielded ops tm j=some b:=by
 have hlt:gd < tm.size:=by
  rcases Nat.lt_or_ge gd c.nt with h1 | h1
  ·rw [h.size];exact h1
  ·have:=h.out gd h1;rw [hb] at this;rcases this with h2 | h2<;>cases h2
 have hr:=h.rel gd
 rw [hb] at hr
 have hv:tm.getD gd undef = .bool b:=Yg hr
 have h2:tm[gd]? = some (.bool b):=by
  simp only [Array.getD,hlt,dite_true] at hv
  rw [Array.getElem?_eq_getElem hlt]
  exact congrArg some hv
 unfold yielded
 simp only [hd,Option.bind_some,h2]
theorem ZcI {c:Ctx} {σ:Nat→AV} {tm:Array Value} {w:World} {lim:Nat→Nat} {X:Nat→Nat→Option Nat} (h:Sim c σ tm w lim X) {ops:Array Oper} {j gd:Nat}
  (hd:(ops[j]?).bind (·.dst)=some gd) (hb:σ gd = .tuple []):yielded ops tm j=none:=by
 have hr:=h.rel gd
 rw [hb] at hr
 obtain ⟨us,h1,h2,_⟩:=hr
 have:us = []:=List.eq_nil_of_length_eq_zero h2
 subst this
 unfold yielded
 simp only [hd,Option.bind_some]
 by_cases hlt:gd < tm.size
 ·simp only [Array.getD,hlt,dite_true] at h1
  have h3:tm[gd]? = some (.tuple #[]):=by
   rw [Array.getElem?_eq_getElem hlt]
   exact congrArg some h1
  simp only [h3]
 ·simp only [Array.getElem?_eq_none (Nat.le_of_not_lt hlt)]
theorem Sim.putUndef {c:Ctx} {σ:Nat→AV} {tm:Array Value} {w:World} {lim:Nat→Nat} {X:Nat→Nat→Option Nat} (h:Sim c σ tm w lim X) {d:Nat} (hd:d < c.nt) (hb:KX (σ d)) :
  ∃ X',Sim c (upd σ d (.tuple [])) (tm.setIfInBounds d undef) w lim X':=
 ⟨_,h.putRow Ye (Jd.refl w lim (fun _=>False)) (fun _ hs=>hs.elim) hd (by simp) (fun i hi=>Z0 tm d i undef hi) (.inl hb.1) (fun i q hi hr=>(h.noRefs hb.none i q hi hr).elim)
  ⟨[],by rw [JM tm d undef (by rw [h.size];exact hd)];rfl,rfl,by simp⟩ (fun k b hk=>by simp [Ye] at hk) (fun k k' b hk=>by simp [Ye] at hk)⟩
def Zd1 (ops:Array Oper) (o:Oper) (σ:Nat→AV) (gs:List Nat) (v:Bool):Prop:=
 (o.guard=none∧v=true)∨(∃ j want gd b,o.guard=some (j,want)∧(ops[j]?).bind (·.dst)=some gd∧gd∈gs∧σ gd = .val (.bool b)∧(v=true↔want=b))∨
 ∃ j want gd,o.guard=some (j,want)∧(ops[j]?).bind (·.dst)=some gd∧gd∈gs∧σ gd = .tuple []∧v=false
theorem V3 {ops:Array Oper} {o:Oper} {σ:Nat→AV} {gs:List Nat} {v:Bool} (hg:Zd1 ops o σ gs v) {c:Ctx} {σ':Nat→AV} {tm:Array Value} {w:World} {lim:Nat→Nat} {X:Nat→Nat→Option Nat}
  (h:Sim c σ' tm w lim X) (hag:∀ d∈gs,σ' d=σ d):Region.wanted o (yielded ops tm)=v:=by
 rcases hg with ⟨h1,h2⟩ | ⟨j,want,gd,b,h1,h2,h3,h4,h5⟩ | ⟨j,want,gd,h1,h2,h3,h4,h5⟩
 ·unfold Region.wanted;rw [h1,h2]
 ·have hy:=Zf0 h h2 ((hag gd h3).trans h4)
  unfold Region.wanted
  rw [h1]
  simp only [hy]
  cases v<;>cases want<;>cases b<;>simp_all
 ·have hy:=ZcI h h2 ((hag gd h3).trans h4)
  unfold Region.wanted
  rw [h1,h5]
  simp only [hy]
  rfl
theorem Zfp {x:SV} (ρ:Nat→V) (h:Znr x=true):ZbW (x.den ρ):=by
 unfold Znr at h
 split at h
 ·rename_i cs;exact ⟨_,rfl⟩
 ·cases h
theorem WZ {N:Nat→Bool} {x:SV} (ρ:Nat→V) (h:ZaG (.any N) x=true):∀ d k,N d=true→¬ Jq (x.den ρ) d k:=by
 intro d k hd hr
 cases x with
 | mref d' k' =>
  rcases hr with hr | ⟨_,hr⟩ <;> cases hr
  simp [ZaG,hd] at h
 | eref d' k' i s o =>
  rcases hr with hr | ⟨_,hr⟩ <;> cases hr
  simp [ZaG,hd] at h
 | c y => rcases hr with hr | ⟨_, hr⟩ <;> cases y <;> cases hr
 | _ => rcases hr with hr | ⟨_, hr⟩ <;> cases hr
def KT (T:Odr) (P:Program) (E:Env) (R:AV→List AV→Prop) (A:Nat→List V→Prop) (B:Nat→Bool) (ops:Array Oper) (i:Nat) (s:Tr) (ρ:Nat→V) (cont:Tr→Nat→Log→STree):Prop:=
 ∃ (st:Stp) (ρ':Nat→V) (n':Nat) (s':Tr),KB E s' n'∧(cont s' n' ⟨i,st.F,st.ups.map (·.1)⟩).wp P R A ρ'∧ZkO T P E.nt ops (fun d=>B d=true) i (Ja E s ρ) st∧Ja E s' ρ'=JJ (Ja E s ρ) st.ups
variable {ops:Array Oper} {o:Oper} {i:Nat} {s:Tr} {n:Nat} {ρ:Nat→V} {cont:Tr→Nat→Log→STree} {gs:List Nat} {tx:Odr} {tk:Bool} {B:Nat→Bool}
theorem Vg (hps:PlainSound P E.plain) (hnt:E.top≤1024) (hB:∀ d,B d=true→ZbW (Ja E s ρ d)) (hi:ops[i]? = some o) (hs:KB E s n) (hg:Zd1 ops o (Ja E s ρ) gs true) (h:(Zgr P E tx tk B o i s gs n cont).wp P R A ρ) :
  KT tx P E R A B ops i s ρ cont:=by
 obtain ⟨ρ',n',x,us,fp,h1,h2,h3,h4,h5,h6⟩:=Zgz hps hs (fun i hi=>by unfold gE;rw [if_neg (by omega)]) h
 have hσ:(fun d=>(gE E s d).den ρ)=Ja E s ρ:=rfl
 rw [hσ] at h6
 have hs':KB E s n':=Zdn hs h1
 have hc:=Zbl hs h2
 dsimp only at h5
 split at h5
 case isFalse=>exact h5.elim
 rename_i hall0
 obtain ⟨hall,hnx⟩:=hall0
 rw [List.all_eq_true] at hall
 have hlow:Vq E us:=by
  unfold Vq
  rw [List.all_eq_true]
  intro u hu
  have:=hall u hu
  rw [Bool.and_eq_true,Bool.and_eq_true] at this
  exact this.1.1
 have hups:∀ u∈(us.map fun u=>(u.1,u.2.den ρ')),B u.1=true→ZbW u.2:=by
  intro u hu hb
  obtain ⟨v,hv,rfl⟩:=List.mem_map.1 hu
  have:=hall v hv
  simp only [Bool.and_eq_true,Bool.or_eq_true,Bool.not_eq_true'] at this
  rcases this.1.2 with h0 | h0
  ·have hb':B v.1=true:=hb
   rw [hb'] at h0;cases h0
  ·exact Zfp ρ' h0
 have hnr:∀ N,tx = .any N→∀ u∈(us.map fun u=>(u.1,u.2.den ρ')),∀ d k,N d=true→¬ Jq u.2 d k:=by
  rintro N rfl u hu
  obtain ⟨v,hv,rfl⟩:=List.mem_map.1 hu
  have:=hall v hv
  rw [Bool.and_eq_true] at this
  exact WZ ρ' this.2
 have hids:∀ (σ':Nat→AV),(∀ d∈(Vd o).filter (fun t=>!B t),σ' d=Ja E s ρ d)→(∀ d,B d=true→ZbW (σ' d))→∀ d∈Vd o,ZbA (Ja E s ρ d) (σ' d):=by
  intro σ' h0 h1 d hd
  cases hb:B d with
  | true => exact .inr ⟨hB d hb, h1 d hb⟩
  | false => exact .inl (h0 d (List.mem_filter.2 ⟨hd, by simp [hb]⟩))
 have hfst:(us.map fun u=>(u.1,u.2.den ρ')).map (·.1)=us.map (·.1):=by rw [List.map_map];rfl
 have hden:Ja E (Ju us s) ρ'=JJ (Ja E s ρ) (us.map fun u=>(u.1,u.2.den ρ')):=by rw [J5 hnt ρ' us s hlow,hc]
 split at h5
 ·rename_i d hd
  split at h5
  ·rename_i hh
   refine ⟨⟨(Vd o).filter (fun t=>!B t)++gs++fp++us.map (·.1)++[d],(us.map fun u=>(u.1,u.2.den ρ'))++[(d,x.den ρ')]⟩,ρ',n',(Ju us s).set depth d x,JG hnt (JQ hh.1) (JI hnt us s hlow hs' h4) h3,?_,⟨?_,?_,?_,?_⟩,?_⟩
   ·rw [List.map_append,hfst]
    exact h5
   ·intro u hu
    rcases List.mem_append.1 hu with hu | hu
    ·refine List.mem_append.2 (.inl (List.mem_append.2 (.inr ?_)))
     rw [← hfst]
     exact List.mem_map.2 ⟨u,hu,rfl⟩
    ·rw [List.mem_singleton] at hu
     subst hu
     simp
   ·intro u hu hb
    rcases List.mem_append.1 hu with hu | hu
    ·exact hups u hu hb
    ·rw [List.mem_singleton] at hu
     subst hu
     have hb':B d=true:=hb
     rw [hh.2.2] at hb'
     cases hb'
   ·intro N hN u hu
    rcases List.mem_append.1 hu with hu | hu
    ·exact hnr N hN u hu
    ·rw [List.mem_singleton] at hu
     subst hu
     subst hN
     exact WZ ρ' hnx
   ·intro c hcP hcn σ' tm w lim X hag hpb hT hsim Q K hK
    unfold wpOp
    simp only [hi]
    rw [V3 hg hsim fun d' hd'=>hag d' (by simp [hd'])]
    rw [if_pos rfl]
    refine .inl (h6 c hcP σ' tm w lim X (hids σ' (fun d' hd'=>hag d' (by simp only [List.mem_append];exact .inl (.inl (.inl (.inl hd'))))) hpb) (fun d' hd'=>hag d' (by
     rw [hfst] at hd'
     simp only [List.mem_append] at hd' ⊢
     rcases hd' with hd' | hd'
     ·exact .inl (.inl (.inr hd'))
     ·exact .inl (.inr hd'))) hT hsim K Q fun v w' ha=>?_)
    rw [hd] at ha ⊢
    obtain ⟨lim',X',hsim'⟩:=ha (by rw [hcn];exact hh.1) (by
     have:JJ σ' (us.map fun u=>(u.1,u.2.den ρ')) d=(gE E (Ju us s) d).den ρ':=by
      have h7:=congrFun hden d
      rw [Ji] at h7 ⊢
      rw [hag d (by simp)]
      exact h7.symm
     rw [this]
     exact J0 ρ' hh.2.1)
    refine hK _ w' lim' X' ?_
    rw [Vj]
    exact hsim'
   ·rw [J7 hnt (JQ hh.1),hden,Vj]
    rfl
  ·exact h5.elim
 ·rename_i hd
  refine ⟨⟨(Vd o).filter (fun t=>!B t)++gs++fp++us.map (·.1),us.map fun u=>(u.1,u.2.den ρ')⟩,ρ',n',Ju us s,JI hnt us s hlow hs' h4,?_,⟨?_,hups,hnr,?_⟩,hden⟩
  ·rw [hfst]
   exact h5
  ·intro u hu
   refine List.mem_append.2 (.inr ?_)
   rw [← hfst]
   exact List.mem_map.2 ⟨u,hu,rfl⟩
  ·intro c hcP hcn σ' tm w lim X hag hpb hT hsim Q K hK
   unfold wpOp
   simp only [hi]
   rw [V3 hg hsim fun d' hd'=>hag d' (by simp [hd'])]
   rw [if_pos rfl]
   refine .inl (h6 c hcP σ' tm w lim X (hids σ' (fun d' hd'=>hag d' (by simp only [List.mem_append];exact .inl (.inl (.inl hd')))) hpb) (fun d' hd'=>hag d' (by
    rw [hfst] at hd'
    simp only [List.mem_append] at hd' ⊢
    rcases hd' with hd' | hd'
    ·exact .inl (.inr hd')
    ·exact .inr hd')) hT hsim K Q fun v w' ha=>?_)
   rw [hd] at ha ⊢
   obtain ⟨lim',X',hsim'⟩:=ha
   exact hK _ w' lim' X' hsim'
theorem Kt (hnt:E.top≤1024) (hi:ops[i]? = some o) (hs:KB E s n) (hg:Zd1 ops o (Ja E s ρ) gs false) (h:(ZaR E B o i s gs n cont).wp P R A ρ) :
  KT tx P E R A B ops i s ρ cont:=by
 unfold ZaR at h
 split at h
 ·rename_i d hd
  split at h
  ·rename_i hh
   refine ⟨⟨gs++[d],[(d,.tuple [])]⟩,ρ,n,s.set depth d (.tuple []),JG hnt (JQ hh.1) hs (by simp [SV.bd]),h,⟨by simp,fun u hu hb=>?_,fun N _ u hu d k _ hr=>?_,?_⟩,J7 hnt (JQ hh.1) _ _ _⟩
   ·rw [List.mem_singleton] at hu
    subst hu
    have hb':B d=true:=hb
    rw [hh.2.2] at hb'
    cases hb'
   ·rw [List.mem_singleton] at hu
    subst hu
    rcases hr with hr | ⟨_,hr⟩ <;> cases hr
   intro c hcP hcn σ' tm w lim X hag hpb hT hsim Q K hK
   unfold wpOp
   simp only [hi]
   rw [V3 hg hsim fun d' hd'=>hag d' (by simp [hd'])]
   rw [if_neg (by simp),hd]
   obtain ⟨X',hs'⟩:=hsim.putUndef (d:=d) (by rw [hcn];exact hh.1) (by
    rw [hag d (by simp)]
    exact ZR (J0 ρ hh.2.1))
   exact hK _ w lim X' hs'
  ·exact h.elim
 ·rename_i hd
  refine ⟨⟨gs,[]⟩,ρ,n,s,hs,h,⟨by simp,by simp,by simp,?_⟩,rfl⟩
  intro c hcP hcn σ' tm w lim X hag hpb hT hsim Q K hK
  unfold wpOp
  simp only [hi]
  rw [V3 hg hsim hag]
  rw [if_neg (by simp),hd]
  exact hK _ w lim X hsim
theorem Vn (hnt:E.top≤1024) {t:Nat} {b:BE} {v:Bool} (hb:gE E s t = .c (.bool b)) (hv:b.den ρ=v):t < E.top∧Ja E (s.set depth t (.c (.bool (.lit v)))) ρ=Ja E s ρ:=by
 have hlt:t < E.top:=by
  unfold gE at hb
  split at hb
  ·assumption
  ·cases hb
 refine ⟨hlt,?_⟩
 rw [J7 hnt hlt]
 funext d
 by_cases hd:d=t
 ·subst hd
  rw [Jf]
  simp only [Ja,hb,SV.den,SC.den,hv,BE.den]
 ·rw [Zi _ _ hd]
theorem Zdv (hps:PlainSound P E.plain) (hnt:E.top≤1024) (hB:∀ d,B d=true→ZbW (Ja E s ρ d)) (hi:ops[i]? = some o) (hs:KB E s n) (h:(Zhr P E tx tk B ops o i s n cont).wp P R A ρ):KT tx P E R A B ops i s ρ cont:=by
 unfold Zhr at h
 split at h
 ·rename_i hg
  exact Vg hps hnt hB hi hs (.inl ⟨hg,rfl⟩) h
 ·rename_i j want hg
  split at h
  ·exact h.elim
  ·rename_i gd hgd
   split at h
   ·rename_i hb
    have hv:Ja E s ρ gd = .tuple []:=by simp only [Ja,hb];rfl
    exact Kt hnt hi hs (.inr (.inr ⟨j,want,gd,hg,hgd,by simp,hv,rfl⟩)) h
   ·rename_i b hb
    have hv:Ja E s ρ gd = .val (.bool b):=by simp only [Ja,hb];rfl
    split at h
    ·rename_i hw
     exact Vg hps hnt hB hi hs (.inr (.inl ⟨j,want,gd,b,hg,hgd,by simp,hv,by simp [hw]⟩)) h
    ·rename_i hw
     exact Kt hnt hi hs (.inr (.inl ⟨j,want,gd,b,hg,hgd,by simp,hv,by simp [hw]⟩)) h
   ·rename_i b _ hb
    obtain ⟨ht,hf⟩:=h
    have hcase:∀ v,b.den ρ=v→(if want=v then Zgr P E tx tk B o i (s.set depth gd (.c (.bool (.lit v)))) [gd] n cont else ZaR E B o i (s.set depth gd (.c (.bool (.lit v)))) [gd] n cont).wp P R A ρ→KT tx P E R A B ops i s ρ cont:=by
     intro v hv hw
     obtain ⟨hlt,hsame⟩:=Vn hnt hb hv
     have hbd:KB E (s.set depth gd (.c (.bool (.lit v)))) n:=JG hnt hlt hs trivial
     have hval:Ja E (s.set depth gd (.c (.bool (.lit v)))) ρ gd = .val (.bool v):=by rw [hsame];simp only [Ja,hb,SV.den,SC.den,hv]
     have hgoal:KT tx P E R A B ops i (s.set depth gd (.c (.bool (.lit v)))) ρ cont:=by
      split at hw
      ·rename_i hw'
       exact Vg hps hnt (by rw [hsame];exact hB) hi hbd (.inr (.inl ⟨j,want,gd,v,hg,hgd,by simp,hval,by simp [hw']⟩)) hw
      ·rename_i hw'
       exact Kt hnt hi hbd (.inr (.inl ⟨j,want,gd,v,hg,hgd,by simp,hval,by simp [hw']⟩)) hw
     unfold KT at hgoal ⊢
     rw [hsame] at hgoal
     exact hgoal
    cases hv:b.den ρ with
    | true => exact hcase true hv (ht hv)
    | false => exact hcase false hv (hf hv)
   ·exact h.elim
def ZdF:Nat→List Stp→List Log
 | _, [] => []
 | i, s :: ss => ZdF (i + 1) ss ++ [⟨i, s.F, s.ups.map (·.1)⟩]
theorem Wd:∀ (ss:List Stp) (i j:Nat) (s:Stp),ss[j]? = some s→(⟨i+j,s.F,s.ups.map (·.1)⟩:Log)∈ZdF i ss
 | [], i, j, s, h => by simp at h
 | s0 :: ss, i, 0, s, h => by
  simp only [List.getElem?_cons_zero,Option.some.injEq] at h
  subst h
  simp [ZdF]
 | s0 :: ss, i, j + 1, s, h => by
  have:=Wd ss (i+1) j s (by simpa using h)
  rw [show i+(j+1)=i+1+j by omega]
  exact List.mem_append.2 (.inl this)
theorem ZaO (hps:PlainSound P E.plain) (hnt:E.top≤1024) {tks:Nat→Bool} {k:Tr→Nat→List Log→STree} : ∀ (l:List Oper) (i:Nat) (s:Tr) (n:Nat) (logs:List Log) (ρ:Nat→V),(∀ j,l[j]? = ops[i+j]?)→(∀ d,B d=true→ZbW (Ja E s ρ d))→KB E s n→
  (ZiJ P E tx tks B ops l i s n logs k).wp P R A ρ→∃ (ss:List Stp) (ρ':Nat→V) (n':Nat) (s':Tr),ss.length=l.length∧KB E s' n'∧(k s' n' (ZdF i ss++logs)).wp P R A ρ'∧
   Zeu tx P E.nt ops (fun d=>B d=true) i (Ja E s ρ) ss∧Ja E s' ρ'=Zd4 (Ja E s ρ) ss
 | [], i, s, n, logs, ρ, _, _, hs, h => ⟨[], ρ, n, s, rfl, hs, h, trivial, rfl⟩
 | o :: l, i, s, n, logs, ρ, hl, hB, hs, h => by
  have h0:ops[i]? = some o:=by simpa using (hl 0).symm
  obtain ⟨st,ρ1,n1,s1,g1,g2,g3,g4⟩:=Zdv hps hnt hB h0 hs h
  obtain ⟨ss,ρ2,n2,s2,k1,k2,k3,k4,k5⟩:=ZaO hps hnt l (i+1) s1 n1 _ ρ1 (fun j=>by
   have:=hl (j+1)
   rw [show i+(j+1)=i+1+j by omega] at this
   simpa using this) (by rw [g4];exact Zco _ _ g3.2.1 hB) g1 g2
  refine ⟨st::ss,ρ2,n2,s2,by simp [k1],k2,?_,⟨g3,?_⟩,?_⟩
  ·simp only [ZdF,List.append_assoc,List.singleton_append]
   exact k3
  ·rw [← g4];exact k4
  ·simp only [Zd4]
   rw [← g4];exact k5
theorem Zhg {a b:List Nat} (h:Zny a b=true):∀ d∈a,d∉b:=by
 intro d hd
 simp only [Zny,List.all_eq_true] at h
 simpa using h d hd
theorem ZgO {E:Env} (s:Tr):∀ i,E.top≤i→gE E s i = .dead:=fun i hi=>by unfold gE;rw [if_neg (by omega)]
theorem ZiZ {c:Ctx} {σ:Nat→AV} {tm:Array Value} {w:World} {lim:Nat→Nat} {X:Nat→Nat→Option Nat} (h:Sim c σ tm w lim X) {i k:Nat} (hr:Jq (σ i) i k):False:=by
 obtain ⟨p,hp⟩:=Wl h hr
 rcases hr with hr | ⟨_,hr⟩ <;> rw [hr] at hp<;>cases hp
theorem ZdB (hm:P.follows .mixedOrders=true) (hps:PlainSound P E.plain) (hnt:E.top≤1024) {id:Nat} {draw:Bool} {k:Tr→Nat→STree} {tks:Nat→Bool} (hB:∀ d,B d=true→ZbW (Ja E s ρ d)) (hs:KB E s n)
  (h:(ZiJ P E (Znq E draw ops s) tks B ops ops.toList 0 s n [] fun s' n' logs=>if draw=true then (if Zec ops logs=true then k s' n' else .stuck 114) else k s' n').wp P R A ρ)
  {c:Ctx} (hcP:c.P=P) (hcn:c.nt=E.nt) {tm:Array Value} {w:World} {lim:Nat→Nat} {X:Nat→Nat→Option Nat} (hsim:Sim c (Ja E s ρ) tm w lim X) {Q:Exit→Act→World→Prop}
  (hk:∀ s' n' ρ',KB E s' n'→(k s' n').wp P R A ρ'→∀ tm' w' lim' X',Sim c (Ja E s' ρ') tm' w' lim' X'→Q .normal ⟨tm',[]⟩ w'):(Code.region id ops draw).wp P Q ⟨tm,[]⟩ w:=by
 obtain ⟨ss,ρ',n',s',h1,h2,h3,h4,h5⟩:=ZaO hps hnt ops.toList 0 s n [] ρ (by simp) hB hs h
 have hlen:ss.length=ops.size:=by simpa using h1
 cases draw with
 | false =>
  refine wp_region ?_
  rw [List.range_eq_range',← hlen]
  refine Zbw hcP hcn ss 0 _ tm w lim X h4 hB hsim fun tm' w' lim' X' hs'=>hk s' n' ρ' h2 (by simpa using h3) tm' w' lim' X' ?_
  rw [h5];exact hs'
 | true =>
  simp only [if_true] at h3
  split at h3
  ·rename_i hi
   rw [List.append_nil] at hi
   simp only [Zec,Bool.and_eq_true,CheckFast.beforeF_eq] at hi
   obtain ⟨hlow,hind⟩:=hi
   refine wp_region_any hm ?_
   have hsd:Sim c (Ja E s ρ) tm w.drew lim X:=hsim.world (Jd.refl w lim fun _=>False).drew fun b hb=>hb.elim
   refine Zhn hcP hcn h4 (fun d hd i k hr=>?_) hB hlen ?_ ?_ (fun tm' w' lim' X' hs'=>hk s' n' ρ' h2 h3 tm' w' lim' X' (by rw [h5];exact hs')) ops.size _ tm w.drew lim X (by simp) ?_ ?_ ?_
   ·rw [Bool.and_eq_true,List.isEmpty_iff] at hd
    have hda:=(Y2 (g:=gE E s) ρ (ZgO s) (d:=d)).2 i k
    by_cases hid:i=d
    ·subst hid
     exact ZiZ hsim hr
    ·have:=hda hid hr
     rw [hd.2] at this
     cases this
   ·intro i o hio e he hb
    rw [List.all_eq_true] at hlow
    have:=hlow (o,i) (by
     rw [List.mem_zipIdx_iff_getElem?]
     simpa using hio)
    rw [Array.all_eq_true_iff_forall_mem] at this
    have:=this e he
    simpa [hb] using this
   ·rintro i j a b hia hjb hji ⟨S,hS,hSi,hSj⟩
    rw [List.all_eq_true] at hind
    have m1:=Wd ss 0 i a hia
    have m2:=Wd ss 0 j b hjb
    rw [Nat.zero_add] at m1 m2
    have:=hind _ m1
    rw [List.all_eq_true] at this
    have:=this _ m2
    simp only [Bool.or_eq_true,Bool.and_eq_true,Bool.not_eq_true',decide_eq_false_iff_not] at this
    rcases this with (this | this) | this
    ·exact (this hji).elim
    ·exact (hSj (ZcD hS i j hSi this)).elim
    ·exact ⟨Zhg this.1,Zhg this.2⟩
   ·intro k o hk hl
    have hlt:=(Array.getElem?_eq_some_iff.1 hk).1
    simp [Array.getD,hlt] at hl
   ·have:=List.countP_le_length (p:=fun i=>!(Array.replicate ops.size false).getD i false) (l:=List.range ops.size)
    simpa using this
   ·rw [W0]
    ·exact hsd
    ·intro j _ hj
     simp [Array.getD]
  ·exact h3.elim
end
end Go.AM
end

section
namespace Go.AM
inductive Yi (P:Program):AV→AV→Prop
 | same {x : AV} (h : x.isCell = true ∨ ∃ b e xs, x = .own b e xs) : Yi P x x
 | nil {s s' : Nat} {f : Bool} : Yi P (.slice true s []) (.slice f s' [])
 | imm {f : Bool} {s : Nat} {xs : List (List AV)} : Yi P (.slice f s xs) (.slice false s xs)
 | immN {f : Bool} {s s' : Nat} : Yi P (.slice f s []) (.slice false s' [])
 | own {e : TypeId} {xs : List (List AV)} : Yi P (.own false e xs) (.slice false (P.cellsOf e) xs)
 | ownN {b b' : Bool} {e : TypeId} : Yi P (.own b e []) (.own b' e [])
 | ownZ {b : Bool} {e : TypeId} {s : Nat} : Yi P (.own b e []) (.slice false s [])
 | give {b : Bool} {s : Nat} {e : TypeId} : Yi P (.slice true s []) (.own b e [])
theorem Zei {w:World} {lim:Nat→Nat} {b:Bool} {e:TypeId} {xs:List (List AV)} {v:Value} (h:Rep w lim (.own b e xs) v):False:=by cases h
theorem ZcG {P:Program} {w:World} {lim:Nat→Nat} {b b':Bool} {e:TypeId} {v:Value} {ob:Option Nat} (h:Jt P w lim b e [] v ob):Jt P w lim b' e [] v ob:=by
 rcases h with ⟨us,h1,h2,h3,h4,h5,h6⟩ | h
 ·have hu:us = []:=List.eq_nil_of_length_eq_zero (by rw [h1.1];simp)
  subst hu
  refine .inl ⟨[],h1,h2,fun b0 hb=>?_,h4,h5,h6⟩
  have:=h3 b0 hb
  rw [this]
  simp
 ·exact .inr h
theorem Zjp {P:Program} {w:World} {lim:Nat→Nat} {x y:AV} {v:Value} (h:Rep w lim x v) (hw:Yi P x y) (hy:y.isCell=true):Rep w lim y v:=by
 cases hw with
 | same _ => exact h
 | nil => exact V7 (fun _ => rfl) h
 | imm => exact Zep h
 | immN => exact V7 (fun h => by cases h) h
 | own => exact (Zei h).elim
 | ownN => exact (Zei h).elim
 | ownZ => exact (Zei h).elim
 | give => cases hy
theorem Zh6 {P:Program} {w:World} {lim:Nat→Nat} {ob:Option Nat} {x y:AV} {v:Value} (h:Yb P w lim ob x v) (hw:Yi P x y):∃ ob',(ob'=ob∨ob'=none)∧((∃ b e xs,x = .own b e xs)→ob'=ob)∧Yb P w lim ob' y v:=by
 cases hw with
 | same _ => exact ⟨ob, .inl rfl, fun _ => rfl, h⟩
 | nil => exact ⟨ob, .inl rfl, fun _ => rfl, V7 (fun _ => rfl) h⟩
 | imm => exact ⟨ob, .inl rfl, fun _ => rfl, Zep h⟩
 | immN => exact ⟨ob, .inl rfl, fun _ => rfl, V7 (fun h => by cases h) h⟩
 | own => exact ⟨ob, .inl rfl, fun _ => rfl, Jt.rep h false rfl⟩
 | ownN => exact ⟨ob, .inl rfl, fun _ => rfl, ZcG h⟩
 | ownZ => exact ⟨ob, .inl rfl, fun _ => rfl, V7 (f := false) (fun h => h) (Jt.rep (ZcG (b' := false) h) false rfl)⟩
 | give => exact ⟨none, .inr rfl, fun ⟨_, _, _, h⟩ => (by cases h), Ze7 h⟩
inductive Zbc (P:Program):AV→AV→Prop
 | cell {x y : AV} (h : Yi P x y) : Zbc P x y
 | agg {cs cs' : List AV} (hl : cs.length = cs'.length) (hc : ∀ c ∈ cs', c.isCell = true) (h : ∀ (i : Nat) (c c' : AV), cs[i]? = some c → cs'[i]? = some c' → Yi P c c') : Zbc P (.agg cs) (.agg cs')
theorem Zg7 {w:World} {lim:Nat→Nat} {cs:List AV} {v:Value} (h:Rep w lim (.agg cs) v):∃ vs:List Value,v = .agg vs.toArray∧cs.length=vs.length∧
  ∀ (i:Nat) (c:AV) (v:Value),cs[i]? = some c→vs[i]? = some v→Rep w lim c v:=by
 cases h with
 | agg hl hc hr => exact ⟨_, rfl, hl, hr⟩
theorem ZcM {P:Program} {w:World} {lim:Nat→Nat} {ob:Option Nat} {x y:AV} {v:Value} (h:Yb P w lim ob x v) (hw:Zbc P x y):∃ ob',(ob'=ob∨ob'=none)∧((∃ b e xs,x = .own b e xs)→ob'=ob)∧Yb P w lim ob' y v:=by
 cases hw with
 | cell hw => exact Zh6 h hw
 | @agg cs cs' hl hc hp =>
  refine ⟨ob,.inl rfl,fun _=>rfl,?_⟩
  obtain ⟨vs,rfl,h1,h2⟩:=Zg7 (show Rep w lim (.agg cs) v from h)
  refine Rep.agg (by omega) hc fun i c' u hc' hu=>?_
  obtain ⟨c,hcc⟩:∃ c,cs[i]? = some c:=⟨_,List.getElem?_eq_getElem (by rw [hl];exact (List.getElem?_eq_some_iff.1 hc').1)⟩
  exact Zjp (h2 i c u hcc hu) (hp i c c' hcc hc') (hc c' (List.mem_of_getElem? hc'))
theorem ZbC {P:Program} {w:World} {lim:Nat→Nat} {cs cs':List AV} {us:List Value} {Y:Nat→Option Nat} (hl:cs.length=cs'.length) (h:∀ (i:Nat) (c:AV) (u:Value),cs[i]? = some c→us[i]? = some u→Yb P w lim (Y i) c u)
  (hw:∀ (i:Nat) (c c':AV),cs[i]? = some c→cs'[i]? = some c'→Zbc P c c') :
  ∃ r:Nat→Option Nat,(∀ i,r i=Y i∨r i=none)∧(∀ (i:Nat) (c':AV),i < us.length→cs'[i]? = some c'→(∃ b e xs,cs[i]? = some (.own b e xs))→r i=Y i)∧∀ (i:Nat) (c':AV) (u:Value),cs'[i]? = some c'→us[i]? = some u→Yb P w lim (r i) c' u:=by
 have key:∀ i,∃ ob:Option Nat,(ob=Y i∨ob=none)∧(∀ (c':AV),i < us.length→cs'[i]? = some c'→(∃ b e xs,cs[i]? = some (.own b e xs))→ob=Y i)∧∀ (c':AV) (u:Value),cs'[i]? = some c'→us[i]? = some u→Yb P w lim ob c' u:=by
  intro i
  cases hc':cs'[i]? with
  | none => exact ⟨none, .inr rfl, fun c' _ h => (by cases h), fun c' u h => by cases h⟩
  | some c' =>
   cases hu:us[i]? with
   | none => exact ⟨none, .inr rfl, fun c' hlt _ => (by have := List.getElem?_eq_none_iff.1 hu; omega), fun c' u _ h => by cases h⟩
   | some u =>
    obtain ⟨c,hc⟩:∃ c,cs[i]? = some c:=⟨_,List.getElem?_eq_getElem (by rw [hl];exact (List.getElem?_eq_some_iff.1 hc').1)⟩
    obtain ⟨ob,h1,h3,h2⟩:=ZcM (h i c u hc hu) (hw i c c' hc hc')
    refine ⟨ob,h1,fun _ _ _ ⟨b,e,xs,hx⟩=>h3 ⟨b,e,xs,by rw [hc] at hx;exact Option.some.inj hx⟩,fun c2 u2 e1 e2=>?_⟩
    cases e1
    cases e2
    exact h2
 obtain ⟨r,hr⟩:=Classical.axiomOfChoice key
 exact ⟨r,fun i=>(hr i).1,fun i=>(hr i).2.1,fun i=>(hr i).2.2⟩
inductive YA (P:Program):AV→AV→Prop
 | dead {x : AV} : YA P x .dead
 | comp {x y : AV} (h : Zbc P x y) : YA P x y
 | tuple {cs cs' : List AV} (hl : cs.length = cs'.length) (h : ∀ (i : Nat) (c c' : AV), cs[i]? = some c → cs'[i]? = some c' → Zbc P c c') : YA P (.tuple cs) (.tuple cs')
 | box {cs cs' : List AV} (hl : cs.length = cs'.length) (h : ∀ (i : Nat) (c c' : AV), cs[i]? = some c → cs'[i]? = some c' → Yi P c c') : YA P (.box cs) (.box cs')
 | gbox {cs cs' : List AV} (hl : cs.length = cs'.length) (h : ∀ (i : Nat) (c c' : AV), cs[i]? = some c → cs'[i]? = some c' → Yi P c c') : YA P (.gbox cs) (.gbox cs')
theorem YW {P:Program} {x y:AV} (h:Yi P x y):y.isCell=true∨∃ b e xs,y = .own b e xs:=by
 cases h with
 | same h => exact h
 | nil => exact .inl rfl
 | imm => exact .inl rfl
 | immN => exact .inl rfl
 | own => exact .inl rfl
 | ownN => exact .inr ⟨_, _, _, rfl⟩
 | ownZ => exact .inl rfl
 | give => exact .inr ⟨_, _, _, rfl⟩
theorem Zbx {P:Program} {x y:AV} (h:Yi P x y):x.isCell=true∨∃ b e xs,x = .own b e xs:=by
 cases h with
 | same h => exact h
 | nil => exact .inl rfl
 | imm => exact .inl rfl
 | immN => exact .inl rfl
 | own => exact .inr ⟨_, _, _, rfl⟩
 | ownN => exact .inr ⟨_, _, _, rfl⟩
 | ownZ => exact .inr ⟨_, _, _, rfl⟩
 | give => exact .inl rfl
theorem Zdr {P:Program} {e e':TypeId} {xs xs':List (List AV)} (h:Yi P (.own true e xs) (.own true e' xs')):e'=e∧xs'=xs:=by
 cases h with
 | same _ => exact ⟨rfl, rfl⟩
 | ownN => exact ⟨rfl, rfl⟩
theorem ZbO {P:Program} {w:World} {lim:Nat→Nat} {Y:Nat→Option Nat} {cs cs':List AV} {v:Value} (h:ZP P w lim Y cs v) (hl:cs.length=cs'.length)
  (hp:∀ (i:Nat) (c c':AV),cs[i]? = some c→cs'[i]? = some c'→Yi P c c'):∃ r:Nat→Option Nat,(∀ k,r k=Y k∨r k=none)∧r 0=Y 0∧(∀ k,(∃ p,Zs (.box cs) k=some p)→r k=Y k)∧ZP P w lim r cs' v:=by
 obtain ⟨b,arr,t,h1,rfl,h3,h4,h5,h6,h7⟩:=h
 obtain ⟨r,g1,g3,g2⟩:=ZbC (P:=P) (w:=w) (lim:=lim) (us:=arr.toList) (Y:=fun i=>Y (i+1)) hl (fun i c u hc hu=>h7 i c u hc (by simpa using hu)) (fun i c c' hc hc'=>.cell (hp i c c' hc hc'))
 refine ⟨fun k=>match k with | 0=>Y 0 | k+1=>r k,fun k=>?_,rfl,fun k hk=>?_,?_⟩
 ·cases k with
  | zero => exact .inl rfl
  | succ k => exact g1 k
 ·obtain ⟨⟨e,xs⟩,hk⟩:=hk
  rcases Zu hk with ⟨h,_⟩ | ⟨ds,q,hd,rfl,hq⟩
  ·cases h
  ·cases hd
   have hlt:=(List.getElem?_eq_some_iff.1 hq).1
   exact g3 q _ (by simp;omega) (List.getElem?_eq_getElem (by rw [← hl];exact hlt)) ⟨_,_,_,hq⟩
 ·refine ⟨b,arr,t,h1,rfl,h3,by rw [h4,hl],h5,fun c hc=>?_,fun i c u hc hu=>g2 i c u hc (by simpa using hu)⟩
  obtain ⟨i,hi⟩:=List.mem_iff_getElem?.1 hc
  obtain ⟨c0,hc0⟩:∃ c0,cs[i]? = some c0:=⟨_,List.getElem?_eq_getElem (by rw [hl];exact (List.getElem?_eq_some_iff.1 hi).1)⟩
  exact YW (hp i c0 c hc0 hi)
theorem Vk {P:Program} {x y:AV} (h:Zbc P x y):y.isB=false:=by
 cases h with
 | agg _ _ _ => rfl
 | cell h =>
  rcases YW h with hy | ⟨_,_,_,rfl⟩
  ·cases y<;>first | rfl | (simp [AV.isCell] at hy)
  ·rfl
theorem Zhl {P:Program} {x y:AV} (h:YA P x y) (hy:y.isG=true):x.isG=true:=by
 cases h with
 | gbox _ _ => rfl
 | comp h => have := Vk h; rw [Wi hy] at this; cases this
 | _ => cases hy
theorem Zjx {P:Program} {x y:AV} (h:Zbc P x y):(∀ d o,y≠.ptr d o)∧(∀ d k,y≠.mref d k)∧∀ g ds,y≠.clo g ds:=by
 cases h with
 | agg _ _ _ => exact ⟨fun _ _ h => (by cases h), fun _ _ h => (by cases h), fun _ _ h => (by cases h)⟩
 | cell hw =>
  refine ⟨fun _ _ e=>?_,fun _ _ e=>?_,fun _ _ e=>?_⟩ <;> subst e<;>rcases YW hw with h | ⟨_,_,_,h⟩ <;> cases h
theorem WJ {P:Program} {x y:AV} (h:YA P x y):(∀ d o,y≠.ptr d o)∧(∀ d k,y≠.mref d k)∧∀ g ds,y≠.clo g ds:=by
 cases h with
 | comp hw => exact Zjx hw
 | _ => exact ⟨fun _ _ h => (by cases h), fun _ _ h => (by cases h), fun _ _ h => (by cases h)⟩
theorem Zg6 {P:Program} {x y:AV} (h:YA P x y) {k:Nat} {e e':TypeId} {xs xs':List (List AV)} (hx:Zs x k=some (e,xs)) (hy:Zs y k=some (e',xs')):e'=e∧xs'=xs:=by
 rcases Zu hx with ⟨rfl,rfl⟩ | ⟨cs,q,rfl,rfl,hq⟩
 ·rcases Zu hy with ⟨rfl,_⟩ | ⟨_,_,_,h0,_⟩
  ·cases h with
   | comp hw =>
    cases hw with
    | cell hc => exact Zdr hc
  ·cases h0
 ·rcases Zu hy with ⟨_,h0⟩ | ⟨cs',q',rfl,h0,hq'⟩
  ·cases h0
  ·cases h0
   cases h with
   | comp hw => have := Vk hw; cases this
   | box hl hp => exact Zdr (hp q _ _ hq hq')
theorem ZcQ {P:Program} {w:World} {lim:Nat→Nat} {X:Nat→Nat→Option Nat} {σ:Nat→AV} {d:Nat} {x y:AV} {v:Value} (h:ZT P w lim X σ d x v) (hw:YA P x y) :
  ∃ r:Nat→Option Nat,(∀ k,r k=X d k∨r k=none)∧(y.isB=true→r 0=X d 0)∧(∀ k,(∃ p,Zs x k=some p)→(∃ p,Zs y k=some p)→r k=X d k)∧∀ (X':Nat→Nat→Option Nat) (σ':Nat→AV) (d':Nat),X' d'=r→ZT P w lim X' σ' d' y v:=by
 cases hw with
 | dead => exact ⟨fun _ => none, fun _ => .inr rfl, fun h => (by cases h), fun k _ ⟨p, hp⟩ => (by rcases Zu (e := p.1) (xs := p.2) hp with ⟨h, _⟩ | ⟨_, _, h, _⟩ <;> cases h), fun _ _ _ _ => trivial⟩
 | comp hw =>
  have hnb:=Vk hw
  have hc:Yb P w lim (X d 0) x v:=by
   cases hw with
   | agg hl hc hp => exact h
   | cell hw =>
    rcases Zbx hw with hx | ⟨b,e,xs,rfl⟩
    ·cases x<;>simp [AV.isCell] at hx<;>exact h
    ·exact h
  obtain ⟨ob,h1,h4,h2⟩:=ZcM hc hw
  refine ⟨fun k=>if k=0 then ob else none,fun k=>?_,fun h=>by (rw [hnb] at h;cases h),fun k ⟨p,hp⟩ _=>?_,fun X' σ' d' hX=>?_⟩
  ·dsimp only
   split
   ·rename_i hk;subst hk;exact h1
   ·exact .inr rfl
  ·rcases Zu (e:=p.1) (xs:=p.2) hp with ⟨hx,rfl⟩ | ⟨cs,q,hx,_⟩
   ·exact h4 ⟨_,_,_,hx⟩
   ·subst hx
    cases hw with
    | cell hw => rcases Zbx hw with h | ⟨_, _, _, h⟩ <;> cases h
  ·have h3:X' d' 0=ob:=by rw [hX];rfl
   cases hw with
   | agg hl hc hp => exact h2
   | cell hw =>
    rcases YW hw with hy | ⟨b,e,xs,rfl⟩
    ·cases y<;>simp [AV.isCell] at hy<;>exact h2
    ·show Jt P w lim b e xs v (X' d' 0)
     rw [h3]
     exact h2
 | @tuple cs cs' hl hp =>
  obtain ⟨us,rfl,h2,h3⟩:=h
  obtain ⟨r,g1,_,g2⟩:=ZbC (Y:=fun i=>X d (i+1)) hl h3 hp
  refine ⟨fun k=>match k with | 0=>none | k+1=>r k,fun k=>?_,fun h=>(by cases h),fun k ⟨p,hp⟩ _=>(by rcases Zu (e:=p.1) (xs:=p.2) hp with ⟨h,_⟩ | ⟨_,_,h,_⟩ <;> cases h),fun X' σ' d' hX=>?_⟩
  ·cases k with
   | zero => exact .inr rfl
   | succ k => exact g1 k
  ·refine ⟨us,rfl,by rw [h2,hl],fun i c u hc hu=>?_⟩
   have:X' d' (i+1)=r i:=by rw [hX]
   rw [this]
   exact g2 i c u hc hu
 | @box cs cs' hl hp =>
  obtain ⟨r,g1,g2,g4,g3⟩:=ZbO h hl hp
  exact ⟨r,g1,fun _=>g2,fun k hk _=>g4 k hk,fun X' σ' d' hX=>by (show ZP P w lim (X' d') cs' v;rw [hX];exact g3)⟩
 | @gbox cs cs' hl hp =>
  obtain ⟨v',h⟩:=h
  obtain ⟨r,g1,g2,_,g3⟩:=ZbO h hl hp
  exact ⟨r,g1,fun _=>g2,fun k ⟨p,hp⟩ _=>(by rcases Zu (e:=p.1) (xs:=p.2) hp with ⟨h,_⟩ | ⟨_,_,h,_⟩ <;> cases h),fun X' σ' d' hX=>⟨v',by rw [hX];exact g3⟩⟩
theorem Jd.wider {w:World} {lim:Nat→Nat} {w':World} {lim':Nat→Nat} {S S':Nat→Prop} (h:Jd w lim w' lim' S) (hs:∀ b,S b→S' b):Jd w lim w' lim' S':=
 ⟨h.os,h.tape,h.output,h.size,h.frz,fun b hb hn=>h.blk b hb fun hS=>hn (hs b hS),h.ext⟩
def Zor (bs:List AV) (a b:AV):Prop:=∃ g ds,a = .clo g ds∧b = .clo g ds∧∀ d∈ds,(ZX bs d).isB=true
def K8 (P:Program) (aZ bs:List AV):Prop:=aZ.length=bs.length∧∀ (i:Nat) (a b:AV),aZ[i]? = some a→bs[i]? = some b→YA P a b∨Zor bs a b
theorem Zap {P:Program} {aZ bs:List AV} (h:K8 P aZ bs) (i:Nat):YA P (ZX aZ i) (ZX bs i)∨Zor bs (ZX aZ i) (ZX bs i):=by
 cases hb:bs[i]? with
 | none =>
  have:ZX bs i = .dead:=by simp [ZX,hb]
  rw [this]
  exact .inl .dead
 | some b =>
  obtain ⟨a,ha⟩:∃ a,aZ[i]? = some a:=⟨_,List.getElem?_eq_getElem (by rw [h.1];exact (List.getElem?_eq_some_iff.1 hb).1)⟩
  have h1:ZX aZ i=a:=by simp [ZX,ha]
  have h2:ZX bs i=b:=by simp [ZX,hb]
  rw [h1,h2]
  exact h.2 i a b ha hb
theorem Zca {P:Program} {aZ bs:List AV} (h:K8 P aZ bs) {i:Nat} (hi:(ZX bs i).isG=true):(ZX aZ i).isG=true:=by
 rcases Zap h i with h1 | ⟨g,ds,_,h1,_⟩
 ·exact Zhl h1 hi
 ·rw [h1] at hi;cases hi
theorem Zdi:∀ (aZ bs:List AV),aZ.length=bs.length→(∀ (i:Nat) (a b:AV),aZ[i]? = some a→bs[i]? = some b→b.isG=true→a.isG=true)→bs.countP AV.isG≤aZ.countP AV.isG
 | [], [], _, _ => Nat.le_refl _
 | [], _ :: _, h, _ => by simp at h
 | _ :: _, [], h, _ => by simp at h
 | a :: aZ, b :: bs, hl, h => by
  have ih:=Zdi aZ bs (by simpa using hl) fun i x y hx hy=>h (i+1) x y (by simpa using hx) (by simpa using hy)
  have h0:=h 0 a b rfl rfl
  rw [List.countP_cons,List.countP_cons]
  by_cases hb:b.isG=true
  ·rw [if_pos hb,if_pos (h0 hb)];omega
  ·rw [if_neg hb];split<;>omega
theorem Zdm {P:Program} {aZ bs:List AV} (h:K8 P aZ bs):bs.countP AV.isG≤aZ.countP AV.isG:=
 Zdi aZ bs h.1 fun i a b ha hb hg=>by
  have h1:ZX aZ i=a:=by simp [ZX,ha]
  have h2:ZX bs i=b:=by simp [ZX,hb]
  have:=Zca h (i:=i) (by rw [h2];exact hg)
  rwa [h1] at this
theorem Zbz {P:Program} {w:World} {lim:Nat→Nat} {X:Nat→Nat→Option Nat} {aZ bs:List AV} {vs:Nat→Value} (h:∀ i,ZT P w lim X (ZX aZ) i (ZX aZ i) (vs i)) (hw:K8 P aZ bs) :
  ∃ X':Nat→Nat→Option Nat,(∀ i k,X' i k=X i k∨X' i k=none)∧(∀ i,(ZX bs i).isB=true→X' i 0=X i 0)∧∀ i,ZT P w lim X' (ZX bs) i (ZX bs i) (vs i):=by
 have key:∀ i,∃ r:Nat→Option Nat,(∀ k,r k=X i k∨r k=none)∧((ZX bs i).isB=true→r 0=X i 0)∧((∀ g ds,ZX bs i≠.clo g ds)→∀ X':Nat→Nat→Option Nat,X' i=r→ZT P w lim X' (ZX bs) i (ZX bs i) (vs i)):=by
  intro i
  rcases Zap hw i with h1 | ⟨g,ds,_,h1,_⟩
  ·obtain ⟨r,g1,g2,_,g3⟩:=ZcQ (h i) h1
   exact ⟨r,g1,g2,fun _ X' hX=>g3 X' _ _ hX⟩
  ·exact ⟨fun _=>none,fun _=>.inr rfl,fun hb=>by (rw [h1] at hb;cases hb),fun hn=>(hn g ds h1).elim⟩
 obtain ⟨X',hX⟩:=Classical.axiomOfChoice key
 refine ⟨X',fun i=>(hX i).1,fun i=>(hX i).2.1,fun i=>?_⟩
 by_cases hc:∃ g ds,ZX bs i = .clo g ds
 ·obtain ⟨g,ds,hc⟩:=hc
  rcases Zap hw i with h1 | ⟨g',ds',h0,h1,h2⟩
  ·rw [hc] at h1
   exact ((WJ h1).2.2 g ds rfl).elim
  ·rw [h1] at hc
   cases hc
   have hi:=h i
   rw [h0] at hi
   rw [h1]
   obtain ⟨bs',m1,m2,m3⟩:=hi
   refine ⟨bs',m1,m2,fun k d b hd hb=>?_⟩
   have hB:=h2 d (List.mem_of_getElem? hd)
   exact ⟨((hX d).2.1 hB).trans (m3 k d b hd hb).1,hB⟩
 ·exact (hX i).2.2 (fun g ds e=>hc ⟨g,ds,e⟩) X' rfl
theorem Zdx {X X':Nat→Nat→Option Nat} (h:ZhT X) (hX:∀ i k,X' i k=X i k∨X' i k=none):ZhT X':=by
 intro d k d' k' b h1 h2
 rcases hX d k with e1 | e1
 ·rcases hX d' k' with e2 | e2
  ·exact h d k d' k' b (e1.symm.trans h1) (e2.symm.trans h2)
  ·rw [e2] at h2;cases h2
 ·rw [e1] at h1;cases h1
theorem JA.stronger {P:Program} {f:FuncId} {aZ bs:List AV} {res:AV} {outs:List AV} (h:JA P f bs res outs) (ha:K8 P aZ bs):JA P f aZ res outs:=by
 refine ⟨h.1,fun w lim X cargs hcl hrel hdist hsize=>?_⟩
 obtain ⟨X2,g1,g3,g2⟩:=Zbz hrel ha
 have hX2:∀ i k b,X2 i k=some b→X i k=some b:=by
  intro i k b hb
  rcases g1 i k with e | e
  ·rw [← e];exact hb
  ·rw [e] at hb;cases hb
 refine (h.2 w lim X2 cargs (by have:=Zdm ha;have:=ha.1;omega) g2 (Zdx hdist g1) fun i k b hb=>hsize i k b (hX2 i k b hb)).mono ?_
 rintro e w' ⟨v,lim',X',he,hst,hol,hr,hd,hin,hgh⟩
 refine ⟨v,lim',X',he,hst.wider fun b ⟨i,k,hb⟩=>⟨i,k,hX2 i k b hb⟩,by rw [hol,ha.1],fun i=>by (rw [ha.1];exact hr i),hd,fun i k b hb=>?_,fun i hi=>?_⟩
 ·obtain ⟨m1,m2⟩:=hin i k b hb
  exact ⟨m1,m2.imp (fun ⟨i,k,h⟩=>⟨i,k,hX2 i k b h⟩) id⟩
 ·obtain ⟨m1,m2⟩:=hgh i hi
  exact ⟨Zca ha m1,by rw [m2,g3 i (Wi m1)]⟩
end Go.AM
end

section
namespace Go.AM
def ZeL (ρ:Nat→V) (n:Nat) (l:List V):Prop:=∀ (j:Nat) (v:V),l[j]? = some v→ρ (n+j)=v
theorem ZeL.tail {ρ:Nat→V} {n:Nat} {v:V} {l:List V} (h:ZeL ρ n (v::l)):ρ n=v∧ZeL ρ (n+1) l:=
 ⟨h 0 v rfl,fun j u hj=>by rw [show n+1+j=n+(j+1) by omega];exact h (j+1) u (by simpa using hj)⟩
theorem ZeL.app {ρ:Nat→V} {n:Nat} {l l':List V} (h:ZeL ρ n (l++l')):ZeL ρ n l∧ZeL ρ (n+l.length) l':=
  ⟨fun j v hj=>h j v (by rw [List.getElem?_append_left (List.getElem?_eq_some_iff.1 hj).1];exact hj),
   fun j v hj=>by
    rw [show n+l.length+j=n+(l.length+j) by omega]
    exact h _ v (by rw [List.getElem?_append_right (by omega)];simpa using hj)⟩
theorem ZeL.bind (ρ:Nat→V) (n:Nat) (vs:List V):ZeL (bind ρ n vs) n vs:=by
 intro j v hj
 unfold AM.bind
 rw [if_neg (by omega),show n+j-n=j by omega,hj]
 rfl
def vAt (us:List V) (j:Nat):V:=(us[j]?).getD (.i 0)
def Yz:Sh→V→AV
 | .int k, v => .val (.int k v.int)
 | .bool, v => .val (.bool v.bool)
 | .str, v => .val (.string v.str)
 | .slice s, v => .slice false s v.list
 | .own x e, v => .own x e v.list
def Z2:List Sh→List V→Nat→List AV
 | [], _, _ => []
 | s :: ss, us, j => Yz s (vAt us j) :: Z2 ss us (j + 1)
theorem ZfP {s:Sh} (h:s.imm=true) (v:V):(Yz s v).isCell=true:=by cases s<;>simp [Sh.imm] at h<;>rfl
theorem KC (pre post:List V) (v:V):vAt (pre++v::post) pre.length=v:=by simp [vAt]
theorem Js:∀ (l:List Sh) (us:List V) (j:Nat),(Z2 l us j).length=l.length
 | [], _, _ => rfl
 | _ :: ss, us, j => by simp [Z2, Js ss us (j + 1)]
theorem Y9:∀ (l:List Sh) (us:List V) (j:Nat),l.all Sh.imm=true→∀ c∈Z2 l us j,c.isCell=true
 | [], _, _, _ => by simp [Z2]
 | s :: ss, us, j, h => by
  rw [List.all_cons,Bool.and_eq_true] at h
  intro c hc
  rcases List.mem_cons.1 hc with rfl | hc
  ·exact ZfP h.1 _
  ·exact Y9 ss us (j+1) h.2 c hc
section
variable {P:Program} {ρ:Nat→V}
theorem Zcn {s:Sh} {x:SC} {v:VE} (h:ZjG s x=some v):Yi P (x.den ρ) (Yz s (v.den ρ)):=by
 unfold ZjG at h
 split at h
 ·split at h
  ·simp only [Option.some.injEq] at h;subst h;rename_i hk;subst hk;exact .same (.inl rfl)
  ·cases h
 ·simp only [Option.some.injEq] at h;subst h;exact .same (.inl rfl)
 ·simp only [Option.some.injEq] at h;subst h;exact .same (.inl rfl)
 ·split at h
  ·simp only [Option.some.injEq] at h;subst h;rename_i hk;subst hk;exact .imm
  ·split at h
   ·simp only [Option.some.injEq] at h;subst h;exact .immN
   ·cases h
 ·split at h
  ·simp only [Option.some.injEq] at h;subst h;exact .give
  ·cases h
 ·cases h
theorem Zdu {l:LE} (h:l.isNil=true):l = .nil:=by cases l<;>first | rfl | cases h
theorem ZaV {s:Sh} {x:Bool} {e:TypeId} {l:LE} {v:VE} (h:ZaY P s x e l=some v):Yi P (.own x e (l.den ρ)) (Yz s (v.den ρ)):=by
 unfold ZaY at h
 split at h
 ·split at h
  ·simp only [Option.some.injEq] at h
   subst h
   rename_i hk
   obtain ⟨rfl,hk⟩:=hk
   rcases hk with rfl | hk
   ·exact .same (.inr ⟨_,_,_,rfl⟩)
   ·have:=Zdu hk
    subst this
    exact .ownN
  ·cases h
 ·split at h
  ·simp only [Option.some.injEq] at h
   subst h
   rename_i hk
   obtain ⟨rfl,hk⟩:=hk
   rcases hk with rfl | hk
   ·exact .own
   ·have:=Zdu hk
    subst this
    exact .ownZ
  ·cases h
 ·cases h
theorem Zcu:∀ (l:List Sh) (cs:List SC) (vs:List VE),Zdl l cs=some vs→vs.length=l.length∧cs.length=l.length∧∀ pre post:List V,
  ∀ (i:Nat) (c c':AV),(cs.map (SC.den ρ))[i]? = some c→(Z2 l (pre++vs.map (VE.den ρ)++post) pre.length)[i]? = some c'→Yi P c c'
 | [], [], vs, h => by
  simp only [Zdl,Option.some.injEq] at h
  subst h
  exact ⟨rfl,rfl,fun _ _ i c c' h=>by simp at h⟩
 | [], _ :: _, _, h => by simp [Zdl] at h
 | _ :: _, [], _, h => by simp [Zdl] at h
 | s :: ss, c :: cs, us, h => by
  simp only [Zdl] at h
  split at h
  ·rename_i v vs hv hvs
   simp only [Option.some.injEq] at h
   subst h
   obtain ⟨h1,h2,h3⟩:=Zcu ss cs vs hvs
   refine ⟨by simp [h1],by simp [h2],fun pre post i c1 c2 hc1 hc2=>?_⟩
   cases i with
   | zero =>
    simp only [Z2,List.map_cons,List.getElem?_cons_zero,Option.some.injEq] at hc1 hc2
    subst hc1
    subst hc2
    rw [List.append_assoc,List.cons_append,KC]
    exact Zcn hv
   | succ i =>
    have:=h3 (pre++[v.den ρ]) post i c1 c2 (by simpa using hc1)
    simp only [List.append_assoc,List.cons_append,List.nil_append,List.length_append,List.length_cons,List.length_nil] at this
    simp only [Z2,List.map_cons,List.getElem?_cons_succ,List.append_assoc,List.cons_append] at hc2
    exact this hc2
  ·cases h
theorem Zku {s:Sh} {x:BC} {v:VE} (h:ZnW P s x=some v):Yi P (x.den ρ) (Yz s (v.den ρ)):=by
 unfold ZnW at h
 split at h
 ·exact Zcn h
 ·exact ZaV h
theorem VS:∀ (l:List Sh) (cs:List BC) (vs:List VE),Za7 P l cs=some vs→vs.length=l.length∧cs.length=l.length∧∀ pre post:List V,
  ∀ (i:Nat) (c c':AV),(cs.map (BC.den ρ))[i]? = some c→(Z2 l (pre++vs.map (VE.den ρ)++post) pre.length)[i]? = some c'→Yi P c c'
 | [], [], vs, h => by
  simp only [Za7,Option.some.injEq] at h
  subst h
  exact ⟨rfl,rfl,fun _ _ i c c' h=>by simp at h⟩
 | [], _ :: _, _, h => by simp [Za7] at h
 | _ :: _, [], _, h => by simp [Za7] at h
 | s :: ss, c :: cs, us, h => by
  simp only [Za7] at h
  split at h
  ·rename_i v vs hv hvs
   simp only [Option.some.injEq] at h
   subst h
   obtain ⟨h1,h2,h3⟩:=VS ss cs vs hvs
   refine ⟨by simp [h1],by simp [h2],fun pre post i c1 c2 hc1 hc2=>?_⟩
   cases i with
   | zero =>
    simp only [Z2,List.map_cons,List.getElem?_cons_zero,Option.some.injEq] at hc1 hc2
    subst hc1
    subst hc2
    rw [List.append_assoc,List.cons_append,KC]
    exact Zku hv
   | succ i =>
    have:=h3 (pre++[v.den ρ]) post i c1 c2 (by simpa using hc1)
    simp only [List.append_assoc,List.cons_append,List.nil_append,List.length_append,List.length_cons,List.length_nil] at this
    simp only [Z2,List.map_cons,List.getElem?_cons_succ,List.append_assoc,List.cons_append] at hc2
    exact this hc2
  ·cases h
end
theorem Zgk {s:Sh} (hs:s.imm=true) {n:Nat} {ρ:Nat→V} {v:V} (h:ρ n=v):(Yh s n).den ρ=Yz s v:=by
 subst h
 cases s<;>simp [Sh.imm] at hs<;>rfl
theorem ZaX:∀ (l:List Sh) (n m:Nat) (ρ:Nat→V) (us:List V),l.all Sh.imm=true→(∀ j,j < l.length→ρ (n+j)=vAt us (m+j))→(ZY l n).map (SC.den ρ)=Z2 l us m
 | [], _, _, _, _, _, _ => rfl
 | s :: ss, n, m, ρ, us, hi, h => by
  rw [List.all_cons,Bool.and_eq_true] at hi
  rw [ZY,List.map_cons,Z2,Zgk hi.1 (show ρ n=vAt us m from h 0 (by simp)),ZaX ss (n+1) (m+1) ρ us hi.2 fun j hj=>by
   have:=h (j+1) (by simp;omega)
   rw [show n+1+j=n+(j+1) by omega,show m+1+j=m+(j+1) by omega]
   exact this]
theorem ZiW {s:Sh} {n:Nat} {ρ:Nat→V} {v:V} (h:ρ n=v):(Zkl s n).den ρ=Yz s v:=by
 subst h
 cases s<;>rfl
theorem Wa:∀ (l:List Sh) (n m:Nat) (ρ:Nat→V) (us:List V),(∀ j,j < l.length→ρ (n+j)=vAt us (m+j))→(YY l n).map (BC.den ρ)=Z2 l us m
 | [], _, _, _, _, _ => rfl
 | s :: ss, n, m, ρ, us, h => by
  rw [YY,List.map_cons,Z2,ZiW (show ρ n=vAt us m from h 0 (by simp)),Wa ss (n+1) (m+1) ρ us fun j hj=>by
   have:=h (j+1) (by simp;omega)
   rw [show n+1+j=n+(j+1) by omega,show m+1+j=m+(j+1) by omega]
   exact this]
def Vl (h:HP) (us:List V) (j:Nat):AV:=
 match h with
 | .c s => Yz s (vAt us j)
 | .agg l => .agg (Z2 l us j)
 | .box l => .box (Z2 l us j)
 | .mref d k => .mref d k
 | .ptr d o => .ptr d o
 | .dead => .dead
 | .gbox l => .gbox (Z2 l us j)
 | .clo g ds => .clo g ds
def HP.fine:HP→Bool
 | .agg l => l.all Sh.imm
 | _ => true
theorem Zg4 {h:HP} (hf:h.fine=true) {n m:Nat} {ρ:Nat→V} {us:List V} (hρ:∀ j,j < h.n→ρ (n+j)=vAt us (m+j)):(Zil h n).den ρ=Vl h us m:=by
 cases h with
 | c s =>
  have h0:=hρ 0 (Nat.zero_lt_one)
  simp only [Nat.add_zero] at h0
  cases s<;>simp only [Zil,Vl,SV.den,Yh,SC.den,IE.den,BE.den,SE.den,LE.den,h0,Yz]
 | agg l => simp only [Zil, Vl, SV.den, ZaX l n m ρ us hf hρ]
 | box l => simp only [Zil, Vl, SV.den, Wa l n m ρ us hρ]
 | gbox l => simp only [Zil, Vl, SV.den, Wa l n m ρ us hρ]
 | clo g ds => rfl
 | mref d k => rfl
 | ptr d o => rfl
 | dead => rfl
def ZnO (h:HP) (x:AV):Prop:=(∃ d o,h = .ptr d o∧x = .ptr d o)∨(∃ d k,h = .mref d k∧x = .mref d k)∨∃ g ds,h = .clo g ds∧x = .clo g ds
theorem ZhQ {P:Program} {ρ:Nat→V} {h:HP} {x:SV} {vs:List VE} (hv:Zff P h x=some vs):vs.length=h.n∧h.fine=true∧∀ pre post:List V,
  ZnO h (x.den ρ)∨YA P (x.den ρ) (Vl h (pre++vs.map (VE.den ρ)++post) pre.length):=by
 unfold Zff at hv
 split at hv
 ·cases hd:ZjG _ _ with
  | none => rw [hd] at hv; cases hv
  | some v =>
   rw [hd] at hv
   simp only [Option.map_some,Option.some.injEq] at hv
   subst hv
   refine ⟨rfl,rfl,fun pre post=>.inr ?_⟩
   simp only [Vl,List.map_cons,List.map_nil,List.append_assoc,List.cons_append,List.nil_append,KC]
   exact .comp (.cell (Zcn hd))
 ·cases hd:ZaY P _ _ _ _ with
  | none => rw [hd] at hv; cases hv
  | some v =>
   rw [hd] at hv
   simp only [Option.map_some,Option.some.injEq] at hv
   subst hv
   refine ⟨rfl,rfl,fun pre post=>.inr ?_⟩
   simp only [Vl,List.map_cons,List.map_nil,List.append_assoc,List.cons_append,List.nil_append,KC]
   exact .comp (.cell (ZaV hd))
 ·split at hv
  ·rename_i hi
   obtain ⟨h1,h2,h3⟩:=Zcu (P:=P) (ρ:=ρ) _ _ _ hv
   exact ⟨h1,hi,fun pre post=>.inr (.comp (.agg (by rw [List.length_map,h2,Js]) (Y9 _ _ _ hi) (h3 pre post)))⟩
  ·cases hv
 ·obtain ⟨h1,h2,h3⟩:=VS (P:=P) (ρ:=ρ) _ _ _ hv
  exact ⟨h1,rfl,fun pre post=>.inr (.box (by rw [List.length_map,h2,Js]) (h3 pre post))⟩
 ·split at hv
  ·rename_i hh
   simp only [Option.some.injEq] at hv
   subst hv
   obtain ⟨rfl,rfl⟩:=hh
   exact ⟨rfl,rfl,fun _ _=>.inl (.inr (.inl ⟨_,_,rfl,rfl⟩))⟩
  ·cases hv
 ·split at hv
  ·rename_i hh
   simp only [Option.some.injEq] at hv
   subst hv
   obtain ⟨rfl,rfl⟩:=hh
   exact ⟨rfl,rfl,fun _ _=>.inl (.inl ⟨_,_,rfl,rfl⟩)⟩
  ·cases hv
 ·simp only [Option.some.injEq] at hv
  subst hv
  exact ⟨rfl,rfl,fun _ _=>.inr .dead⟩
 ·obtain ⟨h1,h2,h3⟩:=VS (P:=P) (ρ:=ρ) _ _ _ hv
  exact ⟨h1,rfl,fun pre post=>.inr (.gbox (by rw [List.length_map,h2,Js]) (h3 pre post))⟩
 ·split at hv
  ·rename_i hh
   simp only [Option.some.injEq] at hv
   subst hv
   obtain ⟨rfl,rfl⟩:=hh
   exact ⟨rfl,rfl,fun _ _=>.inl (.inr (.inr ⟨_,_,rfl,rfl⟩))⟩
  ·cases hv
 ·cases hv
theorem Y0 {P:Program} {g:Nat→SV} {ρ:Nat→V} : ∀ (hs:List (Nat×HP)) (n:Nat) (ves:List VE) (pre:List V),Yk P g hs=some ves→pre.length=n→
  (ZU hs n).2=n+ves.length∧(ZU hs n).1.map (·.1)=hs.map (·.1)∧∀ u∈(ZU hs n).1,∃ h,(u.1,h)∈hs∧∃ m,u.2=Zil h m∧m+h.n≤n+ves.length∧h.fine=true∧
   ∀ post:List V,ZnO h ((g u.1).den ρ)∨YA P ((g u.1).den ρ) (Vl h (pre++ves.map (VE.den ρ)++post) m)
 | [], n, ves, pre, h, hp => by
  simp only [Yk,Option.some.injEq] at h
  subst h
  exact ⟨rfl,rfl,by simp [ZU]⟩
 | p :: r, n, ves, pre, h, hp => by
  simp only [Yk] at h
  split at h
  ·rename_i v vs hv hvs
   simp only [Option.some.injEq] at h
   subst h
   obtain ⟨h1,h2,h3⟩:=ZhQ (P:=P) (ρ:=ρ) hv
   obtain ⟨g1,g2,g3⟩:=Y0 r (n+p.2.n) vs (pre++v.map (VE.den ρ)) hvs (by simp [hp,h1])
   refine ⟨by simp only [ZU,g1,List.length_append,h1];omega,by simp only [ZU,List.map_cons,g2],fun u hu=>?_⟩
   simp only [ZU,List.mem_cons] at hu
   rcases hu with rfl | hu
   ·refine ⟨p.2,by simp,n,rfl,by simp only [List.length_append,h1];omega,h2,fun post=>?_⟩
    have:=h3 pre (vs.map (VE.den ρ)++post)
    rw [hp] at this
    simpa [List.append_assoc] using this
   ·obtain ⟨h,k1,m,k2,k3,k4,k5⟩:=g3 u hu
    refine ⟨h,by simp [k1],m,k2,by simp only [List.length_append,h1];omega,k4,fun post=>?_⟩
    have:=k5 post
    simpa [List.append_assoc] using this
  ·cases h
theorem ZbL:∀ (hs:List (Nat×HP)) (n:Nat),n≤(ZU hs n).2∧∀ u∈(ZU hs n).1,u.2.bd (ZU hs n).2
 | [], n => ⟨Nat.le_refl _, by simp [ZU]⟩
 | p :: r, n => by
  obtain ⟨h1,h2⟩:=ZbL r (n+p.2.n)
  refine ⟨by simp only [ZU];omega,fun u hu=>?_⟩
  simp only [ZU,List.mem_cons] at hu
  rcases hu with rfl | hu
  ·have hb:(Zil p.2 n).bd (n+p.2.n):=by
    cases hp:p.2 with
    | c s => cases s <;> exact Nat.lt_succ_self n
    | agg l => exact J2 l n
    | box l => exact J1 l n
    | mref d k => trivial
    | ptr d o => trivial
    | dead => trivial
    | gbox l => exact J1 l n
    | clo g ds => trivial
   exact SV.bd_mono (by simpa [ZU] using h1) _ hb
  ·exact h2 u hu
def Zkk (P:Program) (σ σ':Nat→AV) (d:Nat):Prop:=
 YA P (σ d) (σ' d)∨(∃ d' o,σ d = .ptr d' o∧σ' d = .ptr d' o∧(∃ cs,σ' d' = .box cs))∨(∃ d' k,σ d = .mref d' k∧σ' d = .mref d' k∧∃ p,Zs (σ' d') k=some p)∨
  ∃ g ds,σ d = .clo g ds∧σ' d = .clo g ds∧∀ d'∈ds,(σ' d').isB=true
theorem Sim.head {c:Ctx} {σ σ':Nat→AV} {tm:Array Value} {w:World} {lim:Nat→Nat} {X:Nat→Nat→Option Nat} (h:Sim c σ tm w lim X) (hw:∀ d,Zkk c.P σ σ' d) (hout:∀ d,c.nt≤d→σ' d = .dead∨(σ' d).isG=true)
  (hpin:∀ d v,c.pin d=some v→∃ cs,σ' d = .box cs) (hgpin:∀ d b,c.gpin d=some b→(σ' d).isG=true):∃ X',Sim c σ' tm w lim X':=by
 have hG:∀ d,(σ' d).isG=true→(σ d).isG=true:=by
  intro d hd
  rcases hw d with hs | ⟨d',o,_,h2,_⟩ | ⟨d',k,_,h2,_⟩ | ⟨g,ds,_,h2,_⟩
  ·exact Zhl hs hd
  ·rw [h2] at hd;cases hd
  ·rw [h2] at hd;cases hd
  ·rw [h2] at hd;cases hd
 have key:∀ d,∃ r:Nat→Option Nat,(∀ k,r k=X d k∨r k=none)∧((σ' d).isB=true→r 0=X d 0)∧(∀ k,(∃ p,Zs (σ d) k=some p)→(∃ p,Zs (σ' d) k=some p)→r k=X d k)∧
   (YA c.P (σ d) (σ' d)→∀ X':Nat→Nat→Option Nat,X' d=r→ZT c.P w lim X' σ' d (σ' d) (tm.getD d undef)):=by
  intro d
  have hd:=h.rel d
  have hno:∀ {y:AV},σ d=y→(∀ k,Zs y k=none)→∀ k,(∃ p,Zs (σ d) k=some p)→(∃ p,Zs (σ' d) k=some p)→(none:Option Nat)=X d k:=by
   rintro y he hy k ⟨p,hp⟩ _
   rw [he,hy k] at hp
   cases hp
  rcases hw d with hs | ⟨d',o,h1,h2,_⟩ | ⟨d',k,h1,h2,_⟩ | ⟨g,ds,h1,h2,_⟩
  ·obtain ⟨r,g1,g2,g4,g3⟩:=ZcQ hd hs
   exact ⟨r,g1,g2,g4,fun _ X' hX=>g3 X' σ' d hX⟩
  ·exact ⟨fun _=>none,fun _=>.inr rfl,fun hb=>by (rw [h2] at hb;cases hb),hno h1 (fun _=>rfl),fun hs=>((WJ hs).1 d' o h2).elim⟩
  ·exact ⟨fun _=>none,fun _=>.inr rfl,fun hb=>by (rw [h2] at hb;cases hb),hno h1 (fun _=>rfl),fun hs=>((WJ hs).2.1 d' k h2).elim⟩
  ·exact ⟨fun _=>none,fun _=>.inr rfl,fun hb=>by (rw [h2] at hb;cases hb),hno h1 (fun _=>rfl),fun hs=>((WJ hs).2.2 g ds h2).elim⟩
 obtain ⟨X',hX⟩:=Classical.axiomOfChoice key
 have hle:∀ d k b,X' d k=some b→X d k=some b:=by
  intro d k b hb
  rcases (hX d).1 k with e | e
  ·rw [← e];exact hb
  ·rw [e] at hb;cases hb
 refine ⟨X',⟨fun d=>?_,h.size,hout,fun d hd=>h.ghost d (hG d hd),fun d k d' k' b h1 h2=>h.dist d k d' k' b (hle _ _ _ h1) (hle _ _ _ h2),fun d k b hb=>h.ours d k b (hle _ _ _ hb),h.frm,fun d v hv=>⟨(h.pin d v hv).1,hpin d v hv⟩,
  fun d b hb=>⟨((hX d).2.1 (Wi (hgpin d b hb))).trans (h.gpin d b hb).1,hgpin d b hb⟩⟩⟩
 have hd:=h.rel d
 rcases hw d with hs | ⟨d2,o2,h1,h2,cs',h3⟩ | ⟨d2,k2,h1,h2,p2,h3⟩ | ⟨g,ds,h1,h2,h3⟩
 ·exact (hX d).2.2.2 hs X' rfl
 ·rw [h1] at hd
  obtain ⟨b,cs,g1,g2,g3⟩:=hd
  rw [h2]
  exact ⟨b,cs',by rw [(hX d2).2.1 (by rw [h3];rfl),g1],h3,g3⟩
 ·rw [h1] at hd
  obtain ⟨e,xs,g1,g2⟩:=hd
  rw [h2]
  refine ⟨e,xs,?_,by rw [(hX d2).2.2.1 k2 ⟨_,g1⟩ ⟨_,h3⟩];exact g2⟩
  rcases hw d2 with hs | ⟨d3,o3,q1,q2,_⟩ | ⟨d3,k3,q1,q2,_⟩ | ⟨g,ds,q1,q2,_⟩
  ·obtain ⟨m1,m2⟩:=Zg6 hs g1 (e':=p2.1) (xs':=p2.2) h3
   rw [h3,← m1,← m2]
  ·rw [q1] at g1;cases g1
  ·rw [q1] at g1;cases g1
  ·rw [q1] at g1;cases g1
 ·rw [h1] at hd
  obtain ⟨bs,g1,g2,g3⟩:=hd
  rw [h2]
  refine ⟨bs,g1,g2,fun i d' b hd' hb=>?_⟩
  have hB:=h3 d' (List.mem_of_getElem? hd')
  exact ⟨((hX d').2.1 hB).trans (g3 i d' b hd' hb).1,hB⟩
end Go.AM
end

section
namespace Go.AM
theorem ZgG:∀ (hs:List (Nat×HP)) (d:Nat) (h h':HP),(hs.map (·.1)).Nodup→(d,h)∈hs→(d,h')∈hs→h=h'
 | [], _, _, _, _, h, _ => by simp at h
 | p :: r, d, h, h', hn, h1, h2 => by
  rw [List.map_cons,List.nodup_cons] at hn
  rcases List.mem_cons.1 h1 with e1 | e1
  ·rcases List.mem_cons.1 h2 with e2 | e2
   ·rw [← e1] at e2
    exact (Prod.mk.inj e2).2.symm
   ·exact (hn.1 (by rw [← e1];exact List.mem_map.2 ⟨_,e2,rfl⟩)).elim
  ·rcases List.mem_cons.1 h2 with e2 | e2
   ·exact (hn.1 (by rw [← e2];exact List.mem_map.2 ⟨_,e1,rfl⟩)).elim
   ·exact ZgG r d h h' hn.2 e1 e2
theorem ZaM:∀ (us:List (Nat×AV)) (d:Nat) (x:AV),Wj us d=some x→(d,x)∈us
 | [], d, x, h => by simp [Wj] at h
 | (e, y) :: us, d, x, h => by
  simp only [Wj] at h
  cases hl:Wj us d with
  | some z =>
   rw [hl] at h
   simp only [Option.some.injEq] at h
   subst h
   exact List.mem_cons_of_mem _ (ZaM us d _ hl)
  | none =>
   rw [hl] at h
   simp only at h
   split at h
   ·rename_i hd
    simp only [Option.some.injEq] at h
    subst h
    subst hd
    exact List.mem_cons_self
   ·cases h
theorem Zgj {E:Env} {d:Nat} {h:HP} (hp:h.place E d=true):d < E.top∧(h.isG=true∨d < E.nt):=by
 cases h<;>simp only [HP.place,Bool.and_eq_true,decide_eq_true_eq] at hp
 case gbox l=>exact ⟨hp.2,.inl rfl⟩
 all_goals exact ⟨JQ hp,.inr hp⟩
theorem Vs {E:Env} {hs:List (Nat×HP)} (h:headOk E hs=true):(hs.map (·.1)).Nodup∧(∀ p∈hs,p.1 < E.top∧(p.2.isG=true∨p.1 < E.nt))∧((∀ d d' o,(d,HP.ptr d' o)∈hs→∃ l:HP,l.isBox=true∧(d',l)∈hs)∧∀ d d' k,(d,HP.mref d' k)∈hs→∃ l:HP,l.isPl k=true∧(d',l)∈hs)∧
  (∀ d∈E.pins,∃ l:HP,l.isBox=true∧(d,l)∈hs)∧(∀ d g ds,(d,HP.clo g ds)∈hs→∀ d'∈ds,∃ l:HP,(l.isBox||l.isG)=true∧(d',l)∈hs)∧∀ d,E.nt≤d→d < E.top→∃ l:HP,l.isG=true∧(d,l)∈hs:=by
 have hany:∀ (f:HP→Bool) (d:Nat),(hs.any fun q=>decide (q.1=d)&&f q.2)=true→∃ l:HP,f l=true∧(d,l)∈hs:=by
  intro f d hd
  rw [List.any_eq_true] at hd
  obtain ⟨q,hq,hd⟩:=hd
  obtain ⟨q1,q2⟩:=q
  simp only [Bool.and_eq_true,decide_eq_true_eq] at hd
  obtain ⟨rfl,hd⟩:=hd
  exact ⟨_,hd,hq⟩
 simp only [headOk,Bool.and_eq_true] at h
 obtain ⟨⟨⟨h1,h2⟩,h3⟩,h4⟩:=h
 rw [List.all_eq_true] at h2 h3 h4
 refine ⟨VF _ h1,fun p hp=>?_,⟨fun d d' o hm=>?_,fun d d' k hm=>?_⟩,fun d hd=>hany HP.isBox d (h3 d hd),fun d g ds hm d' hd'=>?_,fun d hd hd'=>?_⟩
 ·have:=h2 p hp
  simp only [Bool.and_eq_true] at this
  exact Zgj this.1
 ·have:=h2 _ hm
  simp only [Bool.and_eq_true] at this
  exact hany HP.isBox d' this.2
 ·have:=h2 _ hm
  simp only [Bool.and_eq_true] at this
  exact hany (fun h=>h.isPl k) d' this.2
 ·have:=h2 _ hm
  simp only [Bool.and_eq_true] at this
  have h5:=this.2
  rw [List.all_eq_true] at h5
  exact hany (fun h=>h.isBox||h.isG) d' (h5 d' hd')
 ·have:=h4 (d-E.nt) (List.mem_range.2 (by have:E.top=E.nt+E.ng:=rfl;omega))
  rw [show E.nt+(d-E.nt)=d by omega] at this
  exact hany HP.isG d this
theorem Zkd {P:Program} {E:Env} (hnt:E.top≤1024) {hs:List (Nat×HP)} (hok:headOk E hs=true) {s:Tr} {ρ ρ0:Nat→V} {ves:List VE} (hv:Yk P (gE E s) hs=some ves) :
  (∀ d,d∉hs.map (·.1)→Ja E (Ju (ZU hs 0).1 (.leaf .dead)) (bind ρ0 0 (ves.map (VE.den ρ))) d = .dead)∧
  ∀ d h,(d,h)∈hs→∃ m,Ja E (Ju (ZU hs 0).1 (.leaf .dead)) (bind ρ0 0 (ves.map (VE.den ρ))) d=Vl h (ves.map (VE.den ρ)) m∧
   (ZnO h (Ja E s ρ d)∨YA P (Ja E s ρ d) (Vl h (ves.map (VE.den ρ)) m)):=by
 obtain ⟨k1,k2,k3,k4,k5,k6⟩:=Vs hok
 obtain ⟨h1,h2,h3⟩:=Y0 (P:=P) (g:=gE E s) (ρ:=ρ) hs 0 ves [] hv rfl
 have hl:Vq E (ZU hs 0).1:=by
  unfold Vq
  rw [List.all_eq_true]
  intro u hu
  have hm:u.1∈hs.map (·.1):=by rw [← h2];exact List.mem_map.2 ⟨u,hu,rfl⟩
  obtain ⟨p,hp,he⟩:=List.mem_map.1 hm
  have:=(k2 p hp).1
  rw [he] at this
  simpa using this
 have hdead:∀ d,Ja E (.leaf .dead) (bind ρ0 0 (ves.map (VE.den ρ))) d = .dead:=by
  intro d
  simp only [Ja,gE]
  split<;>rfl
 have hfst:((ZU hs 0).1.map fun u=>(u.1,u.2.den (bind ρ0 0 (ves.map (VE.den ρ))))).map (·.1)=hs.map (·.1):=by rw [List.map_map];exact h2
 rw [J5 hnt _ _ _ hl]
 refine ⟨fun d hd=>?_,fun d h hm=>?_⟩
 ·rw [Ji,Yq _ d (by rw [hfst];exact hd),hdead]
  rfl
 ·obtain ⟨x,hx⟩:=KI ((ZU hs 0).1.map fun u=>(u.1,u.2.den (bind ρ0 0 (ves.map (VE.den ρ))))) d (by rw [hfst];exact List.mem_map.2 ⟨_,hm,rfl⟩)
  obtain ⟨u,hu,he⟩:=List.mem_map.1 (ZaM _ _ _ hx)
  simp only [Prod.mk.injEq] at he
  obtain ⟨rfl,rfl⟩:=he
  obtain ⟨h',g1,m,g2,g3,g4,g5⟩:=h3 u hu
  have:h'=h:=ZgG hs u.1 h' h k1 g1 hm
  subst this
  have hden:u.2.den (bind ρ0 0 (ves.map (VE.den ρ)))=Vl h' (ves.map (VE.den ρ)) m:=by
   rw [g2]
   refine Zg4 g4 fun j hj=>?_
   have hlt:m+j < (ves.map (VE.den ρ)).length:=by rw [List.length_map];omega
   have:=ZeL.bind ρ0 0 (ves.map (VE.den ρ)) (m+j) _ (List.getElem?_eq_getElem hlt)
   rw [Nat.zero_add] at this
   rw [this,vAt,List.getElem?_eq_getElem hlt]
   rfl
  refine ⟨m,?_,?_⟩
  ·rw [Ji,hx,← hden]
   rfl
  ·have:=g5 []
   simp only [List.nil_append,List.append_nil] at this
   exact this
theorem Zc0:∀ (l:List Sh) (us:List V) (j k:Nat) (s:Sh),l[k]? = some s→(Z2 l us j)[k]? = some (Yz s (vAt us (j+k)))
 | [], _, _, _, _, h => by simp at h
 | t :: ts, us, j, 0, s, h => by
  simp only [List.getElem?_cons_zero,Option.some.injEq] at h
  subst h
  rfl
 | t :: ts, us, j, k + 1, s, h => by
  have:=Zc0 ts us (j+1) k s (by simpa using h)
  rw [show j+1+k=j+(k+1) by omega] at this
  simpa [Z2] using this
theorem ZiB {h:HP} {k:Nat} (hk:h.isPl k=true) (us:List V) (m:Nat):∃ p,Zs (Vl h us m) k=some p:=by
 unfold HP.isPl at hk
 split at hk
 ·exact ⟨_,rfl⟩
 ·rename_i l k
  split at hk
  ·rename_i e hl
   have:=Zc0 l us m k _ hl
   refine ⟨(e,(vAt us (m+k)).list),?_⟩
   simp only [Vl,Zs,this,Yz]
  ·cases hk
 ·cases hk
theorem ZeE {P:Program} {E:Env} (hnt:E.top≤1024) {c:Ctx} (hcP:c.P=P) (hcn:c.nt=E.nt) (hpin:∀ d v,c.pin d=some v→d∈E.pins) (hgpin:∀ d b,c.gpin d=some b→E.nt≤d∧d < E.top) {hs:List (Nat×HP)} (hok:headOk E hs=true) {s:Tr} {ρ:Nat→V} (ρ0:Nat→V) {ves:List VE}
  (hv:Yk P (gE E s) hs=some ves) {tm:Array Value} {w:World} {lim:Nat→Nat} {X:Nat→Nat→Option Nat} (hsim:Sim c (Ja E s ρ) tm w lim X) :
  ∃ X',Sim c (Ja E (Ju (ZU hs 0).1 (.leaf .dead)) (bind ρ0 0 (ves.map (VE.den ρ)))) tm w lim X':=by
 obtain ⟨k1,k2,k3,k4,k5,k6⟩:=Vs hok
 obtain ⟨h1,h2⟩:=Zkd (P:=P) hnt hok (ρ0:=ρ0) (ρ:=ρ) hv
 have hbox:∀ d (l:HP),l.isBox=true→(d,l)∈hs→∃ cs,Ja E (Ju (ZU hs 0).1 (.leaf .dead)) (bind ρ0 0 (ves.map (VE.den ρ))) d = .box cs:=by
  intro d l hl hm
  obtain ⟨m,g1,_⟩:=h2 d _ hm
  cases l<;>simp [HP.isBox] at hl<;>exact ⟨_,g1⟩
 have hgb:∀ d (l:HP),l.isG=true→(d,l)∈hs→(Ja E (Ju (ZU hs 0).1 (.leaf .dead)) (bind ρ0 0 (ves.map (VE.den ρ))) d).isG=true:=by
  intro d l hl hm
  obtain ⟨m,g1,_⟩:=h2 d _ hm
  rw [g1]
  cases l<;>simp [HP.isG] at hl<;>rfl
 refine hsim.head (fun d=>?_) (fun d hd=>?_) (fun d v hp=>?_) fun d b hp=>?_
 ·by_cases hm:d∈hs.map (·.1)
  ·obtain ⟨p,hp,rfl⟩:=List.mem_map.1 hm
   obtain ⟨m,g1,g2⟩:=h2 p.1 p.2 hp
   unfold Zkk
   rw [g1,hcP]
   rcases g2 with (⟨d',o,g2,g3⟩ | ⟨d',k,g2,g3⟩ | ⟨g,ds,g2,g3⟩) | g2
   ·obtain ⟨l,hl,hm⟩:=k3.1 p.1 d' o (by rw [← g2];exact hp)
    exact .inr (.inl ⟨d',o,g3,by rw [g2];rfl,hbox d' l hl hm⟩)
   ·obtain ⟨l,hl,hm⟩:=k3.2 p.1 d' k (by rw [← g2];exact hp)
    obtain ⟨m',q1,_⟩:=h2 d' l hm
    exact .inr (.inr (.inl ⟨d',k,g3,by rw [g2];rfl,by rw [q1];exact ZiB hl _ _⟩))
   ·refine .inr (.inr (.inr ⟨g,ds,g3,by rw [g2];rfl,fun d' hd'=>?_⟩))
    obtain ⟨l,hl,hm⟩:=k5 p.1 g ds (by rw [← g2];exact hp) d' hd'
    rw [Bool.or_eq_true] at hl
    rcases hl with hl | hl
    ·obtain ⟨cs,hcs⟩:=hbox d' l hl hm
     rw [hcs];rfl
    ·exact Wi (hgb d' l hl hm)
   ·exact .inl g2
  ·unfold Zkk
   rw [h1 d hm]
   exact .inl .dead
 ·by_cases hm:d∈hs.map (·.1)
  ·obtain ⟨p,hp,rfl⟩:=List.mem_map.1 hm
   rcases (k2 p hp).2 with h3 | h3
   ·exact .inr (hgb p.1 p.2 h3 hp)
   ·omega
  ·exact .inl (h1 d hm)
 ·obtain ⟨l,hl,hm⟩:=k4 d (hpin d v hp)
  exact hbox d l hl hm
 ·obtain ⟨m1,m2⟩:=hgpin d b hp
  obtain ⟨l,hl,hm⟩:=k6 d m1 m2
  exact hgb d l hl hm
theorem Zdg {ops:Array Oper} {x a d:Nat} {T:TypeId} {neg:Bool} (h:Zek ops=some (x,a,d,T,neg)) :
  ∃ o p U,ops.toList = [o,p]∧o.guard=none∧p.guard=none∧o.op = .move (.tmp x)∧o.dst=some a∧p.op = .binOp (if neg=true then .neq else .eql) T (.tmp a) (.const (.slice none 0 0)) U∧p.dst=some d:=by
 unfold Zek at h
 split at h
 ·rename_i o p hops
  split at h
  ·rename_i hg
   simp only [Option.isNone_iff_eq_none] at hg
   split at h
   ·rename_i h1 h2 h3 h4
    split at h
    ·rename_i hb
     subst hb
     simp only [Option.some.injEq,Prod.mk.injEq] at h
     obtain ⟨rfl,rfl,rfl,rfl,rfl⟩:=h
     exact ⟨o,p,_,hops,hg.1,hg.2,h1,h2,by simpa using h3,h4⟩
    ·cases h
   ·rename_i h1 h2 h3 h4
    split at h
    ·rename_i hb
     subst hb
     simp only [Option.some.injEq,Prod.mk.injEq] at h
     obtain ⟨rfl,rfl,rfl,rfl,rfl⟩:=h
     exact ⟨o,p,_,hops,hg.1,hg.2,h1,h2,by simpa using h3,h4⟩
    ·cases h
   ·cases h
  ·cases h
 ·cases h
theorem Za9 {ops:Array Oper} {x i a b c:Nat} {T:TypeId} (h:Zas ops=some (x,i,a,b,c,T)) :
  ∃ o p q r,ops.toList = [o,p,q,r]∧o.guard=none∧p.guard=none∧q.guard=none∧r.guard=none∧o.op = .move (.tmp x)∧o.dst=some a∧p.op = .move (.tmp i)∧p.dst=some b∧
   q.op = .slice T (.tmp a) (some (.tmp b)) none none∧q.dst=some c∧(∃ cl,r.op = .call cl∧cl.callee = .builtin .clear∧cl.args = #[.tmp c]∧cl.argTypes = #[T])∧r.dst=none:=by
 unfold Zas at h
 split at h
 case h_2=>cases h
 rename_i o p q r hops
 split at h
 case isFalse=>cases h
 rename_i hg
 simp only [Option.isNone_iff_eq_none] at hg
 split at h
 case h_2=>cases h
 rename_i x' a' i' b' h1 h2 h3 h4
 split at h
 case h_2=>cases h
 rename_i T' a'' b'' c' cl h5 h6 h7 h8
 split at h
 case h_2=>cases h
 rename_i c'' T'' h9 h10 h11
 split at h
 case isFalse=>cases h
 rename_i he
 obtain ⟨e1,e2,e3,e4⟩:=he
 subst e1 e2 e3 e4
 simp only [Option.some.injEq,Prod.mk.injEq] at h
 obtain ⟨rfl,rfl,rfl,rfl,rfl,rfl⟩:=h
 exact ⟨o,p,q,r,hops,hg.1,hg.2.1,hg.2.2.1,hg.2.2.2,h1,h2,h3,h4,h5,h6,⟨cl,h7,h9,by rw [← h10,Array.toArray_toList],by rw [← h11,Array.toArray_toList]⟩,h8⟩
theorem ZfN {P:Program} {w:World} {lim:Nat→Nat} {X:Nat→Nat→Option Nat} {σ:Nat→AV} {d:Nat} {x:SV} {l:LE} {ρ:Nat→V} {v:Value} (hx:ZhY x=some l) (h:ZT P w lim X σ d (x.den ρ) v) :
  ∃ a k cap,v = .slice a k cap∧(a.isNone=true→l.den ρ = []):=by
 have hrep:∀ f s,Rep w lim (.slice f s (l.den ρ)) v→∃ a k cap,v = .slice a k cap∧(a.isNone=true→l.den ρ = []):=by
  intro f s hr
  have key:∀ y,Rep w lim y v→y = .slice f s (l.den ρ)→∃ a k cap,v = .slice a k cap∧(a.isNone=true→l.den ρ = []):=by
   intro y hy hye
   cases hy with
   | sliceN => injection hye with _ _ h3; exact ⟨none, 0, 0, rfl, fun _ => h3.symm⟩
   | sliceE _ => injection hye with _ _ h3; exact ⟨_, _, _, rfl, fun _ => h3.symm⟩
   | sliceC _ _ _ _ _ _ _ _ => exact ⟨_, _, _, rfl, fun h => by cases h⟩
   | val _ => cases hye
   | agg _ _ _ => cases hye
  exact key _ hr rfl
 unfold ZhY at hx
 split at hx
 ·simp only [Option.some.injEq] at hx
  subst hx
  exact hrep _ _ h
 ·simp only [Option.some.injEq] at hx
  subst hx
  rcases Jt.sliceV (show Jt P w lim _ _ _ v (X d 0) from h) with ⟨_,h1,h2 | ⟨a,h2⟩⟩ | ⟨b,arr,cap,_,_,_,h2⟩
  ·exact ⟨none,0,0,h2,fun _=>List.eq_nil_of_length_eq_zero h1⟩
  ·exact ⟨_,_,_,h2,fun h=>by cases h⟩
  ·exact ⟨_,_,_,h2,fun h=>by cases h⟩
 ·cases hx
theorem Sim.refit {c:Ctx} {σ σ':Nat→AV} {tm:Array Value} {w:World} {lim lim':Nat→Nat} {X:Nat→Nat→Option Nat} {S:Nat→Prop} (h:Sim c σ tm w lim X) (hw:Jd w lim w lim' S) (hS:∀ b,S b→c.A b∨c.w0.heap.size≤b)
  (hrel:∀ i,ZT c.P w lim' X σ' i (σ' i) (tm.getD i undef)) (hout:∀ i,c.nt≤i→σ' i = .dead∨(σ' i).isG=true) (hG:∀ i,(σ' i).isG=(σ i).isG) (hB:∀ i cs,σ i = .box cs→∃ cs',σ' i = .box cs'):Sim c σ' tm w lim' X where
 rel:=hrel
 size:=h.size
 out:=hout
 ghost d hd:=h.ghost d (by rw [← hG];exact hd)
 dist:=h.dist
 ours:=h.ours
 frm:=h.frm.step hw hS
 pin d v hv:=by
  obtain ⟨h1,cs,h2⟩:=h.pin d v hv
  exact ⟨h1,hB d cs h2⟩
 gpin d b hb:=by
  obtain ⟨h1,h2⟩:=h.gpin d b hb
  exact ⟨h1,by rw [hG];exact h2⟩
theorem Sim.freeze {c:Ctx} {σ:Nat→AV} {tm:Array Value} {w:World} {lim:Nat→Nat} {X:Nat→Nat→Option Nat} (h:Sim c σ tm w lim X) {d q:Nat} {e:TypeId} {xs:List (List AV)} {us:List (Nat×AV)} (hp:Zs (σ d) q=some (e,xs))
  (hs0:c.P.cellsOf e≠0) (h1:∀ u∈us,u.1≠d∧((σ u.1 = .mref d q∧u.2 = .slice false (c.P.cellsOf e) xs)∨((∃ o,σ u.1 = .eref d q o)∧u.2 = .dead))) (h2:∀ i,Jq (σ i) d q→i∈us.map (·.1)) :
  ∃ lim',Sim c (JJ (upd σ d (ZW (σ d) q false e xs)) us) tm w lim' X:=by
 obtain ⟨v0,ho⟩:=Kn h hp
 refine ⟨fun b=>if X d q=some b then xs.length*c.P.cellsOf e else lim b,?_⟩
 have hlim0:∀ b,X d q=some b→lim b=0:=by
  intro b hb
  rw [hb] at ho
  obtain ⟨_,_,_,_,g,_⟩:=Ks ho
  exact g
 have hw:Jd w lim w (fun b=>if X d q=some b then xs.length*c.P.cellsOf e else lim b) (fun b=>X d q=some b):=by
  refine ⟨rfl,rfl,rfl,Nat.le_refl _,fun _ _=>rfl,fun b _ hb=>⟨rfl,if_neg hb⟩,fun b _=>⟨?_,fun _ _ _ hu=>hu⟩⟩
  show lim b≤if X d q=some b then xs.length*c.P.cellsOf e else lim b
  split
  ·rename_i hb;rw [hlim0 b hb];exact Nat.zero_le _
  ·exact Nat.le_refl _
 have hnew:∀ v,Jt c.P w lim true e xs v (X d q)→Jt c.P w (fun b=>if X d q=some b then xs.length*c.P.cellsOf e else lim b) false e xs v (X d q):=by
  intro v hv
  rcases hv with ⟨ws,g1,g2,g3,g4,g5,g6⟩ | hv
  ·refine .inl ⟨ws,g1,g2,fun b hb=>?_,g4,g5,fun j z u hz hu=>(g6 j z u hz hu).mono hw.ext⟩
   show (if X d q=some b then xs.length*c.P.cellsOf e else lim b)=_
   rw [if_pos hb,if_neg (by simp),g1.1]
  ·exact .inr hv
 have hkept:∀ i k b,(i≠d∨k≠q)→X i k=some b→ZkM w lim w (fun b=>if X d q=some b then xs.length*c.P.cellsOf e else lim b) b:=by
  intro i k b hik hb
  refine ⟨rfl,if_neg fun hb'=>?_⟩
  obtain ⟨e1,e2⟩:=h.dist i k d q b hb hb'
  exact hik.elim (fun h=>h e1) fun h=>h e2
 have hdu:d∉us.map (·.1):=by
  intro hm
  obtain ⟨u,hu,rfl⟩:=List.mem_map.1 hm
  exact (h1 u hu).1 rfl
 -- what stands where
 have hat:∀ i,i≠d→(i∉us.map (·.1)∧JJ (upd σ d (ZW (σ d) q false e xs)) us i=σ i)∨
   (σ i = .mref d q∧JJ (upd σ d (ZW (σ d) q false e xs)) us i = .slice false (c.P.cellsOf e) xs)∨((∃ o,σ i = .eref d q o)∧JJ (upd σ d (ZW (σ d) q false e xs)) us i = .dead):=by
  intro i hi
  rw [Ji]
  by_cases hm:i∈us.map (·.1)
  ·obtain ⟨x,hx⟩:=KI us i hm
   rw [hx]
   rcases (h1 _ (ZaM us i x hx)).2 with ⟨g1,g2⟩ | ⟨g1,g2⟩
   ·exact .inr (.inl ⟨g1,g2⟩)
   ·exact .inr (.inr ⟨g1,g2⟩)
  ·rw [Yq us i hm]
   exact .inl ⟨hm,Zi _ _ hi⟩
 have hatd:JJ (upd σ d (ZW (σ d) q false e xs)) us d=ZW (σ d) q false e xs:=by
  rw [Ji,Yq us d hdu]
  exact Jf _ _ _
 have hdG:(ZW (σ d) q false e xs).isG=false∧(σ d).isG=false:=by
  rcases Zu hp with ⟨g1,rfl⟩ | ⟨cs,k,g1,rfl,_⟩ <;> rw [g1]<;>exact ⟨rfl,rfl⟩
 have hdB:∀ cs,σ d = .box cs→∃ cs',ZW (σ d) q false e xs = .box cs':=by
  intro cs hcs
  rcases Zu hp with ⟨g1,rfl⟩ | ⟨cs',k,g1,rfl,_⟩
  ·rw [g1] at hcs;cases hcs
  ·rw [g1];exact ⟨_,rfl⟩
 have hGall:∀ i,(JJ (upd σ d (ZW (σ d) q false e xs)) us i).isG=(σ i).isG:=by
  intro i
  by_cases hi:i=d
  ·subst hi;rw [hatd,hdG.1,hdG.2]
  ·rcases hat i hi with ⟨_,g⟩ | ⟨g,g'⟩ | ⟨⟨o,g⟩,g'⟩
   ·rw [g]
   ·rw [g,g'];rfl
   ·rw [g,g'];rfl
 have hBall:∀ i cs,σ i = .box cs→∃ cs',JJ (upd σ d (ZW (σ d) q false e xs)) us i = .box cs':=by
  intro i cs hcs
  by_cases hi:i=d
  ·subst hi;rw [hatd];exact hdB cs hcs
  ·rcases hat i hi with ⟨_,g⟩ | ⟨g,g'⟩ | ⟨⟨o,g⟩,g'⟩
   ·exact ⟨cs,g.trans hcs⟩
   ·rw [g] at hcs;cases hcs
   ·rw [g] at hcs;cases hcs
 refine h.refit hw (fun b hb=>(h.ours d q b hb).2) (fun i=>?_) (fun i hi=>?_) hGall hBall
 ·by_cases hi:i=d
  ·subst hi
   rw [hatd]
   have hr:=h.rel i
   rcases Zu hp with ⟨g1,rfl⟩ | ⟨cs,k,g1,rfl,g2⟩
   ·rw [g1] at hr ⊢
    exact hnew _ hr
   ·rw [g1] at hr ⊢
    obtain ⟨b,arr,t,k1,k2,k3,k4,k5,k6,k7⟩:=(show ZP c.P w lim (X i) cs _ from hr)
    refine ⟨b,arr,t,k1,k2,k3,by rw [List.length_set];exact k4,((hkept i 0 b (.inr (by omega)) k1).2).trans k5,fun x hx=>?_,fun j x u hx hu=>?_⟩
    ·rcases List.mem_or_eq_of_mem_set hx with hx | hx
     ·exact k6 x hx
     ·exact .inr ⟨_,_,_,hx⟩
    ·by_cases hj:j=k
     ·subst hj
      rw [List.getElem?_set_self (List.getElem?_eq_some_iff.1 g2).1] at hx
      simp only [Option.some.injEq] at hx
      subst hx
      exact hnew u (k7 j _ u g2 hu)
     ·rw [List.getElem?_set_ne (fun h=>hj h.symm)] at hx
      exact (k7 j x u hx hu).mono hw.ext fun b' hb'=>hkept i (j+1) b' (.inr (by omega)) hb'
  ·rcases hat i hi with ⟨hm,g⟩ | ⟨g,g'⟩ | ⟨⟨o,g⟩,g'⟩
   ·rw [g]
    have hr:=(h.rel i).mono hw.ext (fun k b hb=>hkept i k b (.inl hi) hb) fun d' k b _ _=>.of rfl
    refine hr.chg rfl (fun d' cs hd'=>⟨hBall d' cs hd',rfl⟩) (fun d' hd'=>⟨by rw [hGall];exact hd',rfl⟩) fun d' k hrf=>⟨?_,rfl⟩
    by_cases hdd:d'=d
    ·subst hdd
     rw [hatd]
     have hkq:k≠q:=fun he=>hm (h2 i (he ▸ hrf))
     intro e' ys hy
     rcases Zu hy with ⟨m1,rfl⟩ | ⟨cs,k',m1,rfl,m2⟩
     ·rcases Zu hp with ⟨_,h0⟩ | ⟨_,_,h0,_⟩
      ·exact (hkq h0.symm).elim
      ·rw [m1] at h0;cases h0
     ·rcases Zu hp with ⟨h0,_⟩ | ⟨cs2,q',h0,rfl,_⟩
      ·rw [m1] at h0;cases h0
      ·refine ⟨ys,?_,rfl⟩
       rw [m1]
       simp only [ZW,Zs]
       rw [List.getElem?_set_ne (by omega),m2]
    ·rcases hat d' hdd with ⟨_,m⟩ | ⟨m,m'⟩ | ⟨⟨o,m⟩,m'⟩
     ·rw [m];exact VM.refl _ _
     ·intro e' ys hy
      rw [m] at hy;cases hy
     ·intro e' ys hy
      rw [m] at hy;cases hy
   ·rw [g']
    have hr:=h.rel i
    rw [g] at hr
    obtain ⟨e',xs',k1,k2⟩:=hr
    rw [hp] at k1
    simp only [Option.some.injEq,Prod.mk.injEq] at k1
    obtain ⟨rfl,rfl⟩:=k1
    show Rep w _ _ _
    rcases k2 with ⟨_,k2,k3 | ⟨a,k3⟩⟩ | ⟨b,arr,cap,k2,k3,k4,k5⟩
    ·have:xs = []:=List.eq_nil_of_length_eq_zero k2
     subst this
     rw [k3];exact .sliceN
    ·have:xs = []:=List.eq_nil_of_length_eq_zero k2
     subst this
     rw [k3];exact .sliceE fun h=>by cases h
    ·have ho':=ho
     rw [k2] at ho'
     obtain ⟨arr0,cap0,m1,m2,_,_,_,m6,_⟩:=Ks ho'
     rw [k3] at m2
     simp only [Option.some.injEq,Obj.cells.injEq,and_true] at m2
     subst m2
     have hcap:cap=cap0:=Nat.eq_of_mul_eq_mul_right (by omega) (k4.symm.trans m6)
     subst hcap
     rw [k5,← m1]
     exact Jt.rep (hnew v0 ho) false rfl
   ·rw [g']
    trivial
 ·by_cases hid:i=d
  ·subst hid
   rcases h.out i hi with h0 | h0
   ·rw [h0] at hp;cases hp
   ·rw [hdG.2] at h0;cases h0
  ·rcases hat i hid with ⟨_,g⟩ | ⟨g,_⟩ | ⟨⟨o,g⟩,_⟩
   ·rw [g];exact h.out i hi
   ·rcases h.out i hi with h0 | h0<;>rw [g] at h0<;>cases h0
   ·rcases h.out i hi with h0 | h0<;>rw [g] at h0<;>cases h0
theorem JX {P:Program} {g:Nat→SV} {d q:Nat} {e:TypeId} {l:LE} : ∀ (n:Nat) (u:Nat×SV),u∈YP P g d q e l n↔u.1 < n∧((g u.1 = .mref d q∧u.2 = .c (.slice false (P.cellsOf e) l))∨((∃ i s o,g u.1 = .eref d q i s o)∧u.2 = .dead))
 | 0, u => by simp [YP]
 | n + 1, u => by
  have ih:=JX (P:=P) (g:=g) (d:=d) (q:=q) (e:=e) (l:=l) n u
  have up:∀ {p:Prop},(u.1 < n∧p)→(u.1 < n+1∧p):=fun h=>⟨by omega,h.2⟩
  simp only [YP]
  split
  ·rename_i d' q' hg
   split
   ·rename_i hh
    obtain ⟨rfl,rfl⟩:=hh
    rw [List.mem_cons,ih]
    constructor
    ·rintro (rfl | h)
     ·exact ⟨Nat.lt_succ_self n,.inl ⟨hg,rfl⟩⟩
     ·exact up h
    ·rintro ⟨h1,h2⟩
     by_cases hn:u.1=n
     ·left
      obtain ⟨a,b⟩:=u
      simp only at hn h2
      subst hn
      rcases h2 with ⟨_,h2⟩ | ⟨⟨_,_,_,h2⟩,_⟩
      ·rw [h2]
      ·rw [hg] at h2;cases h2
     ·exact .inr ⟨by omega,h2⟩
   ·rename_i hh
    rw [ih]
    refine ⟨up,fun ⟨h1,h2⟩=>⟨?_,h2⟩⟩
    by_cases hn:u.1=n
    ·rw [hn,hg] at h2
     rcases h2 with ⟨h2,_⟩ | ⟨⟨_,_,_,h2⟩,_⟩
     ·cases h2;exact (hh ⟨rfl,rfl⟩).elim
     ·cases h2
    ·omega
  ·rename_i d' q' i s o hg
   split
   ·rename_i hh
    obtain ⟨rfl,rfl⟩:=hh
    rw [List.mem_cons,ih]
    constructor
    ·rintro (rfl | h)
     ·exact ⟨Nat.lt_succ_self n,.inr ⟨⟨_,_,_,hg⟩,rfl⟩⟩
     ·exact up h
    ·rintro ⟨h1,h2⟩
     by_cases hn:u.1=n
     ·left
      obtain ⟨a,b⟩:=u
      simp only at hn h2
      subst hn
      rcases h2 with ⟨h2,_⟩ | ⟨_,h2⟩
      ·rw [hg] at h2;cases h2
      ·rw [h2]
     ·exact .inr ⟨by omega,h2⟩
   ·rename_i hh
    rw [ih]
    refine ⟨up,fun ⟨h1,h2⟩=>⟨?_,h2⟩⟩
    by_cases hn:u.1=n
    ·rw [hn,hg] at h2
     rcases h2 with ⟨h2,_⟩ | ⟨⟨_,_,_,h2⟩,_⟩
     ·cases h2
     ·cases h2;exact (hh ⟨rfl,rfl⟩).elim
    ·omega
  ·rename_i h1 h2
   rw [ih]
   refine ⟨up,fun ⟨g1,g2⟩=>⟨?_,g2⟩⟩
   by_cases hn:u.1=n
   ·rw [hn] at g2
    rcases g2 with ⟨g2,_⟩ | ⟨⟨_,_,_,g2⟩,_⟩
    ·exact (h1 _ _ g2).elim
    ·exact (h2 _ _ _ _ _ g2).elim
   ·omega
theorem Zcl {P:Program} {E:Env} (hnt:E.top≤1024) {c:Ctx} (hcP:c.P=P) {s:Tr} {n:Nat} {ρ:Nat→V} (p:Nat×Nat) {tm:Array Value} {w:World} (hs:KB E s n) (h:∃ lim X,Sim c (Ja E s ρ) tm w lim X) :
  KB E (YQ P E s p) n∧∃ lim X,Sim c (Ja E (YQ P E s p) ρ) tm w lim X:=by
 unfold YQ
 split
 ·rename_i e l hp
  split
  ·rename_i hh
   have hlow:Vq E ((p.1,YC (gE E s p.1) p.2 false e l)::YP P (gE E s) p.1 p.2 e l E.top):=by
    unfold Vq
    rw [List.all_eq_true]
    intro u hu
    rcases List.mem_cons.1 hu with rfl | hu
    ·simpa using JQ hh.1
    ·simpa using ((JX E.top u).1 hu).1
   have hl:=KR hp (hs p.1)
   refine ⟨JI hnt _ _ hlow hs fun u hu=>?_,?_⟩
   ·rcases List.mem_cons.1 hu with rfl | hu
    ·exact Vv (hs p.1) hl
    ·rcases ((JX E.top u).1 hu).2 with ⟨_,h2⟩ | ⟨_,h2⟩ <;> rw [h2]
     ·exact hl
     ·trivial
   ·obtain ⟨lim,X,hsim⟩:=h
    rw [J5 hnt _ _ _ hlow]
    have hA:∀ u∈((YP P (gE E s) p.1 p.2 e l E.top).map fun u=>(u.1,u.2.den ρ)),u.1≠p.1∧((Ja E s ρ u.1 = .mref p.1 p.2∧u.2 = .slice false (c.P.cellsOf e) (l.den ρ))∨((∃ o,Ja E s ρ u.1 = .eref p.1 p.2 o)∧u.2 = .dead)):=by
     intro u hu
     obtain ⟨v,hv,rfl⟩:=List.mem_map.1 hu
     have hne:v.1≠p.1:=by
      intro he
      have h2:=((JX E.top v).1 hv).2
      rw [he] at h2
      rcases h2 with ⟨h2,_⟩ | ⟨⟨_,_,_,h2⟩,_⟩ <;> rw [h2] at hp<;>cases hp
     refine ⟨hne,?_⟩
     rcases ((JX E.top v).1 hv).2 with ⟨h1,h2⟩ | ⟨⟨i,s',o,h1⟩,h2⟩
     ·exact .inl ⟨by show (gE E s v.1).den ρ=_;rw [h1];rfl,by rw [h2,hcP];rfl⟩
     ·exact .inr ⟨⟨_,by show (gE E s v.1).den ρ=_;rw [h1];rfl⟩,by rw [h2];rfl⟩
    have hB:∀ i,Jq (Ja E s ρ i) p.1 p.2→i∈((YP P (gE E s) p.1 p.2 e l E.top).map fun u=>(u.1,u.2.den ρ)).map (·.1):=by
     intro i hi
     rw [List.map_map]
     have hi':Jq ((gE E s i).den ρ) p.1 p.2:=hi
     have hlt:i < E.top:=by
      rcases Nat.lt_or_ge i E.top with h | h
      ·exact h
      ·rw [ZgO s i h] at hi'
       rcases hi' with h0 | ⟨_,h0⟩ <;> cases h0
     have hex:∃ x,(i,x)∈YP P (gE E s) p.1 p.2 e l E.top:=by
      cases hg:gE E s i with
      | mref d' q' =>
       rw [hg] at hi'
       rcases hi' with h0 | ⟨_,h0⟩ <;> cases h0
       exact ⟨_,(JX E.top (i,_)).2 ⟨hlt,.inl ⟨hg,rfl⟩⟩⟩
      | eref d' q' a b o =>
       rw [hg] at hi'
       rcases hi' with h0 | ⟨_,h0⟩ <;> cases h0
       exact ⟨_,(JX E.top (i,_)).2 ⟨hlt,.inr ⟨⟨_,_,_,hg⟩,rfl⟩⟩⟩
      | c y => rw [hg] at hi'; rcases hi' with h0 | ⟨_, h0⟩ <;> cases y <;> cases h0
      | _ => rw [hg] at hi'; rcases hi' with h0 | ⟨_, h0⟩ <;> cases h0
     obtain ⟨x,hx⟩:=hex
     exact List.mem_map.2 ⟨_,hx,rfl⟩
    obtain ⟨lim',hf⟩:=hsim.freeze (d:=p.1) (q:=p.2) (JZ ρ hp) (by rw [hcP];omega) hA hB
    refine ⟨lim',X,?_⟩
    rw [List.map_cons,Ky]
    exact hf
  ·exact ⟨hs,h⟩
 ·exact ⟨hs,h⟩
theorem Zem {E:Env} (hnt:E.top≤1024) {c:Ctx} {used:List Nat} {s:Tr} {n:Nat} {ρ:Nat→V} (d:Nat) {tm:Array Value} {w:World} (hs:KB E s n) (h:∃ lim X,Sim c (Ja E s ρ) tm w lim X) :
  KB E (We E used s d) n∧∃ lim X,Sim c (Ja E (We E used s d) ρ) tm w lim X:=by
 unfold We
 split
 ·rename_i e l hp
  split
  ·rename_i hh
   have hlow:Vq E ((d,.dead)::JK (gE E s) d E.top):=by
    unfold Vq
    rw [List.all_eq_true]
    intro u hu
    rcases List.mem_cons.1 hu with rfl | hu
    ·simpa using JQ hh.1
    ·simpa using ((J3 E.top u).1 hu).2.1
   refine ⟨JI hnt _ _ hlow hs fun u hu=>?_,?_⟩
   ·rcases List.mem_cons.1 hu with rfl | hu
    ·trivial
    ·rw [((J3 E.top u).1 hu).1];trivial
   ·obtain ⟨lim,X,hsim⟩:=h
    rw [J5 hnt _ _ _ hlow]
    have hd:Y6 (Ja E s ρ) d ((JK (gE E s) d E.top).map fun u=>(u.1,u.2.den ρ)):=Y2 (g:=gE E s) ρ (ZgO s)
    obtain ⟨X',h1,_⟩:=hsim.freeAll (t:=d) (x:=true) (e:=e) (xs:=l.den ρ) (by show (gE E s d).den ρ=_;rw [hp];rfl) (.inr hd)
    exact ⟨lim,X',h1⟩
  ·exact ⟨hs,h⟩
 ·exact ⟨hs,h⟩
theorem ZiV {P:Program} {E:Env} (hnt:E.top≤1024) {c:Ctx} (hcP:c.P=P) {id:Nat} {ops:Array Oper} {s:Tr} {n:Nat} {ρ:Nat→V} {tm:Array Value} {w:World} {lim:Nat→Nat} {X:Nat→Nat→Option Nat} (hs:KB E s n) (h:Sim c (Ja E s ρ) tm w lim X) :
  KB E (ZnA P E id ops s) n∧∃ lim X,Sim c (Ja E (ZnA P E id ops s) ρ) tm w lim X:=by
 have step1:∀ (l:List (Nat×Nat)) (s:Tr),KB E s n→(∃ lim X,Sim c (Ja E s ρ) tm w lim X)→KB E (l.foldl (YQ P E) s) n∧∃ lim X,Sim c (Ja E (l.foldl (YQ P E) s) ρ) tm w lim X:=by
  intro l
  induction l with
  | nil => exact fun s h1 h2 => ⟨h1, h2⟩
  | cons p l ih =>
   intro s h1 h2
   obtain ⟨g1,g2⟩:=Zcl hnt hcP p h1 h2
   exact ih _ g1 g2
 have step2:∀ (l:List Nat) (s:Tr),KB E s n→(∃ lim X,Sim c (Ja E s ρ) tm w lim X)→KB E (l.foldl (We E (Zex ops)) s) n∧∃ lim X,Sim c (Ja E (l.foldl (We E (Zex ops)) s) ρ) tm w lim X:=by
  intro l
  induction l with
  | nil => exact fun s h1 h2 => ⟨h1, h2⟩
  | cons p l ih =>
   intro s h1 h2
   obtain ⟨g1,g2⟩:=Zem hnt p h1 h2
   exact ih _ g1 g2
 obtain ⟨g1,g2⟩:=step1 (E.fz id) s hs ⟨lim,X,h⟩
 exact step2 (ZoB ops) _ g1 g2
section
variable {P:Program} {E:Env} {R:AV→List AV→Prop}
def ZgD (lv:Nat) (A A':Nat→List V→Prop):Prop:=∀ i,i < lv→A' i=A i
theorem Ziq (hm:P.follows .mixedOrders=true) (hps:PlainSound P E.plain) (hnt:E.top≤1024) {c:Ctx} (hcP:c.P=P) (hcn:c.nt=E.nt) (hpin:∀ d v,c.pin d=some v→d∈E.pins) (hgpin:∀ d b,c.gpin d=some b→E.nt≤d∧d < E.top) :
  ∀ (code:Code) (lv n:Nat) (s:Tr) (kn:Tr→Nat→STree) (kx:Nat→Tr→Nat→STree) (kr:Tr→Nat→STree) (A:Nat→List V→Prop) (ρ:Nat→V) (tm:Array Value) (w:World) (lim:Nat→Nat) (X:Nat→Nat→Option Nat)
   (Q:Exit→Act→World→Prop),KB E s n→(ev P E lv code s n kn kx kr).wp P R A ρ→Sim c (Ja E s ρ) tm w lim X→
   (∀ s' n' ρ' A',ZgD lv A A'→KB E s' n'→(kn s' n').wp P R A' ρ'→∀ tm' w' lim' X',Sim c (Ja E s' ρ') tm' w' lim' X'→Q .normal ⟨tm',[]⟩ w')→
   (∀ id s' n' ρ' A',ZgD lv A A'→KB E s' n'→(kx id s' n').wp P R A' ρ'→∀ tm' w' lim' X',Sim c (Ja E s' ρ') tm' w' lim' X'→Q (.exit id) ⟨tm',[]⟩ w')→
   (∀ s' n' ρ' A',ZgD lv A A'→KB E s' n'→(kr s' n').wp P R A' ρ'→∀ tm' w' lim' X',Sim c (Ja E s' ρ') tm' w' lim' X'→Q .ret ⟨tm',[]⟩ w')→
   code.wp P Q ⟨tm,[]⟩ w:=by
 intro code
 induction code with
 | skip => intro lv n s kn kx kr A ρ tm w lim X Q hs h hsim hn hx hr; exact wp_skip (hn s n ρ A (fun _ _ => rfl) hs h tm w lim X hsim)
 | label l => intro lv n s kn kx kr A ρ tm w lim X Q hs h hsim hn hx hr; exact wp_label (hn s n ρ A (fun _ _ => rfl) hs h tm w lim X hsim)
 | exit id => intro lv n s kn kx kr A ρ tm w lim X Q hs h hsim hn hx hr; exact wp_exit (hx id s n ρ A (fun _ _ => rfl) hs h tm w lim X hsim)
 | ret => intro lv n s kn kx kr A ρ tm w lim X Q hs h hsim hn hx hr; exact wp_ret (hr s n ρ A (fun _ _ => rfl) hs h tm w lim X hsim)
 | seq a b iha ihb =>
  intro lv n s kn kx kr A ρ tm w lim X Q hs h hsim hn hx hr
  refine wp_seq (iha lv n s _ kx kr A ρ tm w lim X _ hs h hsim ?_ hx hr)
  intro s' n' ρ' A' hA hs' h' tm' w' lim' X' hsim'
  exact ihb lv n' s' kn kx kr A' ρ' tm' w' lim' X' Q hs' h' hsim' (fun s2 n2 ρ2 A2 hA2=>hn s2 n2 ρ2 A2 fun i hi=>(hA2 i hi).trans (hA i hi))
   (fun id s2 n2 ρ2 A2 hA2=>hx id s2 n2 ρ2 A2 fun i hi=>(hA2 i hi).trans (hA i hi)) (fun s2 n2 ρ2 A2 hA2=>hr s2 n2 ρ2 A2 fun i hi=>(hA2 i hi).trans (hA i hi))
 | cond x a b iha ihb =>
  intro lv n s kn kx kr A ρ tm w lim X Q hs h hsim hn hx hr
  simp only [ev] at h
  split at h
  ·rename_i t ht
   have hxt:x = .tmp t:=by cases x<;>simp [Jl] at ht;rw [ht]
   subst hxt
   have heval:∀ v:BE,gE E s t = .c (.bool v)→Act.eval ⟨tm,[]⟩ (.tmp t) = .bool (v.den ρ):=by
    intro v hv
    have hrel:=hsim.rel t
    have:Ja E s ρ t = .val (.bool (v.den ρ)):=by simp only [Ja,hv,SV.den,SC.den]
    rw [this] at hrel
    exact Yg hrel
   split at h
   ·rename_i v hv
    have he:=heval _ hv
    simp only [BE.den] at he
    split at h
    ·rename_i hvt
     subst hvt
     exact wp_cond_true he (iha lv n s kn kx kr A ρ tm w lim X Q hs h hsim hn hx hr)
    ·rename_i hvt
     have:v=false:=by simpa using hvt
     subst this
     exact wp_cond_false he (ihb lv n s kn kx kr A ρ tm w lim X Q hs h hsim hn hx hr)
   ·rename_i v _ hv
    refine wp_cond_split (heval v hv) (fun hv'=>?_) fun hv'=>?_
    ·obtain ⟨hlt,hsame⟩:=Vn hnt hv hv'
     exact iha lv n _ kn kx kr A ρ tm w lim X Q (JG (x:=.c (.bool (.lit true))) hnt hlt hs trivial) (h.1 hv') (by rw [hsame];exact hsim) hn hx hr
    ·obtain ⟨hlt,hsame⟩:=Vn hnt hv hv'
     exact ihb lv n _ kn kx kr A ρ tm w lim X Q (JG (x:=.c (.bool (.lit false))) hnt hlt hs trivial) (h.2 hv') (by rw [hsame];exact hsim) hn hx hr
   ·exact h.elim
  ·exact h.elim
 | block id body ih =>
  intro lv n s kn kx kr A ρ tm w lim X Q hs h hsim hn hx hr
  refine wp_block (ih lv n s kn _ kr A ρ tm w lim X _ hs h hsim hn ?_ hr)
  intro id' s' n' ρ' A' hA hs' h' tm' w' lim' X' hsim'
  unfold Exit.inBlock
  by_cases hid:id'=id
  ·rw [if_pos hid] at h'
   simp only [hid,if_true]
   exact hn s' n' ρ' A' hA hs' h' tm' w' lim' X' hsim'
  ·rw [if_neg hid] at h'
   simp only [hid,if_false]
   exact hx id' s' n' ρ' A' hA hs' h' tm' w' lim' X' hsim'
 | scope body ih =>
  intro lv n s kn kx kr A ρ tm w lim X Q hs h hsim hn hx hr
  exact wp_scope_straight (ih lv n s kn kx kr A ρ tm w lim X _ hs h hsim hn hx hr)
 | loop body ih =>
  intro lv n s kn kx kr A ρ tm w lim X Q hs h hsim hn hx hr
  simp only [ev] at h
  split at h
  case isFalse=>exact h.elim
  rename_i hok
  split at h
  case h_2=>exact h.elim
  rename_i init hinit
  obtain ⟨I,m,h0,hround⟩:=h
  have hlen:∀ {s':Tr} {ves:List VE},Yk P (gE E s') (E.keep (Z7 body))=some ves→(ZU (E.keep (Z7 body)) 0).2=ves.length:=by
   intro s' ves hv
   have:=(Y0 (P:=P) (g:=gE E s') (ρ:=ρ) _ 0 ves [] hv rfl).1
   omega
  have key:∀ (k:Nat) (vs:List V) (tm:Array Value) (w:World) (lim:Nat→Nat) (X:Nat→Nat→Option Nat),m vs < k→vs.length=init.length→I vs→
    Sim c (Ja E (Ju (ZU (E.keep (Z7 body)) 0).1 (.leaf .dead)) (bind Zdk 0 vs)) tm w lim X→Code.rounds P body Q k ⟨tm,[]⟩ w:=by
   intro k
   induction k with
   | zero => intro vs tm w lim X hlt; omega
   | succ k ihk =>
    intro vs tm w lim X hlt hlv hI hsim
    rw [rounds_succ]
    obtain ⟨k1,k2,k3,k4,k5,k6⟩:=Vs hok
    have hbd:KB E (Ju (ZU (E.keep (Z7 body)) 0).1 (.leaf .dead)) (ZU (E.keep (Z7 body)) 0).2:=by
     refine JI hnt _ _ ?_ (fun d=>?_) (ZbL _ 0).2
     ·unfold Vq
      rw [List.all_eq_true]
      intro u hu
      have h2:=(Y0 (P:=P) (g:=gE E s) (ρ:=ρ) _ 0 init [] hinit rfl).2.1
      have hm:u.1∈(E.keep (Z7 body)).map (·.1):=by rw [← h2];exact List.mem_map.2 ⟨u,hu,rfl⟩
      obtain ⟨p,hp,he⟩:=List.mem_map.1 hm
      have:=(k2 p hp).1
      rw [he] at this
      simpa using this
     ·unfold gE
      split<;>trivial
    refine ih (lv+1) _ _ _ kx kr _ (bind Zdk 0 vs) tm w lim X _ hbd (hround vs hlv hI) hsim ?_ ?_ ?_
    ·intro s' n' ρ' A' hA hs' h' tm' w' lim' X' hsim'
     split at h'
     ·rename_i vals hvals
      have hAl:A' lv=fun vs'=>I vs'∧m vs' < m vs:=by
       rw [hA lv (Nat.lt_succ_self _)]
       funext vs'
       simp only [ZlI,if_true]
      have h'':A' lv (vals.map (VE.den ρ')):=h'
      rw [hAl] at h''
      obtain ⟨hI',hm'⟩:=h''
      obtain ⟨X2,hs2⟩:=ZeE hnt hcP hcn hpin hgpin hok Zdk hvals hsim'
      exact ihk _ tm' w' lim' X2 (by omega) (by rw [List.length_map,← hlen hvals,hlen hinit]) hI' hs2
     ·exact h'.elim
    ·intro id s' n' ρ' A' hA hs' h' tm' w' lim' X' hsim'
     exact hx id s' n' ρ' A' (fun i hi=>by rw [hA i (by omega)];funext vs';simp only [ZlI,Nat.ne_of_lt hi,if_false]) hs' h' tm' w' lim' X' hsim'
    ·intro s' n' ρ' A' hA hs' h' tm' w' lim' X' hsim'
     exact hr s' n' ρ' A' (fun i hi=>by rw [hA i (by omega)];funext vs';simp only [ZlI,Nat.ne_of_lt hi,if_false]) hs' h' tm' w' lim' X' hsim'
  obtain ⟨X0,hs0⟩:=ZeE hnt hcP hcn hpin hgpin hok Zdk hinit hsim
  exact wp_loop_rounds _ (key (m (init.map (VE.den ρ))+1) _ tm w lim X0 (Nat.lt_succ_self _) (by rw [List.length_map]) h0 hs0)
 | region id ops draw =>
  intro lv n s0 kn kx kr A ρ tm w lim0 X0 Q hs0 h hsim0 hn hx hr
  simp only [ev] at h
  obtain ⟨hs,lim,X,hsim⟩:=ZiV (P:=P) hnt hcP (id:=id) (ops:=ops) hs0 hsim0
  generalize ZnA P E id ops s0=s at h hs hsim
  split at h
  ·rename_i x a d T neg htest
   split at h
   case h_2=>exact h.elim
   rename_i e l hT hl
   split at h
   case isFalse=>exact h.elim
   rename_i hh
   obtain ⟨ha,hd,hma,hmd,had,hxa⟩:=hh
   obtain ⟨o,p,U,hops,hgo,hgp,h1,h2,h3,h4⟩:=Zdg htest
   obtain ⟨va,k,cap,hv,hnil⟩:=ZfN hl (hsim.rel x)
   have hsz:ops.size=2:=by rw [← Array.length_toList,hops];rfl
   have ho0:ops[0]? = some o:=by rw [← Array.getElem?_toList,hops];rfl
   have ho1:ops[1]? = some p:=by rw [← Array.getElem?_toList,hops];rfl
   refine wp_region ?_
   rw [hsz,show List.range 2 = [0,1] from rfl,wpOps_cons]
   unfold wpOp
   simp only [ho0,Region.wanted,hgo]
   simp only [if_true]
   refine .inl (Zl (v:=.slice va k cap) (w':=w) ?_ ?_)
   ·have hev:Act.eval ⟨tm,[]⟩ (.tmp x)=tm.getD x undef:=rfl
    simp only [execOp,h1,hev,hv,Sem.run_pure]
   ·rw [wpOps_cons]
    unfold wpOp
    simp only [ho1,Region.wanted,hgp]
    simp only [if_true]
    have hea:Act.eval (Act.put ⟨tm,[]⟩ o.dst (.slice va k cap)) (.tmp a) = .slice va k cap:=by
     rw [h2]
     exact JM tm a _ (by rw [hsim.size,hcn];exact ha)
    refine .inl (Zl (v:=.bool (if neg=true then !va.isNone else va.isNone)) (w':=w) ?_ ?_)
    ·have hec:Act.eval (Act.put ⟨tm,[]⟩ o.dst (.slice va k cap)) (.const (.slice none 0 0)) = .slice none 0 0:=rfl
     have heq:=run_equal_slice_nil (P:=P) w T _ va k cap hT
     cases neg
     ·simp [execOp,h3,hea,hec,eqGuard,binOp,heq]
     ·simp [execOp,h3,hea,hec,eqGuard,binOp,heq]
    ·have hb:=h va.isNone hnil
     have hna:KX (Ja E s ρ a):=ZR (J0 (a:=gE E s a) (b:=.dead) ρ hma)
     have hnd:KX (Ja E s ρ d):=ZR (J0 (a:=gE E s d) (b:=.dead) ρ hmd)
     have s1:=hsim.put (k:=0) (x:=.dead) (v:=.slice va k cap) (by rw [hcn];exact ha) hna rfl trivial
     have s2:=s1.put (d:=d) (k:=0) (x:=.val (.bool (if neg=true then !va.isNone else va.isNone))) (v:=.bool (if neg=true then !va.isNone else va.isNone)) (by rw [hcn];exact hd) (by rw [Zi _ _ (Ne.symm had)];exact hnd) rfl (Rep.val rfl)
     have hbv:(BE.den (bind ρ n [.b va.isNone]) (if neg=true then .not (.var n) else .var n))=(if neg=true then !va.isNone else va.isNone):=by
      have hvar:bind ρ n [.b va.isNone] n = .b va.isNone:=by simp [bind]
      cases neg
      ·simp only [Bool.false_eq_true,if_false,BE.den,hvar,V.bool]
      ·simp only [if_true,BE.den,hvar,V.bool]
     have hσ:Ja E ((s.set depth a .dead).set depth d (.c (.bool (if neg=true then .not (.var n) else .var n)))) (bind ρ n [.b va.isNone])=upd (upd (Ja E s ρ) a .dead) d (.val (.bool (if neg=true then !va.isNone else va.isNone))):=by
      rw [J7 hnt (JQ hd),J7 hnt (JQ ha),Zbl hs (Zb5 ρ n _)]
      simp only [SV.den,SC.den,hbv]
     have hs2:KB E ((s.set depth a .dead).set depth d (.c (.bool (if neg=true then .not (.var n) else .var n)))) (n+1):=by
      refine JG hnt (JQ hd) (JG hnt (JQ ha) (Zdn hs (Nat.le_succ n)) trivial) ?_
      cases neg
      ·exact Nat.lt_succ_self n
      ·exact Nat.lt_succ_self n
     rw [h2,h4]
     show Q .normal ⟨(tm.setIfInBounds a (.slice va k cap)).setIfInBounds d (.bool (if neg=true then !va.isNone else va.isNone)),[]⟩ w
     exact hn _ _ _ A (fun _ _=>rfl) hs2 hb _ w lim _ (by rw [hσ];exact s2)
  ·split at h
   ·rename_i x i a b cc T htest _
    split at h
    case h_2=>exact h.elim
    rename_i e0 e l ie hT hgx hgi
    split at h
    case h_2=>exact h.elim
    rename_i inf hinf
    split at h
    case h_2=>exact h.elim
    rename_i z hz
    split at h
    case h_2=>exact h.elim
    rename_i zc sh hzc hsh
    split at h
    case h_2=>exact h.elim
    rename_i zc' hzc'
    split at h
    case isFalse=>exact h.elim
    rename_i hh
    obtain ⟨rfl,hzs,h0,hok⟩:=hh
    simp only [Zg9,Bool.and_eq_true,decide_eq_true_eq] at hok
    obtain ⟨⟨hxn,han,hbn,hcn',hxa,hxb,hxc,hia,hab,hac,hbc⟩,hma,hmb,hmc⟩:=hok
    obtain ⟨r1,r2,h⟩:=h
    have r1':(0:Int)≤ie.den ρ:=r1
    have r2':ie.den ρ≤((l.den ρ).length:Int):=r2
    obtain ⟨o,p,q,r,hops,hgo,hgp,hgq,hgr,h1,h2,h3,h4,h5,h6,⟨cl,h7,h9,h10,h11⟩,h8⟩:=Za9 htest
    have hσx:Ja E s ρ x = .own true e (l.den ρ):=by show (gE E s x).den ρ=_;rw [hgx];rfl
    have hσi:Ja E s ρ i = .val (.int .i64 (ie.den ρ)):=by show (gE E s i).den ρ=_;rw [hgi];rfl
    have hzd:=YD ρ z.cells.toList
    rw [hzc] at hzd
    have hzr0:∀ (w:World) (lim:Nat→Nat),Yf w lim (zc.map (SC.den ρ)) z.cells.toList:=fun w lim=>Yp (h:=hzd.symm)
    have hzr:∀ (w:World) (lim:Nat→Nat),Yf w lim (zc'.map (SC.den ρ)) z.cells.toList:=fun w lim=>(VZ ρ _ _ _ hzc').2 w lim _ (hzr0 w lim)
    have h1z:∀ v∈z.cells.toList,v.oneCell'=true:=by
     intro v hv
     obtain ⟨j,hj⟩:=List.mem_iff_getElem?.1 hv
     have hjl:=(List.getElem?_eq_some_iff.1 hj).1
     have hr0:=hzr0 w lim
     have hjz:j < (zc.map (SC.den ρ)).length:=by rw [hr0.1];exact hjl
     exact (hr0.2.2 j _ v (List.getElem?_eq_getElem hjz) hj).oneCell (hr0.2.1 _ (List.getElem_mem hjz))
    obtain ⟨v2,w',X',hsl,hcl,hs',hmx⟩:=hsim.clear (x:=x) (n:=(ie.den ρ).toNat) (T:=T) (zc:=zc'.map (SC.den ρ)) hσx (by rw [hcP];exact hT) (by rw [hcP];exact hinf) hz hzs h0 hzr h1z (by omega)
    rw [hcP] at hsl hcl
    have hvi:tm.getD i undef = .int .i64 (ie.den ρ):=by
     have:=hsim.rel i
     rw [hσi] at this
     exact Yg (show Rep w lim _ _ from this)
    have hin:((ie.den ρ).toNat:Int)=ie.den ρ:=by omega
    rw [hin] at hsl
    have hsz:ops.size=4:=by rw [← Array.length_toList,hops];rfl
    have ho0:ops[0]? = some o:=by rw [← Array.getElem?_toList,hops];rfl
    have ho1:ops[1]? = some p:=by rw [← Array.getElem?_toList,hops];rfl
    have ho2:ops[2]? = some q:=by rw [← Array.getElem?_toList,hops];rfl
    have ho3:ops[3]? = some r:=by rw [← Array.getElem?_toList,hops];rfl
    have hts:tm.size=E.nt:=by rw [hsim.size,hcn]
    refine wp_region ?_
    rw [hsz,show List.range 4 = [0,1,2,3] from rfl,wpOps_cons]
    unfold wpOp
    simp only [ho0,Region.wanted,hgo]
    simp only [if_true]
    refine .inl (Zl (v:=tm.getD x undef) (w':=w) ?_ ?_)
    ·have hev:Act.eval ⟨tm,[]⟩ (.tmp x)=tm.getD x undef:=rfl
     simp only [execOp,h1,hev,Sem.run_pure]
    rw [wpOps_cons]
    unfold wpOp
    simp only [ho1,Region.wanted,hgp]
    simp only [if_true]
    have e1:Act.eval (Act.put ⟨tm,[]⟩ o.dst (tm.getD x undef)) (.tmp i) = .int .i64 (ie.den ρ):=by
     rw [h2]
     exact (Z0 tm a i _ hia).trans hvi
    refine .inl (Zl (v:=.int .i64 (ie.den ρ)) (w':=w) ?_ ?_)
    ·simp only [execOp,h3,e1,Sem.run_pure]
    rw [wpOps_cons]
    unfold wpOp
    simp only [ho2,Region.wanted,hgq]
    simp only [if_true]
    have e2:Act.eval (Act.put (Act.put ⟨tm,[]⟩ o.dst (tm.getD x undef)) p.dst (.int .i64 (ie.den ρ))) (.tmp a)=tm.getD x undef:=by
     rw [h2,h4]
     exact (Z0 _ b a _ hab).trans (JM tm a _ (by rw [hts];exact han))
    have e3:Act.eval (Act.put (Act.put ⟨tm,[]⟩ o.dst (tm.getD x undef)) p.dst (.int .i64 (ie.den ρ))) (.tmp b) = .int .i64 (ie.den ρ):=by
     rw [h2,h4]
     exact JM _ b _ (by show b < (tm.setIfInBounds a _).size;rw [Array.size_setIfInBounds,hts];exact hbn)
    refine .inl (Zl (v:=v2) (w':=w) ?_ ?_)
    ·simp only [execOp,h5,Option.map_some,Option.map_none,Sem.run_bind,e2,e3,hsl,Result.andThen_ok,Sem.run_pure]
    rw [wpOps_cons]
    unfold wpOp
    simp only [ho3,Region.wanted,hgr]
    simp only [if_true]
    have e4:Act.eval (Act.put (Act.put (Act.put ⟨tm,[]⟩ o.dst (tm.getD x undef)) p.dst (.int .i64 (ie.den ρ))) q.dst v2) (.tmp cc)=v2:=by
     rw [h2,h4,h6]
     exact JM _ cc _ (by show cc < ((tm.setIfInBounds a _).setIfInBounds b _).size;rw [Array.size_setIfInBounds,Array.size_setIfInBounds,hts];exact hcn')
    refine .inl (Zl (v:=.tuple #[]) (w':=w') ?_ ?_)
    ·simp only [execOp,h7,h9,h10,h11,resolve,invoke,builtin,Sem.run_bind,Sem.run_pure,Result.andThen_ok,List.map_toArray,List.map_cons,List.map_nil,e4,hcl]
    have hna:KX (Ja E s ρ a):=ZR (J0 (a:=gE E s a) (b:=.dead) ρ hma)
    have hnb:KX (Ja E s ρ b):=ZR (J0 (a:=gE E s b) (b:=.dead) ρ hmb)
    have hnc:KX (Ja E s ρ cc):=ZR (J0 (a:=gE E s cc) (b:=.dead) ρ hmc)
    have s1:=hs'.put (d:=a) (k:=0) (x:=.dead) (v:=tm.getD x undef) (by rw [hcn];exact han) (by rw [Zi _ _ (Ne.symm hxa)];exact hna) rfl trivial
    have s2:=s1.put (d:=b) (k:=0) (x:=.dead) (v:=.int .i64 (ie.den ρ)) (by rw [hcn];exact hbn) (by rw [Zi _ _ (Ne.symm hab),Zi _ _ (Ne.symm hxb)];exact hnb) rfl trivial
    have s3:=s2.put (d:=cc) (k:=0) (x:=.dead) (v:=v2) (by rw [hcn];exact hcn') (by rw [Zi _ _ (Ne.symm hbc),Zi _ _ (Ne.symm hac),Zi _ _ (Ne.symm hxc)];exact hnc) rfl trivial
    have hwr:iop .sub .i64 ((l.den ρ).length:Int) (ie.den ρ)=((l.den ρ).length:Int)-ie.den ρ:=by
     show IntKind.i64.wrap _=_
     rw [IntKind.wrap_i64]
     unfold maxLen at hmx
     omega
    have hlist:(LE.app (.take l ie) (.rep (.bin .sub .i64 (.len l) ie) (ZgC zc'))).den ρ=(l.den ρ).take (ie.den ρ).toNat++List.replicate ((l.den ρ).length-(ie.den ρ).toNat) (zc'.map (SC.den ρ)):=by
     show (l.den ρ).take (ie.den ρ).toNat++List.replicate (iop .sub .i64 ((l.den ρ).length:Int) (ie.den ρ)).toNat ((ZgC zc').den ρ)=_
     rw [hwr,VB]
     congr 2
     omega
    have bx:(gE E s x).bd n:=hs x
    have bi:(gE E s i).bd n:=hs i
    rw [hgx] at bx
    rw [hgi] at bi
    have hσ:Ja E ((((s.set depth x (.own true e (.app (.take l ie) (.rep (.bin .sub .i64 (.len l) ie) (ZgC zc'))))).set depth a .dead).set depth b .dead).set depth cc .dead) ρ=upd (upd (upd (upd (Ja E s ρ) x (.own true e ((l.den ρ).take (ie.den ρ).toNat++List.replicate ((l.den ρ).length-(ie.den ρ).toNat) (zc'.map (SC.den ρ))))) a .dead) b .dead) cc .dead:=by
     rw [J7 hnt (JQ hcn'),J7 hnt (JQ hbn),J7 hnt (JQ han),J7 hnt (JQ hxn)]
     simp only [SV.den,hlist]
    have hs2:KB E ((((s.set depth x (.own true e (.app (.take l ie) (.rep (.bin .sub .i64 (.len l) ie) (ZgC zc'))))).set depth a .dead).set depth b .dead).set depth cc .dead) n:=
     JG hnt (JQ hcn') (JG hnt (JQ hbn) (JG hnt (JQ han) (JG hnt (JQ hxn) hs ⟨⟨bx,bi⟩,⟨bx,bi⟩,ZaU _ (KA _ _ _ hzc' (KH hzc))⟩) trivial) trivial) trivial
    rw [h2,h4,h6,h8]
    exact hn _ _ ρ A (fun _ _=>rfl) hs2 h _ w' lim _ (by rw [hσ];exact s3)
   ·exact ZdB hm hps hnt (fun d hd=>Zfp ρ hd) hs h hcP hcn hsim fun s' n' ρ' hs' h'=>hn s' n' ρ' A (fun _ _=>rfl) hs' h'
 | _ => intro lv n s kn kx kr A ρ tm w lim X Q hs h hsim hn hx hr; exact h.elim
end
end Go.AM
end

section
namespace Go.AM
def Vo (tm:Array Value):ResultVar→Sem Value
 | .tmp t => pure (tm.getD t undef)
 | .cell a t => do loadVar t (← asAddr (tm.getD a undef))
def Zds:ResultVar→Nat
 | .tmp _ => 0
 | .cell _ _ => 1
theorem Zgb (fn:Func) (tm:Array Value):results fn tm=(do
  let vs ← fn.results.mapM (Vo tm)
  pure (if h:vs.size=1 then vs[0] else .tuple vs)):=by
 unfold results
 congr 1
theorem Ze6 {P:Program} {w:World} {f:ResultVar→Sem Value} : ∀ (rs:List ResultVar) (vs:List Value),rs.length=vs.length→
  (∀ (i:Nat) (r:ResultVar) (v:Value),rs[i]? = some r→vs[i]? = some v→(f r).run P w = .ok v w)→(rs.mapM f).run P w = .ok vs w
 | [], [], _, _ => by simp
 | [], _ :: _, h, _ => by simp at h
 | _ :: _, [], h, _ => by simp at h
 | r :: rs, v :: vs, h, hf => by
  have h1:=hf 0 r v rfl rfl
  have h2:=Ze6 rs vs (by simpa using h) fun i r' v' hr hv=>hf (i+1) r' v' (by simpa using hr) (by simpa using hv)
  simp [List.mapM_cons,h1,h2]
theorem ZaT {P:Program} {w:World} {fn:Func} {tm:Array Value} {vs:List Value} (hl:fn.results.toList.length=vs.length)
  (hf:∀ (i:Nat) (r:ResultVar) (v:Value),fn.results.toList[i]? = some r→vs[i]? = some v→(Vo tm r).run P w = .ok v w) :
  (results fn tm).run P w = .ok (match vs with | [v]=>v | vs=>.tuple vs.toArray) w:=by
 have h:=Ze6 _ _ hl hf
 rw [Zgb,Array.mapM_eq_mapM_toList]
 simp only [Sem.run_bind,Sem.run_map,h,Result.andThen_ok]
 rcases vs with _ | ⟨v,_ | ⟨u,l⟩⟩ <;> simp
section
variable {P:Program} {E:Env}
theorem Zdf {c:Ctx} (hc:c.P=P) {s:Tr} {ρ:Nat→V} {tm:Array Value} {w:World} {lim:Nat→Nat} {X:Nat→Nat→Option Nat} (hs:Sim c (Ja E s ρ) tm w lim X) {r:ResultVar} {x:TC}
  (h:Zbh P (gE E s) r=some x):∃ v,(Vo tm r).run P w = .ok v w∧Yb P w lim (X (JL r) (Zds r)) (x.den ρ) v:=by
 cases r with
 | tmp t =>
  have hr:=hs.rel t
  simp only [Zbh] at h
  split at h
  ·rename_i y hy
   simp only [Option.some.injEq] at h
   subst h
   have:Ja E s ρ t=y.den ρ:=by simp only [Ja,hy,SV.den]
   rw [this] at hr
   exact ⟨_,rfl,by cases y<;>exact hr⟩
  ·rename_i cs hy
   simp only [Option.some.injEq] at h
   subst h
   have:Ja E s ρ t = .agg (cs.map (SC.den ρ)):=by simp only [Ja,hy,SV.den]
   rw [this] at hr
   exact ⟨_,rfl,hr⟩
  ·rename_i b e xs hy
   simp only [Option.some.injEq] at h
   subst h
   have:Ja E s ρ t = .own b e (xs.den ρ):=by simp only [Ja,hy,SV.den]
   rw [this,hc] at hr
   exact ⟨_,rfl,hr⟩
  ·cases h
 | cell t T =>
  have hr:=hs.rel t
  simp only [Zbh] at h
  split at h
  ·rename_i cs hT hy
   split at h
   ·rename_i hl
    simp only [Option.some.injEq] at h
    subst h
    have:Ja E s ρ t = .box (cs.map (BC.den ρ)):=by simp only [Ja,hy,SV.den]
    rw [this,hc] at hr
    obtain ⟨b,us,g1,g2,g3,g4,g5,g6⟩:=ZP.part (show ZP P w lim (X t) _ _ from hr) 0 (P.cellsOf T) (by simp [hl.1]) (by rw [List.drop_zero,List.take_of_length_le (by simp [hl.1])];exact KG hl.2 ρ)
    refine ⟨.agg us.toArray,?_,?_⟩
    ·obtain ⟨i,hi⟩:=ZbM hT
     have hl2:=run_loadCells_list (P:=P) w ⟨b,0,none⟩ us (fun j v hj=>by rw [JF];exact g4 j v hj)
     rw [g3] at hl2
     simp [Vo,g2,asAddr,loadVar,Wb hT,Zn hi,hl2]
    ·have he:(TC.agg (cs.map (Zbs P))).den ρ = .agg ((((cs.map (BC.den ρ)).drop 0).take (P.cellsOf T)).map (YH P)):=by
      rw [List.drop_zero,List.take_of_length_le (by simp [hl.1])]
      simp only [TC.den,List.map_map]
      congr 1
      exact List.map_congr_left fun b _=>Zbq P ρ b
     rw [he]
     exact .agg (by simp [g3,hl.1]) g5 g6
   ·cases h
  ·rename_i bx e xs hT hy
   simp only [Option.some.injEq] at h
   subst h
   have:Ja E s ρ t = .box [.own bx e (xs.den ρ)]:=by simp only [Ja,hy,SV.den];rfl
   rw [this,hc] at hr
   obtain ⟨b,arr,ty,h1,h2,h3,h4,h5,h6,h7⟩:=(show ZP P w lim (X t) _ _ from hr)
   obtain ⟨u,hu⟩:∃ u,arr[0]? = some u:=⟨_,Array.getElem?_eq_getElem (by rw [h4];simp)⟩
   refine ⟨u,?_,h7 0 _ u rfl hu⟩
   have hcell:w.cell? ⟨b,0,none⟩=some u:=by rw [Je h3];exact hu
   simp [Vo,h2,asAddr,loadVar,YZ hT,hcell]
  ·rename_i y hT hy
   simp only [Option.some.injEq] at h
   subst h
   have:Ja E s ρ t = .box [y.den ρ]:=by simp only [Ja,hy,SV.den];rfl
   rw [this,hc] at hr
   obtain ⟨b,arr,ty,h1,h2,h3,h4,h5,h6,h7⟩:=(show ZP P w lim (X t) _ _ from hr)
   obtain ⟨u,hu⟩:∃ u,arr[0]? = some u:=⟨_,Array.getElem?_eq_getElem (by rw [h4];simp)⟩
   have h70:=h7 0 _ u rfl hu
   refine ⟨u,?_,by cases y<;>exact h70⟩
   have hcell:w.cell? ⟨b,0,none⟩=some u:=by rw [Je h3];exact hu
   simp [Vo,h2,asAddr,loadVar,YZ hT,hcell]
  ·cases h
theorem Zc5 {c:Ctx} (hc:c.P=P) {s:Tr} {ρ:Nat→V} {tm:Array Value} {w:World} {lim:Nat→Nat} {X:Nat→Nat→Option Nat} (hs:Sim c (Ja E s ρ) tm w lim X):∀ (rs:List ResultVar) (xs:List TC),
  ZbJ P (gE E s) rs=some xs→∃ vs:List Value,rs.length=vs.length∧xs.length=vs.length∧∀ (i:Nat) (r:ResultVar) (v:Value),rs[i]? = some r→vs[i]? = some v→
   (Vo tm r).run P w = .ok v w∧∀ x,xs[i]? = some x→Yb P w lim (X (JL r) (Zds r)) (x.den ρ) v
 | [], xs, h => by
  simp only [ZbJ,Option.some.injEq] at h
  subst h
  exact ⟨[],rfl,rfl,by simp⟩
 | r :: rs, xs, h => by
  simp only [ZbJ] at h
  split at h
  ·rename_i x xs' hx hxs
   simp only [Option.some.injEq] at h
   subst h
   obtain ⟨v,h1,h2⟩:=Zdf hc hs hx
   obtain ⟨vs,g1,g2,g3⟩:=Zc5 hc hs rs xs' hxs
   refine ⟨v::vs,by simp [g1],by simp [g2],fun i r' v' hr hv=>?_⟩
   cases i with
   | zero =>
    simp only [List.getElem?_cons_zero,Option.some.injEq] at hr hv
    subst hr
    subst hv
    refine ⟨h1,fun y hy=>?_⟩
    simp only [List.getElem?_cons_zero,Option.some.injEq] at hy
    subst hy
    exact h2
   | succ i =>
    obtain ⟨k1,k2⟩:=g3 i r' v' (by simpa using hr) (by simpa using hv)
    exact ⟨k1,fun y hy=>k2 y (by simpa using hy)⟩
  ·cases h
theorem ZdQ {w:World} {lim:Nat→Nat} {X:Nat→Nat→Option Nat} {σ:Nat→AV} {d:Nat} {x:TC} {ρ:Nat→V} {v:Value} (h:Yb P w lim (X d 0) (x.den ρ) v):ZT P w lim X σ d (x.den ρ) v:=by
 cases x with
 | c y => cases y <;> exact h
 | agg cs => exact h
 | own x e l => exact h
 | gone => trivial
theorem ZbR (ρ:Nat→V):∀ (aZ:List SV) (i:Nat) (σ:Nat→AV) (d:Nat),JJ σ ((KE aZ i).map fun u=>(u.1,u.2.den ρ)) d=if i≤d∧d < i+aZ.length then ZX (aZ.map (SV.den ρ)) (d-i) else σ d
 | [], i, σ, d => by
  rw [if_neg (by simp)]
  rfl
 | a :: aZ, i, σ, d => by
  simp only [KE,List.map_cons,JJ]
  rw [ZbR ρ aZ (i+1)]
  by_cases h:i+1≤d∧d < i+1+aZ.length
  ·rw [if_pos h,if_pos (by simp only [List.length_cons];omega)]
   obtain ⟨k,hk⟩:∃ k,d-i=k+1:=⟨d-i-1,by omega⟩
   rw [hk,show d-(i+1)=k by omega]
   simp [ZX]
  ·rw [if_neg h]
   by_cases hd:d=i
   ·subst hd
    rw [Jf,if_pos (by simp)]
    simp [ZX]
   ·rw [Zi _ _ hd,if_neg (by simp only [List.length_cons];omega)]
theorem Zc7 {n:Nat} : ∀ (aZ:List SV) (i:Nat),(∀ a∈aZ,a.bd n)→∀ u∈KE aZ i,u.2.bd n
 | [], i, _, u, hu => by simp [KE] at hu
 | a :: aZ, i, h, u, hu => by
  rcases List.mem_cons.1 hu with rfl | hu
  ·exact h a (by simp)
  ·exact Zc7 aZ (i+1) (fun b hb=>h b (by simp [hb])) u hu
theorem ZbP:∀ (aZ:List SV) (i m:Nat),i+aZ.length≤m→∀ u∈KE aZ i,u.1 < m
 | [], i, m, _, u, hu => by simp [KE] at hu
 | a :: aZ, i, m, h, u, hu => by
  simp only [List.length_cons] at h
  rcases List.mem_cons.1 hu with rfl | hu
  ·show i < m;omega
  ·exact ZbP aZ (i+1) m (by omega) u hu
def SV.isBx:SV→Bool
 | .box _ => true
 | .gbox _ => true
 | _ => false
theorem YV {a:SV} {aZ:List SV} {i:Nat} (h:Jn E (a::aZ) i=true):Jn E aZ (i+1)=true:=by
 cases a<;>simp only [Jn,Bool.and_eq_true,Bool.false_eq_true] at h<;>exact h.2
theorem Vh:∀ (aZ:List SV) (i:Nat),Jn E aZ i=true→∀ (j:Nat) (a:SV),aZ[j]? = some a→(∀ cs,a = .box cs→i+j∈E.pins)∧(a.isG=true↔E.nt≤i+j)
 | [], i, _, j, a, h => by simp at h
 | a :: aZ, i, hf, j, b, h => by
  cases j with
  | zero =>
   simp only [List.getElem?_cons_zero,Option.some.injEq] at h
   subst h
   refine ⟨fun cs e=>?_,?_⟩
   ·subst e
    simp only [Jn,Bool.and_eq_true,List.contains_iff_mem] at hf
    exact hf.1.2
   ·cases a<;>simp only [Jn,Bool.and_eq_true,decide_eq_true_eq,Bool.false_eq_true] at hf<;>simp only [SV.isG,Bool.false_eq_true,false_iff,true_iff]<;>omega
  | succ j =>
   have:=Vh aZ (i+1) (YV hf) j b (by simpa using h)
   rw [show i+(j+1)=i+1+j by omega]
   exact this
theorem Zfg (g:Nat→SV):∀ (aZ:List SV) (i j:Nat),(Zaw g aZ i)[j]? = (aZ[j]?).map fun a=>if a.isBx=true then g (i+j) else .dead
 | [], i, j => by simp [Zaw]
 | a :: aZ, i, 0 => by cases a <;> rfl
 | a :: aZ, i, j + 1 => by
  have:=Zfg g aZ (i+1) j
  rw [show i+1+j=i+(j+1) by omega] at this
  cases a<;>simpa [Zaw] using this
theorem ZcT (g:Nat→SV):∀ (aZ:List SV) (i:Nat),(Zaw g aZ i).length=aZ.length
 | [], i => rfl
 | a :: aZ, i => by cases a <;> simp [Zaw, ZcT g aZ]
def Za1 (args:List SV) (rs:List ResultVar) (i k:Nat):Option (Nat×Nat):=
 if i < args.length then (if (args[i]?).map SV.isBx=some true then some (i,k) else none)
 else if i=args.length then
  match rs with
  | [r] => if k = 0 then some (JL r, Zds r) else none
  | rs => match k with | 0 => none | k + 1 => (rs[k]?).map fun r => (JL r, Zds r)
 else none
theorem ZeX:∀ (rs:List ResultVar),(rs.map JL).Nodup→∀ (i j:Nat) (a b:ResultVar),rs[i]? = some a→rs[j]? = some b→JL a=JL b→i=j
 | [], _, i, j, a, b, h, _, _ => by simp at h
 | r :: rs, hn, i, j, a, b, ha, hb, he => by
  rw [List.map_cons,List.nodup_cons] at hn
  cases i with
  | zero =>
   cases j with
   | zero => rfl
   | succ j =>
    simp only [List.getElem?_cons_zero,Option.some.injEq] at ha
    subst ha
    exact (hn.1 (List.mem_map.2 ⟨b,List.mem_of_getElem? (by simpa using hb),he.symm⟩)).elim
  | succ i =>
   cases j with
   | zero =>
    simp only [List.getElem?_cons_zero,Option.some.injEq] at hb
    subst hb
    exact (hn.1 (List.mem_map.2 ⟨a,List.mem_of_getElem? (by simpa using ha),he⟩)).elim
   | succ j => rw [ZeX rs hn.2 i j a b (by simpa using ha) (by simpa using hb) he]
theorem WT {args:List SV} {rs:List ResultVar} {k:Nat} {p:Nat×Nat} (h:Za1 args rs args.length k=some p) :
  ∃ j r,rs[j]? = some r∧p=(JL r,Zds r)∧((rs.length=1∧j=0∧k=0)∨(rs.length≠1∧k=j+1)):=by
 unfold Za1 at h
 rw [if_neg (Nat.lt_irrefl _),if_pos rfl] at h
 split at h
 ·rename_i r
  split at h
  ·rename_i hk
   simp only [Option.some.injEq] at h
   exact ⟨0,r,rfl,h.symm,.inl ⟨rfl,rfl,hk⟩⟩
  ·cases h
 ·rename_i hne
  split at h
  ·cases h
  ·rename_i k
   cases hr:rs[k]? with
   | none => simp [hr] at h
   | some r =>
    simp only [hr,Option.map_some,Option.some.injEq] at h
    refine ⟨k,r,hr,h.symm,.inr ⟨fun h1=>?_,rfl⟩⟩
    obtain ⟨r',hr'⟩:=List.length_eq_one_iff.1 h1
    exact hne r' hr'
theorem Zi1 {args:List SV} {rs:List ResultVar} (hf:ZcF args rs=true) {i k i' k':Nat} {p:Nat×Nat} (h:Za1 args rs i k=some p) (h':Za1 args rs i' k'=some p):i=i'∧k=k':=by
 simp only [ZcF,Bool.and_eq_true] at hf
 obtain ⟨hn,hb⟩:=hf
 have hnd:=VF _ hn
 have hform:∀ i k p,Za1 args rs i k=some p→(i < args.length∧p=(i,k)∧∃ a,args[i]? = some a∧a.isBx=true)∨i=args.length:=by
  intro i k p h
  unfold Za1 at h
  split at h
  ·rename_i hi
   split at h
   ·rename_i hbx
    simp only [Option.some.injEq] at h
    obtain ⟨a,ha,hax⟩:=Option.map_eq_some_iff.1 hbx
    exact .inl ⟨hi,h.symm,a,ha,hax⟩
   ·cases h
  ·split at h
   ·rename_i hi;exact .inr hi
   ·cases h
 have hno:∀ (j:Nat) (r:ResultVar),rs[j]? = some r→∀ a,args[JL r]? = some a→a.isBx=true→False:=by
  intro j r hr a ha hax
  rw [List.all_eq_true] at hb
  have:=hb r (List.mem_of_getElem? hr)
  rw [ha] at this
  cases a<;>simp [SV.isBx] at hax<;>cases this
 rcases hform i k p h with ⟨h1,h2,a,h3,h4⟩ | h1<;>rcases hform i' k' p h' with ⟨h1',h2',a',h3',h4'⟩ | h1'
 ·rw [h2] at h2'
  simp only [Prod.mk.injEq] at h2'
  exact h2'
 ·subst h1'
  obtain ⟨j,r,g1,g2,_⟩:=WT h'
  rw [h2] at g2
  simp only [Prod.mk.injEq] at g2
  exact (hno j r g1 a (by rw [← g2.1];exact h3) h4).elim
 ·subst h1
  obtain ⟨j,r,g1,g2,_⟩:=WT h
  rw [h2'] at g2
  simp only [Prod.mk.injEq] at g2
  exact (hno j r g1 a' (by rw [← g2.1];exact h3') h4').elim
 ·subst h1
  subst h1'
  obtain ⟨j,r,g1,g2,g3⟩:=WT h
  obtain ⟨j',r',g1',g2',g3'⟩:=WT h'
  rw [g2] at g2'
  simp only [Prod.mk.injEq] at g2'
  have:=ZeX rs hnd j j' r r' g1 g1' g2'.1
  refine ⟨rfl,?_⟩
  omega
end
end Go.AM
end

section
namespace Go.AM
def ZiR (P:Program) (rec:TypeId→Bool) (e:Nat):List Field→Nat→Bool
 | [], _ => true
 | f :: fs, off => (f.name != "_") && (f.offset == off) &&
  (match P.underlying f.type with
   | some (.int _) => true
   | some .bool => true
   | some (.struct _) => rec f.type && (P.info? f.type).isSome
   | _ => false) &&
  (match YK P e f.type with | some l=>(P.cellsOf f.type == l.length)&&ZiR P rec e fs (off+l.length) | none=>false)
def ZfW (P:Program):Nat→TypeId→Bool
 | 0, _ => false
 | e + 1, T =>
  match P.underlying T with
  | some (.struct fs) => ZiR P (ZfW P e) e fs.toList 0 && !P.stoodInHeld T
  | _ => false
def ZlP (P:Program) (T:TypeId):Bool:=ZfW P 8 T&&!P.eqGuardType P.depth T
theorem KJ:∀ (L1 L2:List Sh) (us:List Value),Yc (L1++L2) us→Yc L1 (us.take L1.length)∧Yc L2 (us.drop L1.length)∧(us.take L1.length).length=L1.length
 | [], L2, us, h => ⟨by simp [Yc], by simpa using h, by simp⟩
 | s :: L1, L2, [], h => by cases s <;> exact h.elim
 | s :: L1, L2, u :: us, h => by
  cases s<;>cases u<;>try exact h.elim
  ·obtain ⟨h1,h2,h3⟩:=KJ L1 L2 us h.2
   exact ⟨⟨h.1,h1⟩,h2,by simpa using h3⟩
  ·obtain ⟨h1,h2,h3⟩:=KJ L1 L2 us h
   exact ⟨h1,h2,by simpa using h3⟩
theorem ZdY:∀ (L:List Sh) (a c b d:List Value),Yc L a→Yc L c→eqV (a++b) (c++d)=(eqV a c&&eqV b d)
 | [], [], [], b, d, _, _ => by simp [eqV]
 | [], _ :: _, _, _, _, h, _ => h.elim
 | [], [], _ :: _, _, _, _, h => h.elim
 | s :: L, [], _, _, _, h, _ => by cases s <;> exact h.elim
 | s :: L, _ :: _, [], _, _, _, h => by cases s <;> exact h.elim
 | s :: L, x :: a, y :: c, b, d, h, h' => by
  cases s<;>cases x<;>(try exact h.elim)<;>cases y<;>try exact h'.elim
  ·simp only [List.cons_append,eqV,ZdY L a c b d h.2 h'.2,Bool.and_assoc]
  ·simp only [List.cons_append,eqV,ZdY L a c b d h h',Bool.and_assoc]
section
variable {P:Program}
def Zj0 (P:Program) (e k:Nat) (T:TypeId):Prop:=∀ (L:List Sh) (us vs:List Value) (w:World),YK P e T=some L→Yc L us→Yc L vs→
 (Op.equalIn (k+e) T (.agg us.toArray) (.agg vs.toArray)).run P w = .ok (eqV us vs) w
theorem ZaN (e k:Nat) (rec:TypeId→Bool) (hrec:∀ T,rec T=true→Zj0 P e k T) (w:World) (us vs:List Value):∀ (fs:List Field) (n:Nat) (L:List Sh),ZiR P rec e fs n=true→
  fs.foldr (fun f acc=>match YK P e f.type,acc with | some a,some b=>some (a++b) | _,_=>none) (some [])=some L→Yc L (us.drop n)→Yc L (vs.drop n)→
  (Op.eqFields (k+e) us.toArray vs.toArray fs).run P w = .ok (eqV (us.drop n) (vs.drop n)) w
 | [], n, L, _, hL, hu, hv => by
  simp only [List.foldr_nil,Option.some.injEq] at hL
  subst hL
  cases h:us.drop n with
  | nil => simp [Op.eqFields, eqV]
  | cons x l => rw [h] at hu; exact hu.elim
 | f :: fs, n, L, hf, hL, hu, hv => by
  simp only [ZiR,Bool.and_eq_true,bne_iff_ne,ne_eq,beq_iff_eq] at hf
  obtain ⟨⟨⟨hname,hoff⟩,hty⟩,hrest⟩:=hf
  simp only [List.foldr_cons] at hL
  split at hL
  case h_2=>cases hL
  rename_i a L' ha hL'
  simp only [Option.some.injEq] at hL
  subst hL
  rw [ha] at hrest
  simp only [Bool.and_eq_true,beq_iff_eq] at hrest
  obtain ⟨hcells,hrest⟩:=hrest
  obtain ⟨u1,u2,u3⟩:=KJ a L' _ hu
  obtain ⟨v1,v2,v3⟩:=KJ a L' _ hv
  rw [List.drop_drop] at u2 v2
  have ih:=ZaN e k rec hrec w us vs fs (n+a.length) L' hrest hL' u2 v2
  have hus:us.drop n=(us.drop n).take a.length++us.drop (n+a.length):=by
   rw [← List.drop_drop,List.take_append_drop]
  have hvs:vs.drop n=(vs.drop n).take a.length++vs.drop (n+a.length):=by
   rw [← List.drop_drop,List.take_append_drop]
  have hev:eqV (us.drop n) (vs.drop n)=(eqV ((us.drop n).take a.length) ((vs.drop n).take a.length)&&eqV (us.drop (n+a.length)) (vs.drop (n+a.length))):=by
   rw [hus,hvs]
   have:=ZdY a ((us.drop n).take a.length) ((vs.drop n).take a.length) (us.drop (n+a.length)) (vs.drop (n+a.length)) u1 v1
   rw [← hus,← hvs] at this ⊢
   exact this
  rw [hev]
  -- the field's value
  suffices hx:∃ x y,(part f.type us.toArray f.offset).run P w = .ok x w∧(part f.type vs.toArray f.offset).run P w = .ok y w∧(Op.equalIn (k+e) f.type x y).run P w = .ok (eqV ((us.drop n).take a.length) ((vs.drop n).take a.length)) w by
   obtain ⟨x,y,p1,p2,p3⟩:=hx
   simp only [Op.eqFields,hname,ne_eq,not_false_eq_true,if_true,Sem.run_bind,p1,p2,p3,Result.andThen_ok,Sem.run_ite]
   cases h:eqV ((us.drop n).take a.length) ((vs.drop n).take a.length)
   ·simp
   ·simpa using ih
  have he:∃ e',e=e'+1:=by
   cases e with
   | zero => simp [YK] at ha
   | succ e' => exact ⟨e', rfl⟩
  obtain ⟨e',rfl⟩:=he
  have one:∀ (l:List Value),((l.drop n).take 1).length=1→∃ x,(l.drop n).take 1 = [x]∧l[n]? = some x:=by
   intro l hl
   cases h:l.drop n with
   | nil => rw [h] at hl; simp at hl
   | cons x r =>
    refine ⟨x,rfl,?_⟩
    have:=congrArg (fun l=>l[0]?) h
    simpa using this
  split at hty
  ·rename_i kk hk
   have ha':a = [.int kk]:=by
    simp only [YK,hk,Option.some.injEq] at ha
    exact ha.symm
   subst ha'
   obtain ⟨x,x1,x2⟩:=one us u3
   obtain ⟨y,y1,y2⟩:=one vs v3
   simp only [List.length_cons,List.length_nil,Nat.zero_add] at u1 v1 ⊢
   rw [x1] at u1 ⊢
   rw [y1] at v1 ⊢
   cases x<;>try exact u1.elim
   cases y<;>try exact v1.elim
   obtain ⟨rfl,_⟩:=u1
   obtain ⟨rfl,_⟩:=v1
   have p1:∀ (l:List Value) (x:Value),l[n]? = some x→(part f.type l.toArray f.offset).run P w = .ok x w:=by
    intro l x h
    rw [hoff]
    have:l.toArray[n]? = some x:=by simpa using h
    simp [part,isAgg,run_underlying hk,this]
   refine ⟨_,_,p1 us _ x2,p1 vs _ y2,?_⟩
   rw [show k+(e'+1)=(k+e')+1 from rfl,run_equalIn_int w (k+e') f.type _ _ _ _ hk]
   simp [eqV]
  ·rename_i hk
   have ha':a = [.bool]:=by
    simp only [YK,hk,Option.some.injEq] at ha
    exact ha.symm
   subst ha'
   obtain ⟨x,x1,x2⟩:=one us u3
   obtain ⟨y,y1,y2⟩:=one vs v3
   simp only [List.length_cons,List.length_nil,Nat.zero_add] at u1 v1 ⊢
   rw [x1] at u1 ⊢
   rw [y1] at v1 ⊢
   cases x<;>try exact u1.elim
   cases y<;>try exact v1.elim
   have p1:∀ (l:List Value) (x:Value),l[n]? = some x→(part f.type l.toArray f.offset).run P w = .ok x w:=by
    intro l x h
    rw [hoff]
    have:l.toArray[n]? = some x:=by simpa using h
    simp [part,isAgg,run_underlying hk,this]
   refine ⟨_,_,p1 us _ x2,p1 vs _ y2,?_⟩
   rw [show k+(e'+1)=(k+e')+1 from rfl,run_equalIn_bool' w (k+e') f.type _ _ hk]
   simp [eqV]
  ·rename_i gs hk
   rw [Bool.and_eq_true] at hty
   obtain ⟨inf,hinf⟩:=Option.isSome_iff_exists.1 hty.2
   have hsz:P.cellsOf f.type=inf.size:=Z1 hinf
   have p1:∀ (l:List Value),(part f.type l.toArray f.offset).run P w = .ok (.agg ((l.drop n).take a.length).toArray) w:=by
    intro l
    rw [hoff]
    have hag:(isAgg f.type).run P w = .ok true w:=by simp [isAgg,run_underlying hk]
    have:l.toArray.extract n (n+inf.size)=((l.drop n).take a.length).toArray:=by
     apply Array.toList_inj.1
     rw [Array.toList_extract]
     simp [List.extract_eq_take_drop,← hcells,hsz]
    rw [← hsz,hcells] at this
    simp [part,hag,Zn hinf,← hsz,hcells]
   exact ⟨_,_,p1 us,p1 vs,hrec f.type hty.1 a _ _ w ha u1 v1⟩
  ·cases hty
theorem Zih:∀ (e k:Nat) (T:TypeId),ZfW P e T=true→Zj0 P e k T
 | 0, _, _, h => by simp [ZfW] at h
 | e + 1, k, T, h => by
  intro L us vs w hL hu hv
  unfold ZfW at h
  split at h
  ·rename_i fs hfs
   simp only [Bool.and_eq_true,Bool.not_eq_true'] at h
   have hfo:P.fieldsOf T=fs:=by simp only [Program.fieldsOf,hfs]
   rw [show k+(e+1)=(k+e)+1 from rfl,run_equalIn_struct w (k+e) T _ _ (by rw [hfo];exact hfs) h.2,hfo]
   have:=ZaN e k (ZfW P e) (fun T' h'=>Zih e k T' h') w us vs fs.toList 0 L h.1 (by
    rw [YK] at hL
    simp only [hfs] at hL
    exact hL) (by simpa using hu) (by simpa using hv)
   simpa using this
  ·cases h
theorem Zjw {plain:List TypeId} (h:plain.all (ZlP P)=true):PlainSound P plain:=by
 intro T hT
 rw [List.all_eq_true] at h
 have hf:=h T hT
 unfold ZlP at hf
 simp only [Bool.and_eq_true,Bool.not_eq_true'] at hf
 exact ⟨hf.2,fun L hL us vs hu hv w=>Zih 8 9992 T hf.1 L us vs w hL hu hv⟩
end
end Go.AM
end

section
namespace Go.AM
def Zm9 (l:List V):Nat→V:=fun n=>(l[n]?).getD (.i 0)
abbrev I (z:Int):AV:=.val (.int .i64 z)
abbrev B (b:Bool):AV:=.val (.bool b)
theorem Wf {z:Int} (h1 : -(2^63:Int)≤z) (h2:z < 2^63):IntKind.i64.wrap z=z:=by
 have e:(2:Int)^63=9223372036854775808:=by decide
 rw [e] at h1 h2
 simp only [IntKind.wrap]
 have:IntKind.i64.signed=true:=rfl
 simp [this,IntKind.bits]
 omega
theorem Y8 {z:Int} (h1:0≤z) (h2:z < 2^64):IntKind.u64.wrap z=z:=by
 have e:(2:Int)^64=18446744073709551616:=by decide
 rw [e] at h2
 simp only [IntKind.wrap]
 have:IntKind.u64.signed=false:=rfl
 simp [this,IntKind.bits]
 omega
theorem Jj {a b:Int} (h1 : -(2^63:Int)≤a+b) (h2:a+b < 2^63):iop .add .i64 a b=a+b:=Wf h1 h2
theorem Zc6 {a b:Int} (h1 : -(2^63:Int)≤a-b) (h2:a-b < 2^63):iop .sub .i64 a b=a-b:=Wf h1 h2
theorem Zkp {a b:Int} (h1 : -(2^63:Int)≤a*b) (h2:a*b < 2^63):iop .mul .i64 a b=a*b:=Wf h1 h2
theorem Zlr {b:Int} (h2:b≤62):iop .shl .i64 1 b=2^b.toNat:=by
 have hb:b.toNat≤62:=by omega
 have hle:(2:Int)^b.toNat≤2^62:=by
  have:=Nat.pow_le_pow_right (n:=2) (by omega) hb
  exact_mod_cast this
 have hpos:(0:Int) < 2^b.toNat:=by
  have:=Nat.pow_pos (n:=b.toNat) (show 0 < 2 by omega)
  exact_mod_cast this
 have e62:(2:Int)^62=4611686018427387904:=by decide
 have e63:(2:Int)^63=9223372036854775808:=by decide
 have hmin:min b.toNat IntKind.i64.bits=b.toNat:=by
  have:IntKind.i64.bits=64:=rfl
  omega
 simp only [iop,hmin,Int.one_mul]
 rw [Wf (by omega) (by omega)]
theorem JR (n:Nat):(0:Int) < 2^n:=by
 have:=Nat.pow_pos (n:=n) (show 0 < 2 by omega)
 exact_mod_cast this
theorem Zhx {m n:Nat} (h:m≤n):(2:Int)^m≤2^n:=by
 have:=Nat.pow_le_pow_right (n:=2) (by omega) h
 exact_mod_cast this
theorem ZG (a b:Int):(cop .lss a b=true)=(a < b):=by simp [cop]
theorem ZM (a b:Int):(cop .lss a b=false)=(b≤a):=by simp [cop]
theorem ZA (a b:Int):(cop .leq a b=true)=(a≤b):=by simp [cop]
theorem ZJ (a b:Int):(cop .leq a b=false)=(b < a):=by simp [cop]
theorem ZD (a b:Int):(cop .gtr a b=true)=(b < a):=by simp [cop]
theorem ZI (a b:Int):(cop .gtr a b=false)=(a≤b):=by simp [cop]
theorem ZB (a b:Int):(cop .geq a b=true)=(b≤a):=by simp [cop]
theorem ZC (a b:Int):(cop .geq a b=false)=(a < b):=by simp [cop]
theorem ZF (a b:Int):(cop .eql a b=true)=(a=b):=by simp [cop]
theorem ZE (a b:Int):(cop .eql a b=false)=(a≠b):=by simp [cop]
theorem ZK (a b:Int):(cop .neq a b=true)=(a≠b):=by simp [cop]
theorem ZH (a b:Int):(cop .neq a b=false)=(a=b):=by simp [cop]
theorem ZV (x y:Bool):(x=y)=(x=true↔y=true):=by cases x<;>cases y<;>simp
end Go.AM
end
