/- AmSnd3, AmReg, AmEvo, AmWeak, AmPat, AmCtl: texts of the proof, put together. -/
import Derived.Test.YtlgmnddelljbmaaGreatM2
import Derived.Orders
import Derived.LoopN
import Derived.Scope
import Derived.Laws.Cover3

section
namespace Go.AM
theorem us1 {t n:Nat} {x:SV} (h:x.bd n):∀ u∈[(t,x)],u.2.bd n:=by
 intro u hu
 rw [List.mem_singleton] at hu
 subst hu
 exact h
theorem us2 {t t' n:Nat} {x y:SV} (h:x.bd n) (h':y.bd n):∀ u∈[(t,x),(t',y)],u.2.bd n:=by
 intro u hu
 rcases List.mem_cons.1 hu with rfl | hu
 ·exact h
 ·exact us1 h' u hu
theorem Jv {g:Nat→SV} {d:Nat} : ∀ (n:Nat) (u:Nat×SV),u∈ZW g d n↔u.2 = .dead∧u.1 < n∧u.1≠d∧ZbK d (g u.1)=true
 | 0, u => by simp [ZW]
 | n + 1, u => by
  have ih:=Jv (g:=g) (d:=d) n u
  have key:∀ p:Prop,(u∈(if n≠d∧ZbK d (g n)=true then (n,SV.dead)::ZW g d n else ZW g d n)↔p)→(u∈ZW g d (n+1)↔p):=fun p h=>h
  apply key
  split
  ·rename_i h
   rw [List.mem_cons,ih]
   constructor
   ·rintro (rfl | ⟨h1,h2,h3⟩)
    ·exact ⟨rfl,Nat.lt_succ_self n,h.1,h.2⟩
    ·exact ⟨h1,by omega,h3⟩
   ·rintro ⟨h1,h2,h3⟩
    by_cases hn:u.1=n
    ·left
     obtain ⟨a,b⟩:=u
     simp only at h1 hn
     rw [h1,hn]
    ·exact .inr ⟨h1,by omega,h3⟩
  ·rename_i h
   rw [ih]
   constructor
   ·rintro ⟨h1,h2,h3⟩
    exact ⟨h1,by omega,h3⟩
   ·rintro ⟨h1,h2,h3,h4⟩
    refine ⟨h1,?_,h3,h4⟩
    by_cases hn:u.1=n
    ·subst hn;exact (h ⟨h3,h4⟩).elim
    ·omega
theorem V6 (ρ:Nat→V) (d:Nat) (x:SV):ZbK d x=true↔∃ k,Z0 (x.den ρ) d k:=by
 cases x with
 | mref d' k' =>
  simp only [ZbK,beq_iff_eq]
  constructor
  ·rintro rfl;exact ⟨k',.inl rfl⟩
  ·rintro ⟨k,h | ⟨_,h⟩⟩ <;> cases h
   rfl
 | eref d' k' i s o =>
  simp only [ZbK,beq_iff_eq]
  constructor
  ·rintro rfl;exact ⟨k',.inr ⟨_,rfl⟩⟩
  ·rintro ⟨k,h | ⟨_,h⟩⟩ <;> cases h
   rfl
 | c y =>
  constructor
  ·intro h;cases h
  ·rintro ⟨k,h | ⟨_,h⟩⟩ <;> cases y<;>cases h
 | _ =>
  constructor
  ·intro h;cases h
  ·rintro ⟨k,h | ⟨_,h⟩⟩ <;> cases h
theorem JH {g:Nat→SV} (ρ:Nat→V) {d top:Nat} (htop:∀ i,top≤i→g i = .dead):Kb (fun d=>(g d).den ρ) d ((ZW g d top).map fun u=>(u.1,u.2.den ρ)):=by
 refine ⟨fun u hu=>?_,fun i k hi hr=>?_⟩
 ·obtain ⟨v,hv,rfl⟩:=List.mem_map.1 hu
  obtain ⟨h1,h2,h3,h4⟩:=(Jv top v).1 hv
  exact ⟨h3,by show v.2.den ρ=_;rw [h1];rfl,(V6 ρ d _).1 h4⟩
 ·have hr':=(V6 ρ d (g i)).2 ⟨k,hr⟩
  have hlt:i < top:=by
   rcases Nat.lt_or_ge i top with h | h
   ·exact h
   ·rw [htop i h] at hr';cases hr'
  rw [List.map_map]
  exact List.mem_map.2 ⟨(i,.dead),(Jv top (i,.dead)).2 ⟨rfl,hlt,hi,hr'⟩,rfl⟩
theorem ZhW {g:Nat→SV} (ρ:Nat→V) {top:Nat} (htop:∀ i,top≤i→g i = .dead) {txt:Odr} {d:Nat} {us:Ups} (h:ZgN txt g top d=some us) :
  (∀ u∈us,u.2 = .dead)∧JW txt (fun d=>(g d).den ρ) d (us.map fun u=>(u.1,u.2.den ρ)):=by
 unfold ZgN at h
 split at h
 ·simp only [Option.some.injEq] at h
  subst h
  exact ⟨fun u hu=>((Jv top u).1 hu).1,.inl ⟨rfl,JH ρ htop⟩⟩
 ·split at h
  ·rename_i N M hN
   simp only [Option.some.injEq] at h
   subst h
   exact ⟨fun u hu=>by simp at hu,.inr ⟨N,M,rfl,hN,rfl⟩⟩
  ·cases h
theorem JX {P:Program} {g:Nat→SV} (ρ:Nat→V) {top:Nat} (htop:∀ i,top≤i→g i = .dead) {txt:Odr} {x:Bool} {t:Nat} {e:TypeId} {l:LE} {us:Ups} (ht:g t = .own x e l) (h:YI P txt g top t x e l=some us) :
  ∃ us',us=us'∧(us'.map fun u=>(u.1,u.2.den ρ))=(t,Wa P x e (l.den ρ))::(us'.tail.map fun u=>(u.1,u.2.den ρ))∧((x=false∧(us'.tail.map fun u=>(u.1,u.2.den ρ)) = [])∨JW txt (fun d=>(g d).den ρ) t (us'.tail.map fun u=>(u.1,u.2.den ρ))):=by
 unfold YI at h
 split at h
 ·simp only [Option.some.injEq] at h
  subst h
  exact ⟨_,rfl,rfl,.inl ⟨rfl,rfl⟩⟩
 ·split at h
  ·simp only [Option.some.injEq] at h
   subst h
   exact ⟨_,rfl,rfl,.inr (.inl ⟨rfl,JH ρ htop⟩)⟩
  ·rename_i N M
   split at h
   ·rename_i hN
    simp only [Option.some.injEq] at h
    subst h
    exact ⟨_,rfl,rfl,.inr (.inr ⟨N,M,rfl,hN,rfl⟩)⟩
   ·cases h
theorem J2 {P:Program} {g:Nat→SV} {top n:Nat} {txt:Odr} {x:Bool} {t:Nat} {e:TypeId} {l:LE} {us:Ups} (h:YI P txt g top t x e l=some us) (hl:l.bd n):∀ u∈us,u.2.bd n:=by
 unfold YI at h
 split at h
 ·simp only [Option.some.injEq] at h
  subst h
  exact us1 hl
 ·split at h
  ·simp only [Option.some.injEq] at h
   subst h
   intro u hu
   rcases List.mem_cons.1 hu with rfl | hu
   ·trivial
   ·rw [((Jv top u).1 hu).1];trivial
  ·split at h
   ·simp only [Option.some.injEq] at h
    subst h
    exact us1 trivial
   ·cases h
theorem Wj {cs:List BC} {off m:Nat} (h:K1 ((cs.drop off).take m)=true) (ρ:Nat→V):Zba (((cs.map (BC.den ρ)).drop off).take m):=by
 rw [← List.map_drop,← List.map_take]
 exact ZaW h ρ
theorem Zgu {cs:List BC} {off m:Nat} (h:Ww ((cs.drop off).take m)=true) (ρ:Nat→V):Whole (((cs.map (BC.den ρ)).drop off).take m):=by
 rw [← List.map_drop,← List.map_take]
 exact ZdZ h ρ
theorem Zfx {g:Nat→SV} (ρ:Nat→V) {top:Nat} (htop:∀ i,top≤i→g i = .dead) {txt:Odr} {d:Nat} {cs:List BC} {off m:Nat} (h:(K1 ((cs.drop off).take m)||ZcQ txt g top d)=true) :
  Zba (((cs.map (BC.den ρ)).drop off).take m)∨JW txt (fun d=>(g d).den ρ) d []:=by
 rcases Bool.or_eq_true_iff.1 h with h | h
 ·exact .inl (Wj h ρ)
 ·right
  unfold ZcQ at h
  split at h
  ·simp only [List.isEmpty_iff] at h
   refine .inl ⟨rfl,by simp,fun j q hj hr=>?_⟩
   have:=(JH ρ htop (d:=d)).2 j q hj hr
   rw [h] at this
   exact this
  ·exact .inr ⟨_,_,rfl,h,rfl⟩
theorem Zel {x:SV} (ρ:Nat→V) (h:x.isG=false):(x.den ρ).isG=false:=by
 cases x with
 | gbox cs => cases h
 | c y => cases y <;> rfl
 | _ => rfl
theorem Jd {x:SV} {k:Nat} {e:TypeId} {l:LE} (ρ:Nat→V) (h:Js x k=some (e,l)):Zm (x.den ρ) k=some (e,l.den ρ):=by
 unfold Js at h
 split at h
 ·simp only [Option.some.injEq,Prod.mk.injEq] at h
  obtain ⟨rfl,rfl⟩:=h
  rfl
 ·rename_i cs q
  split at h
  ·rename_i e' l' hc
   simp only [Option.some.injEq,Prod.mk.injEq] at h
   obtain ⟨rfl,rfl⟩:=h
   simp only [SV.den,Zm,List.getElem?_map,hc]
   rfl
  ·cases h
 ·rename_i cs q
  split at h
  ·rename_i e' l' hc
   simp only [Option.some.injEq,Prod.mk.injEq] at h
   obtain ⟨rfl,rfl⟩:=h
   simp only [SV.den,Zm,List.getElem?_map,hc]
   rfl
  ·cases h
 ·cases h
theorem Yp {x:SV} {k n:Nat} {e:TypeId} {l:LE} (h:Js x k=some (e,l)) (hb:x.bd n):l.bd n:=by
 unfold Js at h
 split at h
 ·simp only [Option.some.injEq,Prod.mk.injEq] at h
  obtain ⟨rfl,rfl⟩:=h
  exact hb
 ·rename_i cs q
  split at h
  ·rename_i e' l' hc
   simp only [Option.some.injEq,Prod.mk.injEq] at h
   obtain ⟨rfl,rfl⟩:=h
   exact hb _ (List.mem_of_getElem? hc)
  ·cases h
 ·rename_i cs q
  split at h
  ·rename_i e' l' hc
   simp only [Option.some.injEq,Prod.mk.injEq] at h
   obtain ⟨rfl,rfl⟩:=h
   exact hb _ (List.mem_of_getElem? hc)
  ·cases h
 ·cases h
theorem Ky (ρ:Nat→V) (x:SV) (k:Nat) (b:Bool) (e:TypeId) (l:LE):(YB x k b e l).den ρ=ZH (x.den ρ) k b e (l.den ρ):=by
 cases x with
 | own x e' l' => cases k <;> rfl
 | box cs =>
  cases k with
  | zero => rfl
  | succ k => simp only [YB, SV.den, ZH, List.map_set]; rfl
 | c y => cases y <;> rfl
 | _ => cases k <;> rfl
theorem K7 {x:SV} {k n:Nat} {b:Bool} {e:TypeId} {l:LE} (hx:x.bd n) (hl:l.bd n):(YB x k b e l).bd n:=by
 unfold YB
 split
 ·exact hl
 ·intro c hc
  rcases List.mem_or_eq_of_mem_set hc with hc | rfl
  ·exact hx c hc
  ·exact hl
 ·exact hx
section
variable {P:Program} {E:Env} {tx:Odr} {tk:Bool} {R:AV→List AV→Prop} {A:Nat→List V→Prop} {ρ:Nat→V} {g:Nat→SV} {o:Oper} {n:Nat} {k:K}
theorem ZlY {x:Operand} (hg:∀ d,(g d).bd n) (htop:∀ i,E.top≤i→g i = .dead) (ho:o.op = .move x) (h:(JT P E tx tk g o n k).wp P R A ρ):YV tx P R A ρ g o n k:=by
 have plain:(k (Ju P g x) [] [] n).wp P R A ρ→YV tx P R A ρ g o n k:=fun hk=>ZF hk (Zy hg x) (by rw [J4];exact ZdU (.inl ho))
 simp only [JT,ho] at h
 split at h
 ·rename_i t
  have ht:=hg t
  split at h
  ·rename_i vs hv
   rw [hv] at ht
   exact Zd4 h ht (us1 trivial) (ZgD ho (by rw [hv];rfl))
  ·rename_i b e xs hv
   rw [hv] at ht
   unfold ZcT at h
   split at h
   ·split at h
    ·rename_i us hus
     obtain ⟨us',rfl,q1,q2⟩:=JX ρ htop (t:=t) hv hus
     exact Zb5 h ht (J2 hus ht) (by rw [q1];exact Zeb (.inl ho) (by rw [hv];rfl) q2)
    ·exact h.elim
   ·refine plain ?_
    have:Ju P g (.tmp t)=match b with | true=>.mref t 0 | false=>.c (.slice false (P.cellsOf e) xs):=by simp only [Ju,hv];cases b<;>rfl
    rw [this]
    cases b<;>exact h
  ·exact plain h
 ·exact plain h
theorem Zis {x:Operand} (hg:∀ d,(g d).bd n) (htop:∀ i,E.top≤i→g i = .dead) (ho:o.op = .assign x) (h:(JT P E tx tk g o n k).wp P R A ρ):YV tx P R A ρ g o n k:=by
 have plain:(k (Ju P g x) [] [] n).wp P R A ρ→YV tx P R A ρ g o n k:=fun hk=>ZF hk (Zy hg x) (by rw [J4];exact ZdU (.inr ho))
 simp only [JT,ho] at h
 split at h
 ·rename_i t
  have ht:=hg t
  split at h
  ·exact h.elim
  ·rename_i b e xs hv
   rw [hv] at ht
   unfold ZcT at h
   split at h
   ·split at h
    ·rename_i us hus
     obtain ⟨us',rfl,q1,q2⟩:=JX ρ htop (t:=t) hv hus
     exact Zb5 h ht (J2 hus ht) (by rw [q1];exact Zeb (.inr ho) (by rw [hv];rfl) q2)
    ·exact h.elim
   ·refine plain ?_
    have:Ju P g (.tmp t)=match b with | true=>.mref t 0 | false=>.c (.slice false (P.cellsOf e) xs):=by simp only [Ju,hv];cases b<;>rfl
    rw [this]
    cases b<;>exact h
  ·exact plain h
 ·split at h
  ·exact ZF h trivial (Zi3 ho)
  ·exact h.elim
 ·exact plain h
theorem ZlF {c a b:Operand} (hg:∀ d,(g d).bd n) (ho:o.op = .pick c a b) (h:(JT P E tx tk g o n k).wp P R A ρ):YV tx P R A ρ g o n k:=by
 simp only [JT,ho] at h
 split at h
 ·rename_i v hv
  obtain ⟨h1,h2⟩:=ZeW h
  have hc:=Ze ρ hv
  have hex:=Zh6 ho hc
  cases hb:v.den ρ with
  | true =>
   rw [hb,if_pos rfl] at hex
   exact ZF (h1 hb) (Zy hg a) (by rw [J4];exact hex)
  | false =>
   rw [hb,if_neg (by simp)] at hex
   exact ZF (h2 hb) (Zy hg b) (by rw [J4];exact hex)
 ·exact h.elim
theorem Zjn {T:TypeId} (ho:o.op = .alloc T) (h:(JT P E tx tk g o n k).wp P R A ρ):YV tx P R A ρ g o n k:=by
 simp only [JT,ho] at h
 split at h
 ·rename_i cs hcs
  obtain ⟨i,z,h1,h2,h3,h4⟩:=ZjA ρ n hcs
  exact ZF h h4 (Zf8 ho h1 h2 h3)
 ·exact h.elim
theorem ZmQ {T:TypeId} {x:Operand} (hg:∀ d,(g d).bd n) (ho:o.op = .box T x) (h:(JT P E tx tk g o n k).wp P R A ρ):YV tx P R A ρ g o n k:=by
 simp only [JT,ho] at h
 split at h
 ·rename_i cs hcs
  refine ZF h (fun c hc=>?_) ?_
  ·obtain ⟨y,hy,rfl⟩:=List.mem_map.1 hc
   exact WW hcs (Zy hg x) y hy
  ·have hd:=VJ ρ hcs
   have:=Zjv ho (J4 P g ρ x).symm hd
   have he:((SV.box (cs.map .c)).den ρ) = .box (cs.map (SC.den ρ)):=by simp only [SV.den,List.map_map];rfl
   rw [he]
   exact this
 ·exact h.elim
theorem Zd3 (parts:Array (Nat×Operand)):(parts.toList.map fun p=>(p.1,Zl P (fun d=>(g d).den ρ) p.2))=(parts.toList.map fun p=>(p.1,Ju P g p.2)).map fun p=>(p.1,p.2.den ρ):=by
 rw [List.map_map]
 refine List.map_congr_left fun p _=>?_
 simp only [Function.comp,J4]
theorem Zfj (hg:∀ d,(g d).bd n) (parts:Array (Nat×Operand)):∀ p∈(parts.toList.map fun p=>(p.1,Ju P g p.2)),p.2.bd n:=by
 intro p hp
 obtain ⟨q,_,rfl⟩:=List.mem_map.1 hp
 exact Zy hg q.2
theorem ZeY {T:TypeId} {parts:Array (Nat×Operand)} {f t:Nat} {e:TypeId} {l:LE} (hg:∀ d,(g d).bd n) (htop:∀ i,E.top≤i→g i = .dead) (ho:o.op = .build T parts) (hp:ZeD g parts.toList=some (f,t,e,l)) (h:(ZcU P E tx g T f t e l n k).wp P R A ρ):YV tx P R A ρ g o n k:=by
 have hparts:parts.toList = [(f,.tmp t)]∧g t = .own true e l:=by
  unfold ZeD at hp
  split at hp
  ·split at hp
   ·rename_i h1 _ _ _ h2
    simp only [Option.some.injEq,Prod.mk.injEq] at hp
    obtain ⟨rfl,rfl,rfl,rfl⟩:=hp
    exact ⟨h1,h2⟩
   ·cases hp
  ·cases hp
 obtain ⟨hp1,ht⟩:=hparts
 have hbl:=hg t
 rw [ht] at hbl
 unfold ZcU at h
 split at h
 ·rename_i fs i hT hi
  split at h
  ·rename_i hall
   split at h
   ·rename_i z fd hz hfd
    split at h
    ·rename_i zc us hzc hus
     split at h
     ·rename_i hh
      have h1:=YC ρ z.cells.toList
      rw [hzc] at h1
      have hz1:V9 z.cells.toList=some (zc.map (SC.den ρ)):=h1.symm
      obtain ⟨us',rfl,q1,q2⟩:=JX ρ htop (t:=t) ht hus
      refine Zb5 h (fun c hc=>?_) (J2 hus hbl) ?_
      ·rcases List.mem_or_eq_of_mem_set hc with hc | rfl
       ·obtain ⟨y,hy,rfl⟩:=List.mem_map.1 hc
        exact KD hzc y hy
       ·exact hbl
      ·have hod:JW tx (fun d=>(g d).den ρ) t (us.tail.map fun u=>(u.1,u.2.den ρ)):=by
        rcases q2 with ⟨h0,_⟩ | q2
        ·cases h0
        ·exact q2
       have:=Za1 (zc:=zc.map (SC.den ρ)) ho hp1 hT hi hz hz1 hall hfd hh.1 (by simpa using hh.2) (show (fun d=>(g d).den ρ) t = .own true e (l.den ρ) by show (g t).den ρ=_;rw [ht];rfl) hod
       rw [q1]
       have he:(SV.aggo ((zc.map .c).set fd.offset (.own true e l))).den ρ = .aggo ((zc.map (SC.den ρ)).set fd.offset (.own true e (l.den ρ))):=by
        simp only [SV.den,List.map_set,List.map_map]
        rfl
       rw [he]
       exact this
     ·exact h.elim
    ·exact h.elim
   ·exact h.elim
  ·exact h.elim
 ·exact h.elim
theorem ZjQ {T:TypeId} {parts:Array (Nat×Operand)} (hg:∀ d,(g d).bd n) (htop:∀ i,E.top≤i→g i = .dead) (ho:o.op = .build T parts) (h:(JT P E tx tk g o n k).wp P R A ρ):YV tx P R A ρ g o n k:=by
 simp only [JT,ho] at h
 split at h
 ·rename_i f t e l hp
  exact ZeY hg htop ho hp h
 split at h
 ·rename_i fs i hT hi
  split at h
  ·rename_i hall
   split at h
   ·rename_i z hz
    split at h
    ·rename_i zc hzc
     split at h
     ·rename_i cs hcs
      refine ZF h (ZcA _ _ _ _ (KD hzc) (Zfj hg parts) hcs) ?_
      have h1:=YC ρ z.cells.toList
      rw [hzc] at h1
      refine Zgf ho hT hi hz h1.symm hall ?_
      rw [Zd3]
      exact Zai ρ _ _ _ _ hcs
     ·exact h.elim
    ·exact h.elim
   ·exact h.elim
  ·exact h.elim
 ·exact h.elim
theorem Ve {w:World} {lim:Nat→Nat} {f g:Bool} {s s':Nat} {v:Value} (hg:g=true→f=true) (h:Rep w lim (.slice f s []) v):Rep w lim (.slice g s' []) v:=by
 have key:∀ (y:AV),Rep w lim y v→y = .slice f s []→Rep w lim (.slice g s' []) v:=by
  intro y hy hye
  cases hy with
  | sliceN => exact .sliceN
  | @sliceE f' s2 a cap hf =>
   injection hye with h1 h2 h3
   exact .sliceE fun h=>hf (h1.trans (hg h))
  | @sliceC f' s2 xs b o cap us hs hc hf hle hlim hus hcell hr =>
   injection hye with h1 h2 h3
   subst h3
   exact .sliceE fun h=>by have:=hf (h1.trans (hg h));simpa using this
  | val _ => cases hye
  | agg _ _ _ => cases hye
 exact key _ h rfl
theorem Zeo {w:World} {lim:Nat→Nat} {f:Bool} {s:Nat} {xs:List (List AV)} {v:Value} (h:Rep w lim (.slice f s xs) v):Rep w lim (.slice false s xs) v:=by
 have key:∀ (y:AV),Rep w lim y v→y = .slice f s xs→Rep w lim (.slice false s xs) v:=by
  intro y hy hye
  cases hy with
  | sliceN => injection hye with h1 h2 h3; subst h3; exact .sliceN
  | @sliceE f' s2 a cap hf => injection hye with h1 h2 h3; subst h3; exact .sliceE fun h => by cases h
  | @sliceC f' s2 xs b o cap us hs hc hf hle hlim hus hcell hr =>
   injection hye with h1 h2 h3
   subst h2
   subst h3
   exact .sliceC hs hc (fun h=>by cases h) hle hlim hus hcell hr
  | val _ => cases hye
  | agg _ _ _ => cases hye
 exact key _ h rfl
theorem Zje (ρ:Nat→V) {s:Sh} {c c':SC} (h:Zhg s c=some c'):∀ (w:World) (lim:Nat→Nat) (u:Value),Rep w lim (c.den ρ) u→Rep w lim (c'.den ρ) u:=by
 unfold Zhg at h
 split at h
 ·split at h
  ·simp only [Option.some.injEq] at h
   subst h
   rename_i hk
   subst hk
   exact fun w lim u hr=>Zeo hr
  ·split at h
   ·simp only [Option.some.injEq] at h
    subst h
    exact fun w lim u hr=>Ve (fun h=>by cases h) hr
   ·cases h
 ·simp only [Option.some.injEq] at h
  subst h
  exact fun _ _ _ h=>h
theorem Zjf {n:Nat} {s:Sh} {c c':SC} (h:Zhg s c=some c') (hb:c.bd n):c'.bd n:=by
 unfold Zhg at h
 split at h
 ·split at h
  ·simp only [Option.some.injEq] at h
   subst h
   exact hb
  ·split at h
   ·simp only [Option.some.injEq] at h
    subst h
    trivial
   ·cases h
 ·simp only [Option.some.injEq] at h
  subst h
  exact hb
theorem Kn {n:Nat} : ∀ (l:List Sh) (cs cs':List SC),Yj l cs=some cs'→(∀ c∈cs,c.bd n)→∀ c∈cs',c.bd n
 | [], [], _, h, _ => by simp only [Yj, Option.some.injEq] at h; subst h; simp
 | [], _ :: _, _, h, _ => by simp [Yj] at h
 | _ :: _, [], _, h, _ => by simp [Yj] at h
 | s :: ss, c :: cs, r, h, hb => by
  simp only [Yj] at h
  split at h
  ·rename_i v vs hv hvs
   simp only [Option.some.injEq] at h
   subst h
   intro x hx
   rcases List.mem_cons.1 hx with rfl | hx
   ·exact Zjf hv (hb c (by simp))
   ·exact Kn ss cs vs hvs (fun y hy=>hb y (by simp [hy])) x hx
  ·cases h
theorem Zde (ρ:Nat→V):∀ (l:List Sh) (cs cs':List SC),Yj l cs=some cs'→cs'.length=cs.length∧∀ (i:Nat) (c:SC),cs'[i]? = some c→∃ c0,cs[i]? = some c0∧∀ (w:World) (lim:Nat→Nat) (u:Value),Rep w lim (c0.den ρ) u→Rep w lim (c.den ρ) u
 | [], [], _, h => by simp only [Yj, Option.some.injEq] at h; subst h; exact ⟨rfl, by simp⟩
 | [], _ :: _, _, h => by simp [Yj] at h
 | _ :: _, [], _, h => by simp [Yj] at h
 | s :: ss, c :: cs, r, h => by
  simp only [Yj] at h
  split at h
  ·rename_i v vs hv hvs
   simp only [Option.some.injEq] at h
   subst h
   obtain ⟨h1,h2⟩:=Zde ρ ss cs vs hvs
   refine ⟨by simp [h1],fun i x hx=>?_⟩
   cases i with
   | zero =>
    simp only [List.getElem?_cons_zero,Option.some.injEq] at hx
    subst hx
    exact ⟨c,rfl,Zje ρ hv⟩
   | succ i => exact h2 i x (by simpa using hx)
  ·cases h
theorem VD (ρ:Nat→V) (l:List Sh) (cs cs':List SC) (h:Yj l cs=some cs'):(cs'.map (SC.den ρ)).length=(cs.map (SC.den ρ)).length∧
  ∀ (w:World) (lim:Nat→Nat) (us:List Value),JV w lim (cs.map (SC.den ρ)) us→JV w lim (cs'.map (SC.den ρ)) us:=by
 obtain ⟨h1,h2⟩:=Zde ρ l cs cs' h
 refine ⟨by simp [h1],fun w lim us hr=>⟨by rw [← hr.1];simp [h1],fun x hx=>?_,fun i x u hx hu=>?_⟩⟩
 ·obtain ⟨y,_,rfl⟩:=List.mem_map.1 hx
  exact Zgc ρ y
 ·rw [List.getElem?_map] at hx
  cases hc:cs'[i]? with
  | none => rw [hc] at hx; cases hx
  | some c =>
   rw [hc] at hx
   simp only [Option.map_some,Option.some.injEq] at hx
   subst hx
   obtain ⟨c0,g1,g2⟩:=h2 i c hc
   exact g2 w lim u (hr.2.2 i _ u (by rw [List.getElem?_map,g1];rfl) hu)
theorem Zev (ρ:Nat→V) (s:Sh) (c:SC):(∀ n,c.bd n→(Zl9 s c).bd n)∧((c.den ρ).isCell=true→((Zl9 s c).den ρ).isCell=true)∧∀ (w:World) (lim:Nat→Nat) (u:Value),Rep w lim (c.den ρ) u→Rep w lim ((Zl9 s c).den ρ) u:=by
 unfold Zl9
 split
 ·exact ⟨fun _ h=>h,fun _=>rfl,fun w lim u h=>Ve (fun h=>h) h⟩
 ·exact ⟨fun _ h=>h,fun h=>h,fun _ _ _ h=>h⟩
theorem Zen (ρ:Nat→V):∀ (l:List Sh) (cs:List SC),(Zjz l cs).length=cs.length∧∀ (i:Nat) (c:SC),(Zjz l cs)[i]? = some c→∃ c0 s,cs[i]? = some c0∧(c=c0∨c=Zl9 s c0)
 | [], cs => by cases cs <;> exact ⟨rfl, fun i c h => ⟨c, .bool, h, .inl rfl⟩⟩
 | s :: ss, [] => ⟨rfl, fun i c h => by simp [Zjz] at h⟩
 | s :: ss, c :: cs => by
  obtain ⟨h1,h2⟩:=Zen ρ ss cs
  refine ⟨by simp [Zjz,h1],fun i x hx=>?_⟩
  cases i with
  | zero =>
   simp only [Zjz,List.getElem?_cons_zero,Option.some.injEq] at hx
   exact ⟨c,s,rfl,.inr hx.symm⟩
  | succ i => exact h2 i x (by simpa [Zjz] using hx)
theorem ZnR {n:Nat} (P:Program) (T:TypeId) {vc:List SC} (h:∀ c∈vc,c.bd n):∀ c∈nrm P T vc,c.bd n:=by
 unfold nrm
 split
 ·rename_i sh _
  intro c hc
  obtain ⟨i,hi⟩:=List.mem_iff_getElem?.1 hc
  obtain ⟨c0,s,h0,e | e⟩:=(Zen (fun _=>.i 0) sh vc).2 i c hi
  ·rw [e];exact h c0 (List.mem_of_getElem? h0)
  ·rw [e];exact (Zev (fun _=>.i 0) s c0).1 n (h c0 (List.mem_of_getElem? h0))
 ·exact h
theorem ZnC (ρ:Nat→V) (P:Program) (T:TypeId) (vc:List SC):((nrm P T vc).map (SC.den ρ)).length=(vc.map (SC.den ρ)).length∧
  ∀ (w:World) (lim:Nat→Nat) (us:List Value),JV w lim (vc.map (SC.den ρ)) us→JV w lim ((nrm P T vc).map (SC.den ρ)) us:=by
 unfold nrm
 split
 ·rename_i sh _
  obtain ⟨h1,h2⟩:=Zen ρ sh vc
  have hat:∀ (i:Nat) (x:AV),((Zjz sh vc).map (SC.den ρ))[i]? = some x→∃ x0,(vc.map (SC.den ρ))[i]? = some x0∧(x0.isCell=true→x.isCell=true)∧∀ (w:World) (lim:Nat→Nat) (u:Value),Rep w lim x0 u→Rep w lim x u:=by
   intro i x hx
   rw [List.getElem?_map] at hx
   obtain ⟨c,hc,rfl⟩:=Option.map_eq_some_iff.1 hx
   obtain ⟨c0,s,h0,e | e⟩:=h2 i c hc
   ·subst e
    exact ⟨_,by rw [List.getElem?_map,h0];rfl,fun h=>h,fun _ _ _ h=>h⟩
   ·subst e
    exact ⟨_,by rw [List.getElem?_map,h0];rfl,(Zev ρ s c0).2.1,(Zev ρ s c0).2.2⟩
  refine ⟨by simp [h1],fun w lim us hr=>⟨by rw [← hr.1];simp [h1],fun x hx=>?_,fun i x u hx hu=>?_⟩⟩
  ·obtain ⟨i,hi⟩:=List.mem_iff_getElem?.1 hx
   obtain ⟨x0,h0,h3,_⟩:=hat i x hi
   exact h3 (hr.2.1 x0 (List.mem_of_getElem? h0))
  ·obtain ⟨x0,h0,_,h4⟩:=hat i x hx
   exact h4 w lim u (hr.2.2 i x0 u h0 hu)
 ·exact ⟨rfl,fun _ _ _ h=>h⟩
theorem ZeA (o:BC) (x:SC):Zj1 o x = .c x∨∃ e s,Zj1 o x = .own true e .nil∧x = .slice true s .nil:=by
 unfold Zj1
 split
 ·exact .inr ⟨_,_,rfl,rfl⟩
 ·exact .inl rfl
theorem ZbW:∀ (os:List BC) (xs:List SC),(Yd os xs).length=xs.length
 | [], xs => by simp [Yd]
 | _ :: _, [] => rfl
 | _ :: os, _ :: xs => by simp [Yd, ZbW os xs]
theorem VR:∀ (os:List BC) (xs:List SC) (i:Nat) (y:BC),(Yd os xs)[i]? = some y→∃ x,xs[i]? = some x∧(y = .c x∨∃ e s,y = .own true e .nil∧x = .slice true s .nil)
 | [], xs, i, y, h => by
  simp only [Yd,List.getElem?_map] at h
  obtain ⟨x,hx,rfl⟩:=Option.map_eq_some_iff.1 h
  exact ⟨x,hx,.inl rfl⟩
 | _ :: _, [], i, y, h => by simp [Yd] at h
 | o :: _, x :: _, 0, y, h => by
  simp only [Yd,List.getElem?_cons_zero,Option.some.injEq] at h
  subst h
  exact ⟨x,rfl,ZeA o x⟩
 | o :: os, x :: xs, i + 1, y, h => by
  simp only [Yd,List.getElem?_cons_succ] at h
  obtain ⟨x',h1,h2⟩:=VR os xs i y h
  exact ⟨x',by simpa using h1,h2⟩
theorem ZiI {n:Nat} (os:List BC) (xs:List SC) (h:∀ c∈xs,c.bd n):∀ c∈Yd os xs,c.bd n:=by
 intro c hc
 obtain ⟨i,hi⟩:=List.mem_iff_getElem?.1 hc
 obtain ⟨x,h1,rfl | ⟨e,s,rfl,rfl⟩⟩:=VR os xs i c hi
 ·exact h x (List.mem_of_getElem? h1)
 ·trivial
theorem Zkx {P:Program} (ρ:Nat→V) (os:List BC) {vc0:List AV} {xs:List SC}
  (h:(xs.map (SC.den ρ)).length=vc0.length∧∀ (w:World) (lim:Nat→Nat) (us:List Value),JV w lim vc0 us→JV w lim (xs.map (SC.den ρ)) us) :
  ((Yd os xs).map (BC.den ρ)).length=vc0.length∧∀ (w:World) (lim:Nat→Nat) (us:List Value),JV w lim vc0 us→
   (∀ z∈(Yd os xs).map (BC.den ρ),ZaB z)∧∀ (j:Nat) (z:AV) (u:Value),((Yd os xs).map (BC.den ρ))[j]? = some z→us[j]? = some u→JQ P w lim none z u:=by
 refine ⟨by rw [List.length_map,ZbW,← h.1,List.length_map],fun w lim us hr=>?_⟩
 have hr:=h.2 w lim us hr
 refine ⟨fun z hz=>?_,fun j z u hz hu=>?_⟩
 ·obtain ⟨y,hy,rfl⟩:=List.mem_map.1 hz
  obtain ⟨i,hi⟩:=List.mem_iff_getElem?.1 hy
  obtain ⟨x,h1,rfl | ⟨e,s,rfl,rfl⟩⟩:=VR os xs i y hi
  ·exact .inl (hr.2.1 _ (List.mem_map.2 ⟨x,List.mem_of_getElem? h1,rfl⟩))
  ·exact .inr (.inl ⟨_,_,_,rfl⟩)
 ·rw [List.getElem?_map] at hz
  obtain ⟨y,hy,rfl⟩:=Option.map_eq_some_iff.1 hz
  obtain ⟨x,h1,he⟩:=VR os xs j y hy
  have hx:(xs.map (SC.den ρ))[j]? = some (x.den ρ):=by rw [List.getElem?_map,h1];rfl
  have hc:=hr.2.1 _ (List.mem_of_getElem? hx)
  have hrep:=hr.2.2 j _ u hx hu
  rcases he with rfl | ⟨e,s,rfl,rfl⟩
  ·show JQ P w lim none (x.den ρ) u
   cases hxd:x.den ρ<;>rw [hxd] at hc hrep<;>simp [AV.isCell] at hc<;>exact hrep
  ·exact WQ (s:=s) hrep
theorem Zc2 {T:TypeId} {len:Nat} {parts:Array (Nat×Operand)} (hg:∀ d,(g d).bd n) (ho:o.op = .buildSlice T len parts) (h:(JT P E tx tk g o n k).wp P R A ρ):YV tx P R A ρ g o n k:=by
 simp only [JT,ho] at h
 split at h
 ·rename_i e hT
  split at h
  ·rename_i i hi
   split at h
   ·rename_i z hz
    split at h
    ·rename_i zc hzc
     split at h
     ·rename_i hh
      split at h
      ·rename_i cs sh hcs hsh
       split at h
       ·rename_i cs' hcs'
        have hb:∀ c∈cs,c.bd n:=ZcA _ _ _ _ (fun c hc=>by
         obtain ⟨l,hl,hc⟩:=List.mem_flatten.1 hc
         rw [(List.mem_replicate.1 hl).2] at hc
         exact KD hzc c hc) (Zfj hg parts) hcs
        refine ZF h (x:=.own _ e _) (Zj9 _ _ (Kn _ _ _ hcs' hb) _) ?_
        have h1:=YC ρ z.cells.toList
        rw [hzc] at h1
        have h2:=Zai ρ _ _ _ _ hcs
        rw [← Zd3,List.map_flatten,List.map_replicate] at h2
        have:=ZaG (E.exO o) ho hT hi hz h1.symm hh.1 hh.2.1 hh.2.2 h2 (VD ρ _ _ _ hcs')
        rw [← ZhT] at this
        exact this
       ·exact h.elim
      ·exact h.elim
     ·exact h.elim
    ·exact h.elim
   ·exact h.elim
  ·exact h.elim
 ·exact h.elim
theorem ZiW (ρ:Nat→V) (x:SC):Yz P (x.den ρ)=x.den ρ:=by cases x<;>rfl
theorem Zla {T:TypeId} {a:Operand} (hg:∀ d,(g d).bd n) (htop:∀ i,E.top≤i→g i = .dead) (ho:o.op = .load T a) (h:(JT P E tx tk g o n k).wp P R A ρ):YV tx P R A ρ g o n k:=by
 have ba:=Zy (P:=P) hg a
 simp only [JT,ho] at h
 split at h
 ·rename_i d off hT ha
  split at h
  ·rename_i cs hcs
   split at h
   ·rename_i hle
    have hb:=hg d
    rw [hcs] at hb
    refine ZF h (fun c hc=>?_) ?_
    ·obtain ⟨y,hy,rfl⟩:=List.mem_map.1 hc
     exact Zit (hb y (List.mem_of_mem_drop (List.mem_of_mem_take hy)))
    ·have:=Zco (cs:=cs.map (BC.den ρ)) ho hT (Ze ρ ha) (by rw [hcs];rfl) (by simpa using hle.1) (Wj hle.2.1 ρ) (Zgu hle.2.2 ρ)
     have he:(SV.agg (((cs.drop off).take (P.cellsOf T)).map (Zbv P))).den ρ = .agg (((((cs.map (BC.den ρ)).drop off).take (P.cellsOf T))).map (Yz P)):=by
      simp only [SV.den,List.map_map,← List.map_take,← List.map_drop]
      congr 1
      exact List.map_congr_left fun b _=>ZbL P ρ b
     rw [he]
     exact this
   ·exact h.elim
  ·exact h.elim
 ·rename_i d off hT ha
  split at h
  ·rename_i cs hcs
   have hb:=hg d
   rw [hcs] at hb
   have hd:(fun d=>(g d).den ρ) d = .box (cs.map (BC.den ρ)):=by show (g d).den ρ=_;rw [hcs];rfl
   split at h
   ·rename_i b e xs hx
    have hx':(cs.map (BC.den ρ))[off]? = some (.own b e (xs.den ρ)):=by rw [List.getElem?_map,hx];rfl
    have hbx:=hb _ (List.mem_of_getElem? hx)
    split at h
    ·split at h
     ·rename_i us _ hus
      obtain ⟨q1,q2⟩:=ZhW ρ htop hus
      refine Zb5 h hbx (fun u hu=>?_) ?_
      ·rcases List.mem_append.1 hu with hu | hu
       ·rw [q1 u hu];trivial
       ·rw [List.mem_singleton] at hu
        subst hu
        intro c hc
        rcases List.mem_or_eq_of_mem_set hc with hc | rfl
        ·exact hb c hc
        ·trivial
      ·have:=Zbe (T':=tx) ho hT (Ze ρ ha) hd hx' q2
       rw [List.map_append]
       simp only [List.map_cons,List.map_nil,SV.den,List.map_set]
       exact this
     ·exact ZF h trivial (Zcw ho hT (Ze ρ ha) hd hx')
    ·split at h
     ·refine Zd4 h hbx (us1 (fun c hc=>?_)) ?_
      ·rcases List.mem_or_eq_of_mem_set hc with hc | rfl
       ·exact hb c hc
       ·exact hbx
      ·have:=ZcJ ho hT (Ze ρ ha) hd hx'
       simp only [List.map_cons,List.map_nil,SV.den,List.map_set]
       exact this
     ·exact ZF h hbx (K3 ho hT (Ze ρ ha) hd hx' (fun e xs h=>by cases h) (fun h=>by cases h))
   ·rename_i x hx
    have hx':(cs.map (BC.den ρ))[off]? = some (x.den ρ):=by rw [List.getElem?_map,hx];rfl
    have:=K3 ho hT (Ze ρ ha) hd hx' (fun e xs h=>by cases x<;>cases h) (fun h=>by cases x<;>cases h)
    rw [ZiW] at this
    exact ZF h (hb _ (List.mem_of_getElem? hx)) this
   ·exact h.elim
   ·exact h.elim
  ·exact h.elim
 ·rename_i agg d q i s off hT ha
  split at h
  ·rename_i e l hp
   split at h
   ·rename_i sh hsh
    split at h
    ·rename_i hh
     obtain ⟨rfl,h2,h3,h4⟩:=hh
     obtain ⟨vs,w1,w2,w3⟩:=h
     have hbd:=JG sh n
     have hat:=Jd ρ hp
     have hlen:(ZI sh n).length=P.cellsOf e:=by
      have hsl:∀ (l:List Sh) (n:Nat),(ZI l n).length=l.length:=by
       intro l
       induction l with
       | nil => intro n; rfl
       | cons s l ih => intro n; simp only [ZI, List.length_cons, ih]
      rw [hsl,h2]
     refine ⟨bind ρ n vs,n+sh.length,_,[],[d],Nat.le_add_right _ _,Zca ρ n vs,?_,by simp,w3,?_⟩
     ·cases agg with
      | true => exact fun c hc => hbd c (List.mem_of_mem_drop (List.mem_of_mem_take hc))
      | false =>
       show SV.bd _ (match (ZI sh n)[off]? with | some x=>.c x | none=>.dead)
       split
       ·rename_i x hx;exact hbd x (List.mem_of_getElem? hx)
       ·trivial
     ·cases agg with
      | true =>
       have:=VI ho hT (Ze ρ ha) (show Zm ((fun d=>(g d).den ρ) d) q=_ from hat) w2 h3
       rw [← List.map_drop,← List.map_take] at this
       exact this.t
      | false =>
       have hon:P.cellsOf T=1∨off < (ZI sh n).length:=.inr (by omega)
       have hlt:off < (ZI sh n).length:=by omega
       show V8 tx P o _ ((match (ZI sh n)[off]? with | some x=>SV.c x | none=>.dead).den (bind ρ n vs)) _ _
       rw [List.getElem?_eq_getElem hlt]
       exact (Vc ho hT (Ze ρ ha) (show Zm ((fun d=>(g d).den ρ) d) q=_ from hat) w2 (by omega) (by rw [List.getElem?_map,List.getElem?_eq_getElem hlt];rfl)).t
    ·exact h.elim
   ·exact h.elim
  ·exact h.elim
 ·rename_i cs hT ha
  rw [ha] at ba
  split at h
  ·rename_i hle
   refine ZF h (fun c hc=>ba c (List.mem_of_mem_take hc)) ?_
   have:=Za9 (cs:=cs.map (SC.den ρ)) ho hT (Ze ρ ha) (by simpa using hle)
   rw [← List.map_take] at this
   exact this
  ·exact h.elim
 ·rename_i cs hT ha
  rw [ha] at ba
  split at h
  ·rename_i x rest
   exact ZF h (ba x (by simp)) (Zau (cs:=rest.map (SC.den ρ)) ho hT (Ze ρ ha))
  ·exact h.elim
 ·exact h.elim
theorem ZjT {T:TypeId} {a x:Operand} (hg:∀ d,(g d).bd n) (htop:∀ i,E.top≤i→g i = .dead) (ho:o.op = .store T a x) (h:(JT P E tx tk g o n k).wp P R A ρ):YV tx P R A ρ g o n k:=by
 have bx:=Zy (P:=P) hg x
 simp only [JT,ho] at h
 split at h
 ·rename_i d off ha
  split at h
  ·rename_i cs hcs
   have hb:=hg d
   rw [hcs] at hb
   have hd:(fun d=>(g d).den ρ) d = .box (cs.map (BC.den ρ)):=by show (g d).den ρ=_;rw [hcs];rfl
   split at h
   ·rename_i t b e xs h1 h2
    have hx:x = .tmp t:=by cases x<;>simp [ZN] at h1;rw [h1]
    subst hx
    simp only [ZN,Option.map_some,Option.some.injEq] at h2
    have ht:=hg t
    rw [h2] at ht
    split at h
    ·rename_i us hus
     split at h
     ·rename_i hh
      obtain ⟨us',rfl,q1,q2⟩:=JX ρ htop (t:=t) h2 hus
      refine Zb5 h trivial (fun u hu=>?_) ?_
      ·rcases List.mem_append.1 hu with hu | hu
       ·exact J2 hus ht u hu
       ·rw [List.mem_singleton] at hu
        subst hu
        intro c hc
        rcases List.mem_or_eq_of_mem_set hc with hc | rfl
        ·exact hb c hc
        ·exact ht
      ·have:=Za5 (T':=tx) (e:=e) (xs:=xs.den ρ) ho (Ze ρ ha) hd (by show (g t).den ρ=_;rw [h2];rfl) hh.1 (by simpa using hh.2.1) (Zfx ρ htop hh.2.2) q2
       rw [List.map_append,q1]
       simp only [List.map_cons,List.map_nil,SV.den,List.map_set]
       exact this
     ·exact h.elim
    ·exact h.elim
   ·rename_i t vc h1 h2
    have hx:x = .tmp t:=by cases x<;>simp [ZN] at h1;rw [h1]
    subst hx
    simp only [ZN,Option.map_some,Option.some.injEq] at h2
    have ht:=hg t
    rw [h2] at ht
    split at h
    ·rename_i hh
     refine Zd4 h trivial (us2 trivial (fun c hc=>?_)) ?_
     ·rcases List.mem_append.1 hc with hc | hc
      ·rcases List.mem_append.1 hc with hc | hc
       ·exact hb c (List.mem_of_mem_take hc)
       ·exact ht c hc
      ·exact hb c (List.mem_of_mem_drop hc)
     ·have:=ZaM (vc:=vc.map (BC.den ρ)) ho (Ze ρ ha) hd (show (fun d=>(g d).den ρ) t = .aggo (vc.map (BC.den ρ)) by show (g t).den ρ=_;rw [h2];rfl) (by simpa using hh.1) (by omega) (by simpa using hh.2.2.1) (Wj hh.2.2.2 ρ)
      have he:(SV.box (cs.take off++vc++cs.drop (off+P.cellsOf T))).den ρ = .box ((cs.map (BC.den ρ)).take off++vc.map (BC.den ρ)++(cs.map (BC.den ρ)).drop (off+P.cellsOf T)):=by
       simp only [SV.den,List.map_append,List.map_take,List.map_drop]
      simp only [List.map_cons,List.map_nil,he]
      exact this
    ·exact h.elim
   ·split at h
    ·rename_i vc hvc
     split at h
     ·rename_i hh
      refine Zb5 h trivial (fun u hu=>?_) ?_
      ·rw [List.mem_singleton] at hu;subst hu;intro c hc
       rcases List.mem_append.1 hc with hc | hc
       ·rcases List.mem_append.1 hc with hc | hc
        ·exact hb c (List.mem_of_mem_take hc)
        ·exact ZiI _ _ (ZnR P T (WW hvc bx)) c hc
       ·exact hb c (List.mem_of_mem_drop hc)
      ·have:=Zgb (vc:=(Yd (cs.drop off) (nrm P T vc)).map (BC.den ρ)) ho (Ze ρ ha) hd (J4 P g ρ x).symm (VJ ρ hvc) (by simpa using hh.1) (by omega) (by simpa using hh.2.2.1) (Zfx ρ htop hh.2.2.2) (Zkx ρ (cs.drop off) (ZnC ρ P T vc))
       have he:(SV.box (cs.take off++Yd (cs.drop off) (nrm P T vc)++cs.drop (off+P.cellsOf T))).den ρ = .box ((cs.map (BC.den ρ)).take off++(Yd (cs.drop off) (nrm P T vc)).map (BC.den ρ)++(cs.map (BC.den ρ)).drop (off+P.cellsOf T)):=by
        simp only [SV.den,List.map_append,List.map_take,List.map_drop]
       simp only [List.map_cons,List.map_nil,he]
       exact this
     ·exact h.elim
    ·exact h.elim
  ·exact h.elim
 ·rename_i d q i s off ha
  split at h
  ·rename_i e l vc hp hvc
   have hpt:=Zy (P:=P) hg a
   rw [ha] at hpt
   have hat:=Jd ρ hp
   split at h
   ·rename_i sh hsh
    split at h
    ·rename_i vc' hvc'
     split at h
     ·rename_i hh
      obtain ⟨r1,r2,h⟩:=h
      have r1':0≤i.den ρ:=r1
      have r2':i.den ρ < ((l.den ρ).length:Int):=r2
      have hbv:=Kn _ _ _ hvc' (WW hvc bx)
      refine Zd4 h trivial (us1 (K7 (hg d) ⟨Yp hp (hg d),hpt,ZaX _ hbv⟩)) ?_
      obtain ⟨h1,h2,h3,h4,h5⟩:=hh
      subst h1
      have:=Zaf (vc:=vc.map (SC.den ρ)) (vc':=vc'.map (SC.den ρ)) ho (Ze ρ ha) (show Zm ((fun d=>(g d).den ρ) d) q=_ from hat) (Zel ρ h5) (J4 P g ρ x).symm (VJ ρ hvc) (by simpa using h2) (by omega) (by omega) h4 (VD ρ _ _ _ hvc')
      rw [← VY] at this
      simp only [List.map_cons,List.map_nil,Ky]
      exact this
     ·exact h.elim
    ·exact h.elim
   ·exact h.elim
  ·exact h.elim
 ·exact h.elim
theorem ZeX {x:Operand} (hg:∀ d,(g d).bd n) (ho:o.op = .nilCheck x) (h:(JT P E tx tk g o n k).wp P R A ρ):YV tx P R A ρ g o n k:=by
 have bx:=Zy (P:=P) hg x
 simp only [JT,ho] at h
 split at h
 ·rename_i d off hx
  exact ZF h trivial (Y1 ho (Ze ρ hx) (.inl ⟨_,_,rfl⟩))
 ·rename_i cs hx
  rw [hx] at bx
  exact ZF h bx (Y1 ho (Ze ρ hx) (.inr (.inl ⟨_,rfl⟩)))
 ·rename_i d q i s off hx
  rw [hx] at bx
  exact ZF h bx (Y1 ho (Ze ρ hx) (.inr (.inr ⟨_,_,_,rfl⟩)))
 ·exact h.elim
theorem ZkY {op:UnOp} {T:TypeId} {x:Operand} (hg:∀ d,(g d).bd n) (ho:o.op = .unOp op T x) (h:(JT P E tx tk g o n k).wp P R A ρ):YV tx P R A ρ g o n k:=by
 have bx:=Zy (P:=P) hg x
 simp only [JT,ho] at h
 split at h
 ·rename_i b hx
  rw [hx] at bx
  refine ZF h (Zjw bx) ?_
  have:=Zjx ho (Ze ρ hx)
  rw [← ZgT] at this
  exact this
 ·rename_i kd e hx
  rw [hx] at bx
  exact ZF h ⟨trivial,bx⟩ (ZjY ho (Ze ρ hx))
 ·rename_i kd e hx
  rw [hx] at bx
  exact ZF h ⟨trivial,bx⟩ (Zf4 ho (Ze ρ hx))
 ·exact h.elim
theorem Zgp {S T:TypeId} {x:Operand} (hg:∀ d,(g d).bd n) (ho:o.op = .convert S T x) (h:(JT P E tx tk g o n k).wp P R A ρ):YV tx P R A ρ g o n k:=by
 have bx:=Zy (P:=P) hg x
 simp only [JT,ho] at h
 split at h
 ·rename_i hS hT hx
  rw [hx] at bx
  exact ZF h bx (Ziq ho hS hT (Ze ρ hx))
 ·rename_i hS hT hx
  rw [hx] at bx
  split at h
  ·rename_i he
   split at h
   ·rename_i hs
    subst hs
    exact ZF h.2 bx (Zgi ho hS he hT (Ze ρ hx) h.1)
   ·exact h.elim
  ·exact h.elim
 ·exact h.elim
theorem ZdF {T:TypeId} {x:Operand} {f:Nat} (hg:∀ d,(g d).bd n) (ho:o.op = .fieldAddr T x f) (h:(JT P E tx tk g o n k).wp P R A ρ):YV tx P R A ρ g o n k:=by
 have bx:=Zy (P:=P) hg x
 simp only [JT,ho] at h
 split at h
 ·rename_i hf hx
  exact ZF h trivial (Za7 ho hf (Ze ρ hx))
 ·rename_i off cs hf hx
  rw [hx] at bx
  refine ZF h (fun c hc=>bx c (List.mem_of_mem_drop hc)) ?_
  have:=ZaJ (cs:=cs.map (SC.den ρ)) ho hf (Ze ρ hx)
  rw [← List.map_drop] at this
  exact this
 ·rename_i off d q i s off' hf hx
  rw [hx] at bx
  refine ZF h bx ?_
  have:=ZaD ho hf (Ze ρ hx)
  rw [Nat.add_assoc] at this
  exact this
 ·exact h.elim
theorem Zjk {T:TypeId} {x:Operand} {f:Nat} (hg:∀ d,(g d).bd n) (ho:o.op = .field T x f) (h:(JT P E tx tk g o n k).wp P R A ρ):YV tx P R A ρ g o n k:=by
 have bx:=Zy (P:=P) hg x
 simp only [JT,ho] at h
 split at h
 ·rename_i off agg sz cs hf hs hx
  rw [hx] at bx
  split at h
  ·rename_i hh
   have hx':Zl P (fun d=>(g d).den ρ) x = .agg (cs.map (SC.den ρ)):=Ze ρ hx
   cases agg with
   | true =>
    simp only at h
    refine ZF h (fun c hc=>bx c (List.mem_of_mem_drop (List.mem_of_mem_take hc))) ?_
    have:=ZaA (y:=.agg (((cs.map (SC.den ρ)).drop off).take sz)) ho hf hs hx' (by simpa using hh.1) hh.2 (.inl ⟨rfl,rfl⟩)
    rw [← List.map_drop,← List.map_take] at this
    exact this
   | false =>
    simp only at h
    split at h
    ·rename_i c hc
     refine ZF h (bx c (List.mem_of_getElem? hc)) ?_
     exact ZaA (y:=c.den ρ) ho hf hs hx' (by simpa using hh.1) hh.2 (.inr ⟨rfl,by simp [hc],by cases c<;>rfl⟩)
    ·exact h.elim
  ·exact h.elim
 ·exact h.elim
theorem Ze4 {ix:IE} {d off s m:Nat} {kk:SV→STree} : ∀ (j:Nat),j≤m→(ZlO ix d off s m kk j).wp P R A ρ→∃ i:Nat,i < m∧ix.den ρ=(i:Int)∧(kk (.ptr d (off+i*s))).wp P R A ρ
 | 0, _, h => h.elim
 | 1, hj, h => by
  obtain ⟨h1,h2,h3⟩:=h
  have h1':((m-1:Nat):Int)≤ix.den ρ:=h1
  have h2':ix.den ρ≤((m-1:Nat):Int):=h2
  exact ⟨m-1,by omega,by omega,h3⟩
 | j + 2, hj, h => by
  obtain ⟨h1,h2⟩:=h
  by_cases he:ix.den ρ=((m-(j+2):Nat):Int)
  ·exact ⟨m-(j+2),by omega,he,h1 (by simp [BE.den,IE.den,cop,he])⟩
  ·exact Ze4 (j+1) (by omega) (h2 (by simp [BE.den,IE.den,cop,he]))
theorem Zd6 {T:TypeId} {x i:Operand} (hg:∀ d,(g d).bd n) (ho:o.op = .indexAddr T x i) (h:(JT P E tx tk g o n k).wp P R A ρ):YV tx P R A ρ g o n k:=by
 simp only [JT,ho] at h
 split at h
 ·rename_i hT hx hi
  split at h
  ·rename_i sh hsh
   split at h
   ·rename_i hh
    obtain ⟨vs,h1,h2,h3⟩:=h
    exact ⟨bind ρ n vs,n+sh.length,.eptr (ZI sh n),[],[],Nat.le_add_right _ _,Zca ρ n vs,JG sh n,by simp,h3,
     (Zf6 ho hT hh.1 (by omega) (Ze ρ hx) (Ze ρ hi) h1 h2).t⟩
   ·exact h.elim
  ·exact h.elim
 ·rename_i m e d off kd ix hT hx hi
  split at h
  ·rename_i hh
   split at h
   ·rename_i z
    split at h
    ·rename_i hz
     exact ZF h trivial (K0 (kd:=kd) (z:=z) ho hT (by omega) (Ze ρ hx) (Ze ρ hi) hz.1 hz.2)
    ·exact h.elim
   ·obtain ⟨i',h1,h2,h3⟩:=Ze4 m (Nat.le_refl _) h
    have:=K0 (kd:=kd) (z:=(i':Int)) ho hT (by omega) (Ze ρ hx) (by rw [← h2];exact Ze ρ hi) (by omega) (by omega)
    rw [Int.toNat_natCast] at this
    exact ZF h3 trivial this
  ·exact h.elim
 ·rename_i e d q kd ix hT hx hi
  split at h
  ·rename_i e' l hp
   split at h
   ·rename_i hh
    obtain ⟨rfl,h0⟩:=hh
    obtain ⟨r1,r2,h⟩:=h
    have r1':0≤ix.den ρ:=r1
    have r2':ix.den ρ < ((l.den ρ).length:Int):=r2
    have bi:=Zy (P:=P) hg i
    rw [hi] at bi
    exact ZF h bi (Zas ho hT (by omega) (Ze ρ hx) (show Zm ((fun d=>(g d).den ρ) d) q=_ from Jd ρ hp) (Ze ρ hi) r1' (by omega))
   ·exact h.elim
  ·exact h.elim
 ·exact h.elim
theorem Zlo {T:TypeId} {a b:Operand} (hg:∀ d,(g d).bd n) (ho:o.op = .makeSlice T a b) (h:(JT P E tx tk g o n k).wp P R A ρ):YV tx P R A ρ g o n k:=by
 simp only [JT,ho] at h
 split at h
 ·rename_i m m' ha hb
  split at h
  ·rename_i e hT
   have bm:=Zy (P:=P) hg a
   rw [ha] at bm
   split at h
   ·rename_i i hi
    split at h
    ·rename_i z hz
     split at h
     ·rename_i zc sh hzc hsh
      split at h
      ·rename_i zc' hzc'
       split at h
       ·rename_i hzs
        have h1:=YC ρ z.cells.toList
        rw [hzc] at h1
        obtain ⟨r1,r2,r3,h⟩:=h
        have r2':m.den ρ≤m'.den ρ:=r2
        have r3':m'.den ρ≤m.den ρ:=r3
        have hmm:m'.den ρ=m.den ρ:=by omega
        refine ZF h (x:=.own (!(E.exO o)) e _) ⟨bm,ZaX _ (Kn _ _ _ hzc' (KD hzc))⟩ ?_
        have hb':Zl P (fun d=>(g d).den ρ) b = .val (.int .i64 (m.den ρ)):=by rw [← hmm];exact Ze ρ hb
        have:=Zhq (!(E.exO o)) (zc:=zc.map (SC.den ρ)) (zc':=zc'.map (SC.den ρ)) ho hT hi hz hzs h1.symm (Ze ρ ha) hb' r1.1 r1.2 (VD ρ _ _ _ hzc')
        rw [← VY] at this
        exact this
       ·exact h.elim
      ·exact h.elim
     ·exact h.elim
    ·exact h.elim
   ·exact h.elim
  ·exact h.elim
 ·exact h.elim
theorem Zjs {T:TypeId} {x:Operand} {lo hi mx:Option Operand} (hg:∀ d,(g d).bd n) (htop:∀ i,E.top≤i→g i = .dead) (ho:o.op = .slice T x lo hi mx) (h:(JT P E tx tk g o n k).wp P R A ρ):YV tx P R A ρ g o n k:=by
 have bx:=Zy (P:=P) hg x
 simp only [JT,ho] at h
 split at h
 ·rename_i e full s xs hT hx
  rw [hx] at bx
  have sx:=Ze ρ hx
  split at h
  ·rename_i hh
   have hs0:P.cellsOf e≠0:=by omega
   unfold ZhK at h
   split at h
   ·rename_i k1 k2 h1 h2 h3
    cases lo with
    | some y => simp at h1
    | none =>
     cases hi with
     | none => simp at h2
     | some y =>
      cases mx with
      | none => simp at h3
      | some z =>
       simp only [Option.map_some,Option.some.injEq] at h2 h3
       exact ZF h trivial (ZgB ho hT hs0 sx (Ze ρ h2) (Ze ρ h3))
   ·rename_i h1 h2 h3
    cases lo with
    | some y => simp at h1
    | none =>
     cases hi with
     | some y => simp at h2
     | none =>
      cases mx with
      | some z => simp at h3
      | none =>
       have:=WP (l:=0) (h:=(xs.den ρ).length) (f':=full) ho hT hh.1 hs0 sx (Nat.zero_le _) (Nat.le_refl _) (.inl ⟨rfl,rfl⟩) (.inl ⟨rfl,rfl⟩) (fun h=>⟨h,rfl⟩)
       rw [List.take_length,List.drop_zero] at this
       exact ZF h bx this
   ·rename_i kl l h1 h2 h3
    cases lo with
    | none => simp at h1
    | some y =>
     cases hi with
     | some y => simp at h2
     | none =>
      cases mx with
      | some z => simp at h3
      | none =>
       simp only [Option.map_some,Option.some.injEq] at h1
       have by1:=Zy (P:=P) hg y
       rw [h1] at by1
       obtain ⟨r1,r2,h⟩:=h
       have r1':0≤l.den ρ:=r1
       have r2':l.den ρ≤((xs.den ρ).length:Int):=r2
       have sy:=Ze ρ h1
       have e1:((l.den ρ).toNat:Int)=l.den ρ:=Int.toNat_of_nonneg r1'
       have:=WP (l:=(l.den ρ).toNat) (h:=(xs.den ρ).length) (f':=full) ho hT hh.1 hs0 sx (by omega) (Nat.le_refl _) (.inr ⟨y,kl,rfl,by rw [e1];exact sy⟩) (.inl ⟨rfl,rfl⟩) (fun h=>⟨h,rfl⟩)
       rw [List.take_length] at this
       exact ZF h ⟨bx,by1⟩ this
   ·rename_i kl l h1 h2 h3
    cases lo with
    | some y => simp at h1
    | none =>
     cases hi with
     | none => simp at h2
     | some y =>
      cases mx with
      | some z => simp at h3
      | none =>
       simp only [Option.map_some,Option.some.injEq] at h2
       have by1:=Zy (P:=P) hg y
       rw [h2] at by1
       obtain ⟨r1,r2,h⟩:=h
       have r1':0≤l.den ρ:=r1
       have r2':l.den ρ≤((xs.den ρ).length:Int):=r2
       have sy:=Ze ρ h2
       have e1:((l.den ρ).toNat:Int)=l.den ρ:=Int.toNat_of_nonneg r1'
       have:=WP (l:=0) (h:=(l.den ρ).toNat) (f':=false) ho hT hh.1 hs0 sx (Nat.zero_le _) (by omega) (.inl ⟨rfl,rfl⟩) (.inr ⟨y,kl,rfl,by rw [e1];exact sy⟩) (fun h=>by simp at h)
       rw [List.drop_zero] at this
       exact ZF h ⟨bx,by1⟩ this
   ·rename_i kl l kh hb h1 h2 h3
    cases lo with
    | none => simp at h1
    | some y =>
     cases hi with
     | none => simp at h2
     | some z =>
      cases mx with
      | some z => simp at h3
      | none =>
       simp only [Option.map_some,Option.some.injEq] at h1 h2
       have by1:=Zy (P:=P) hg y
       rw [h1] at by1
       have by2:=Zy (P:=P) hg z
       rw [h2] at by2
       obtain ⟨r1,r2,r3,h⟩:=h
       have r1':0≤l.den ρ:=r1
       have r2':l.den ρ≤hb.den ρ:=r2
       have r3':hb.den ρ≤((xs.den ρ).length:Int):=r3
       have sy:=Ze ρ h1
       have sz:=Ze ρ h2
       have e1:((l.den ρ).toNat:Int)=l.den ρ:=Int.toNat_of_nonneg r1'
       have e2:((hb.den ρ).toNat:Int)=hb.den ρ:=Int.toNat_of_nonneg (by omega)
       have:=WP (l:=(l.den ρ).toNat) (h:=(hb.den ρ).toNat) (f':=false) ho hT hh.1 hs0 sx (by omega) (by omega) (.inr ⟨y,kl,rfl,by rw [e1];exact sy⟩) (.inr ⟨z,kh,rfl,by rw [e2];exact sz⟩) (fun h=>by simp at h)
       exact ZF h ⟨⟨bx,by2⟩,by1⟩ this
   ·exact h.elim
  ·exact h.elim
 ·rename_i e d q hT hx
  split at h
  ·rename_i k1 k2 h2 h3
   split at h
   ·rename_i h0
    cases hi with
    | none => simp at h2
    | some y =>
     cases mx with
     | none => simp at h3
     | some z =>
      simp only [Option.map_some,Option.some.injEq] at h2 h3
      exact ZF h trivial (ZaH ho hT (by omega) (Ze ρ hx) (Ze ρ h2) (Ze ρ h3))
   ·exact h.elim
  split at h
  case isFalse=>exact h.elim
  rename_i hq0
  subst hq0
  split at h
  ·rename_i kh hv e' l hhi hd _
   have hb:=hg d
   rw [hd] at hb
   split at h
   ·rename_i us hus
    split at h
    ·rename_i hh
     obtain ⟨rfl,h0⟩:=hh
     cases hi with
     | none => simp at hhi
     | some z =>
      simp only [Option.map_some,Option.some.injEq] at hhi
      have bz:=Zy (P:=P) hg z
      rw [hhi] at bz
      obtain ⟨r1,r2,h⟩:=h
      have r1':0≤hv.den ρ:=r1
      have r2':hv.den ρ≤((l.den ρ).length:Int):=r2
      have e1:((hv.den ρ).toNat:Int)=hv.den ρ:=Int.toNat_of_nonneg r1'
      obtain ⟨us',rfl,q1,q2⟩:=JX ρ htop (t:=d) hd hus
      have hod:JW tx (fun d=>(g d).den ρ) d (us.tail.map fun u=>(u.1,u.2.den ρ)):=by
       rcases q2 with ⟨h0,_⟩ | q2
       ·cases h0
       ·exact q2
      refine Zb5 h ⟨hb,bz⟩ (J2 hus hb) ?_
      rw [q1]
      exact ZeK (h:=(hv.den ρ).toNat) ho hT (by omega) (Ze ρ hx) (show (fun d=>(g d).den ρ) d = .own true e' (l.den ρ) by show (g d).den ρ=_;rw [hd];rfl) (by rw [e1];exact Ze ρ hhi) (by omega) hod
    ·exact h.elim
   ·exact h.elim
  ·exact h.elim
 ·exact h.elim
theorem Zgk {x:Operand} {i:Nat} (hg:∀ d,(g d).bd n) (ho:o.op = .extract x i) (h:(JT P E tx tk g o n k).wp P R A ρ):YV tx P R A ρ g o n k:=by
 simp only [JT,ho] at h
 split at h
 ·rename_i t vs h1 h2
  have hx:x = .tmp t:=by cases x<;>simp [ZN] at h1;rw [h1]
  subst hx
  simp only [ZN,Option.map_some,Option.some.injEq] at h2
  have hb:=hg t
  rw [h2] at hb
  have ht:(fun d=>(g d).den ρ) t = .tuple (vs.map (TC.den ρ)):=by show (g t).den ρ=_;rw [h2];rfl
  split at h
  ·rename_i b e xs hv
   have hv':(vs.map (TC.den ρ))[i]? = some (.own b e (xs.den ρ)):=by rw [List.getElem?_map,hv];rfl
   have hbx:=hb _ (List.mem_of_getElem? hv)
   refine Zd4 h hbx (us1 (fun c hc=>?_)) ?_
   ·rcases List.mem_or_eq_of_mem_set hc with hc | rfl
    ·exact hb c hc
    ·cases b<;>first | exact hbx | trivial
   ·have:=WE (P:=P) (σ:=fun d=>(g d).den ρ) ho ht hv'
    simp only [List.map_cons,List.map_nil,SV.den,List.map_set]
    cases b<;>exact this
  ·rename_i y hv
   have hv':(vs.map (TC.den ρ))[i]? = some (y.den ρ):=by rw [List.getElem?_map,hv];rfl
   refine ZF h (hb _ (List.mem_of_getElem? hv)) (Wu (σ:=fun d=>(g d).den ρ) ho ht hv' ?_ ?_ ?_ ?_ ?_)
   ·cases y<;>rfl
   all_goals first
    | (intro d p; cases y <;> simp [SV.den, SC.den])
    | (intro d; cases y <;> simp [SV.den, SC.den])
    | (cases y <;> simp [SV.den, SC.den])
  ·rename_i cs hv
   have hv':(vs.map (TC.den ρ))[i]? = some (.agg (cs.map (SC.den ρ))):=by rw [List.getElem?_map,hv];rfl
   exact ZF h (hb _ (List.mem_of_getElem? hv)) (Wu (σ:=fun d=>(g d).den ρ) ho ht hv' rfl (fun _ _ h=>by cases h) (fun _ h=>by cases h) (fun h=>by cases h) (fun h=>by cases h))
  ·exact h.elim
  ·exact h.elim
 ·exact h.elim
theorem ZnI {c:Call} (hg:∀ d,(g d).bd n) (ho:o.op = .call c) (hc:c.callee = .builtin .len) (h:(JT P E tx tk g o n k).wp P R A ρ):YV tx P R A ρ g o n k:=by
 simp only [JT,ho,hc] at h
 split at h
 ·rename_i x T hargs hts
  have bx:=Zy (P:=P) hg x
  split at h
  ·rename_i d q hx
   split at h
   ·rename_i e e' l hT hp
    exact ZF h (Yp hp (hg d)) (ZcY ho hc hargs hts hT (Ze ρ hx) (show Zm ((fun d=>(g d).den ρ) d) q=_ from Jd ρ hp))
   ·exact h.elim
  ·unfold Zmx at h
   split at h
   ·rename_i hT hx
    rw [hx] at bx
    exact ZF h bx (Zbb ho hc hargs hts hT (Ze ρ hx))
   ·rename_i hT hx
    rw [hx] at bx
    exact ZF h bx (Zdq ho hc hargs hts hT (Ze ρ hx))
   ·exact h.elim
 ·exact h.elim
theorem ZlT {c:Call} (hg:∀ d,(g d).bd n) (ho:o.op = .call c) (hc:c.callee = .builtin .copy) (h:(JT P E tx tk g o n k).wp P R A ρ):YV tx P R A ρ g o n k:=by
 simp only [JT,ho,hc] at h
 split at h
 ·rename_i x y T T' hargs hts
  split at h
  ·rename_i e d q f s ys hT hx hy
   split at h
   ·rename_i e' l hp
    split at h
    ·rename_i hh
     obtain ⟨rfl,h1,rfl,h5⟩:=hh
     have by1:=Zy (P:=P) hg y
     rw [hy] at by1
     refine Zd4 h trivial (us1 (K7 (hg d) ⟨Yp hp (hg d),by1⟩)) ?_
     simp only [List.map_cons,List.map_nil,Ky]
     exact Za3 (f:=f) ho hc hargs hts hT h1 (Ze ρ hx) (show Zm ((fun d=>(g d).den ρ) d) q=_ from Jd ρ hp) (Zel ρ h5) (Ze ρ hy)
    ·exact h.elim
   ·exact h.elim
  ·exact h.elim
 ·exact h.elim
theorem Zaz {c:Call} {T:TypeId} {x y:Operand} (src:Option Nat) {xv:SV} {ex:Bool} (hg:∀ d,(g d).bd n) (htop:∀ i,E.top≤i→g i = .dead) (ho:o.op = .call c) (hc:c.callee = .builtin .append) (hargs:c.args.toList = [x,y])
  (hts:c.argTypes.toList = [T,T]) (hsrc:∀ t,src=some t→x = .tmp t∧xv=g t) (hnone:src=none→xv=Ju P g x)
  (h:(WO P T tx g E.top ex src xv (Ju P g y) fun v us=>k v us [] n).wp P R A ρ):YV tx P R A ρ g o n k:=by
 have bY:=Zy (P:=P) hg y
 have hxv:xv.bd n:=by
  cases src with
  | none => rw [hnone rfl]; exact Zy hg x
  | some t => rw [(hsrc t rfl).2]; exact hg t
 unfold WO at h
 split at h
 ·rename_i e hT
  split at h
  ·rename_i i hi
   split at h
   ·rename_i z hz
    split at h
    ·rename_i hh
     split at h
     ·rename_i b e' xs f s ys hy
      rw [hy] at bY
      split at h
      ·rename_i t
       obtain ⟨rfl,hx⟩:=hsrc t rfl
       split at h
       ·rename_i us hus
        split at h
        ·rename_i he
         obtain ⟨rfl,rfl⟩:=he
         obtain ⟨us',rfl,q1,q2⟩:=JX ρ htop (t:=t) hx.symm hus
         refine Zb5 h.2 ⟨hxv,bY⟩ (J2 hus hxv) ?_
         rw [q1]
         exact Zac (σ:=fun d=>(g d).den ρ) ho hc hargs hts hT hi hz hh.1 (by show (g t).den ρ=_;rw [← hx];rfl) (Ze ρ hy) h.1 q2
        ·exact h.elim
       ·exact h.elim
      ·exact h.elim
     ·rename_i s0 f s ys hy
      rw [hy] at bY
      split at h
      ·rename_i he
       subst he
       refine Zd4 h.2 bY (by simp) ?_
       have hx:Zl P (fun d=>(g d).den ρ) x = .slice true s0 []:=by
        cases src with
        | none => exact Ze ρ (hnone rfl).symm
        | some t =>
         obtain ⟨rfl,hx⟩:=hsrc t rfl
         simp only [Zl,← hx]
         rfl
       exact WH (σ:=fun d=>(g d).den ρ) ex ho hc hargs hts hT hi hz hh.1 hx (Ze ρ hy) h.1
      ·exact h.elim
     ·exact h.elim
    ·exact h.elim
   ·exact h.elim
  ·exact h.elim
 ·exact h.elim
theorem Wx {c:Call} {T:TypeId} {x y:Operand} (src:Option Nat) {xv:SV} {ex:Bool} {d q:Nat} (hg:∀ d,(g d).bd n) (htop:∀ i,E.top≤i→g i = .dead) (ho:o.op = .call c) (hc:c.callee = .builtin .append) (hargs:c.args.toList = [x,y])
  (hts:c.argTypes.toList = [T,T]) (hy:Ju P g y = .mref d q) (hsrc:∀ t,src=some t→x = .tmp t∧xv=g t) (hnone:src=none→xv=Ju P g x)
  (h:(VQ P T tx g E.top ex src xv (Js (g d) q) fun v us=>k v us [d] n).wp P R A ρ):YV tx P R A ρ g o n k:=by
 have hxv:xv.bd n:=by
  cases src with
  | none => rw [hnone rfl]; exact Zy hg x
  | some t => rw [(hsrc t rfl).2]; exact hg t
 unfold VQ at h
 split at h
 ·rename_i e hT
  split at h
  ·rename_i i hi
   split at h
   ·rename_i z hz
    split at h
    ·rename_i hh
     split at h
     ·rename_i b e' xs e2 ys hp
      split at h
      ·rename_i t
       obtain ⟨rfl,hx⟩:=hsrc t rfl
       split at h
       ·rename_i us hus
        split at h
        ·rename_i he
         obtain ⟨rfl,rfl⟩:=he
         obtain ⟨us',rfl,q1,q2⟩:=JX ρ htop (t:=t) hx.symm hus
         refine Zb5 h.2 ⟨hxv,Yp hp (hg d)⟩ (J2 hus hxv) ?_
         rw [q1]
         exact KU (σ:=fun d=>(g d).den ρ) ho hc hargs hts hT hi hz hh.1 (by show (g t).den ρ=_;rw [← hx];rfl) (Ze ρ hy) (show Zm ((fun d=>(g d).den ρ) d) q=_ from Jd ρ hp) h.1 q2
        ·exact h.elim
       ·exact h.elim
      ·exact h.elim
     ·rename_i s0 e' ys hp
      split at h
      ·rename_i he
       subst he
       have hx':Zl P (fun d=>(g d).den ρ) x = .slice true s0 []:=by
        cases src with
        | none => exact Ze ρ (hnone rfl).symm
        | some t =>
         obtain ⟨rfl,hx⟩:=hsrc t rfl
         simp only [Zl,← hx]
         rfl
       refine ZF h.2 (Yp hp (hg d)) ?_
       exact Kw (σ:=fun d=>(g d).den ρ) ex ho hc hargs hts hT hi hz hh.1 hx' (Ze ρ hy) (show Zm ((fun d=>(g d).den ρ) d) q=_ from Jd ρ hp) h.1
      ·exact h.elim
     ·exact h.elim
    ·exact h.elim
   ·exact h.elim
  ·exact h.elim
 ·exact h.elim
theorem ZiC {c:Call} (hg:∀ d,(g d).bd n) (htop:∀ i,E.top≤i→g i = .dead) (ho:o.op = .call c) (hc:c.callee = .builtin .append) (h:(JT P E tx tk g o n k).wp P R A ρ):YV tx P R A ρ g o n k:=by
 simp only [JT,ho,hc] at h
 split at h
 ·rename_i x y T T' hargs hts
  split at h
  ·rename_i hTT
   subst hTT
   split at h
   ·rename_i d q hy
    split at h
    ·rename_i t ht
     have hx:x = .tmp t:=by cases x<;>simp [ZN] at ht;rw [ht]
     exact Wx (some t) hg htop ho hc hargs hts hy (fun t' ht'=>by simp only [Option.some.injEq] at ht';subst ht';exact ⟨hx,rfl⟩) (fun h=>by cases h) h
    ·exact Wx none hg htop ho hc hargs hts hy (fun t' ht'=>by cases ht') (fun _=>rfl) h
   split at h
   ·rename_i t ht
    have hx:x = .tmp t:=by cases x<;>simp [ZN] at ht;rw [ht]
    exact Zaz (some t) hg htop ho hc hargs hts (fun t' ht'=>by simp only [Option.some.injEq] at ht';subst ht';exact ⟨hx,rfl⟩) (fun h=>by cases h) h
   ·exact Zaz none hg htop ho hc hargs hts (fun t' ht'=>by cases ht') (fun _=>rfl) h
  ·exact h.elim
 ·exact h.elim
theorem Zkn {c:Call} {ka kb:IntKind} {a b:IE} (h:c.args.toList.map (Ju P g) = [.c (.int ka a),.c (.int kb b)]) :
  ∃ x y,c.args.toList = [x,y]∧Ju P g x = .c (.int ka a)∧Ju P g y = .c (.int kb b):=by
 cases hl:c.args.toList with
 | nil => simp [hl] at h
 | cons x l =>
  cases l with
  | nil => simp [hl] at h
  | cons y l =>
   cases l with
   | nil => simp only [hl, List.map_cons, List.map_nil, List.cons.injEq, and_true] at h; exact ⟨x, y, rfl, h.1, h.2⟩
   | cons z l => simp [hl] at h
theorem Zn6 {c:Call} (hg:∀ d,(g d).bd n) (ho:o.op = .call c) (hc:c.callee = .builtin .min) (h:(JT P E tx tk g o n k).wp P R A ρ):YV tx P R A ρ g o n k:=by
 simp only [JT,ho,hc] at h
 split at h
 ·rename_i ka a kb b hl
  obtain ⟨x,y,h1,h2,h3⟩:=Zkn hl
  split at h
  ·rename_i he
   subst he
   have b1:=Zy (P:=P) hg x
   have b2:=Zy (P:=P) hg y
   rw [h2] at b1
   rw [h3] at b2
   exact ZF h ⟨b1,b2⟩ (ZaY (mn:=true) ho hc h1 (Ze ρ h2) (Ze ρ h3))
  ·exact h.elim
 ·exact h.elim
theorem ZmG {c:Call} (hg:∀ d,(g d).bd n) (ho:o.op = .call c) (hc:c.callee = .builtin .max) (h:(JT P E tx tk g o n k).wp P R A ρ):YV tx P R A ρ g o n k:=by
 simp only [JT,ho,hc] at h
 split at h
 ·rename_i ka a kb b hl
  obtain ⟨x,y,h1,h2,h3⟩:=Zkn hl
  split at h
  ·rename_i he
   subst he
   have b1:=Zy (P:=P) hg x
   have b2:=Zy (P:=P) hg y
   rw [h2] at b1
   rw [h3] at b2
   exact ZF h ⟨b1,b2⟩ (ZaY (mn:=false) ho hc h1 (Ze ρ h2) (Ze ρ h3))
  ·exact h.elim
 ·exact h.elim
theorem Zc9 (ρ:Nat→V) (l:List SAK):(l.map (SAK.den ρ)).filterMap AK.slot=l.filterMap SAK.slot:=by
 rw [List.filterMap_map]
 congr 1
 funext a
 exact WL ρ a
theorem Zek {c:Call} {f:FuncId} {ds rf:List Nat} {aZ:List SAK} (htop:∀ i,E.top≤i→g i = .dead) (ho:o.op = .call c) (hc:(c.callee = .value (.func f)∧ds = [])∨∃ t,c.callee = .value (.tmp t)∧(g t).den ρ = .clo f ds)
  (ha:Kg P g ρ (c.args.toList.map WD.op++ds.map WD.cap) aZ) (hraw:Raw aZ) (hrf:∀ (i:Nat) (x:Operand),c.args.toList[i]? = some x→(rf.contains i&&(Zax g x).isSome)=true→∃ t d q j,aZ[i]? = some (SAK.ref t d q j)) (h:(Zdg P E tx g f (Vb P g rf c.args.toList 0) (Wl g (ZoV P f) aZ) n k).wp P R A ρ):YV tx P R A ρ g o n k:=by
 unfold Zdg at h
 split at h
 ·rename_i saks Ts hs _
  split at h
  ·rename_i hnd0
   obtain ⟨hnd,hfree⟩:=hnd0
   split at h
   ·rename_i res sh n' hr
    obtain ⟨q1,q2,q3⟩:=Zgn hr
    dsimp only at h
    split at h
    case isFalse=>exact h.elim
    rename_i hbo
    obtain ⟨vs,h1,h2⟩:=h
    obtain ⟨tail,a1,a2,a3,a4,a5,a6⟩:=Zge ρ ha hraw hs
    have hlen:((ZY (saks.map SAK.sv) n').1).length=saks.length:=by rw [Zbh,List.length_map]
    refine ⟨bind ρ n vs,(ZY (saks.map SAK.sv) n').2.2,res,Wi saks (ZY (saks.map SAK.sv) n').1,saks.filterMap SAK.slot++(Vb P g rf c.args.toList 0).map (·.1),Nat.le_trans q1 (Yv _ _),Zca ρ n vs,SV.bd_mono (Yv _ _) _ q2,
     Y7 _ _ (VN _ _),h2,?_⟩
    have:=Zg9 (T:=tx) (((Vb P g rf c.args.toList 0).head?.getD (0,0)).1) (((Vb P g rf c.args.toList 0).head?.getD (0,0)).2) ((Vb P g rf c.args.toList 0).map (·.1)) (P:=P) (σ:=fun d=>(g d).den ρ) (aks:=saks.map (SAK.den ρ)) (res:=res.den (bind ρ n vs)) (outs:=(ZY (saks.map SAK.sv) n').1.map (SV.den (bind ρ n vs))) (tail:=tail) ho hc (by simpa using a1.1)
     (fun i x a hx hi=>?_) a2 (by simpa using a3) a4 a5
     (by rw [Zc9];exact Vw _ hnd) (by simp [hlen]) (fun i d fr to cs y hi hy=>?_) (q3 _) (fun i t e xs hi=>?_) (fun i d fr to cs hi=>?_) (fun i x hx hz d q hxm hno=>?_) ?_
    ·rw [ZdL,Zc9] at this
     exact this
    ·rw [List.getElem?_map] at hi
     cases hsi:saks[i]? with
     | none => simp [hsi] at hi
     | some a0 =>
      simp only [hsi,Option.map_some,Option.some.injEq] at hi
      subst hi
      exact a1.2 i x a0 hx hsi
    ·rw [List.getElem?_map] at hi hy
     cases hsi:saks[i]? with
     | none => simp [hsi] at hi
     | some a =>
      cases hyi:(ZY (saks.map SAK.sv) n').1[i]? with
      | none => simp [hyi] at hy
      | some y0 =>
       simp only [hsi,hyi,Option.map_some,Option.some.injEq] at hi hy
       subst hy
       cases a with
       | box d0 fr0 to0 cs0 =>
        simp only [SAK.den,AK.box.injEq] at hi
        obtain ⟨rfl,rfl,rfl,rfl⟩:=hi
        obtain ⟨cs',rfl⟩:=KL (saks.map SAK.sv) n' i to0 cs0 y0 (by rw [List.getElem?_map,hsi];rfl) hyi
        exact ⟨_,WT _ _ _⟩
       | _ => cases hi
    ·rw [List.getElem?_map] at hi
     cases hsi:saks[i]? with
     | none => simp [hsi] at hi
     | some a =>
      simp only [hsi,Option.map_some,Option.some.injEq] at hi
      cases a with
      | own t0 x0 e0 l0 =>
       simp only [SAK.den,AK.own.injEq] at hi
       obtain ⟨rfl,rfl,rfl,_⟩:=hi
       unfold Zcc at hfree
       rw [List.all_eq_true] at hfree
       have hf:=hfree _ (List.mem_of_getElem? hsi)
       cases tx with
       | any N M => exact .inr ⟨N, M, rfl, hf, rfl⟩
       | text =>
       simp only [List.isEmpty_iff] at hf
       refine .inl ⟨rfl,by simp,fun j q _ hr=>?_⟩
       have hda:=(JH ρ htop (d:=t0)).2 j q
       by_cases hj:j=t0
       ·subst hj
        have hok:=a1.2 i
        have hlt:=(List.getElem?_eq_some_iff.1 hsi).1
        obtain ⟨x,hx⟩:∃ x,(c.args.toList.map WD.op++ds.map WD.cap++tail)[i]? = some x:=⟨_,List.getElem?_eq_getElem (by rw [a1.1];exact hlt)⟩
        have hk:=hok x _ hx hsi
        cases x with
        | op y =>
         have h1:(g j).den ρ = .own true e0 (l0.den ρ):=hk.2
         have hr':Z0 ((g j).den ρ) j q:=hr
         rw [h1] at hr'
         rcases hr' with h2 | ⟨_,h2⟩ <;> cases h2
        | _ => exact hk.elim
       ·have:=hda hj hr
        rw [hf] at this
        cases this
      | _ => cases hi
    ·rw [List.getElem?_map] at hi
     cases hsi:saks[i]? with
     | none => simp [hsi] at hi
     | some a =>
      simp only [hsi,Option.map_some,Option.some.injEq] at hi
      cases a with
      | box t0 fr0 to0 cs0 =>
       simp only [SAK.den,AK.box.injEq] at hi
       obtain ⟨rfl,rfl,rfl,rfl⟩:=hi
       unfold Zcc at hfree
       rw [List.all_eq_true] at hfree
       have hf0:=hfree _ (List.mem_of_getElem? hsi)
       rcases Bool.or_eq_true_iff.1 hf0 with hpl | hf
       ·exact .inl (ZaW hpl ρ)
       ·right
        cases tx with
        | any N M =>
         rcases Bool.or_eq_true_iff.1 hf with hf | hf
         ·exact .inl (.inr ⟨N,M,rfl,hf,rfl⟩)
         ·refine .inr fun σ' hrl j q hr=>?_
          cases hM:M t0 with
          | none => rw [hM] at hf; cases hf
          | some t =>
           rw [hM] at hf
           simp only at hf
           by_cases hj:t=j
           ·subst hj
            rw [List.any_eq_true] at hf
            obtain ⟨b,hb,hbt⟩:=hf
            cases b with
            | ref t1 _ _ _ =>
             have h4:t1=t:=by simpa using hbt
             exact ⟨_,List.mem_map.2 ⟨_,hb,rfl⟩,by rw [WL];show some t1=some t;rw [h4]⟩
            | _ => cases hbt
           ·exact (hrl t0 j q (by simp [Odr.nr,hM,hj]) hr).elim
        | text =>
        refine .inr fun σ' hrl j q hr=>?_
        have hrl':σ'=fun d=>(g d).den ρ:=hrl
        rw [hrl'] at hr
        have hda:=(JH ρ htop (d:=t0)).2 j q
        by_cases hj:j=t0
        ·subst hj
         have hok:=a1.2 i
         have hlt:=(List.getElem?_eq_some_iff.1 hsi).1
         obtain ⟨x,hx⟩:∃ x,(c.args.toList.map WD.op++ds.map WD.cap++tail)[i]? = some x:=⟨_,List.getElem?_eq_getElem (by rw [a1.1];exact hlt)⟩
         have hk:=hok x _ hx hsi
         have hr':Z0 ((g j).den ρ) j q:=hr
         have hb0:∃ fr cs,(g j).den ρ=mkB fr cs:=by
          cases x with
          | op y => exact ⟨false, _, hk.2.1⟩
          | cap d' => exact ⟨_, _, hk.2.1⟩
          | ghost => exact ⟨_, _, hk.1⟩
          | pad => exact hk.elim
         obtain ⟨fr,cs,hb0⟩:=hb0
         rw [hb0] at hr'
         cases fr<;>rcases hr' with h2 | ⟨_,h2⟩ <;> cases h2
        ·have hm:=hda hj hr
         rw [List.all_eq_true] at hf
         obtain ⟨u,hu,huj⟩:=List.mem_map.1 hm
         obtain ⟨u0,hu0,rfl⟩:=List.mem_map.1 hu
         have h3:=hf u0 hu0
         rw [List.any_eq_true] at h3
         obtain ⟨b,hb,hbt⟩:=h3
         cases b with
         | ref t1 _ _ _ =>
          refine ⟨_,List.mem_map.2 ⟨_,hb,rfl⟩,?_⟩
          have h4:t1=u0.1:=by simpa using hbt
          rw [WL]
          show some t1=some j
          rw [h4];exact congrArg some huj
         | _ => cases hbt
      | _ => cases hi
    ·have hnrf:(rf.contains (0+i)&&(Zax g x).isSome)=false:=by
      rw [Nat.zero_add]
      cases hc':(rf.contains i&&(Zax g x).isSome) with
      | false => rfl
      | true =>
       obtain ⟨t1,d1,q1,j1,h1'⟩:=hrf i x hx hc'
       obtain ⟨j2,h2'⟩:=a6 i t1 d1 q1 j1 h1'
       obtain ⟨z,hz⟩:=hz
       rw [List.getElem?_map,h2'] at hz
       cases hz
     have hm:=Zd0 (P:=P) (g:=g) ρ hx hnrf hxm hno
     generalize Vb P g rf c.args.toList 0=bs at hm hbo
     cases bs with
     | nil => cases hm
     | cons p r =>
      simp only [Zn8,Bool.and_eq_true,List.all_eq_true,decide_eq_true_eq,Bool.not_eq_true',List.contains_eq_mem,decide_eq_false_iff_not] at hbo
      obtain ⟨⟨⟨b1,b2⟩,b3⟩,b4⟩:=hbo
      have hp:d=p.1∧q=p.2:=by
       rcases List.mem_cons.1 hm with h0 | h0
       ·rw [← h0];exact ⟨rfl,rfl⟩
       ·exact b1 _ h0
      refine ⟨hp.1,hp.2,by simp,fun a ha hs=>b2 ?_,fun i=>?_⟩
      ·obtain ⟨a0,ha0,rfl⟩:=List.mem_map.1 ha
       rw [WL] at hs
       exact List.mem_filterMap.2 ⟨a0,ha0,hs⟩
      ·simp only [ZE]
       rcases Nat.lt_or_ge i ((ZY (saks.map SAK.sv) n').1.map (SV.den (bind ρ n vs))).length with hi | hi
       ·rw [List.getElem?_append_left hi,List.getElem?_map]
        cases hy:(ZY (saks.map SAK.sv) n').1[i]? with
        | none => rfl
        | some y => exact ZbU _ (b4 y (List.mem_of_getElem? hy))
       ·rw [List.getElem?_append_right hi]
        cases hj:i-((ZY (saks.map SAK.sv) n').1.map (SV.den (bind ρ n vs))).length with
        | zero => exact ZbU _ b3
        | succ j => rfl
    ·have he:(saks.map (SAK.den ρ)).map AK.av=(saks.map SAK.sv).map (SV.den ρ):=by
      rw [List.map_map,List.map_map]
      exact List.map_congr_left fun a _=>Zkk ρ a
     rw [he]
     exact h1
   ·exact h.elim
  ·exact h.elim
 ·exact h.elim
theorem Zej {d:Nat} {u:Nat×SV} {n:Nat} (ρ:Nat→V) (hu:u∈ZW g d n):u.2 = .dead∧∃ d k,Z0 ((g u.1).den ρ) d k:=by
 obtain ⟨h1,_,_,h4⟩:=(Jv n u).1 hu
 obtain ⟨k,hk⟩:=(V6 ρ d (g u.1)).1 h4
 exact ⟨h1,d,k,hk⟩
theorem ZeB {rf:List Nat} {args:List Operand} {u:Nat×SV} (ρ:Nat→V) (hu:u∈WN E tx g rf args):u.2 = .dead∧∃ d k,Z0 ((g u.1).den ρ) d k:=by
 unfold WN at hu
 split at hu
 ·obtain ⟨p,_,hp⟩:=List.mem_flatMap.1 (List.mem_filter.1 hu).1
  split at hp
  ·split at hp
   ·exact Zej ρ hp
   ·cases hp
  ·cases hp
 ·cases hu
theorem Zd1 (kl:Ups):(fun d=>(Zc8 kl g d).den ρ)=Jw (fun d=>(g d).den ρ) ((kl.map fun u=>(u.1,SV.dead.den ρ))):=by
 funext d
 rw [Vs _ _ _ (fun u hu=>by obtain ⟨v,_,rfl⟩:=List.mem_map.1 hu;rfl)]
 unfold Zc8
 by_cases h:(kl.any fun u=>u.1 == d)=true
 ·rw [if_pos h,if_pos]
  ·rfl
  ·rw [List.any_eq_true] at h
   obtain ⟨u,hu,he⟩:=h
   rw [List.map_map]
   exact List.mem_map.2 ⟨u,hu,by simpa using he⟩
 ·rw [if_neg h,if_neg]
  rw [List.map_map]
  intro hm
  obtain ⟨u,hu,he⟩:=List.mem_map.1 hm
  exact h (List.any_eq_true.2 ⟨u,hu,by simpa using he⟩)
theorem Zh8 (kl:Ups) (hkl:∀ u∈kl,u.2 = .dead∧(∃ d k,Z0 ((g u.1).den ρ) d k)∧u.1∉Kk o) (h:YV .text P R A ρ (Zc8 kl g) o n (fun x us fp n'=>k x (kl++us) fp n')):YV .text P R A ρ g o n k:=by
 obtain ⟨ρ',n',x,us,fp,h1,h2,h3,h4,h5,h6⟩:=h
 refine ⟨ρ',n',x,kl++us,fp,h1,h2,h3,fun u hu=>?_,h5,?_⟩
 ·rcases List.mem_append.1 hu with hu | hu
  ·rw [(hkl u hu).1];trivial
  ·exact h4 u hu
 intro c hc σ' tm w lim X _ _ hT hsim next Q hn
 have hT':σ'=fun d=>(g d).den ρ:=hT
 subst hT'
 have hmap:(kl.map fun u=>(u.1,u.2.den ρ'))=kl.map fun u=>(u.1,SV.dead.den ρ):=List.map_congr_left fun u hu=>by rw [(hkl u hu).1];rfl
 obtain ⟨X',hs,_⟩:=Sim.drops (kl.map fun u=>(u.1,SV.dead.den ρ)) hsim fun u hu=>by
  obtain ⟨v,hv,rfl⟩:=List.mem_map.1 hu
  obtain ⟨_,⟨d,q,hr⟩,_⟩:=hkl v hv
  obtain ⟨g1,g2,g3⟩:=KO hr
  refine ⟨rfl,g2,Wd hsim (fun he=>?_) g3⟩
  rw [he] at hr
  rcases hr with hr | ⟨_,hr⟩ <;> cases hr
 rw [← Zd1] at hs
 refine h6 c hc _ tm w lim X' (fun _ _=>.inl rfl) (fun _ _=>rfl) rfl hs next Q fun v w' ha=>hn v w' ?_
 rw [List.map_append,hmap,Y9,← Zd1]
 exact ha
theorem ZdK:∀ (l:List SV) (ds:List Nat),ZbR l=some ds→l.length=ds.length∧∀ (i d:Nat),ds[i]? = some d→l[i]? = some (.ptr d 0)
 | [], ds, h => by simp only [ZbR, Option.some.injEq] at h; subst h; exact ⟨rfl, by simp⟩
 | x :: l, ds, h => by
  unfold ZbR at h
  split at h
  ·rename_i heq;cases heq
  ·rename_i d r heq
   simp only [List.cons.injEq] at heq
   obtain ⟨rfl,rfl⟩:=heq
   cases hr:ZbR l with
   | none => rw [hr] at h; cases h
   | some es =>
    rw [hr] at h
    simp only [Option.map_some,Option.some.injEq] at h
    subst h
    obtain ⟨h1,h2⟩:=ZdK l es hr
    refine ⟨by simp [h1],fun i e he=>?_⟩
    cases i with
    | zero => simp only [List.getElem?_cons_zero, Option.some.injEq] at he ⊢; rw [he]
    | succ i => simpa using h2 i e (by simpa using he)
  ·cases h
theorem ZeJ {fn:Fn} {first captured:Array Operand} (ho:o.op = .makeFunc fn first captured) (h:(JT P E tx tk g o n k).wp P R A ρ):YV tx P R A ρ g o n k:=by
 simp only [JT,ho] at h
 split at h
 ·rename_i f ds hf hds
  split at h
  ·rename_i hall
   obtain ⟨h1,h2⟩:=ZdK _ _ hds
   refine ZF h trivial (ZcG ho hf (by simpa using h1) fun i x d hx hd=>?_)
   have h3:=h2 i d hd
   rw [List.getElem?_map,hx] at h3
   simp only [Option.map_some,Option.some.injEq] at h3
   rw [List.all_eq_true] at hall
   have h4:=hall d (List.mem_of_getElem? hd)
   refine ⟨Ze ρ h3,?_⟩
   show ∃ cs,(g d).den ρ = .box cs
   split at h4
   ·rename_i cs hcs;rw [hcs];exact ⟨_,rfl⟩
   ·cases h4
  ·exact h.elim
 ·exact h.elim
theorem ZhP {P:Program} (w:World) (d:Nat) {t e:TypeId} (a:Addr) (h:P.underlying t=some (.pointer e)):(Op.equalIn (d+1) t (.pointer (some a)) (.pointer none)).run P w = .ok false w:=by
 simp [Op.equalIn,run_underlying h]
theorem ZaE {P:Program} {o:Oper} {σ:Nat→AV} {op:BinOp} {T T' e:TypeId} {x:Operand} {d off:Nat} (ho:o.op = .binOp op T x (.const (.pointer none)) T') (hT:P.underlying T=some (.pointer e))
  (hop:op = .eql∨op = .neq) (hx:Zl P σ x = .ptr d off):JU P o σ (.val (.bool (if op = .eql then false else true))) [] []:=by
 refine Zn [] rfl fun c hc σ' tm w lim X hg _ hsim=>⟨.bool (if op = .eql then false else true),?_,.val rfl⟩
 rw [ho] at hg
 obtain ⟨b,cs,_,_,hv⟩:=YA hc hsim hx (hg x (by simp [Op.operands]))
 have hc0:Act.eval ⟨tm,[]⟩ (.const (.pointer none)) = .pointer none:=rfl
 have he:(Op.equal T (.pointer (some ⟨b,off,none⟩)) (.pointer none)).run P w = .ok false w:=ZhP w 9999 _ hT
 rcases hop with rfl | rfl<;>simp [execOp,ho,hv,hc0,eqGuard,binOp,he]
theorem ZjI {op:BinOp} {T T':TypeId} {x y:Operand} (hps:PlainSound P E.plain) (hg:∀ d,(g d).bd n) (ho:o.op = .binOp op T x y T') (h:(JT P E tx tk g o n k).wp P R A ρ):YV tx P R A ρ g o n k:=by
 simp only [JT,ho] at h
 split at h
 ·rename_i b hb
  unfold Zj6 at hb
  split at hb
  ·rename_i d off e hx hT
   split at hb
   ·simp only [Option.some.injEq] at hb
    subst hb
    exact ZF h trivial (ZaE (op:=.eql) ho hT (.inl rfl) (Ze ρ hx))
   ·simp only [Option.some.injEq] at hb
    subst hb
    exact ZF h trivial (ZaE (op:=.neq) ho hT (.inr rfl) (Ze ρ hx))
   ·cases hb
  ·cases hb
 ·exact Zim hps hg ho h
theorem Zgt (hps:PlainSound P E.plain) (hg:∀ d,(g d).bd n) (htop:∀ i,E.top≤i→g i = .dead) (h:(JT P E tx tk g o n k).wp P R A ρ):YV tx P R A ρ g o n k:=by
 cases ho:o.op with
 | move x => exact ZlY hg htop ho h
 | assign x => exact Zis hg htop ho h
 | pick c a b => exact ZlF hg ho h
 | alloc T => exact Zjn ho h
 | box T x => exact ZmQ hg ho h
 | build T parts => exact ZjQ hg htop ho h
 | buildSlice T len parts => exact Zc2 hg ho h
 | load T a => exact Zla hg htop ho h
 | store T a x => exact ZjT hg htop ho h
 | nilCheck x => exact ZeX hg ho h
 | binOp op T x y T' => exact ZjI hps hg ho h
 | unOp op T x => exact ZkY hg ho h
 | convert S T x => exact Zgp hg ho h
 | fieldAddr T x f => exact ZdF hg ho h
 | field T x f => exact Zjk hg ho h
 | indexAddr T x i => exact Zd6 hg ho h
 | makeSlice T a b => exact Zlo hg ho h
 | makeFunc fn first captured => exact ZeJ ho h
 | slice T x lo hi mx => exact Zjs hg htop ho h
 | extract x i => exact Zgk hg ho h
 | call c =>
  cases hc:c.callee with
  | builtin b =>
   cases b with
   | len => exact ZnI hg ho hc h
   | append => exact ZiC hg htop ho hc h
   | copy => exact ZlT hg ho hc h
   | min => exact Zn6 hg ho hc h
   | max => exact ZmG hg ho hc h
   | _ => simp only [JT, ho, hc] at h; exact h.elim
  | value x =>
   cases x with
   | func f =>
    simp only [JT,ho,hc] at h
    split at h
    case h_2=>
     rename_i hkl
     split at h
     case isFalse=>exact h.elim
     rename_i hall
     rw [List.all_eq_true] at hall
     cases htx:tx with
     | any N M => exact (hkl (by rw [htx]; rfl)).elim
     | text =>
     subst htx
     refine Zh8 (WN E .text g (E.rfs f) c.args.toList) (fun u hu=>?_) ?_
     ·obtain ⟨k1,k2⟩:=ZeB ρ hu
      exact ⟨k1,k2,by simpa using hall u hu⟩
     ·split at h
      ·rename_i aZ has
       obtain ⟨h1,h2,h3⟩:=Vv ρ _ _ _ has
       refine Zek (ds:=[]) (fun i hi=>by unfold Zc8;split;rfl;exact htop i hi) ho (.inl ⟨hc,rfl⟩) (by simpa using h1) h2 (fun i x hx hci=>?_) h
       have hl:i < aZ.length:=by rw [← h1.1,List.length_map];exact (List.getElem?_eq_some_iff.1 hx).1
       obtain ⟨t,d,q,j,e⟩:=h3 i _ x hx (List.getElem?_eq_getElem hl) (by rw [Nat.zero_add];exact hci)
       exact ⟨t,d,q,j,by rw [List.getElem?_eq_getElem hl,e]⟩
      ·exact h.elim
    split at h
    ·rename_i aZ has
     obtain ⟨h1,h2,h3⟩:=Vv ρ _ _ _ has
     refine Zek (ds:=[]) htop ho (.inl ⟨hc,rfl⟩) (by simpa using h1) h2 (fun i x hx hci=>?_) h
     have hl:i < aZ.length:=by rw [← h1.1,List.length_map];exact (List.getElem?_eq_some_iff.1 hx).1
     obtain ⟨t,d,q,j,e⟩:=h3 i _ x hx (List.getElem?_eq_getElem hl) (by rw [Nat.zero_add];exact hci)
     exact ⟨t,d,q,j,by rw [List.getElem?_eq_getElem hl,e]⟩
    ·exact h.elim
   | tmp t =>
    simp only [JT,ho,hc] at h
    split at h
    ·rename_i f ds aZ ht has
     obtain ⟨h1,h2,_⟩:=Vv ρ _ _ _ has
     split at h
     ·rename_i cs hcs
      obtain ⟨k1,k2⟩:=Zk1 (P:=P) ρ hcs
      refine Zek (ds:=ds) htop ho (.inr ⟨t,hc,by rw [ht];rfl⟩) (h1.append k1) (fun a ha=>?_) (fun i _ _ hi=>by simp at hi) h
      rcases List.mem_append.1 ha with ha | ha
      ·exact h2 a ha
      ·exact k2 a ha
     ·exact h.elim
    ·exact h.elim
   | _ => simp only [JT, ho, hc] at h; exact h.elim
  | _ => simp only [JT, ho, hc] at h; exact h.elim
 | _ => simp only [JT, ho] at h; exact h.elim
end
end Go.AM
end

section
namespace Go.AM
structure Stp where
 F:List Nat
 ups:List (Nat×AV)
def ZkH (T:Odr) (P:Program) (nt:Nat) (ops:Array Oper) (B:Nat→Prop) (i:Nat) (pre:Nat→AV) (s:Stp):Prop:=
 (∀ u∈s.ups,u.1∈s.F)∧(∀ u∈s.ups,B u.1→ZbC u.2)∧(∀ u∈s.ups,∀ d k,T.nr d u.1=true→¬ Z0 u.2 d k)∧
 ∀ (c:Ctx),c.P=P→c.nt=nt→∀ (σ':Nat→AV) (tm:Array Value) (w:World) (lim:Nat→Nat) (X:Nat→Nat→Option Nat),
  (∀ d∈s.F,σ' d=pre d)→(∀ d,B d→ZbC (σ' d))→T.rel pre σ'→Sim c σ' tm w lim X→∀ (Q:Exit→Act→World→Prop) (K:Act→World→Prop),
   (∀ tm' w' lim' X',Sim c (Jw σ' s.ups) tm' w' lim' X'→K ⟨tm',[]⟩ w')→wpOp P ops Q i K ⟨tm,[]⟩ w
def Zee (T:Odr) (P:Program) (nt:Nat) (ops:Array Oper) (B:Nat→Prop):Nat→(Nat→AV)→List Stp→Prop
 | _, _, [] => True
 | i, σ, s :: ss => ZkH T P nt ops B i σ s ∧ Zee T P nt ops B (i + 1) (Jw σ s.ups) ss
theorem ZcP {B:Nat→Prop} : ∀ (us:List (Nat×AV)) (σ:Nat→AV),(∀ u∈us,B u.1→ZbC u.2)→(∀ d,B d→ZbC (σ d))→∀ d,B d→ZbC (Jw σ us d)
 | [], _, _, h, d, hd => h d hd
 | (e, x) :: us, σ, hu, h, d, hd => by
  refine ZcP us (upd σ e x) (fun u h'=>hu u (by simp [h'])) (fun d hd=>?_) d hd
  by_cases he:d=e
  ·subst he;rw [ZU];exact hu (d,x) (by simp) hd
  ·rw [Zi _ _ he];exact h d hd
def ZeO (σ:Nat→AV):List Stp→(Nat→AV)
 | [] => σ
 | s :: ss => ZeO (Jw σ s.ups) ss
section
variable {T:Odr} {P:Program} {nt:Nat} {ops:Array Oper} {B:Nat→Prop} {Q:Exit→Act→World→Prop} {c:Ctx}
theorem Zbu (hc:c.P=P) (hn:c.nt=nt):∀ (ss:List Stp) (i:Nat) (σ:Nat→AV) (tm:Array Value) (w:World) (lim:Nat→Nat) (X:Nat→Nat→Option Nat),
  Zee .text P nt ops B i σ ss→(∀ d,B d→ZbC (σ d))→Sim c σ tm w lim X→(∀ tm' w' lim' X',Sim c (ZeO σ ss) tm' w' lim' X'→Q .normal ⟨tm',[]⟩ w')→wpOps P ops Q (List.range' i ss.length) ⟨tm,[]⟩ w
 | [], i, σ, tm, w, lim, X, _, _, hs, hk => by
  show Q .normal ⟨tm,[]⟩ w
  exact hk tm w lim X hs
 | s :: ss, i, σ, tm, w, lim, X, h, hb, hs, hk => by
  rw [List.length_cons,List.range'_succ,wpOps_cons]
  exact h.1.2.2.2 c hc hn σ tm w lim X (fun _ _=>rfl) hb rfl hs Q _ fun tm' w' lim' X' hs'=>Zbu hc hn ss (i+1) _ tm' w' lim' X' h.2 (ZcP _ _ h.1.2.1 hb) hs' hk
def Wr:List (Nat×AV)→Nat→Option AV
 | [], _ => none
 | (e, x) :: us, d => match Wr us d with | some y => some y | none => if d = e then some x else none
theorem Z7:∀ (us:List (Nat×AV)) (σ:Nat→AV) (d:Nat),Jw σ us d=(Wr us d).getD (σ d)
 | [], σ, d => rfl
 | (e, x) :: us, σ, d => by
  simp only [Jw,Wr,Z7 us]
  cases Wr us d with
  | some y => rfl
  | none =>
   by_cases h:d=e
   ·subst h;simp [upd]
   ·simp [upd,h]
theorem Yn:∀ (us:List (Nat×AV)) (d:Nat),d∉us.map (·.1)→Wr us d=none
 | [], d, _ => rfl
 | (e, x) :: us, d, h => by
  simp only [List.map_cons,List.mem_cons,not_or] at h
  simp only [Wr,Yn us d h.2,if_neg h.1]
theorem KK:∀ (us:List (Nat×AV)) (d:Nat),d∈us.map (·.1)→∃ x,Wr us d=some x
 | [], d, h => by simp at h
 | (e, x) :: us, d, h => by
  simp only [Wr]
  cases hl:Wr us d with
  | some y => exact ⟨y, rfl⟩
  | none =>
   simp only [List.map_cons,List.mem_cons] at h
   rcases h with h | h
   ·subst h;exact ⟨x,by simp⟩
   ·obtain ⟨y,hy⟩:=KK us d h;rw [hl] at hy;cases hy
def comp (S:Nat→Bool):Nat→(Nat→AV)→List Stp→(Nat→AV)
 | _, σ, [] => σ
 | i, σ, s :: ss => comp S (i + 1) (if S i = true then Jw σ s.ups else σ) ss
theorem ZfC (S:Nat→Bool):∀ (ss:List Stp) (i:Nat) (σ:Nat→AV),(∀ j,i≤j→j < i+ss.length→S j=true)→comp S i σ ss=ZeO σ ss
 | [], _, _, _ => rfl
 | s :: ss, i, σ, h => by
  simp only [comp,ZeO,h i (Nat.le_refl _) (by simp),if_true]
  exact ZfC S ss (i+1) _ fun j h1 h2=>h j (by omega) (by simp only [List.length_cons];omega)
theorem Zar (S:Nat→Bool):∀ (ss:List Stp) (i:Nat) (σ:Nat→AV),(∀ j,i≤j→j < i+ss.length→S j=false)→comp S i σ ss=σ
 | [], _, _, _ => rfl
 | s :: ss, i, σ, h => by
  simp only [comp,h i (Nat.le_refl _) (by simp),Bool.false_eq_true,if_false]
  exact Zar S ss (i+1) _ fun j h1 h2=>h j (by omega) (by simp only [List.length_cons];omega)
theorem KI {d:Nat} (S T:Nat→Bool):∀ (ss:List Stp) (i:Nat) (σ τ:Nat→AV),σ d=τ d→(∀ (j:Nat) (s:Stp),ss[j]? = some s→d∈s.ups.map (·.1)→S (i+j)=T (i+j))→comp S i σ ss d=comp T i τ ss d
 | [], _, _, _, h, _ => h
 | s :: ss, i, σ, τ, h, hS => by
  simp only [comp]
  refine KI S T ss (i+1) _ _ ?_ fun j s' hs' hd=>by
   have:=hS (j+1) s' (by simpa using hs') hd
   rw [show i+1+j=i+(j+1) by omega]
   exact this
  by_cases hd:d∈s.ups.map (·.1)
  ·have h0:=hS 0 s rfl hd
   rw [Nat.add_zero] at h0
   rw [h0]
   split
   ·rw [Z7,Z7,h]
   ·exact h
  ·have hl:=Yn s.ups d hd
   split<;>split<;>first
    | (rw [Z7, Z7, hl]; exact h)
    | (rw [Z7, hl]; exact h)
    | exact h
theorem Zay:∀ (ss:List Stp) (i:Nat) (σ:Nat→AV) (m:Nat),comp (fun j=>decide (j < i+m)) i σ ss=ZeO σ (ss.take m)
 | [], i, σ, m => by simp [comp, ZeO]
 | s :: ss, i, σ, 0 => by
  rw [List.take_zero]
  exact Zar _ (s::ss) i σ fun j h1 _=>by simp;omega
 | s :: ss, i, σ, m + 1 => by
  simp only [comp,List.take_succ_cons,ZeO,decide_eq_true_eq]
  rw [if_pos (by omega),← Zay ss (i+1)]
  congr 1
  funext j
  rw [show i+1+m=i+(m+1) by omega]
theorem Zhe (S:Nat→Bool):∀ (ss:List Stp) (i:Nat) (σ:Nat→AV),(∀ s∈ss,∀ u∈s.ups,B u.1→ZbC u.2)→(∀ d,B d→ZbC (σ d))→∀ d,B d→ZbC (comp S i σ ss d)
 | [], _, _, _, h, d, hd => h d hd
 | s :: ss, i, σ, hu, h, d, hd => by
  simp only [comp]
  refine Zhe S ss (i+1) _ (fun s' hs'=>hu s' (by simp [hs'])) (fun d hd=>?_) d hd
  split
  ·exact ZcP _ _ (hu s (by simp)) h d hd
  ·exact h d hd
theorem ZdM:∀ (ss:List Stp) (i:Nat) (σ:Nat→AV),Zee T P nt ops B i σ ss→∀ s∈ss,∀ u∈s.ups,B u.1→ZbC u.2
 | [], _, _, _, s, hs => by simp at hs
 | s0 :: ss, i, σ, h, s, hs => by
  rcases List.mem_cons.1 hs with rfl | hs
  ·exact h.1.2.1
  ·exact ZdM ss (i+1) _ h.2 s hs
theorem ZiF:∀ (us:List (Nat×AV)) (σ:Nat→AV),(∀ u∈us,∀ d k,T.nr d u.1=true→¬ Z0 u.2 d k)→(∀ d i k,T.nr d i=true→¬ Z0 (σ i) d k)→∀ d i k,T.nr d i=true→¬ Z0 (Jw σ us i) d k
 | [], _, _, h => h
 | (e, x) :: us, σ, hu, h => by
  refine ZiF us (upd σ e x) (fun u h'=>hu u (by simp [h'])) fun d i k hd=>?_
  by_cases he:i=e
  ·subst he;rw [ZU];exact hu (i,x) (by simp) d k hd
  ·rw [Zi _ _ he];exact h d i k hd
theorem ZiE (S:Nat→Bool):∀ (ss:List Stp) (i:Nat) (σ:Nat→AV),(∀ s∈ss,∀ u∈s.ups,∀ d k,T.nr d u.1=true→¬ Z0 u.2 d k)→(∀ d i k,T.nr d i=true→¬ Z0 (σ i) d k)→∀ d j k,T.nr d j=true→¬ Z0 (comp S i σ ss j) d k
 | [], _, _, _, h => h
 | s :: ss, i, σ, hu, h => by
  simp only [comp]
  refine ZiE S ss (i+1) _ (fun s' hs'=>hu s' (by simp [hs'])) ?_
  split
  ·exact ZiF _ _ (hu s (by simp)) h
  ·exact h
theorem ZfW:∀ (ss:List Stp) (i:Nat) (σ:Nat→AV),Zee T P nt ops B i σ ss→∀ s∈ss,∀ u∈s.ups,∀ d k,T.nr d u.1=true→¬ Z0 u.2 d k
 | [], _, _, _, s, hs => by simp at hs
 | s0 :: ss, i, σ, h, s, hs => by
  rcases List.mem_cons.1 hs with rfl | hs
  ·exact h.1.2.2.1
  ·exact ZfW ss (i+1) _ h.2 s hs
theorem ZfM:∀ (ss:List Stp) (i:Nat) (σ:Nat→AV),Zee T P nt ops B i σ ss→∀ (j:Nat) (s:Stp),ss[j]? = some s→ZkH T P nt ops B (i+j) (ZeO σ (ss.take j)) s
 | [], _, _, _, j, s, h => by simp at h
 | s0 :: ss, i, σ, hc, 0, s, h => by
  simp only [List.getElem?_cons_zero,Option.some.injEq] at h
  subst h
  exact hc.1
 | s0 :: ss, i, σ, hc, j + 1, s, h => by
  have:=ZfM ss (i+1) _ hc.2 j s (by simpa using h)
  rw [show i+(j+1)=i+1+j by omega]
  exact this
theorem ZhY (hc:c.P=P) (hn:c.nt=nt) {N:Nat→Bool} {M:Nat→Option Nat} {ss:List Stp} {σ:Nat→AV} (hch:Zee (.any N M) P nt ops B 0 σ ss) (hN:∀ d i k,(Odr.any N M).nr d i=true→¬ Z0 (σ i) d k) (hpb:∀ d,B d→ZbC (σ d)) (hlen:ss.length=ops.size)
  (hlow:∀ (i:Nat) (o:Oper),ops[i]? = some o→∀ e∈o.after,Region.binds .any e=true→e.on < i)
  (hind:∀ (i j:Nat) (a b:Stp),ss[i]? = some a→ss[j]? = some b→j < i→(∃ S:Nat→Prop,(∀ k o,ops[k]? = some o→S k→∀ e∈o.after,Region.binds .any e=true→S e.on)∧S i∧¬ S j)→
   (∀ d∈b.ups.map (·.1),d∉a.F)∧∀ d∈a.ups.map (·.1),d∉b.F) (hfin:∀ tm' w' lim' X',Sim c (ZeO σ ss) tm' w' lim' X'→Q .normal ⟨tm',[]⟩ w') :
  ∀ (fuel:Nat) (listed:Array Bool) (tm:Array Value) (w:World) (lim:Nat→Nat) (X:Nat→Nat→Option Nat),listed.size=ops.size→
   (∀ k o,ops[k]? = some o→listed.getD k false=true→∀ e∈o.after,Region.binds .any e=true→listed.getD e.on false=true)→
   ((List.range ops.size).countP (fun i=>!listed.getD i false)≤fuel)→
   Sim c (comp (fun i=>listed.getD i false) 0 σ ss) tm w lim X→wpAny P .any ops Q fuel listed ⟨tm,[]⟩ w:=by
 -- where nothing is ready, all is done
 have hdone:∀ (listed:Array Bool),listed.size=ops.size→Region.ready .any ops listed = []→∀ j,j < ops.size→listed.getD j false=true:=by
  intro listed hsz hr j
  induction j using Nat.strongRecOn with
  | _ j ih =>
   intro hj
   cases hl:listed.getD j false with
   | true => rfl
   | false =>
    have:j∈Region.ready .any ops listed:=by
     rw [mem_ready]
     refine ⟨?_,ops[j],Array.getElem?_eq_getElem hj,fun e he hb=>?_⟩
     ·simp only [Array.getD,hsz,hj,dite_true] at hl ⊢
      exact hl
     ·have hlt:=hlow j _ (Array.getElem?_eq_getElem hj) e he hb
      exact ih e.on hlt (by omega)
    rw [hr] at this
    cases this
 have hend:∀ (listed:Array Bool) (tm:Array Value) (w:World) (lim:Nat→Nat) (X:Nat→Nat→Option Nat),listed.size=ops.size→Region.ready .any ops listed = []→
   Sim c (comp (fun i=>listed.getD i false) 0 σ ss) tm w lim X→Q .normal ⟨tm,[]⟩ w:=by
  intro listed tm w lim X hsz hr hs
  rw [ZfC _ ss 0 σ fun j _ h2=>hdone listed hsz hr j (by omega)] at hs
  exact hfin tm w lim X hs
 intro fuel
 induction fuel with
 | zero =>
  intro listed tm w lim X hsz hcl hcnt hs
  have hall:∀ j,j < ops.size→listed.getD j false=true:=by
   intro j hj
   have h0:(List.range ops.size).countP (fun i=>!listed.getD i false)=0:=by omega
   have:=(List.countP_eq_zero.1 h0) j (by simpa using hj)
   simpa using this
  have hr:Region.ready .any ops listed = []:=by
   refine List.eq_nil_iff_forall_not_mem.2 fun j hj=>?_
   obtain ⟨h1,o,h2,_⟩:=mem_ready.1 hj
   have hlt:=(Array.getElem?_eq_some_iff.1 h2).1
   have:=hall j hlt
   simp only [Array.getD,hsz,hlt,dite_true] at h1 this
   rw [h1] at this
   cases this
  exact ⟨hr,hend listed tm w lim X hsz hr hs⟩
 | succ fuel ih =>
  intro listed tm w lim X hsz hcl hcnt hs
  refine ⟨fun hr=>hend listed tm w lim X hsz hr hs,fun i hi=>?_⟩
  obtain ⟨h1,o,h2,h3⟩:=mem_ready.1 hi
  have hlt:=(Array.getElem?_eq_some_iff.1 h2).1
  have hun:listed.getD i false=false:=by
   simp only [Array.getD,hsz,hlt,dite_true] at h1 ⊢
   exact h1
  obtain ⟨s,hsi⟩:∃ s,ss[i]? = some s:=⟨_,List.getElem?_eq_getElem (by omega)⟩
  have hst:=ZfM ss 0 σ hch i s hsi
  rw [Nat.zero_add] at hst
  have hset:∀ j,(listed.setIfInBounds i true).getD j false=if j=i then true else listed.getD j false:=by
   intro j
   by_cases hji:j=i
   ·subst hji
    simp [Array.getD,hsz,hlt]
   ·rw [if_neg hji,getD_set_ne false (Ne.symm hji)]
  -- i is not before what is listed
  have hnot:∀ j,listed.getD j false=true→∃ S:Nat→Prop,(∀ k o,ops[k]? = some o→S k→∀ e∈o.after,Region.binds .any e=true→S e.on)∧S j∧¬ S i:=
   fun j hj=>⟨fun k=>listed.getD k false=true,hcl,hj,by simp [hun]⟩
  -- what is not listed is not before i
  have hnot':∀ j,j≠i→listed.getD j false=false→∃ S:Nat→Prop,(∀ k o,ops[k]? = some o→S k→∀ e∈o.after,Region.binds .any e=true→S e.on)∧S i∧¬ S j:=by
   intro j hji hj
   refine ⟨fun k=>k=i∨listed.getD k false=true,fun k o' hk hS e he hb=>?_,.inl rfl,by simp [hji,hj]⟩
   rcases hS with rfl | hS
   ·rw [h2] at hk
    cases hk
    exact .inr (h3 e he hb)
   ·exact .inr (hcl k o' hk hS e he hb)
  have hpre:∀ d∈s.F,comp (fun i=>listed.getD i false) 0 σ ss d=ZeO σ (ss.take i) d:=by
   intro d hd
   rw [← Zay ss 0 σ i]
   refine KI _ _ ss 0 σ σ rfl fun j s' hj hdj=>?_
   simp only [Nat.zero_add]
   rcases Nat.lt_trichotomy j i with hlt' | rfl | hgt
   ·simp only [hlt',decide_true]
    cases hl:listed.getD j false with
    | true => rfl
    | false => exact (((hind i j s s' hsi hj hlt' (hnot' j (by omega) hl)).1 d hdj) hd).elim
   ·simp [hun]
   ·have hf:decide (j < i)=false:=by simp;omega
    rw [hf]
    cases hl:listed.getD j false with
    | false => rfl
    | true => exact (((hind j i s' s hj hsi hgt (hnot j hl)).2 d hdj) hd).elim
  refine hst.2.2.2 c hc hn _ tm w lim X hpre (Zhe _ ss 0 σ (ZdM ss 0 σ hch) hpb) (ZiE _ ss 0 σ (ZfW ss 0 σ hch) hN) hs Q _ fun tm' w' lim' X' hs'=>?_
  refine ih (listed.setIfInBounds i true) tm' w' lim' X' (by simpa using hsz) ?_ ?_ ?_
  ·intro k o' hk hl e he hb
   rw [hset] at hl ⊢
   by_cases hei:e.on=i
   ·simp [hei]
   ·rw [if_neg hei]
    by_cases hki:k=i
    ·subst hki
     rw [h2] at hk
     cases hk
     exact h3 e he hb
    ·rw [if_neg hki] at hl
     exact hcl k o' hk hl e he hb
  ·have hlt2:(List.range ops.size).countP (fun j=>!(listed.setIfInBounds i true).getD j false) < (List.range ops.size).countP (fun j=>!listed.getD j false):=by
    have key:∀ (l:List Nat),i∈l→l.countP (fun j=>!(listed.setIfInBounds i true).getD j false) < l.countP (fun j=>!listed.getD j false):=by
     have hle:∀ (l:List Nat),l.countP (fun j=>!(listed.setIfInBounds i true).getD j false)≤l.countP (fun j=>!listed.getD j false):=by
      intro l
      refine List.countP_mono_left fun j _ hj=>?_
      rw [hset] at hj
      split at hj
      ·simp at hj
      ·exact hj
     intro l
     induction l with
     | nil => intro h; cases h
     | cons x l ihl =>
      intro h
      rw [List.countP_cons,List.countP_cons]
      by_cases hx:x=i
      ·subst hx
       have h1:(listed.setIfInBounds x true).getD x false=true:=by rw [hset,if_pos rfl]
       have:=hle l
       rw [h1,hun]
       simp only [Bool.not_true,Bool.not_false,Bool.false_eq_true,if_false,if_true]
       omega
      ·have:=ihl (by rcases List.mem_cons.1 h with h | h;exact (hx h.symm).elim;exact h)
       rw [hset x,if_neg hx]
       omega
    exact key _ (by simpa using hlt)
   omega
  ·have he:comp (fun j=>(listed.setIfInBounds i true).getD j false) 0 σ ss=Jw (comp (fun i=>listed.getD i false) 0 σ ss) s.ups:=by
    funext d
    rw [Z7]
    by_cases hd:d∈s.ups.map (·.1)
    ·have hdF:d∈s.F:=by
      obtain ⟨u,hu,rfl⟩:=List.mem_map.1 hd
      exact hst.1 u hu
     -- nothing behind i that is listed writes d
     rw [KI (d:=d) _ (fun j=>decide (j < i+1)) ss 0 σ σ rfl fun j s' hj hdj=>?_]
     ·have:=Zay ss 0 σ (i+1)
      rw [Nat.zero_add] at this
      rw [this,List.take_add_one,hsi]
      have happ:∀ (l:List Stp) (τ:Nat→AV),ZeO τ (l++[s])=Jw (ZeO τ l) s.ups:=by
       intro l
       induction l with
       | nil => intro τ; rfl
       | cons x l ihl => intro τ; exact ihl _
      show ZeO σ (ss.take i++[s]) d=_
      rw [happ,Z7]
      obtain ⟨x,hx⟩:=KK s.ups d hd
      rw [hx]
      rfl
     ·rw [Nat.zero_add,hset]
      rcases Nat.lt_trichotomy j i with hlt' | rfl | hgt
      ·have:decide (j < i+1)=true:=by simp;omega
       rw [this,if_neg (by omega)]
       cases hl:listed.getD j false with
       | true => rfl
       | false => exact (((hind i j s s' hsi hj hlt' (hnot' j (by omega) hl)).1 d hdj) hdF).elim
      ·simp
      ·have:decide (j < i+1)=false:=by simp;omega
       rw [this,if_neg (by omega)]
       cases hl:listed.getD j false with
       | false => rfl
       | true => exact (((hind j i s' s hj hsi hgt (hnot j hl)).2 d hdj) hdF).elim
    ·rw [Yn s.ups d hd]
     refine KI _ _ ss 0 σ σ rfl fun j s' hj hdj=>?_
     rw [Nat.zero_add,hset]
     by_cases hji:j=i
     ·subst hji
      rw [hsi] at hj
      cases hj
      exact (hd hdj).elim
     ·rw [if_neg hji]
   rw [he]
   exact hs'
end
theorem Zce {ops:Array Oper} {S:Nat→Prop} (hS:∀ k o,ops[k]? = some o→S k→∀ e∈o.after,Region.binds .any e=true→S e.on) (i j:Nat) (hi:S i)
  (hb:((Region.before ops).getD i 0).testBit j=true):S j:=by
 have inner:∀ (acc:Array Nat),(∀ i j,S i→(acc.getD i 0).testBit j=true→S j)→∀ (l:List Edge),(∀ e∈l,Region.binds .any e=true→S e.on)→∀ (s:Nat),(∀ j,s.testBit j=true→S j)→
   ∀ j,(l.foldl (fun s e=>if Region.binds .any e then s||| 2^e.on||| acc.getD e.on 0 else s) s).testBit j=true→S j:=by
  intro acc hacc l
  induction l with
  | nil => intro _ s hs j hj; exact hs j hj
  | cons e l ih =>
   intro hl s hs j hj
   rw [List.foldl_cons] at hj
   refine ih (fun e' he'=>hl e' (by simp [he'])) _ ?_ j hj
   intro j' hj'
   split at hj'
   ·rename_i hbd
    have hon:=hl e (by simp) hbd
    rw [Nat.testBit_or,Nat.testBit_or,Nat.testBit_two_pow,Bool.or_eq_true,Bool.or_eq_true,decide_eq_true_eq] at hj'
    rcases hj' with (h | h) | h
    ·exact hs j' h
    ·rw [← h];exact hon
    ·exact hacc e.on j' hon h
   ·exact hs j' hj'
 have outer:∀ (l:List Oper) (acc:Array Nat),(∀ j,l[j]? = ops[acc.size+j]?)→(∀ i j,S i→(acc.getD i 0).testBit j=true→S j)→
   ∀ i j,S i→((l.foldl (fun acc o=>acc.push (o.after.foldl (fun s e=>if Region.binds .any e then s||| 2^e.on||| acc.getD e.on 0 else s) 0)) acc).getD i 0).testBit j=true→S j:=by
  intro l
  induction l with
  | nil => intro acc _ hacc i j hi hj; exact hacc i j hi hj
  | cons o l ih =>
   intro acc hl hacc i j hi hj
   rw [List.foldl_cons] at hj
   refine ih _ (fun j=>?_) ?_ i j hi hj
   ·have:=hl (j+1)
    simp only [List.getElem?_cons_succ,Array.size_push] at this ⊢
    rw [this]
    congr 1
    omega
   ·intro i' j' hi' hj'
    have h0:ops[acc.size]? = some o:=by simpa using (hl 0).symm
    by_cases h:i' < acc.size
    ·refine hacc i' j' hi' ?_
     simp only [Array.getD,Array.size_push,h,dite_true] at hj' ⊢
     rw [dif_pos (by omega)] at hj'
     simp only [Array.getInternal_eq_getElem,Array.getElem_push,h,dite_true] at hj' ⊢
     exact hj'
    ·by_cases h':i'=acc.size
     ·subst h'
      have:(acc.push (o.after.foldl (fun s e=>if Region.binds .any e then s||| 2^e.on||| acc.getD e.on 0 else s) 0)).getD acc.size 0=o.after.foldl (fun s e=>if Region.binds .any e then s||| 2^e.on||| acc.getD e.on 0 else s) 0:=by
       simp [Array.getD]
      rw [this,← Array.foldl_toList] at hj'
      exact inner acc hacc o.after.toList (fun e he hb=>hS acc.size o h0 hi' e (by simpa using he) hb) 0 (by simp) j' hj'
     ·have:(acc.push (o.after.foldl (fun s e=>if Region.binds .any e then s||| 2^e.on||| acc.getD e.on 0 else s) 0)).getD i' 0=0:=by
       simp only [Array.getD,Array.size_push]
       rw [dif_neg (by omega)]
      rw [this] at hj'
      simp at hj'
 have:=outer ops.toList #[] (fun j=>by simp) (fun i j _ h=>by simp at h) i j hi
 apply this
 rw [Array.foldl_toList]
 exact hb
end Go.AM
end

section
namespace Go.AM
theorem Tr.get_set:∀ (k:Nat) (t:Tr) (d i:Nat) (x:SV),d < 2^k→i < 2^k→(Tr.set k t d x).get i=if i=d then x else t.get i
 | 0, t, d, i, x, hd, hi => by
  have h1:d=0:=by simpa using hd
  have h2:i=0:=by simpa using hi
  subst h1
  subst h2
  rfl
 | k + 1, .node l r, d, i, x, hd, hi => by
  have hd2:d / 2 < 2^k:=by rw [Nat.pow_succ] at hd;omega
  have hi2:i / 2 < 2^k:=by rw [Nat.pow_succ] at hi;omega
  have ihl:=Tr.get_set k l (d / 2) (i / 2) x hd2 hi2
  have ihr:=Tr.get_set k r (d / 2) (i / 2) x hd2 hi2
  rcases Nat.mod_two_eq_zero_or_one d with h | h<;>rcases Nat.mod_two_eq_zero_or_one i with h' | h'
  ·simp only [Tr.set,h,Tr.get,h',ihl]
   by_cases he:i=d
   ·simp [he]
   ·rw [if_neg he,if_neg (by omega)]
  ·simp only [Tr.set,h,Tr.get,h']
   rw [if_neg (by omega)]
  ·simp only [Tr.set,h,Tr.get,h']
   rw [if_neg (by omega)]
  ·simp only [Tr.set,h,Tr.get,h',ihr]
   by_cases he:i=d
   ·simp [he]
   ·rw [if_neg he,if_neg (by omega)]
 | k + 1, .leaf y, d, i, x, hd, hi => by
  have hd2:d / 2 < 2^k:=by rw [Nat.pow_succ] at hd;omega
  have hi2:i / 2 < 2^k:=by rw [Nat.pow_succ] at hi;omega
  have ih:=Tr.get_set k (.leaf y) (d / 2) (i / 2) x hd2 hi2
  rcases Nat.mod_two_eq_zero_or_one d with h | h<;>rcases Nat.mod_two_eq_zero_or_one i with h' | h'
  ·simp only [Tr.set,h,Tr.get,h',ih]
   by_cases he:i=d
   ·simp [he]
   ·rw [if_neg he,if_neg (by omega)]
  ·simp only [Tr.set,h,Tr.get,h']
   rw [if_neg (by omega)]
  ·simp only [Tr.set,h,Tr.get,h']
   rw [if_neg (by omega)]
  ·simp only [Tr.set,h,Tr.get,h',ih]
   by_cases he:i=d
   ·simp [he]
   ·rw [if_neg he,if_neg (by omega)]
def ZQ (E:Env) (s:Tr) (ρ:Nat→V):Nat→AV:=fun d=>(gE E s d).den ρ
def Kt (E:Env) (s:Tr) (n:Nat):Prop:=∀ d,(gE E s d).bd n
section
variable {P:Program} {E:Env} {R:AV→List AV→Prop} {A:Nat→List V→Prop}
theorem JM {d:Nat} (h:d < E.nt):d < E.top:=Nat.lt_of_lt_of_le h (Nat.le_add_right _ _)
theorem Zkf (hnt:E.top≤1024) {d:Nat} (hd:d < E.top) (s:Tr) (x:SV) (i:Nat):gE E (s.set depth d x) i=if i=d then x else gE E s i:=by
 unfold gE
 by_cases hi:i < E.top
 ·rw [if_pos hi,if_pos hi]
  exact Tr.get_set 10 s d i x (by omega) (by omega)
 ·rw [if_neg hi,if_neg hi,if_neg (by omega)]
theorem J5 (hnt:E.top≤1024) {d:Nat} (hd:d < E.top) (s:Tr) (x:SV) (ρ:Nat→V):ZQ E (s.set depth d x) ρ=upd (ZQ E s ρ) d (x.den ρ):=by
 funext i
 simp only [ZQ,Zkf hnt hd,upd]
 split<;>rfl
theorem JC (hnt:E.top≤1024) {d n:Nat} (hd:d < E.top) {s:Tr} {x:SV} (hs:Kt E s n) (hx:x.bd n):Kt E (s.set depth d x) n:=by
 intro i
 rw [Zkf hnt hd]
 split
 ·exact hx
 ·exact hs i
def K9 (E:Env) (us:Ups):Prop:=us.all (fun u=>decide (u.1 < E.top))=true
theorem JY (hnt:E.top≤1024) (ρ:Nat→V):∀ (us:Ups) (s:Tr),K9 E us→ZQ E (Jt us s) ρ=Jw (ZQ E s ρ) (us.map fun u=>(u.1,u.2.den ρ))
 | [], _, _ => rfl
 | (d, x) :: us, s, h => by
  simp only [K9,List.all_cons,Bool.and_eq_true,decide_eq_true_eq] at h
  simp only [Jt,List.map_cons,Jw]
  rw [JY hnt ρ us _ h.2,J5 hnt h.1]
theorem JF (hnt:E.top≤1024) {n:Nat} : ∀ (us:Ups) (s:Tr),K9 E us→Kt E s n→(∀ u∈us,u.2.bd n)→Kt E (Jt us s) n
 | [], _, _, hs, _ => hs
 | (d, x) :: us, s, h, hs, hu => by
  simp only [K9,List.all_cons,Bool.and_eq_true,decide_eq_true_eq] at h
  exact JF hnt us _ h.2 (JC hnt h.1 hs (hu (d,x) (by simp))) fun u h'=>hu u (by simp [h'])
theorem Zd5 {s:Tr} {n n':Nat} (h:Kt E s n) (hn:n≤n'):Kt E s n':=fun d=>SV.bd_mono hn _ (h d)
theorem Zbr {s:Tr} {n:Nat} {ρ ρ':Nat→V} (h:Kt E s n) (hρ:∀ m,m < n→ρ' m=ρ m):ZQ E s ρ'=ZQ E s ρ:=by
 funext d
 exact SV.den_congr hρ _ (h d)
theorem Zbw {x:SV} (ρ:Nat→V) (h:∀ cs,x≠.box cs):∀ cs,x.den ρ≠.box cs:=by
 intro cs he
 cases x with
 | box ds => exact h ds rfl
 | c y => cases y <;> cases he
 | _ => cases he
theorem ZcE {x:SV} (ρ:Nat→V) (h:∀ cs,x≠.gbox cs):(x.den ρ).isG=false:=by
 cases x with
 | gbox cs => exact (h cs rfl).elim
 | c y => cases y <;> rfl
 | _ => rfl
theorem ZgG {a b:AV} (ga:a.isG=false) (gb:b.isG=false) (ha:KV a) (hb:(∀ cs,b≠.box cs)∨a = .dead):K8 a b=true:=by
 unfold K8
 split
 ·cases ga
 ·cases gb
 ·rename_i cs _;exact (ha.1 cs rfl).elim
 ·exact (ha.2.1 _ _ rfl).elim
 ·rfl
 ·rename_i h1 h2
  rcases hb with hb | hb
  ·exact (hb _ rfl).elim
  ·exact (h2 hb).elim
 ·rfl
theorem ZhN {x:SV} (ρ:Nat→V) (h:∀ cs,x≠.box cs) (h':∀ e l,x≠.own true e l) (h3:∀ cs,x≠.gbox cs):KV (x.den ρ):=by
 refine ⟨Zbw ρ h,fun e xs he=>?_,fun cs he=>by have:=ZcE ρ h3;rw [he] at this;cases this⟩
 cases x with
 | own b e' l =>
  cases b with
  | true => exact h' _ _ rfl
  | false => cases he
 | c y => cases y <;> cases he
 | _ => cases he
theorem J3 {a b:SV} (ρ:Nat→V) (h:Wy a b=true):K8 (a.den ρ) (b.den ρ)=true:=by
 have h1:∀ cs,a≠.box cs:=by
  rintro cs rfl
  cases b<;>cases h
 have h2:∀ e l,a≠.own true e l:=by
  rintro e l rfl
  cases b<;>cases h
 have h3:∀ cs,a≠.gbox cs:=by
  rintro cs rfl
  cases b<;>cases h
 have h4:∀ cs,b≠.gbox cs:=by
  rintro cs rfl
  cases a with
  | own x e l => cases x <;> cases h
  | _ => cases h
 refine ZgG (ZcE ρ h3) (ZcE ρ h4) (ZhN ρ h1 h2 h3) ?_
 by_cases hd:a = .dead
 ·subst hd;exact .inr rfl
 ·refine .inl (Zbw ρ ?_)
  rintro cs rfl
  cases a with
  | dead => exact hd rfl
  | own x e l => cases x <;> cases h
  | _ => cases h
theorem Zgh {c:Ctx} {σ:Nat→AV} {tm:Array Value} {w:World} {lim:Nat→Nat} {X:Nat→Nat→Option Nat} (h:Sim c σ tm w lim X) {ops:Array Oper} {j gd:Nat} {b:Bool}
  (hd:(ops[j]?).bind (·.dst)=some gd) (hb:σ gd = .val (.bool b)):yielded ops tm j=some b:=by
 have hlt:gd < tm.size:=by
  rcases Nat.lt_or_ge gd c.nt with h1 | h1
  ·rw [h.size];exact h1
  ·have:=h.out gd h1;rw [hb] at this;rcases this with h2 | h2<;>cases h2
 have hr:=h.rel gd
 rw [hb] at hr
 have hv:tm.getD gd undef = .bool b:=KC hr
 have h2:tm[gd]? = some (.bool b):=by
  simp only [Array.getD,hlt,dite_true] at hv
  rw [Array.getElem?_eq_getElem hlt]
  exact congrArg some hv
 unfold yielded
 simp only [hd,Option.bind_some,h2]
theorem Zea {c:Ctx} {σ:Nat→AV} {tm:Array Value} {w:World} {lim:Nat→Nat} {X:Nat→Nat→Option Nat} (h:Sim c σ tm w lim X) {ops:Array Oper} {j gd:Nat}
  (hd:(ops[j]?).bind (·.dst)=some gd) (hb:σ gd = .tuple []):yielded ops tm j=none:=by
 have hr:=h.rel gd
 rw [hb] at hr
 obtain ⟨us,h1,h2,_⟩:=hr
 have:us = []:=List.eq_nil_of_length_eq_zero h2
 subst this
 unfold yielded
 simp only [hd,Option.bind_some]
 by_cases hlt:gd < tm.size
 ·simp only [Array.getD,hlt,dite_true] at h1
  have h3:tm[gd]? = some (.tuple #[]):=by
   rw [Array.getElem?_eq_getElem hlt]
   exact congrArg some h1
  simp only [h3]
 ·simp only [Array.getElem?_eq_none (Nat.le_of_not_lt hlt)]
theorem Sim.putUndef {c:Ctx} {σ:Nat→AV} {tm:Array Value} {w:World} {lim:Nat→Nat} {X:Nat→Nat→Option Nat} (h:Sim c σ tm w lim X) {d:Nat} (hd:d < c.nt) (hb:KV (σ d)) :
  ∃ X',Sim c (upd σ d (.tuple [])) (tm.setIfInBounds d undef) w lim X':=
 ⟨_,h.putRow Yg (ZT.refl w lim (fun _=>False)) (fun _ hs=>hs.elim) hd (by simp) (fun i hi=>ZO tm d i undef hi) (.inl hb.1) (fun i q hi hr=>(h.noRefs hb.none i q hi hr).elim)
  ⟨[],by rw [JS tm d undef (by rw [h.size];exact hd)];rfl,rfl,by simp⟩ (fun k b hk=>by simp [Yg] at hk) (fun k k' b hk=>by simp [Yg] at hk)⟩
def Zew (ops:Array Oper) (o:Oper) (σ:Nat→AV) (gs:List Nat) (v:Bool):Prop:=
 (o.guard=none∧v=true)∨(∃ j want gd b,o.guard=some (j,want)∧(ops[j]?).bind (·.dst)=some gd∧gd∈gs∧σ gd = .val (.bool b)∧(v=true↔want=b))∨
 ∃ j want gd,o.guard=some (j,want)∧(ops[j]?).bind (·.dst)=some gd∧gd∈gs∧σ gd = .tuple []∧v=false
theorem VH {ops:Array Oper} {o:Oper} {σ:Nat→AV} {gs:List Nat} {v:Bool} (hg:Zew ops o σ gs v) {c:Ctx} {σ':Nat→AV} {tm:Array Value} {w:World} {lim:Nat→Nat} {X:Nat→Nat→Option Nat}
  (h:Sim c σ' tm w lim X) (hag:∀ d∈gs,σ' d=σ d):Region.wanted o (yielded ops tm)=v:=by
 rcases hg with ⟨h1,h2⟩ | ⟨j,want,gd,b,h1,h2,h3,h4,h5⟩ | ⟨j,want,gd,h1,h2,h3,h4,h5⟩
 ·unfold Region.wanted;rw [h1,h2]
 ·have hy:=Zgh h h2 ((hag gd h3).trans h4)
  unfold Region.wanted
  rw [h1]
  simp only [hy]
  cases v<;>cases want<;>cases b<;>simp_all
 ·have hy:=Zea h h2 ((hag gd h3).trans h4)
  unfold Region.wanted
  rw [h1,h5]
  simp only [hy]
  rfl
theorem ZfD {x:SV} (ρ:Nat→V) (h:Zno x=true):ZbC (x.den ρ):=by
 unfold Zno at h
 split at h
 ·rename_i cs;exact ⟨_,rfl⟩
 ·cases h
theorem ZaS {T:Odr} {i:Nat} {x:SV} (ρ:Nat→V) (h:W1 T i x=true):∀ d k,T.nr d i=true→¬ Z0 (x.den ρ) d k:=by
 intro d k hd hr
 cases x with
 | mref d' k' =>
  rcases hr with hr | ⟨_,hr⟩ <;> cases hr
  simp [W1,hd] at h
 | eref d' k' i s o =>
  rcases hr with hr | ⟨_,hr⟩ <;> cases hr
  simp [W1,hd] at h
 | c y => rcases hr with hr | ⟨_, hr⟩ <;> cases y <;> cases hr
 | _ => rcases hr with hr | ⟨_, hr⟩ <;> cases hr
def KE (T:Odr) (P:Program) (E:Env) (R:AV→List AV→Prop) (A:Nat→List V→Prop) (B:Nat→Bool) (ops:Array Oper) (i:Nat) (s:Tr) (ρ:Nat→V) (cont:Tr→Nat→Log→STree):Prop:=
 ∃ (st:Stp) (ρ':Nat→V) (n':Nat) (s':Tr),Kt E s' n'∧(cont s' n' ⟨i,st.F,st.ups.map (·.1)⟩).wp P R A ρ'∧ZkH T P E.nt ops (fun d=>B d=true) i (ZQ E s ρ) st∧ZQ E s' ρ'=Jw (ZQ E s ρ) st.ups
variable {ops:Array Oper} {o:Oper} {i:Nat} {s:Tr} {n:Nat} {ρ:Nat→V} {cont:Tr→Nat→Log→STree} {gs:List Nat} {tx:Odr} {tk:Bool} {B:Nat→Bool}
theorem Vo (hps:PlainSound P E.plain) (hnt:E.top≤1024) (hB:∀ d,B d=true→ZbC (ZQ E s ρ d)) (hi:ops[i]? = some o) (hs:Kt E s n) (hg:Zew ops o (ZQ E s ρ) gs true) (h:(ZgE P E tx tk B o i s gs n cont).wp P R A ρ) :
  KE tx P E R A B ops i s ρ cont:=by
 obtain ⟨ρ',n',x,us,fp,h1,h2,h3,h4,h5,h6⟩:=Zgt hps hs (fun i hi=>by unfold gE;rw [if_neg (by omega)]) h
 have hσ:(fun d=>(gE E s d).den ρ)=ZQ E s ρ:=rfl
 rw [hσ] at h6
 have hs':Kt E s n':=Zd5 hs h1
 have hc:=Zbr hs h2
 dsimp only at h5
 split at h5
 case isFalse=>exact h5.elim
 rename_i hall0
 obtain ⟨hall,hnx⟩:=hall0
 rw [List.all_eq_true] at hall
 have hlow:K9 E us:=by
  unfold K9
  rw [List.all_eq_true]
  intro u hu
  have:=hall u hu
  rw [Bool.and_eq_true,Bool.and_eq_true] at this
  exact this.1.1
 have hups:∀ u∈(us.map fun u=>(u.1,u.2.den ρ')),B u.1=true→ZbC u.2:=by
  intro u hu hb
  obtain ⟨v,hv,rfl⟩:=List.mem_map.1 hu
  have:=hall v hv
  simp only [Bool.and_eq_true,Bool.or_eq_true,Bool.not_eq_true'] at this
  rcases this.1.2 with h0 | h0
  ·have hb':B v.1=true:=hb
   rw [hb'] at h0;cases h0
  ·exact ZfD ρ' h0
 have hnr:∀ u∈(us.map fun u=>(u.1,u.2.den ρ')),∀ d k,tx.nr d u.1=true→¬ Z0 u.2 d k:=by
  intro u hu
  obtain ⟨v,hv,rfl⟩:=List.mem_map.1 hu
  have:=hall v hv
  rw [Bool.and_eq_true] at this
  exact ZaS ρ' this.2
 have hids:∀ (σ':Nat→AV),(∀ d∈(Kk o).filter (fun t=>!B t),σ' d=ZQ E s ρ d)→(∀ d,B d=true→ZbC (σ' d))→∀ d∈Kk o,ZbF (ZQ E s ρ d) (σ' d):=by
  intro σ' h0 h1 d hd
  cases hb:B d with
  | true => exact .inr ⟨hB d hb, h1 d hb⟩
  | false => exact .inl (h0 d (List.mem_filter.2 ⟨hd, by simp [hb]⟩))
 have hfst:(us.map fun u=>(u.1,u.2.den ρ')).map (·.1)=us.map (·.1):=by rw [List.map_map];rfl
 have hden:ZQ E (Jt us s) ρ'=Jw (ZQ E s ρ) (us.map fun u=>(u.1,u.2.den ρ')):=by rw [JY hnt ρ' us s hlow,hc]
 split at h5
 ·rename_i d hd
  split at h5
  ·rename_i hh
   refine ⟨⟨(Kk o).filter (fun t=>!B t)++gs++fp++us.map (·.1)++[d],(us.map fun u=>(u.1,u.2.den ρ'))++[(d,x.den ρ')]⟩,ρ',n',(Jt us s).set depth d x,JC hnt (JM hh.1) (JF hnt us s hlow hs' h4) h3,?_,⟨?_,?_,?_,?_⟩,?_⟩
   ·rw [List.map_append,hfst]
    exact h5
   ·intro u hu
    rcases List.mem_append.1 hu with hu | hu
    ·refine List.mem_append.2 (.inl (List.mem_append.2 (.inr ?_)))
     rw [← hfst]
     exact List.mem_map.2 ⟨u,hu,rfl⟩
    ·rw [List.mem_singleton] at hu
     subst hu
     simp
   ·intro u hu hb
    rcases List.mem_append.1 hu with hu | hu
    ·exact hups u hu hb
    ·rw [List.mem_singleton] at hu
     subst hu
     have hb':B d=true:=hb
     rw [hh.2.2] at hb'
     cases hb'
   ·intro u hu
    rcases List.mem_append.1 hu with hu | hu
    ·exact hnr u hu
    ·rw [List.mem_singleton] at hu
     subst hu
     unfold Zfb at hnx
     rw [hd] at hnx
     exact ZaS ρ' hnx
   ·intro c hcP hcn σ' tm w lim X hag hpb hT hsim Q K hK
    unfold wpOp
    simp only [hi]
    rw [VH hg hsim fun d' hd'=>hag d' (by simp [hd'])]
    rw [if_pos rfl]
    refine .inl (h6 c hcP σ' tm w lim X (hids σ' (fun d' hd'=>hag d' (by simp only [List.mem_append];exact .inl (.inl (.inl (.inl hd'))))) hpb) (fun d' hd'=>hag d' (by
     rw [hfst] at hd'
     simp only [List.mem_append] at hd' ⊢
     rcases hd' with hd' | hd'
     ·exact .inl (.inl (.inr hd'))
     ·exact .inl (.inr hd'))) hT hsim K Q fun v w' ha=>?_)
    rw [hd] at ha ⊢
    obtain ⟨lim',X',hsim'⟩:=ha (by rw [hcn];exact hh.1) (by
     have:Jw σ' (us.map fun u=>(u.1,u.2.den ρ')) d=(gE E (Jt us s) d).den ρ':=by
      have h7:=congrFun hden d
      rw [Z7] at h7 ⊢
      rw [hag d (by simp)]
      exact h7.symm
     rw [this]
     exact J3 ρ' hh.2.1)
    refine hK _ w' lim' X' ?_
    rw [Y9]
    exact hsim'
   ·rw [J5 hnt (JM hh.1),hden,Y9]
    rfl
  ·exact h5.elim
 ·rename_i hd
  refine ⟨⟨(Kk o).filter (fun t=>!B t)++gs++fp++us.map (·.1),us.map fun u=>(u.1,u.2.den ρ')⟩,ρ',n',Jt us s,JF hnt us s hlow hs' h4,?_,⟨?_,hups,hnr,?_⟩,hden⟩
  ·rw [hfst]
   exact h5
  ·intro u hu
   refine List.mem_append.2 (.inr ?_)
   rw [← hfst]
   exact List.mem_map.2 ⟨u,hu,rfl⟩
  ·intro c hcP hcn σ' tm w lim X hag hpb hT hsim Q K hK
   unfold wpOp
   simp only [hi]
   rw [VH hg hsim fun d' hd'=>hag d' (by simp [hd'])]
   rw [if_pos rfl]
   refine .inl (h6 c hcP σ' tm w lim X (hids σ' (fun d' hd'=>hag d' (by simp only [List.mem_append];exact .inl (.inl (.inl hd')))) hpb) (fun d' hd'=>hag d' (by
    rw [hfst] at hd'
    simp only [List.mem_append] at hd' ⊢
    rcases hd' with hd' | hd'
    ·exact .inl (.inr hd')
    ·exact .inr hd')) hT hsim K Q fun v w' ha=>?_)
   rw [hd] at ha ⊢
   obtain ⟨lim',X',hsim'⟩:=ha
   exact hK _ w' lim' X' hsim'
theorem Kq (hnt:E.top≤1024) (hi:ops[i]? = some o) (hs:Kt E s n) (hg:Zew ops o (ZQ E s ρ) gs false) (h:(Zab E B o i s gs n cont).wp P R A ρ) :
  KE tx P E R A B ops i s ρ cont:=by
 unfold Zab at h
 split at h
 ·rename_i d hd
  split at h
  ·rename_i hh
   refine ⟨⟨gs++[d],[(d,.tuple [])]⟩,ρ,n,s.set depth d (.tuple []),JC hnt (JM hh.1) hs (by simp [SV.bd]),h,⟨by simp,fun u hu hb=>?_,fun u hu d k _ hr=>?_,?_⟩,J5 hnt (JM hh.1) _ _ _⟩
   ·rw [List.mem_singleton] at hu
    subst hu
    have hb':B d=true:=hb
    rw [hh.2.2] at hb'
    cases hb'
   ·rw [List.mem_singleton] at hu
    subst hu
    rcases hr with hr | ⟨_,hr⟩ <;> cases hr
   intro c hcP hcn σ' tm w lim X hag hpb hT hsim Q K hK
   unfold wpOp
   simp only [hi]
   rw [VH hg hsim fun d' hd'=>hag d' (by simp [hd'])]
   rw [if_neg (by simp),hd]
   obtain ⟨X',hs'⟩:=hsim.putUndef (d:=d) (by rw [hcn];exact hh.1) (by
    rw [hag d (by simp)]
    exact ZB (J3 ρ hh.2.1))
   exact hK _ w lim X' hs'
  ·exact h.elim
 ·rename_i hd
  refine ⟨⟨gs,[]⟩,ρ,n,s,hs,h,⟨by simp,by simp,by simp,?_⟩,rfl⟩
  intro c hcP hcn σ' tm w lim X hag hpb hT hsim Q K hK
  unfold wpOp
  simp only [hi]
  rw [VH hg hsim hag]
  rw [if_neg (by simp),hd]
  exact hK _ w lim X hsim
theorem Vg (hnt:E.top≤1024) {t:Nat} {b:BE} {v:Bool} (hb:gE E s t = .c (.bool b)) (hv:b.den ρ=v):t < E.top∧ZQ E (s.set depth t (.c (.bool (.lit v)))) ρ=ZQ E s ρ:=by
 have hlt:t < E.top:=by
  unfold gE at hb
  split at hb
  ·assumption
  ·cases hb
 refine ⟨hlt,?_⟩
 rw [J5 hnt hlt]
 funext d
 by_cases hd:d=t
 ·subst hd
  rw [ZU]
  simp only [ZQ,hb,SV.den,SC.den,hv,BE.den]
 ·rw [Zi _ _ hd]
theorem Zdv (hps:PlainSound P E.plain) (hnt:E.top≤1024) (hB:∀ d,B d=true→ZbC (ZQ E s ρ d)) (hi:ops[i]? = some o) (hs:Kt E s n) (h:(ZiJ P E tx tk B ops o i s n cont).wp P R A ρ):KE tx P E R A B ops i s ρ cont:=by
 unfold ZiJ at h
 split at h
 ·rename_i hg
  exact Vo hps hnt hB hi hs (.inl ⟨hg,rfl⟩) h
 ·rename_i j want hg
  split at h
  ·exact h.elim
  ·rename_i gd hgd
   split at h
   ·rename_i hb
    have hv:ZQ E s ρ gd = .tuple []:=by simp only [ZQ,hb];rfl
    exact Kq hnt hi hs (.inr (.inr ⟨j,want,gd,hg,hgd,by simp,hv,rfl⟩)) h
   ·rename_i b hb
    have hv:ZQ E s ρ gd = .val (.bool b):=by simp only [ZQ,hb];rfl
    split at h
    ·rename_i hw
     exact Vo hps hnt hB hi hs (.inr (.inl ⟨j,want,gd,b,hg,hgd,by simp,hv,by simp [hw]⟩)) h
    ·rename_i hw
     exact Kq hnt hi hs (.inr (.inl ⟨j,want,gd,b,hg,hgd,by simp,hv,by simp [hw]⟩)) h
   ·rename_i b _ hb
    obtain ⟨ht,hf⟩:=h
    have hcase:∀ v,b.den ρ=v→(if want=v then ZgE P E tx tk B o i (s.set depth gd (.c (.bool (.lit v)))) [gd] n cont else Zab E B o i (s.set depth gd (.c (.bool (.lit v)))) [gd] n cont).wp P R A ρ→KE tx P E R A B ops i s ρ cont:=by
     intro v hv hw
     obtain ⟨hlt,hsame⟩:=Vg hnt hb hv
     have hbd:Kt E (s.set depth gd (.c (.bool (.lit v)))) n:=JC hnt hlt hs trivial
     have hval:ZQ E (s.set depth gd (.c (.bool (.lit v)))) ρ gd = .val (.bool v):=by rw [hsame];simp only [ZQ,hb,SV.den,SC.den,hv]
     have hgoal:KE tx P E R A B ops i (s.set depth gd (.c (.bool (.lit v)))) ρ cont:=by
      split at hw
      ·rename_i hw'
       exact Vo hps hnt (by rw [hsame];exact hB) hi hbd (.inr (.inl ⟨j,want,gd,v,hg,hgd,by simp,hval,by simp [hw']⟩)) hw
      ·rename_i hw'
       exact Kq hnt hi hbd (.inr (.inl ⟨j,want,gd,v,hg,hgd,by simp,hval,by simp [hw']⟩)) hw
     unfold KE at hgoal ⊢
     rw [hsame] at hgoal
     exact hgoal
    cases hv:b.den ρ with
    | true => exact hcase true hv (ht hv)
    | false => exact hcase false hv (hf hv)
   ·exact h.elim
def ZdR:Nat→List Stp→List Log
 | _, [] => []
 | i, s :: ss => ZdR (i + 1) ss ++ [⟨i, s.F, s.ups.map (·.1)⟩]
theorem Wo:∀ (ss:List Stp) (i j:Nat) (s:Stp),ss[j]? = some s→(⟨i+j,s.F,s.ups.map (·.1)⟩:Log)∈ZdR i ss
 | [], i, j, s, h => by simp at h
 | s0 :: ss, i, 0, s, h => by
  simp only [List.getElem?_cons_zero,Option.some.injEq] at h
  subst h
  simp [ZdR]
 | s0 :: ss, i, j + 1, s, h => by
  have:=Wo ss (i+1) j s (by simpa using h)
  rw [show i+(j+1)=i+1+j by omega]
  exact List.mem_append.2 (.inl this)
theorem ZaN (hps:PlainSound P E.plain) (hnt:E.top≤1024) {tks:Nat→Bool} {k:Tr→Nat→List Log→STree} : ∀ (l:List Oper) (i:Nat) (s:Tr) (n:Nat) (logs:List Log) (ρ:Nat→V),(∀ j,l[j]? = ops[i+j]?)→(∀ d,B d=true→ZbC (ZQ E s ρ d))→Kt E s n→
  (ZjR P E tx tks B ops l i s n logs k).wp P R A ρ→∃ (ss:List Stp) (ρ':Nat→V) (n':Nat) (s':Tr),ss.length=l.length∧Kt E s' n'∧(k s' n' (ZdR i ss++logs)).wp P R A ρ'∧
   Zee tx P E.nt ops (fun d=>B d=true) i (ZQ E s ρ) ss∧ZQ E s' ρ'=ZeO (ZQ E s ρ) ss
 | [], i, s, n, logs, ρ, _, _, hs, h => ⟨[], ρ, n, s, rfl, hs, h, trivial, rfl⟩
 | o :: l, i, s, n, logs, ρ, hl, hB, hs, h => by
  have h0:ops[i]? = some o:=by simpa using (hl 0).symm
  obtain ⟨st,ρ1,n1,s1,g1,g2,g3,g4⟩:=Zdv hps hnt hB h0 hs h
  obtain ⟨ss,ρ2,n2,s2,k1,k2,k3,k4,k5⟩:=ZaN hps hnt l (i+1) s1 n1 _ ρ1 (fun j=>by
   have:=hl (j+1)
   rw [show i+(j+1)=i+1+j by omega] at this
   simpa using this) (by rw [g4];exact ZcP _ _ g3.2.1 hB) g1 g2
  refine ⟨st::ss,ρ2,n2,s2,by simp [k1],k2,?_,⟨g3,?_⟩,?_⟩
  ·simp only [ZdR,List.append_assoc,List.singleton_append]
   exact k3
  ·rw [← g4];exact k4
  ·simp only [ZeO]
   rw [← g4];exact k5
theorem Ziv {a b:List Nat} (h:ZoN a b=true):∀ d∈a,d∉b:=by
 intro d hd
 simp only [ZoN,List.all_eq_true] at h
 simpa using h d hd
theorem ZiH {E:Env} (s:Tr):∀ i,E.top≤i→gE E s i = .dead:=fun i hi=>by unfold gE;rw [if_neg (by omega)]
theorem Zjb {c:Ctx} {σ:Nat→AV} {tm:Array Value} {w:World} {lim:Nat→Nat} {X:Nat→Nat→Option Nat} (h:Sim c σ tm w lim X) {i k:Nat} (hr:Z0 (σ i) i k):False:=by
 obtain ⟨p,hp⟩:=Wh h hr
 rcases hr with hr | ⟨_,hr⟩ <;> rw [hr] at hp<;>cases hp
theorem Zdx (hm:P.follows .mixedOrders=true) (hps:PlainSound P E.plain) (hnt:E.top≤1024) {id:Nat} {draw:Bool} {k:Tr→Nat→STree} {tks:Nat→Bool} (hB:∀ d,B d=true→ZbC (ZQ E s ρ d)) (hs:Kt E s n)
  (h:(ZjR P E (ZmT E draw ops s) tks B ops ops.toList 0 s n [] fun s' n' logs=>if draw=true then (if Zeu ops logs=true then k s' n' else .stuck 114) else k s' n').wp P R A ρ)
  {c:Ctx} (hcP:c.P=P) (hcn:c.nt=E.nt) {tm:Array Value} {w:World} {lim:Nat→Nat} {X:Nat→Nat→Option Nat} (hsim:Sim c (ZQ E s ρ) tm w lim X) {Q:Exit→Act→World→Prop}
  (hk:∀ s' n' ρ',Kt E s' n'→(k s' n').wp P R A ρ'→∀ tm' w' lim' X',Sim c (ZQ E s' ρ') tm' w' lim' X'→Q .normal ⟨tm',[]⟩ w'):(Code.region id ops draw).wp P Q ⟨tm,[]⟩ w:=by
 obtain ⟨ss,ρ',n',s',h1,h2,h3,h4,h5⟩:=ZaN hps hnt ops.toList 0 s n [] ρ (by simp) hB hs h
 have hlen:ss.length=ops.size:=by simpa using h1
 cases draw with
 | false =>
  refine wp_region ?_
  rw [List.range_eq_range',← hlen]
  refine Zbu hcP hcn ss 0 _ tm w lim X h4 hB hsim fun tm' w' lim' X' hs'=>hk s' n' ρ' h2 (by simpa using h3) tm' w' lim' X' ?_
  rw [h5];exact hs'
 | true =>
  simp only [if_true] at h3
  split at h3
  ·rename_i hi
   rw [List.append_nil] at hi
   simp only [Zeu,Bool.and_eq_true,CheckFast.beforeF_eq] at hi
   obtain ⟨hlow,hind⟩:=hi
   refine wp_region_any hm ?_
   have hsd:Sim c (ZQ E s ρ) tm w.drew lim X:=hsim.world (ZT.refl w lim fun _=>False).drew fun b hb=>hb.elim
   refine ZhY hcP hcn h4 (fun d i k hd hr=>?_) hB hlen ?_ ?_ (fun tm' w' lim' X' hs'=>hk s' n' ρ' h2 h3 tm' w' lim' X' (by rw [h5];exact hs')) ops.size _ tm w.drew lim X (by simp) ?_ ?_ ?_
   ·have hd':(ZW (gE E s) d E.top).isEmpty=true:=by
     rcases Bool.or_eq_true_iff.1 hd with h0 | h0
     ·simp only [Bool.and_eq_true] at h0
      exact h0.1.2
     ·by_cases he:(ZW (gE E s) d E.top).isEmpty=true
      ·exact he
      ·dsimp only at h0;rw [if_neg he] at h0;cases h0
    rw [List.isEmpty_iff] at hd'
    have hda:=(JH (g:=gE E s) ρ (ZiH s) (d:=d)).2 i k
    by_cases hid:i=d
    ·subst hid
     exact Zjb hsim hr
    ·have:=hda hid hr
     rw [hd'] at this
     cases this
   ·intro i o hio e he hb
    rw [List.all_eq_true] at hlow
    have:=hlow (o,i) (by
     rw [List.mem_zipIdx_iff_getElem?]
     simpa using hio)
    rw [Array.all_eq_true_iff_forall_mem] at this
    have:=this e he
    simpa [hb] using this
   ·rintro i j a b hia hjb hji ⟨S,hS,hSi,hSj⟩
    rw [List.all_eq_true] at hind
    have m1:=Wo ss 0 i a hia
    have m2:=Wo ss 0 j b hjb
    rw [Nat.zero_add] at m1 m2
    have:=hind _ m1
    rw [List.all_eq_true] at this
    have:=this _ m2
    simp only [Bool.or_eq_true,Bool.and_eq_true,Bool.not_eq_true',decide_eq_false_iff_not] at this
    rcases this with (this | this) | this
    ·exact (this hji).elim
    ·exact (hSj (Zce hS i j hSi this)).elim
    ·exact ⟨Ziv this.1,Ziv this.2⟩
   ·intro k o hk hl
    have hlt:=(Array.getElem?_eq_some_iff.1 hk).1
    simp [Array.getD,hlt] at hl
   ·have:=List.countP_le_length (p:=fun i=>!(Array.replicate ops.size false).getD i false) (l:=List.range ops.size)
    simpa using this
   ·rw [Zar]
    ·exact hsd
    ·intro j _ hj
     simp [Array.getD]
  ·exact h3.elim
end
end Go.AM
end

section
namespace Go.AM
inductive Yf (P:Program):AV→AV→Prop
 | same {x : AV} (h : x.isCell = true ∨ ∃ b e xs, x = .own b e xs) : Yf P x x
 | nil {s s' : Nat} {f : Bool} : Yf P (.slice true s []) (.slice f s' [])
 | imm {f : Bool} {s : Nat} {xs : List (List AV)} : Yf P (.slice f s xs) (.slice false s xs)
 | immN {f : Bool} {s s' : Nat} : Yf P (.slice f s []) (.slice false s' [])
 | own {e : TypeId} {xs : List (List AV)} : Yf P (.own false e xs) (.slice false (P.cellsOf e) xs)
 | ownN {b b' : Bool} {e : TypeId} : Yf P (.own b e []) (.own b' e [])
 | ownZ {b : Bool} {e : TypeId} {s : Nat} : Yf P (.own b e []) (.slice false s [])
 | give {b : Bool} {s : Nat} {e : TypeId} : Yf P (.slice true s []) (.own b e [])
theorem ZeE {w:World} {lim:Nat→Nat} {b:Bool} {e:TypeId} {xs:List (List AV)} {v:Value} (h:Rep w lim (.own b e xs) v):False:=by cases h
theorem Zc5 {P:Program} {w:World} {lim:Nat→Nat} {b b':Bool} {e:TypeId} {v:Value} {ob:Option Nat} (h:Z8 P w lim b e [] v ob):Z8 P w lim b' e [] v ob:=by
 rcases h with ⟨us,h1,h2,h3,h4,h5,h6⟩ | h
 ·have hu:us = []:=List.eq_nil_of_length_eq_zero (by rw [h1.1];simp)
  subst hu
  refine .inl ⟨[],h1,h2,fun b0 hb=>?_,h4,h5,h6⟩
  have:=h3 b0 hb
  rw [this]
  simp
 ·exact .inr h
theorem Zjm {P:Program} {w:World} {lim:Nat→Nat} {x y:AV} {v:Value} (h:Rep w lim x v) (hw:Yf P x y) (hy:y.isCell=true):Rep w lim y v:=by
 cases hw with
 | same _ => exact h
 | nil => exact Ve (fun _ => rfl) h
 | imm => exact Zeo h
 | immN => exact Ve (fun h => by cases h) h
 | own => exact (ZeE h).elim
 | ownN => exact (ZeE h).elim
 | ownZ => exact (ZeE h).elim
 | give => cases hy
theorem Zg2 {P:Program} {w:World} {lim:Nat→Nat} {ob:Option Nat} {x y:AV} {v:Value} (h:JQ P w lim ob x v) (hw:Yf P x y):∃ ob',(ob'=ob∨ob'=none)∧((∃ b e xs,x = .own b e xs)→ob'=ob)∧JQ P w lim ob' y v:=by
 cases hw with
 | same _ => exact ⟨ob, .inl rfl, fun _ => rfl, h⟩
 | nil => exact ⟨ob, .inl rfl, fun _ => rfl, Ve (fun _ => rfl) h⟩
 | imm => exact ⟨ob, .inl rfl, fun _ => rfl, Zeo h⟩
 | immN => exact ⟨ob, .inl rfl, fun _ => rfl, Ve (fun h => by cases h) h⟩
 | own => exact ⟨ob, .inl rfl, fun _ => rfl, Z8.rep h false rfl⟩
 | ownN => exact ⟨ob, .inl rfl, fun _ => rfl, Zc5 h⟩
 | ownZ => exact ⟨ob, .inl rfl, fun _ => rfl, Ve (f := false) (fun h => h) (Z8.rep (Zc5 (b' := false) h) false rfl)⟩
 | give => exact ⟨none, .inr rfl, fun ⟨_, _, _, h⟩ => (by cases h), WQ h⟩
inductive Za2 (P:Program):AV→AV→Prop
 | cell {x y : AV} (h : Yf P x y) : Za2 P x y
 | agg {cs cs' : List AV} (hl : cs.length = cs'.length) (hc : ∀ c ∈ cs', c.isCell = true) (h : ∀ (i : Nat) (c c' : AV), cs[i]? = some c → cs'[i]? = some c' → Yf P c c') : Za2 P (.agg cs) (.agg cs')
theorem ZkP {w:World} {lim:Nat→Nat} {cs:List AV} {v:Value} (h:Rep w lim (.agg cs) v):∃ vs:List Value,v = .agg vs.toArray∧cs.length=vs.length∧
  ∀ (i:Nat) (c:AV) (v:Value),cs[i]? = some c→vs[i]? = some v→Rep w lim c v:=by
 cases h with
 | agg hl hc hr => exact ⟨_, rfl, hl, hr⟩
theorem Zdi {P:Program} {w:World} {lim:Nat→Nat} {ob:Option Nat} {x y:AV} {v:Value} (h:JQ P w lim ob x v) (hw:Za2 P x y):∃ ob',(ob'=ob∨ob'=none)∧((∃ b e xs,x = .own b e xs)→ob'=ob)∧JQ P w lim ob' y v:=by
 cases hw with
 | cell hw => exact Zg2 h hw
 | @agg cs cs' hl hc hp =>
  refine ⟨ob,.inl rfl,fun _=>rfl,?_⟩
  obtain ⟨vs,rfl,h1,h2⟩:=ZkP (show Rep w lim (.agg cs) v from h)
  refine Rep.agg (by omega) hc fun i c' u hc' hu=>?_
  obtain ⟨c,hcc⟩:∃ c,cs[i]? = some c:=⟨_,List.getElem?_eq_getElem (by rw [hl];exact (List.getElem?_eq_some_iff.1 hc').1)⟩
  exact Zjm (h2 i c u hcc hu) (hp i c c' hcc hc') (hc c' (List.mem_of_getElem? hc'))
theorem ZbN {P:Program} {w:World} {lim:Nat→Nat} {cs cs':List AV} {us:List Value} {Y:Nat→Option Nat} (hl:cs.length=cs'.length) (h:∀ (i:Nat) (c:AV) (u:Value),cs[i]? = some c→us[i]? = some u→JQ P w lim (Y i) c u)
  (hw:∀ (i:Nat) (c c':AV),cs[i]? = some c→cs'[i]? = some c'→Za2 P c c') :
  ∃ r:Nat→Option Nat,(∀ i,r i=Y i∨r i=none)∧(∀ (i:Nat) (c':AV),i < us.length→cs'[i]? = some c'→(∃ b e xs,cs[i]? = some (.own b e xs))→r i=Y i)∧∀ (i:Nat) (c':AV) (u:Value),cs'[i]? = some c'→us[i]? = some u→JQ P w lim (r i) c' u:=by
 have key:∀ i,∃ ob:Option Nat,(ob=Y i∨ob=none)∧(∀ (c':AV),i < us.length→cs'[i]? = some c'→(∃ b e xs,cs[i]? = some (.own b e xs))→ob=Y i)∧∀ (c':AV) (u:Value),cs'[i]? = some c'→us[i]? = some u→JQ P w lim ob c' u:=by
  intro i
  cases hc':cs'[i]? with
  | none => exact ⟨none, .inr rfl, fun c' _ h => (by cases h), fun c' u h => by cases h⟩
  | some c' =>
   cases hu:us[i]? with
   | none => exact ⟨none, .inr rfl, fun c' hlt _ => (by have := List.getElem?_eq_none_iff.1 hu; omega), fun c' u _ h => by cases h⟩
   | some u =>
    obtain ⟨c,hc⟩:∃ c,cs[i]? = some c:=⟨_,List.getElem?_eq_getElem (by rw [hl];exact (List.getElem?_eq_some_iff.1 hc').1)⟩
    obtain ⟨ob,h1,h3,h2⟩:=Zdi (h i c u hc hu) (hw i c c' hc hc')
    refine ⟨ob,h1,fun _ _ _ ⟨b,e,xs,hx⟩=>h3 ⟨b,e,xs,by rw [hc] at hx;exact Option.some.inj hx⟩,fun c2 u2 e1 e2=>?_⟩
    cases e1
    cases e2
    exact h2
 obtain ⟨r,hr⟩:=Classical.axiomOfChoice key
 exact ⟨r,fun i=>(hr i).1,fun i=>(hr i).2.1,fun i=>(hr i).2.2⟩
inductive Yx (P:Program):AV→AV→Prop
 | dead {x : AV} : Yx P x .dead
 | comp {x y : AV} (h : Za2 P x y) : Yx P x y
 | tuple {cs cs' : List AV} (hl : cs.length = cs'.length) (h : ∀ (i : Nat) (c c' : AV), cs[i]? = some c → cs'[i]? = some c' → Za2 P c c') : Yx P (.tuple cs) (.tuple cs')
 | box {cs cs' : List AV} (hl : cs.length = cs'.length) (h : ∀ (i : Nat) (c c' : AV), cs[i]? = some c → cs'[i]? = some c' → Yf P c c') : Yx P (.box cs) (.box cs')
 | gbox {cs cs' : List AV} (hl : cs.length = cs'.length) (h : ∀ (i : Nat) (c c' : AV), cs[i]? = some c → cs'[i]? = some c' → Yf P c c') : Yx P (.gbox cs) (.gbox cs')
theorem Y5 {P:Program} {x y:AV} (h:Yf P x y):y.isCell=true∨∃ b e xs,y = .own b e xs:=by
 cases h with
 | same h => exact h
 | nil => exact .inl rfl
 | imm => exact .inl rfl
 | immN => exact .inl rfl
 | own => exact .inl rfl
 | ownN => exact .inr ⟨_, _, _, rfl⟩
 | ownZ => exact .inl rfl
 | give => exact .inr ⟨_, _, _, rfl⟩
theorem V1 {P:Program} {x y:AV} (h:Yf P x y):x.isCell=true∨∃ b e xs,x = .own b e xs:=by
 cases h with
 | same h => exact h
 | nil => exact .inl rfl
 | imm => exact .inl rfl
 | immN => exact .inl rfl
 | own => exact .inr ⟨_, _, _, rfl⟩
 | ownN => exact .inr ⟨_, _, _, rfl⟩
 | ownZ => exact .inr ⟨_, _, _, rfl⟩
 | give => exact .inl rfl
theorem Zaa {P:Program} {e e':TypeId} {xs xs':List (List AV)} (h:Yf P (.own true e xs) (.own true e' xs')):e'=e∧xs'=xs:=by
 cases h with
 | same _ => exact ⟨rfl, rfl⟩
 | ownN => exact ⟨rfl, rfl⟩
theorem ZbE {P:Program} {w:World} {lim:Nat→Nat} {Y:Nat→Option Nat} {cs cs':List AV} {v:Value} (h:Zw P w lim Y cs v) (hl:cs.length=cs'.length)
  (hp:∀ (i:Nat) (c c':AV),cs[i]? = some c→cs'[i]? = some c'→Yf P c c'):∃ r:Nat→Option Nat,(∀ k,r k=Y k∨r k=none)∧r 0=Y 0∧(∀ k,(∃ p,Zm (.box cs) k=some p)→r k=Y k)∧Zw P w lim r cs' v:=by
 obtain ⟨b,arr,t,h1,rfl,h3,h4,h5,h6,h7⟩:=h
 obtain ⟨r,g1,g3,g2⟩:=ZbN (P:=P) (w:=w) (lim:=lim) (us:=arr.toList) (Y:=fun i=>Y (i+1)) hl (fun i c u hc hu=>h7 i c u hc (by simpa using hu)) (fun i c c' hc hc'=>.cell (hp i c c' hc hc'))
 refine ⟨fun k=>match k with | 0=>Y 0 | k+1=>r k,fun k=>?_,rfl,fun k hk=>?_,?_⟩
 ·cases k with
  | zero => exact .inl rfl
  | succ k => exact g1 k
 ·obtain ⟨⟨e,xs⟩,hk⟩:=hk
  rcases Zv hk with ⟨h,_⟩ | ⟨ds,q,hd,rfl,hq⟩ | ⟨_,_,h,_⟩
  case inr.inr=>cases h
  ·cases h
  ·cases hd
   have hlt:=(List.getElem?_eq_some_iff.1 hq).1
   exact g3 q _ (by simp;omega) (List.getElem?_eq_getElem (by rw [← hl];exact hlt)) ⟨_,_,_,hq⟩
 ·refine ⟨b,arr,t,h1,rfl,h3,by rw [h4,hl],h5,fun c hc=>?_,fun i c u hc hu=>g2 i c u hc (by simpa using hu)⟩
  obtain ⟨i,hi⟩:=List.mem_iff_getElem?.1 hc
  obtain ⟨c0,hc0⟩:∃ c0,cs[i]? = some c0:=⟨_,List.getElem?_eq_getElem (by rw [hl];exact (List.getElem?_eq_some_iff.1 hi).1)⟩
  exact (Y5 (hp i c0 c hc0 hi)).imp id .inl
theorem J1 {P:Program} {x y:AV} (h:Za2 P x y):y.isB=false:=by
 cases h with
 | agg _ _ _ => rfl
 | cell h =>
  rcases Y5 h with hy | ⟨_,_,_,rfl⟩
  ·cases y<;>first | rfl | (simp [AV.isCell] at hy)
  ·rfl
theorem Zhp {P:Program} {x y:AV} (h:Yx P x y) (hy:y.isG=true):x.isG=true:=by
 cases h with
 | gbox _ _ => rfl
 | comp h => have := J1 h; rw [Wk hy] at this; cases this
 | _ => cases hy
theorem ZjJ {P:Program} {x y:AV} (h:Za2 P x y):(∀ d o,y≠.ptr d o)∧(∀ d k,y≠.mref d k)∧∀ g ds,y≠.clo g ds:=by
 cases h with
 | agg _ _ _ => exact ⟨fun _ _ h => (by cases h), fun _ _ h => (by cases h), fun _ _ h => (by cases h)⟩
 | cell hw =>
  refine ⟨fun _ _ e=>?_,fun _ _ e=>?_,fun _ _ e=>?_⟩ <;> subst e<;>rcases Y5 hw with h | ⟨_,_,_,h⟩ <;> cases h
theorem Vx {P:Program} {x y:AV} (h:Yx P x y):(∀ d o,y≠.ptr d o)∧(∀ d k,y≠.mref d k)∧∀ g ds,y≠.clo g ds:=by
 cases h with
 | comp hw => exact ZjJ hw
 | _ => exact ⟨fun _ _ h => (by cases h), fun _ _ h => (by cases h), fun _ _ h => (by cases h)⟩
theorem ZdD {P:Program} {x y:AV} (h:Yx P x y) {k:Nat} {e e':TypeId} {xs xs':List (List AV)} (hx:Zm x k=some (e,xs)) (hy:Zm y k=some (e',xs')):e'=e∧xs'=xs:=by
 rcases Zv hx with ⟨rfl,rfl⟩ | ⟨cs,q,rfl,rfl,hq⟩ | ⟨cs,q,rfl,rfl,hq⟩
 ·rcases Zv hy with ⟨rfl,_⟩ | ⟨_,_,_,h0,_⟩ | ⟨_,_,_,h0,_⟩
  ·cases h with
   | comp hw =>
    cases hw with
    | cell hc => exact Zaa hc
  ·cases h0
  ·cases h0
 ·rcases Zv hy with ⟨_,h0⟩ | ⟨cs',q',rfl,h0,hq'⟩ | ⟨cs',q',rfl,h0,hq'⟩
  ·cases h0
  ·cases h0
   cases h with
   | comp hw => have := J1 hw; cases this
   | box hl hp => exact Zaa (hp q _ _ hq hq')
  ·cases h with
   | comp hw => have := J1 hw; cases this
 ·rcases Zv hy with ⟨_,h0⟩ | ⟨cs',q',rfl,h0,hq'⟩ | ⟨cs',q',rfl,h0,hq'⟩
  ·cases h0
  ·cases h with
   | comp hw => have := J1 hw; cases this
  ·cases h0
   cases h with
   | comp hw => have := J1 hw; cases this
   | gbox hl hp => exact Zaa (hp q _ _ hq hq')
theorem Zdy {P:Program} {w:World} {lim:Nat→Nat} {X:Nat→Nat→Option Nat} {σ:Nat→AV} {d:Nat} {x y:AV} {v:Value} (h:ZD P w lim X σ d x v) (hw:Yx P x y) :
  ∃ r:Nat→Option Nat,(∀ k,r k=X d k∨r k=none)∧(y.isB=true→r 0=X d 0)∧(∀ k,(∃ p,Zm x k=some p)→(∃ p,Zm y k=some p)→r k=X d k)∧∀ (X':Nat→Nat→Option Nat) (σ':Nat→AV) (d':Nat),X' d'=r→ZD P w lim X' σ' d' y v:=by
 cases hw with
 | dead => exact ⟨fun _ => none, fun _ => .inr rfl, fun h => (by cases h), fun k _ ⟨p, hp⟩ => (by rcases Zv (e := p.1) (xs := p.2) hp with ⟨h, _⟩ | ⟨_, _, h, _⟩ | ⟨_, _, h, _⟩ <;> cases h), fun _ _ _ _ => trivial⟩
 | comp hw =>
  have hnb:=J1 hw
  have hc:JQ P w lim (X d 0) x v:=by
   cases hw with
   | agg hl hc hp => exact h
   | cell hw =>
    rcases V1 hw with hx | ⟨b,e,xs,rfl⟩
    ·cases x<;>simp [AV.isCell] at hx<;>exact h
    ·exact h
  obtain ⟨ob,h1,h4,h2⟩:=Zdi hc hw
  refine ⟨fun k=>if k=0 then ob else none,fun k=>?_,fun h=>by (rw [hnb] at h;cases h),fun k ⟨p,hp⟩ _=>?_,fun X' σ' d' hX=>?_⟩
  ·dsimp only
   split
   ·rename_i hk;subst hk;exact h1
   ·exact .inr rfl
  ·rcases Zv (e:=p.1) (xs:=p.2) hp with ⟨hx,rfl⟩ | ⟨cs,q,hx,_⟩ | ⟨cs,q,hx,_⟩
   case inr.inr=>
    subst hx
    cases hw with
    | cell hw => rcases V1 hw with h | ⟨_, _, _, h⟩ <;> cases h
   ·exact h4 ⟨_,_,_,hx⟩
   ·subst hx
    cases hw with
    | cell hw => rcases V1 hw with h | ⟨_, _, _, h⟩ <;> cases h
  ·have h3:X' d' 0=ob:=by rw [hX];rfl
   cases hw with
   | agg hl hc hp => exact h2
   | cell hw =>
    rcases Y5 hw with hy | ⟨b,e,xs,rfl⟩
    ·cases y<;>simp [AV.isCell] at hy<;>exact h2
    ·show Z8 P w lim b e xs v (X' d' 0)
     rw [h3]
     exact h2
 | @tuple cs cs' hl hp =>
  obtain ⟨us,rfl,h2,h3⟩:=h
  obtain ⟨r,g1,_,g2⟩:=ZbN (Y:=fun i=>X d (i+1)) hl h3 hp
  refine ⟨fun k=>match k with | 0=>none | k+1=>r k,fun k=>?_,fun h=>(by cases h),fun k ⟨p,hp⟩ _=>(by rcases Zv (e:=p.1) (xs:=p.2) hp with ⟨h,_⟩ | ⟨_,_,h,_⟩ | ⟨_,_,h,_⟩ <;> cases h),fun X' σ' d' hX=>?_⟩
  ·cases k with
   | zero => exact .inr rfl
   | succ k => exact g1 k
  ·refine ⟨us,rfl,by rw [h2,hl],fun i c u hc hu=>?_⟩
   have:X' d' (i+1)=r i:=by rw [hX]
   rw [this]
   exact g2 i c u hc hu
 | @box cs cs' hl hp =>
  obtain ⟨r,g1,g2,g4,g3⟩:=ZbE h hl hp
  exact ⟨r,g1,fun _=>g2,fun k hk _=>g4 k hk,fun X' σ' d' hX=>by (show Zw P w lim (X' d') cs' v;rw [hX];exact g3)⟩
 | @gbox cs cs' hl hp =>
  obtain ⟨v',h⟩:=h
  obtain ⟨r,g1,g2,g4,g3⟩:=ZbE h hl hp
  exact ⟨r,g1,fun _=>g2,fun k hk _=>g4 k (by cases k<;>exact hk),fun X' σ' d' hX=>⟨v',by rw [hX];exact g3⟩⟩
theorem ZT.wider {w:World} {lim:Nat→Nat} {w':World} {lim':Nat→Nat} {S S':Nat→Prop} (h:ZT w lim w' lim' S) (hs:∀ b,S b→S' b):ZT w lim w' lim' S':=
 ⟨h.os,h.tape,h.output,h.size,h.frz,fun b hb hn=>h.blk b hb fun hS=>hn (hs b hS),h.ext⟩
def ZrT (bs:List AV) (a b:AV):Prop:=∃ g ds,a = .clo g ds∧b = .clo g ds∧∀ d∈ds,(ZE bs d).isB=true
def Zol (bs:List AV) (a b:AV):Prop:=∃ j q,a = .mref j q∧b = .mref j q∧∃ p,Zm (ZE bs j) q=some p
def K2 (P:Program) (aZ bs:List AV):Prop:=aZ.length=bs.length∧∀ (i:Nat) (a b:AV),aZ[i]? = some a→bs[i]? = some b→Yx P a b∨ZrT bs a b∨Zol bs a b
theorem W4 {P:Program} {aZ bs:List AV} (h:K2 P aZ bs) (i:Nat):Yx P (ZE aZ i) (ZE bs i)∨ZrT bs (ZE aZ i) (ZE bs i)∨Zol bs (ZE aZ i) (ZE bs i):=by
 cases hb:bs[i]? with
 | none =>
  have:ZE bs i = .dead:=by simp [ZE,hb]
  rw [this]
  exact .inl .dead
 | some b =>
  obtain ⟨a,ha⟩:∃ a,aZ[i]? = some a:=⟨_,List.getElem?_eq_getElem (by rw [h.1];exact (List.getElem?_eq_some_iff.1 hb).1)⟩
  have h1:ZE aZ i=a:=by simp [ZE,ha]
  have h2:ZE bs i=b:=by simp [ZE,hb]
  rw [h1,h2]
  exact h.2 i a b ha hb
theorem Zcp {P:Program} {aZ bs:List AV} (h:K2 P aZ bs) {i:Nat} (hi:(ZE bs i).isG=true):(ZE aZ i).isG=true:=by
 rcases W4 h i with h1 | ⟨g,ds,_,h1,_⟩ | ⟨_,_,_,h1,_⟩
 ·exact Zhp h1 hi
 ·rw [h1] at hi;cases hi
 ·rw [h1] at hi;cases hi
theorem ZdT:∀ (aZ bs:List AV),aZ.length=bs.length→(∀ (i:Nat) (a b:AV),aZ[i]? = some a→bs[i]? = some b→b.isG=true→a.isG=true)→bs.countP AV.isG≤aZ.countP AV.isG
 | [], [], _, _ => Nat.le_refl _
 | [], _ :: _, h, _ => by simp at h
 | _ :: _, [], h, _ => by simp at h
 | a :: aZ, b :: bs, hl, h => by
  have ih:=ZdT aZ bs (by simpa using hl) fun i x y hx hy=>h (i+1) x y (by simpa using hx) (by simpa using hy)
  have h0:=h 0 a b rfl rfl
  rw [List.countP_cons,List.countP_cons]
  by_cases hb:b.isG=true
  ·rw [if_pos hb,if_pos (h0 hb)];omega
  ·rw [if_neg hb];split<;>omega
theorem Zd7 {P:Program} {aZ bs:List AV} (h:K2 P aZ bs):bs.countP AV.isG≤aZ.countP AV.isG:=
 ZdT aZ bs h.1 fun i a b ha hb hg=>by
  have h1:ZE aZ i=a:=by simp [ZE,ha]
  have h2:ZE bs i=b:=by simp [ZE,hb]
  have:=Zcp h (i:=i) (by rw [h2];exact hg)
  rwa [h1] at this
theorem ZbA {P:Program} {w:World} {lim:Nat→Nat} {X:Nat→Nat→Option Nat} {aZ bs:List AV} {vs:Nat→Value} (h:∀ i,ZD P w lim X (ZE aZ) i (ZE aZ i) (vs i)) (hw:K2 P aZ bs) :
  ∃ X':Nat→Nat→Option Nat,(∀ i k,X' i k=X i k∨X' i k=none)∧(∀ i,(ZE bs i).isB=true→X' i 0=X i 0)∧∀ i,ZD P w lim X' (ZE bs) i (ZE bs i) (vs i):=by
 have key:∀ i,∃ r:Nat→Option Nat,(∀ k,r k=X i k∨r k=none)∧((ZE bs i).isB=true→r 0=X i 0)∧((∀ g ds,ZE bs i≠.clo g ds)→(∀ j q,ZE bs i≠.mref j q)→∀ X':Nat→Nat→Option Nat,X' i=r→ZD P w lim X' (ZE bs) i (ZE bs i) (vs i))∧
   ∀ k e xs e' xs',Zm (ZE aZ i) k=some (e,xs)→Zm (ZE bs i) k=some (e',xs')→e'=e∧xs'=xs∧r k=X i k:=by
  intro i
  rcases W4 hw i with h1 | ⟨g,ds,_,h1,_⟩ | ⟨_,_,_,h1,_⟩
  ·obtain ⟨r,g1,g2,g4,g3⟩:=Zdy (h i) h1
   refine ⟨r,g1,g2,fun _ _ X' hX=>g3 X' _ _ hX,fun k e xs e' xs' hx hy=>?_⟩
   obtain ⟨h2,h3⟩:=ZdD h1 hx hy
   exact ⟨h2,h3,g4 k ⟨_,hx⟩ ⟨_,hy⟩⟩
  ·exact ⟨fun _=>none,fun _=>.inr rfl,fun hb=>by (rw [h1] at hb;cases hb),fun hn _=>(hn g ds h1).elim,fun k e xs e' xs' _ hy=>by (rw [h1] at hy;cases hy)⟩
  ·exact ⟨fun _=>none,fun _=>.inr rfl,fun hb=>by (rw [h1] at hb;cases hb),fun _ hn=>(hn _ _ h1).elim,fun k e xs e' xs' _ hy=>by (rw [h1] at hy;cases hy)⟩
 obtain ⟨X',hX⟩:=Classical.axiomOfChoice key
 refine ⟨X',fun i=>(hX i).1,fun i=>(hX i).2.1,fun i=>?_⟩
 rcases W4 hw i with h1 | ⟨g',ds',h0,h1,h2⟩ | ⟨j,q,h0,h1,p,h2⟩
 ·exact (hX i).2.2.1 (fun g ds e=>(Vx h1).2.2 g ds e) (fun j q e=>(Vx h1).2.1 j q e) X' rfl
 ·have hi:=h i
  rw [h0] at hi
  rw [h1]
  obtain ⟨bs',m1,m2,m3⟩:=hi
  refine ⟨bs',m1,m2,fun k d b hd hb=>?_⟩
  have hB:=h2 d (List.mem_of_getElem? hd)
  exact ⟨((hX d).2.1 hB).trans (m3 k d b hd hb).1,hB⟩
 ·have hi:=h i
  rw [h0] at hi
  rw [h1]
  obtain ⟨e,xs,m1,m2⟩:=hi
  obtain ⟨e',xs'⟩:=p
  obtain ⟨n1,n2,n3⟩:=(hX j).2.2.2 q e xs e' xs' m1 h2
  subst n1
  subst n2
  exact ⟨e',xs',h2,by rw [n3];exact m2⟩
theorem Zdw {X X':Nat→Nat→Option Nat} (h:Zic X) (hX:∀ i k,X' i k=X i k∨X' i k=none):Zic X':=by
 intro d k d' k' b h1 h2
 rcases hX d k with e1 | e1
 ·rcases hX d' k' with e2 | e2
  ·exact h d k d' k' b (e1.symm.trans h1) (e2.symm.trans h2)
  ·rw [e2] at h2;cases h2
 ·rw [e1] at h1;cases h1
theorem Jz.stronger {P:Program} {f:FuncId} {aZ bs:List AV} {res:AV} {outs:List AV} (h:Jz P f bs res outs) (ha:K2 P aZ bs):Jz P f aZ res outs:=by
 refine ⟨h.1,fun w lim X cargs hcl hrel hdist hsize=>?_⟩
 obtain ⟨X2,g1,g3,g2⟩:=ZbA hrel ha
 have hX2:∀ i k b,X2 i k=some b→X i k=some b:=by
  intro i k b hb
  rcases g1 i k with e | e
  ·rw [← e];exact hb
  ·rw [e] at hb;cases hb
 refine (h.2 w lim X2 cargs (by have:=Zd7 ha;have:=ha.1;omega) g2 (Zdw hdist g1) fun i k b hb=>hsize i k b (hX2 i k b hb)).mono ?_
 rintro e w' ⟨v,lim',X',he,hst,hol,hr,hd,hin,hgh⟩
 refine ⟨v,lim',X',he,hst.wider fun b ⟨i,k,hb⟩=>⟨i,k,hX2 i k b hb⟩,by rw [hol,ha.1],fun i=>by (rw [ha.1];exact hr i),hd,fun i k b hb=>?_,fun i hi=>?_⟩
 ·obtain ⟨m1,m2⟩:=hin i k b hb
  exact ⟨m1,m2.imp (fun ⟨i,k,h⟩=>⟨i,k,hX2 i k b h⟩) id⟩
 ·obtain ⟨m1,m2⟩:=hgh i hi
  exact ⟨Zcp ha m1,by rw [m2,g3 i (Wk m1)]⟩
end Go.AM
end

section
namespace Go.AM
def Zfy (ρ:Nat→V) (n:Nat) (l:List V):Prop:=∀ (j:Nat) (v:V),l[j]? = some v→ρ (n+j)=v
theorem Zfy.tail {ρ:Nat→V} {n:Nat} {v:V} {l:List V} (h:Zfy ρ n (v::l)):ρ n=v∧Zfy ρ (n+1) l:=
 ⟨h 0 v rfl,fun j u hj=>by rw [show n+1+j=n+(j+1) by omega];exact h (j+1) u (by simpa using hj)⟩
theorem Zfy.app {ρ:Nat→V} {n:Nat} {l l':List V} (h:Zfy ρ n (l++l')):Zfy ρ n l∧Zfy ρ (n+l.length) l':=
  ⟨fun j v hj=>h j v (by rw [List.getElem?_append_left (List.getElem?_eq_some_iff.1 hj).1];exact hj),
   fun j v hj=>by
    rw [show n+l.length+j=n+(l.length+j) by omega]
    exact h _ v (by rw [List.getElem?_append_right (by omega)];simpa using hj)⟩
theorem Zfy.bind (ρ:Nat→V) (n:Nat) (vs:List V):Zfy (bind ρ n vs) n vs:=by
 intro j v hj
 unfold AM.bind
 rw [if_neg (by omega),show n+j-n=j by omega,hj]
 rfl
def vAt (us:List V) (j:Nat):V:=(us[j]?).getD (.i 0)
def Yr:Sh→V→AV
 | .int k, v => .val (.int k v.int)
 | .bool, v => .val (.bool v.bool)
 | .str, v => .val (.string v.str)
 | .slice s, v => .slice false s v.list
 | .own x e, v => .own x e v.list
def ZL:List Sh→List V→Nat→List AV
 | [], _, _ => []
 | s :: ss, us, j => Yr s (vAt us j) :: ZL ss us (j + 1)
theorem Zf7 {s:Sh} (h:s.imm=true) (v:V):(Yr s v).isCell=true:=by cases s<;>simp [Sh.imm] at h<;>rfl
theorem Ko (pre post:List V) (v:V):vAt (pre++v::post) pre.length=v:=by simp [vAt]
theorem Z9:∀ (l:List Sh) (us:List V) (j:Nat),(ZL l us j).length=l.length
 | [], _, _ => rfl
 | _ :: ss, us, j => by simp [ZL, Z9 ss us (j + 1)]
theorem Kc:∀ (l:List Sh) (us:List V) (j:Nat),l.all Sh.imm=true→∀ c∈ZL l us j,c.isCell=true
 | [], _, _, _ => by simp [ZL]
 | s :: ss, us, j, h => by
  rw [List.all_cons,Bool.and_eq_true] at h
  intro c hc
  rcases List.mem_cons.1 hc with rfl | hc
  ·exact Zf7 h.1 _
  ·exact Kc ss us (j+1) h.2 c hc
section
variable {P:Program} {ρ:Nat→V}
theorem ZcK {s:Sh} {x:SC} {v:VE} (h:Zj7 s x=some v):Yf P (x.den ρ) (Yr s (v.den ρ)):=by
 unfold Zj7 at h
 split at h
 ·split at h
  ·simp only [Option.some.injEq] at h;subst h;rename_i hk;subst hk;exact .same (.inl rfl)
  ·cases h
 ·simp only [Option.some.injEq] at h;subst h;exact .same (.inl rfl)
 ·simp only [Option.some.injEq] at h;subst h;exact .same (.inl rfl)
 ·split at h
  ·simp only [Option.some.injEq] at h;subst h;rename_i hk;subst hk;exact .imm
  ·split at h
   ·simp only [Option.some.injEq] at h;subst h;exact .immN
   ·cases h
 ·split at h
  ·simp only [Option.some.injEq] at h;subst h;exact .give
  ·cases h
 ·cases h
theorem Zdo {l:LE} (h:l.isNil=true):l = .nil:=by cases l<;>first | rfl | cases h
theorem Zaq {s:Sh} {x:Bool} {e:TypeId} {l:LE} {v:VE} (h:WZ P s x e l=some v):Yf P (.own x e (l.den ρ)) (Yr s (v.den ρ)):=by
 unfold WZ at h
 split at h
 ·split at h
  ·simp only [Option.some.injEq] at h
   subst h
   rename_i hk
   obtain ⟨rfl,hk⟩:=hk
   rcases hk with rfl | hk
   ·exact .same (.inr ⟨_,_,_,rfl⟩)
   ·have:=Zdo hk
    subst this
    exact .ownN
  ·cases h
 ·split at h
  ·simp only [Option.some.injEq] at h
   subst h
   rename_i hk
   obtain ⟨rfl,hk⟩:=hk
   rcases hk with rfl | hk
   ·exact .own
   ·have:=Zdo hk
    subst this
    exact .ownZ
  ·cases h
 ·cases h
theorem ZcR:∀ (l:List Sh) (cs:List SC) (vs:List VE),Zdz l cs=some vs→vs.length=l.length∧cs.length=l.length∧∀ pre post:List V,
  ∀ (i:Nat) (c c':AV),(cs.map (SC.den ρ))[i]? = some c→(ZL l (pre++vs.map (VE.den ρ)++post) pre.length)[i]? = some c'→Yf P c c'
 | [], [], vs, h => by
  simp only [Zdz,Option.some.injEq] at h
  subst h
  exact ⟨rfl,rfl,fun _ _ i c c' h=>by simp at h⟩
 | [], _ :: _, _, h => by simp [Zdz] at h
 | _ :: _, [], _, h => by simp [Zdz] at h
 | s :: ss, c :: cs, us, h => by
  simp only [Zdz] at h
  split at h
  ·rename_i v vs hv hvs
   simp only [Option.some.injEq] at h
   subst h
   obtain ⟨h1,h2,h3⟩:=ZcR ss cs vs hvs
   refine ⟨by simp [h1],by simp [h2],fun pre post i c1 c2 hc1 hc2=>?_⟩
   cases i with
   | zero =>
    simp only [ZL,List.map_cons,List.getElem?_cons_zero,Option.some.injEq] at hc1 hc2
    subst hc1
    subst hc2
    rw [List.append_assoc,List.cons_append,Ko]
    exact ZcK hv
   | succ i =>
    have:=h3 (pre++[v.den ρ]) post i c1 c2 (by simpa using hc1)
    simp only [List.append_assoc,List.cons_append,List.nil_append,List.length_append,List.length_cons,List.length_nil] at this
    simp only [ZL,List.map_cons,List.getElem?_cons_succ,List.append_assoc,List.cons_append] at hc2
    exact this hc2
  ·cases h
theorem ZkJ {s:Sh} {x:BC} {v:VE} (h:Zrn P s x=some v):Yf P (x.den ρ) (Yr s (v.den ρ)):=by
 unfold Zrn at h
 split at h
 ·exact ZcK h
 ·exact Zaq h
 ·cases h
theorem KQ:∀ (l:List Sh) (cs:List BC) (vs:List VE),ZaO P l cs=some vs→vs.length=l.length∧cs.length=l.length∧∀ pre post:List V,
  ∀ (i:Nat) (c c':AV),(cs.map (BC.den ρ))[i]? = some c→(ZL l (pre++vs.map (VE.den ρ)++post) pre.length)[i]? = some c'→Yf P c c'
 | [], [], vs, h => by
  simp only [ZaO,Option.some.injEq] at h
  subst h
  exact ⟨rfl,rfl,fun _ _ i c c' h=>by simp at h⟩
 | [], _ :: _, _, h => by simp [ZaO] at h
 | _ :: _, [], _, h => by simp [ZaO] at h
 | s :: ss, c :: cs, us, h => by
  simp only [ZaO] at h
  split at h
  ·rename_i v vs hv hvs
   simp only [Option.some.injEq] at h
   subst h
   obtain ⟨h1,h2,h3⟩:=KQ ss cs vs hvs
   refine ⟨by simp [h1],by simp [h2],fun pre post i c1 c2 hc1 hc2=>?_⟩
   cases i with
   | zero =>
    simp only [ZL,List.map_cons,List.getElem?_cons_zero,Option.some.injEq] at hc1 hc2
    subst hc1
    subst hc2
    rw [List.append_assoc,List.cons_append,Ko]
    exact ZkJ hv
   | succ i =>
    have:=h3 (pre++[v.den ρ]) post i c1 c2 (by simpa using hc1)
    simp only [List.append_assoc,List.cons_append,List.nil_append,List.length_append,List.length_cons,List.length_nil] at this
    simp only [ZL,List.map_cons,List.getElem?_cons_succ,List.append_assoc,List.cons_append] at hc2
    exact this hc2
  ·cases h
end
theorem Zgy {s:Sh} (hs:s.imm=true) {n:Nat} {ρ:Nat→V} {v:V} (h:ρ n=v):(Yh s n).den ρ=Yr s v:=by
 subst h
 cases s<;>simp [Sh.imm] at hs<;>rfl
theorem Zah:∀ (l:List Sh) (n m:Nat) (ρ:Nat→V) (us:List V),l.all Sh.imm=true→(∀ j,j < l.length→ρ (n+j)=vAt us (m+j))→(ZI l n).map (SC.den ρ)=ZL l us m
 | [], _, _, _, _, _, _ => rfl
 | s :: ss, n, m, ρ, us, hi, h => by
  rw [List.all_cons,Bool.and_eq_true] at hi
  rw [ZI,List.map_cons,ZL,Zgy hi.1 (show ρ n=vAt us m from h 0 (by simp)),Zah ss (n+1) (m+1) ρ us hi.2 fun j hj=>by
   have:=h (j+1) (by simp;omega)
   rw [show n+1+j=n+(j+1) by omega,show m+1+j=m+(j+1) by omega]
   exact this]
theorem ZiX {s:Sh} {n:Nat} {ρ:Nat→V} {v:V} (h:ρ n=v):(Zk7 s n).den ρ=Yr s v:=by
 subst h
 cases s<;>rfl
theorem Wc:∀ (l:List Sh) (n m:Nat) (ρ:Nat→V) (us:List V),(∀ j,j < l.length→ρ (n+j)=vAt us (m+j))→(YL l n).map (BC.den ρ)=ZL l us m
 | [], _, _, _, _, _ => rfl
 | s :: ss, n, m, ρ, us, h => by
  rw [YL,List.map_cons,ZL,ZiX (show ρ n=vAt us m from h 0 (by simp)),Wc ss (n+1) (m+1) ρ us fun j hj=>by
   have:=h (j+1) (by simp;omega)
   rw [show n+1+j=n+(j+1) by omega,show m+1+j=m+(j+1) by omega]
   exact this]
def KS (h:HP) (us:List V) (j:Nat):AV:=
 match h with
 | .c s => Yr s (vAt us j)
 | .agg l => .agg (ZL l us j)
 | .box l => .box (ZL l us j)
 | .mref d k => .mref d k
 | .ptr d o => .ptr d o
 | .dead => .dead
 | .gbox l => .gbox (ZL l us j)
 | .clo g ds => .clo g ds
def HP.fine:HP→Bool
 | .agg l => l.all Sh.imm
 | _ => true
theorem Zip {h:HP} (hf:h.fine=true) {n m:Nat} {ρ:Nat→V} {us:List V} (hρ:∀ j,j < h.n→ρ (n+j)=vAt us (m+j)):(ZiS h n).den ρ=KS h us m:=by
 cases h with
 | c s =>
  have h0:=hρ 0 (Nat.zero_lt_one)
  simp only [Nat.add_zero] at h0
  cases s<;>simp only [ZiS,KS,SV.den,Yh,SC.den,IE.den,BE.den,SE.den,LE.den,h0,Yr]
 | agg l => simp only [ZiS, KS, SV.den, Zah l n m ρ us hf hρ]
 | box l => simp only [ZiS, KS, SV.den, Wc l n m ρ us hρ]
 | gbox l => simp only [ZiS, KS, SV.den, Wc l n m ρ us hρ]
 | clo g ds => rfl
 | mref d k => rfl
 | ptr d o => rfl
 | dead => rfl
def ZrG (h:HP) (x:AV):Prop:=(∃ d o,h = .ptr d o∧x = .ptr d o)∨(∃ d k,h = .mref d k∧x = .mref d k)∨∃ g ds,h = .clo g ds∧x = .clo g ds
theorem ZhQ {P:Program} {ρ:Nat→V} {h:HP} {x:SV} {vs:List VE} (hv:Ze8 P h x=some vs):vs.length=h.n∧h.fine=true∧∀ pre post:List V,
  ZrG h (x.den ρ)∨Yx P (x.den ρ) (KS h (pre++vs.map (VE.den ρ)++post) pre.length):=by
 unfold Ze8 at hv
 split at hv
 ·cases hd:Zj7 _ _ with
  | none => rw [hd] at hv; cases hv
  | some v =>
   rw [hd] at hv
   simp only [Option.map_some,Option.some.injEq] at hv
   subst hv
   refine ⟨rfl,rfl,fun pre post=>.inr ?_⟩
   simp only [KS,List.map_cons,List.map_nil,List.append_assoc,List.cons_append,List.nil_append,Ko]
   exact .comp (.cell (ZcK hd))
 ·cases hd:WZ P _ _ _ _ with
  | none => rw [hd] at hv; cases hv
  | some v =>
   rw [hd] at hv
   simp only [Option.map_some,Option.some.injEq] at hv
   subst hv
   refine ⟨rfl,rfl,fun pre post=>.inr ?_⟩
   simp only [KS,List.map_cons,List.map_nil,List.append_assoc,List.cons_append,List.nil_append,Ko]
   exact .comp (.cell (Zaq hd))
 ·split at hv
  ·rename_i hi
   obtain ⟨h1,h2,h3⟩:=ZcR (P:=P) (ρ:=ρ) _ _ _ hv
   exact ⟨h1,hi,fun pre post=>.inr (.comp (.agg (by rw [List.length_map,h2,Z9]) (Kc _ _ _ hi) (h3 pre post)))⟩
  ·cases hv
 ·obtain ⟨h1,h2,h3⟩:=KQ (P:=P) (ρ:=ρ) _ _ _ hv
  exact ⟨h1,rfl,fun pre post=>.inr (.box (by rw [List.length_map,h2,Z9]) (h3 pre post))⟩
 ·split at hv
  ·rename_i hh
   simp only [Option.some.injEq] at hv
   subst hv
   obtain ⟨rfl,rfl⟩:=hh
   exact ⟨rfl,rfl,fun _ _=>.inl (.inr (.inl ⟨_,_,rfl,rfl⟩))⟩
  ·cases hv
 ·split at hv
  ·rename_i hh
   simp only [Option.some.injEq] at hv
   subst hv
   obtain ⟨rfl,rfl⟩:=hh
   exact ⟨rfl,rfl,fun _ _=>.inl (.inl ⟨_,_,rfl,rfl⟩)⟩
  ·cases hv
 ·simp only [Option.some.injEq] at hv
  subst hv
  exact ⟨rfl,rfl,fun _ _=>.inr .dead⟩
 ·obtain ⟨h1,h2,h3⟩:=KQ (P:=P) (ρ:=ρ) _ _ _ hv
  exact ⟨h1,rfl,fun pre post=>.inr (.gbox (by rw [List.length_map,h2,Z9]) (h3 pre post))⟩
 ·split at hv
  ·rename_i hh
   simp only [Option.some.injEq] at hv
   subst hv
   obtain ⟨rfl,rfl⟩:=hh
   exact ⟨rfl,rfl,fun _ _=>.inl (.inr (.inr ⟨_,_,rfl,rfl⟩))⟩
  ·cases hv
 ·cases hv
theorem YY {P:Program} {g:Nat→SV} {ρ:Nat→V} : ∀ (hs:List (Nat×HP)) (n:Nat) (ves:List VE) (pre:List V),Yl P g hs=some ves→pre.length=n→
  (ZJ hs n).2=n+ves.length∧(ZJ hs n).1.map (·.1)=hs.map (·.1)∧∀ u∈(ZJ hs n).1,∃ h,(u.1,h)∈hs∧∃ m,u.2=ZiS h m∧m+h.n≤n+ves.length∧h.fine=true∧
   ∀ post:List V,ZrG h ((g u.1).den ρ)∨Yx P ((g u.1).den ρ) (KS h (pre++ves.map (VE.den ρ)++post) m)
 | [], n, ves, pre, h, hp => by
  simp only [Yl,Option.some.injEq] at h
  subst h
  exact ⟨rfl,rfl,by simp [ZJ]⟩
 | p :: r, n, ves, pre, h, hp => by
  simp only [Yl] at h
  split at h
  ·rename_i v vs hv hvs
   simp only [Option.some.injEq] at h
   subst h
   obtain ⟨h1,h2,h3⟩:=ZhQ (P:=P) (ρ:=ρ) hv
   obtain ⟨g1,g2,g3⟩:=YY r (n+p.2.n) vs (pre++v.map (VE.den ρ)) hvs (by simp [hp,h1])
   refine ⟨by simp only [ZJ,g1,List.length_append,h1];omega,by simp only [ZJ,List.map_cons,g2],fun u hu=>?_⟩
   simp only [ZJ,List.mem_cons] at hu
   rcases hu with rfl | hu
   ·refine ⟨p.2,by simp,n,rfl,by simp only [List.length_append,h1];omega,h2,fun post=>?_⟩
    have:=h3 pre (vs.map (VE.den ρ)++post)
    rw [hp] at this
    simpa [List.append_assoc] using this
   ·obtain ⟨h,k1,m,k2,k3,k4,k5⟩:=g3 u hu
    refine ⟨h,by simp [k1],m,k2,by simp only [List.length_append,h1];omega,k4,fun post=>?_⟩
    have:=k5 post
    simpa [List.append_assoc] using this
  ·cases h
theorem Zbl:∀ (hs:List (Nat×HP)) (n:Nat),n≤(ZJ hs n).2∧∀ u∈(ZJ hs n).1,u.2.bd (ZJ hs n).2
 | [], n => ⟨Nat.le_refl _, by simp [ZJ]⟩
 | p :: r, n => by
  obtain ⟨h1,h2⟩:=Zbl r (n+p.2.n)
  refine ⟨by simp only [ZJ];omega,fun u hu=>?_⟩
  simp only [ZJ,List.mem_cons] at hu
  rcases hu with rfl | hu
  ·have hb:(ZiS p.2 n).bd (n+p.2.n):=by
    cases hp:p.2 with
    | c s => cases s <;> exact Nat.lt_succ_self n
    | agg l => exact JG l n
    | box l => exact JI l n
    | mref d k => trivial
    | ptr d o => trivial
    | dead => trivial
    | gbox l => exact JI l n
    | clo g ds => trivial
   exact SV.bd_mono (by simpa [ZJ] using h1) _ hb
  ·exact h2 u hu
def Zky (P:Program) (σ σ':Nat→AV) (d:Nat):Prop:=
 Yx P (σ d) (σ' d)∨(∃ d' o,σ d = .ptr d' o∧σ' d = .ptr d' o∧(∃ cs,σ' d' = .box cs))∨(∃ d' k,σ d = .mref d' k∧σ' d = .mref d' k∧∃ p,Zm (σ' d') k=some p)∨
  ∃ g ds,σ d = .clo g ds∧σ' d = .clo g ds∧∀ d'∈ds,(σ' d').isB=true
theorem Sim.head {c:Ctx} {σ σ':Nat→AV} {tm:Array Value} {w:World} {lim:Nat→Nat} {X:Nat→Nat→Option Nat} (h:Sim c σ tm w lim X) (hw:∀ d,Zky c.P σ σ' d) (hout:∀ d,c.nt≤d→σ' d = .dead∨(σ' d).isG=true)
  (hpin:∀ d v,c.pin d=some v→∃ cs,σ' d = .box cs) (hgpin:∀ d b,c.gpin d=some b→(σ' d).isG=true):∃ X',Sim c σ' tm w lim X':=by
 have hG:∀ d,(σ' d).isG=true→(σ d).isG=true:=by
  intro d hd
  rcases hw d with hs | ⟨d',o,_,h2,_⟩ | ⟨d',k,_,h2,_⟩ | ⟨g,ds,_,h2,_⟩
  ·exact Zhp hs hd
  ·rw [h2] at hd;cases hd
  ·rw [h2] at hd;cases hd
  ·rw [h2] at hd;cases hd
 have key:∀ d,∃ r:Nat→Option Nat,(∀ k,r k=X d k∨r k=none)∧((σ' d).isB=true→r 0=X d 0)∧(∀ k,(∃ p,Zm (σ d) k=some p)→(∃ p,Zm (σ' d) k=some p)→r k=X d k)∧
   (Yx c.P (σ d) (σ' d)→∀ X':Nat→Nat→Option Nat,X' d=r→ZD c.P w lim X' σ' d (σ' d) (tm.getD d undef)):=by
  intro d
  have hd:=h.rel d
  have hno:∀ {y:AV},σ d=y→(∀ k,Zm y k=none)→∀ k,(∃ p,Zm (σ d) k=some p)→(∃ p,Zm (σ' d) k=some p)→(none:Option Nat)=X d k:=by
   rintro y he hy k ⟨p,hp⟩ _
   rw [he,hy k] at hp
   cases hp
  rcases hw d with hs | ⟨d',o,h1,h2,_⟩ | ⟨d',k,h1,h2,_⟩ | ⟨g,ds,h1,h2,_⟩
  ·obtain ⟨r,g1,g2,g4,g3⟩:=Zdy hd hs
   exact ⟨r,g1,g2,g4,fun _ X' hX=>g3 X' σ' d hX⟩
  ·exact ⟨fun _=>none,fun _=>.inr rfl,fun hb=>by (rw [h2] at hb;cases hb),hno h1 (fun _=>rfl),fun hs=>((Vx hs).1 d' o h2).elim⟩
  ·exact ⟨fun _=>none,fun _=>.inr rfl,fun hb=>by (rw [h2] at hb;cases hb),hno h1 (fun _=>rfl),fun hs=>((Vx hs).2.1 d' k h2).elim⟩
  ·exact ⟨fun _=>none,fun _=>.inr rfl,fun hb=>by (rw [h2] at hb;cases hb),hno h1 (fun _=>rfl),fun hs=>((Vx hs).2.2 g ds h2).elim⟩
 obtain ⟨X',hX⟩:=Classical.axiomOfChoice key
 have hle:∀ d k b,X' d k=some b→X d k=some b:=by
  intro d k b hb
  rcases (hX d).1 k with e | e
  ·rw [← e];exact hb
  ·rw [e] at hb;cases hb
 refine ⟨X',⟨fun d=>?_,h.size,hout,fun d hd=>h.ghost d (hG d hd),fun d k d' k' b h1 h2=>h.dist d k d' k' b (hle _ _ _ h1) (hle _ _ _ h2),fun d k b hb=>h.ours d k b (hle _ _ _ hb),h.frm,fun d v hv=>⟨(h.pin d v hv).1,hpin d v hv⟩,
  fun d b hb=>⟨((hX d).2.1 (Wk (hgpin d b hb))).trans (h.gpin d b hb).1,hgpin d b hb⟩⟩⟩
 have hd:=h.rel d
 rcases hw d with hs | ⟨d2,o2,h1,h2,cs',h3⟩ | ⟨d2,k2,h1,h2,p2,h3⟩ | ⟨g,ds,h1,h2,h3⟩
 ·exact (hX d).2.2.2 hs X' rfl
 ·rw [h1] at hd
  obtain ⟨b,cs,g1,g2,g3⟩:=hd
  rw [h2]
  exact ⟨b,cs',by rw [(hX d2).2.1 (by rw [h3];rfl),g1],h3,g3⟩
 ·rw [h1] at hd
  obtain ⟨e,xs,g1,g2⟩:=hd
  rw [h2]
  refine ⟨e,xs,?_,by rw [(hX d2).2.2.1 k2 ⟨_,g1⟩ ⟨_,h3⟩];exact g2⟩
  rcases hw d2 with hs | ⟨d3,o3,q1,q2,_⟩ | ⟨d3,k3,q1,q2,_⟩ | ⟨g,ds,q1,q2,_⟩
  ·obtain ⟨m1,m2⟩:=ZdD hs g1 (e':=p2.1) (xs':=p2.2) h3
   rw [h3,← m1,← m2]
  ·rw [q1] at g1;cases g1
  ·rw [q1] at g1;cases g1
  ·rw [q1] at g1;cases g1
 ·rw [h1] at hd
  obtain ⟨bs,g1,g2,g3⟩:=hd
  rw [h2]
  refine ⟨bs,g1,g2,fun i d' b hd' hb=>?_⟩
  have hB:=h3 d' (List.mem_of_getElem? hd')
  exact ⟨((hX d').2.1 hB).trans (g3 i d' b hd' hb).1,hB⟩
end Go.AM
end

section
namespace Go.AM
theorem Zii:∀ (hs:List (Nat×HP)) (d:Nat) (h h':HP),(hs.map (·.1)).Nodup→(d,h)∈hs→(d,h')∈hs→h=h'
 | [], _, _, _, _, h, _ => by simp at h
 | p :: r, d, h, h', hn, h1, h2 => by
  rw [List.map_cons,List.nodup_cons] at hn
  rcases List.mem_cons.1 h1 with e1 | e1
  ·rcases List.mem_cons.1 h2 with e2 | e2
   ·rw [← e1] at e2
    exact (Prod.mk.inj e2).2.symm
   ·exact (hn.1 (by rw [← e1];exact List.mem_map.2 ⟨_,e2,rfl⟩)).elim
  ·rcases List.mem_cons.1 h2 with e2 | e2
   ·exact (hn.1 (by rw [← e2];exact List.mem_map.2 ⟨_,e1,rfl⟩)).elim
   ·exact Zii r d h h' hn.2 e1 e2
theorem Zal:∀ (us:List (Nat×AV)) (d:Nat) (x:AV),Wr us d=some x→(d,x)∈us
 | [], d, x, h => by simp [Wr] at h
 | (e, y) :: us, d, x, h => by
  simp only [Wr] at h
  cases hl:Wr us d with
  | some z =>
   rw [hl] at h
   simp only [Option.some.injEq] at h
   subst h
   exact List.mem_cons_of_mem _ (Zal us d _ hl)
  | none =>
   rw [hl] at h
   simp only at h
   split at h
   ·rename_i hd
    simp only [Option.some.injEq] at h
    subst h
    subst hd
    exact List.mem_cons_self
   ·cases h
theorem Zgz {E:Env} {d:Nat} {h:HP} (hp:h.place E d=true):d < E.top∧(h.isG=true∨d < E.nt):=by
 cases h<;>simp only [HP.place,Bool.and_eq_true,decide_eq_true_eq] at hp
 case gbox l=>exact ⟨hp.2,.inl rfl⟩
 all_goals exact ⟨JM hp,.inr hp⟩
theorem Vk {E:Env} {hs:List (Nat×HP)} (h:Zdu E hs=true):(hs.map (·.1)).Nodup∧(∀ p∈hs,p.1 < E.top∧(p.2.isG=true∨p.1 < E.nt))∧((∀ d d' o,(d,HP.ptr d' o)∈hs→∃ l:HP,l.isBox=true∧(d',l)∈hs)∧∀ d d' k,(d,HP.mref d' k)∈hs→∃ l:HP,l.isPl k=true∧(d',l)∈hs)∧
  (∀ d∈E.pins,∃ l:HP,l.isBox=true∧(d,l)∈hs)∧(∀ d g ds,(d,HP.clo g ds)∈hs→∀ d'∈ds,∃ l:HP,(l.isBox||l.isG)=true∧(d',l)∈hs)∧∀ d,E.nt≤d→d < E.top→∃ l:HP,l.isG=true∧(d,l)∈hs:=by
 have hany:∀ (f:HP→Bool) (d:Nat),(hs.any fun q=>decide (q.1=d)&&f q.2)=true→∃ l:HP,f l=true∧(d,l)∈hs:=by
  intro f d hd
  rw [List.any_eq_true] at hd
  obtain ⟨q,hq,hd⟩:=hd
  obtain ⟨q1,q2⟩:=q
  simp only [Bool.and_eq_true,decide_eq_true_eq] at hd
  obtain ⟨rfl,hd⟩:=hd
  exact ⟨_,hd,hq⟩
 simp only [Zdu,Bool.and_eq_true] at h
 obtain ⟨⟨⟨h1,h2⟩,h3⟩,h4⟩:=h
 rw [List.all_eq_true] at h2 h3 h4
 refine ⟨Vw _ h1,fun p hp=>?_,⟨fun d d' o hm=>?_,fun d d' k hm=>?_⟩,fun d hd=>hany HP.isBox d (h3 d hd),fun d g ds hm d' hd'=>?_,fun d hd hd'=>?_⟩
 ·have:=h2 p hp
  simp only [Bool.and_eq_true] at this
  exact Zgz this.1
 ·have:=h2 _ hm
  simp only [Bool.and_eq_true] at this
  exact hany HP.isBox d' this.2
 ·have:=h2 _ hm
  simp only [Bool.and_eq_true] at this
  exact hany (fun h=>h.isPl k) d' this.2
 ·have:=h2 _ hm
  simp only [Bool.and_eq_true] at this
  have h5:=this.2
  rw [List.all_eq_true] at h5
  exact hany (fun h=>h.isBox||h.isG) d' (h5 d' hd')
 ·have:=h4 (d-E.nt) (List.mem_range.2 (by have:E.top=E.nt+E.ng:=rfl;omega))
  rw [show E.nt+(d-E.nt)=d by omega] at this
  exact hany HP.isG d this
theorem Zln {P:Program} {E:Env} (hnt:E.top≤1024) {hs:List (Nat×HP)} (hok:Zdu E hs=true) {s:Tr} {ρ ρ0:Nat→V} {ves:List VE} (hv:Yl P (gE E s) hs=some ves) :
  (∀ d,d∉hs.map (·.1)→ZQ E (Jt (ZJ hs 0).1 (.leaf .dead)) (bind ρ0 0 (ves.map (VE.den ρ))) d = .dead)∧
  ∀ d h,(d,h)∈hs→∃ m,ZQ E (Jt (ZJ hs 0).1 (.leaf .dead)) (bind ρ0 0 (ves.map (VE.den ρ))) d=KS h (ves.map (VE.den ρ)) m∧
   (ZrG h (ZQ E s ρ d)∨Yx P (ZQ E s ρ d) (KS h (ves.map (VE.den ρ)) m)):=by
 obtain ⟨k1,k2,k3,k4,k5,k6⟩:=Vk hok
 obtain ⟨h1,h2,h3⟩:=YY (P:=P) (g:=gE E s) (ρ:=ρ) hs 0 ves [] hv rfl
 have hl:K9 E (ZJ hs 0).1:=by
  unfold K9
  rw [List.all_eq_true]
  intro u hu
  have hm:u.1∈hs.map (·.1):=by rw [← h2];exact List.mem_map.2 ⟨u,hu,rfl⟩
  obtain ⟨p,hp,he⟩:=List.mem_map.1 hm
  have:=(k2 p hp).1
  rw [he] at this
  simpa using this
 have hdead:∀ d,ZQ E (.leaf .dead) (bind ρ0 0 (ves.map (VE.den ρ))) d = .dead:=by
  intro d
  simp only [ZQ,gE]
  split<;>rfl
 have hfst:((ZJ hs 0).1.map fun u=>(u.1,u.2.den (bind ρ0 0 (ves.map (VE.den ρ))))).map (·.1)=hs.map (·.1):=by rw [List.map_map];exact h2
 rw [JY hnt _ _ _ hl]
 refine ⟨fun d hd=>?_,fun d h hm=>?_⟩
 ·rw [Z7,Yn _ d (by rw [hfst];exact hd),hdead]
  rfl
 ·obtain ⟨x,hx⟩:=KK ((ZJ hs 0).1.map fun u=>(u.1,u.2.den (bind ρ0 0 (ves.map (VE.den ρ))))) d (by rw [hfst];exact List.mem_map.2 ⟨_,hm,rfl⟩)
  obtain ⟨u,hu,he⟩:=List.mem_map.1 (Zal _ _ _ hx)
  simp only [Prod.mk.injEq] at he
  obtain ⟨rfl,rfl⟩:=he
  obtain ⟨h',g1,m,g2,g3,g4,g5⟩:=h3 u hu
  have:h'=h:=Zii hs u.1 h' h k1 g1 hm
  subst this
  have hden:u.2.den (bind ρ0 0 (ves.map (VE.den ρ)))=KS h' (ves.map (VE.den ρ)) m:=by
   rw [g2]
   refine Zip g4 fun j hj=>?_
   have hlt:m+j < (ves.map (VE.den ρ)).length:=by rw [List.length_map];omega
   have:=Zfy.bind ρ0 0 (ves.map (VE.den ρ)) (m+j) _ (List.getElem?_eq_getElem hlt)
   rw [Nat.zero_add] at this
   rw [this,vAt,List.getElem?_eq_getElem hlt]
   rfl
  refine ⟨m,?_,?_⟩
  ·rw [Z7,hx,← hden]
   rfl
  ·have:=g5 []
   simp only [List.nil_append,List.append_nil] at this
   exact this
theorem ZaR:∀ (l:List Sh) (us:List V) (j k:Nat) (s:Sh),l[k]? = some s→(ZL l us j)[k]? = some (Yr s (vAt us (j+k)))
 | [], _, _, _, _, h => by simp at h
 | t :: ts, us, j, 0, s, h => by
  simp only [List.getElem?_cons_zero,Option.some.injEq] at h
  subst h
  rfl
 | t :: ts, us, j, k + 1, s, h => by
  have:=ZaR ts us (j+1) k s (by simpa using h)
  rw [show j+1+k=j+(k+1) by omega] at this
  simpa [ZL] using this
theorem ZfP {h:HP} {k:Nat} (hk:h.isPl k=true) (us:List V) (m:Nat):∃ p,Zm (KS h us m) k=some p:=by
 unfold HP.isPl at hk
 split at hk
 ·exact ⟨_,rfl⟩
 ·rename_i l k
  split at hk
  ·rename_i e hl
   have:=ZaR l us m k _ hl
   refine ⟨(e,(vAt us (m+k)).list),?_⟩
   simp only [KS,Zm,this,Yr]
  ·cases hk
 ·rename_i l k
  split at hk
  ·rename_i e hl
   have:=ZaR l us m k _ hl
   refine ⟨(e,(vAt us (m+k)).list),?_⟩
   simp only [KS,Zm,this,Yr]
  ·cases hk
 ·cases hk
theorem Zfr {P:Program} {E:Env} (hnt:E.top≤1024) {c:Ctx} (hcP:c.P=P) (hcn:c.nt=E.nt) (hpin:∀ d v,c.pin d=some v→d∈E.pins) (hgpin:∀ d b,c.gpin d=some b→E.nt≤d∧d < E.top) {hs:List (Nat×HP)} (hok:Zdu E hs=true) {s:Tr} {ρ:Nat→V} (ρ0:Nat→V) {ves:List VE}
  (hv:Yl P (gE E s) hs=some ves) {tm:Array Value} {w:World} {lim:Nat→Nat} {X:Nat→Nat→Option Nat} (hsim:Sim c (ZQ E s ρ) tm w lim X) :
  ∃ X',Sim c (ZQ E (Jt (ZJ hs 0).1 (.leaf .dead)) (bind ρ0 0 (ves.map (VE.den ρ)))) tm w lim X':=by
 obtain ⟨k1,k2,k3,k4,k5,k6⟩:=Vk hok
 obtain ⟨h1,h2⟩:=Zln (P:=P) hnt hok (ρ0:=ρ0) (ρ:=ρ) hv
 have hbox:∀ d (l:HP),l.isBox=true→(d,l)∈hs→∃ cs,ZQ E (Jt (ZJ hs 0).1 (.leaf .dead)) (bind ρ0 0 (ves.map (VE.den ρ))) d = .box cs:=by
  intro d l hl hm
  obtain ⟨m,g1,_⟩:=h2 d _ hm
  cases l<;>simp [HP.isBox] at hl<;>exact ⟨_,g1⟩
 have hgb:∀ d (l:HP),l.isG=true→(d,l)∈hs→(ZQ E (Jt (ZJ hs 0).1 (.leaf .dead)) (bind ρ0 0 (ves.map (VE.den ρ))) d).isG=true:=by
  intro d l hl hm
  obtain ⟨m,g1,_⟩:=h2 d _ hm
  rw [g1]
  cases l<;>simp [HP.isG] at hl<;>rfl
 refine hsim.head (fun d=>?_) (fun d hd=>?_) (fun d v hp=>?_) fun d b hp=>?_
 ·by_cases hm:d∈hs.map (·.1)
  ·obtain ⟨p,hp,rfl⟩:=List.mem_map.1 hm
   obtain ⟨m,g1,g2⟩:=h2 p.1 p.2 hp
   unfold Zky
   rw [g1,hcP]
   rcases g2 with (⟨d',o,g2,g3⟩ | ⟨d',k,g2,g3⟩ | ⟨g,ds,g2,g3⟩) | g2
   ·obtain ⟨l,hl,hm⟩:=k3.1 p.1 d' o (by rw [← g2];exact hp)
    exact .inr (.inl ⟨d',o,g3,by rw [g2];rfl,hbox d' l hl hm⟩)
   ·obtain ⟨l,hl,hm⟩:=k3.2 p.1 d' k (by rw [← g2];exact hp)
    obtain ⟨m',q1,_⟩:=h2 d' l hm
    exact .inr (.inr (.inl ⟨d',k,g3,by rw [g2];rfl,by rw [q1];exact ZfP hl _ _⟩))
   ·refine .inr (.inr (.inr ⟨g,ds,g3,by rw [g2];rfl,fun d' hd'=>?_⟩))
    obtain ⟨l,hl,hm⟩:=k5 p.1 g ds (by rw [← g2];exact hp) d' hd'
    rw [Bool.or_eq_true] at hl
    rcases hl with hl | hl
    ·obtain ⟨cs,hcs⟩:=hbox d' l hl hm
     rw [hcs];rfl
    ·exact Wk (hgb d' l hl hm)
   ·exact .inl g2
  ·unfold Zky
   rw [h1 d hm]
   exact .inl .dead
 ·by_cases hm:d∈hs.map (·.1)
  ·obtain ⟨p,hp,rfl⟩:=List.mem_map.1 hm
   rcases (k2 p hp).2 with h3 | h3
   ·exact .inr (hgb p.1 p.2 h3 hp)
   ·omega
  ·exact .inl (h1 d hm)
 ·obtain ⟨l,hl,hm⟩:=k4 d (hpin d v hp)
  exact hbox d l hl hm
 ·obtain ⟨m1,m2⟩:=hgpin d b hp
  obtain ⟨l,hl,hm⟩:=k6 d m1 m2
  exact hgb d l hl hm
theorem ZdY {ops:Array Oper} {x a d:Nat} {T:TypeId} {neg:Bool} (h:ZeF ops=some (x,a,d,T,neg)) :
  ∃ o p U,ops.toList = [o,p]∧o.guard=none∧p.guard=none∧o.op = .move (.tmp x)∧o.dst=some a∧p.op = .binOp (if neg=true then .neq else .eql) T (.tmp a) (.const (.slice none 0 0)) U∧p.dst=some d:=by
 unfold ZeF at h
 split at h
 ·rename_i o p hops
  split at h
  ·rename_i hg
   simp only [Option.isNone_iff_eq_none] at hg
   split at h
   ·rename_i h1 h2 h3 h4
    split at h
    ·rename_i hb
     subst hb
     simp only [Option.some.injEq,Prod.mk.injEq] at h
     obtain ⟨rfl,rfl,rfl,rfl,rfl⟩:=h
     exact ⟨o,p,_,hops,hg.1,hg.2,h1,h2,by simpa using h3,h4⟩
    ·cases h
   ·rename_i h1 h2 h3 h4
    split at h
    ·rename_i hb
     subst hb
     simp only [Option.some.injEq,Prod.mk.injEq] at h
     obtain ⟨rfl,rfl,rfl,rfl,rfl⟩:=h
     exact ⟨o,p,_,hops,hg.1,hg.2,h1,h2,by simpa using h3,h4⟩
    ·cases h
   ·cases h
  ·cases h
 ·cases h
theorem Za6 {ops:Array Oper} {x i a b c:Nat} {T:TypeId} (h:Zap ops=some (x,i,a,b,c,T)) :
  ∃ o p q r,ops.toList = [o,p,q,r]∧o.guard=none∧p.guard=none∧q.guard=none∧r.guard=none∧o.op = .move (.tmp x)∧o.dst=some a∧p.op = .move (.tmp i)∧p.dst=some b∧
   q.op = .slice T (.tmp a) (some (.tmp b)) none none∧q.dst=some c∧(∃ cl,r.op = .call cl∧cl.callee = .builtin .clear∧cl.args = #[.tmp c]∧cl.argTypes = #[T])∧r.dst=none:=by
 unfold Zap at h
 split at h
 case h_2=>cases h
 rename_i o p q r hops
 split at h
 case isFalse=>cases h
 rename_i hg
 simp only [Option.isNone_iff_eq_none] at hg
 split at h
 case h_2=>cases h
 rename_i x' a' i' b' h1 h2 h3 h4
 split at h
 case h_2=>cases h
 rename_i T' a'' b'' c' cl h5 h6 h7 h8
 split at h
 case h_2=>cases h
 rename_i c'' T'' h9 h10 h11
 split at h
 case isFalse=>cases h
 rename_i he
 obtain ⟨e1,e2,e3,e4⟩:=he
 subst e1 e2 e3 e4
 simp only [Option.some.injEq,Prod.mk.injEq] at h
 obtain ⟨rfl,rfl,rfl,rfl,rfl,rfl⟩:=h
 exact ⟨o,p,q,r,hops,hg.1,hg.2.1,hg.2.2.1,hg.2.2.2,h1,h2,h3,h4,h5,h6,⟨cl,h7,h9,by rw [← h10,Array.toArray_toList],by rw [← h11,Array.toArray_toList]⟩,h8⟩
theorem Zgs {P:Program} {w:World} {lim:Nat→Nat} {X:Nat→Nat→Option Nat} {g:Nat→SV} {d:Nat} {x:SV} {l:LE} {ρ:Nat→V} {v:Value} (hx:ZgY g x=some l) (h:ZD P w lim X (fun d=>(g d).den ρ) d (x.den ρ) v) :
  ∃ a k cap,v = .slice a k cap∧(a.isNone=true→l.den ρ = []):=by
 have hrep:∀ f s,Rep w lim (.slice f s (l.den ρ)) v→∃ a k cap,v = .slice a k cap∧(a.isNone=true→l.den ρ = []):=by
  intro f s hr
  have key:∀ y,Rep w lim y v→y = .slice f s (l.den ρ)→∃ a k cap,v = .slice a k cap∧(a.isNone=true→l.den ρ = []):=by
   intro y hy hye
   cases hy with
   | sliceN => injection hye with _ _ h3; exact ⟨none, 0, 0, rfl, fun _ => h3.symm⟩
   | sliceE _ => injection hye with _ _ h3; exact ⟨_, _, _, rfl, fun _ => h3.symm⟩
   | sliceC _ _ _ _ _ _ _ _ => exact ⟨_, _, _, rfl, fun h => by cases h⟩
   | val _ => cases hye
   | agg _ _ _ => cases hye
  exact key _ hr rfl
 unfold ZgY at hx
 split at hx
 ·simp only [Option.some.injEq] at hx
  subst hx
  exact hrep _ _ h
 ·simp only [Option.some.injEq] at hx
  subst hx
  rcases Z8.sliceV (show Z8 P w lim _ _ _ v (X d 0) from h) with ⟨_,h1,h2 | ⟨a,h2⟩⟩ | ⟨b,arr,cap,_,_,_,h2⟩
  ·exact ⟨none,0,0,h2,fun _=>List.eq_nil_of_length_eq_zero h1⟩
  ·exact ⟨_,_,_,h2,fun h=>by cases h⟩
  ·exact ⟨_,_,_,h2,fun h=>by cases h⟩
 ·rename_i d' q
  cases hp:Js (g d') q with
  | none => rw [hp] at hx; cases hx
  | some p =>
   rw [hp] at hx
   simp only [Option.map_some,Option.some.injEq] at hx
   subst hx
   obtain ⟨e,xs,h1,h2⟩:=h
   have h3:Zm ((g d').den ρ) q=some (p.1,p.2.den ρ):=Jd ρ hp
   have h1':Zm ((g d').den ρ) q=some (e,xs):=h1
   rw [h3] at h1'
   simp only [Option.some.injEq,Prod.mk.injEq] at h1'
   obtain ⟨_,rfl⟩:=h1'
   rcases h2 with ⟨_,h1,h2 | ⟨a,h2⟩⟩ | ⟨b,arr,cap,_,_,_,h2⟩
   ·exact ⟨none,0,0,h2,fun _=>List.eq_nil_of_length_eq_zero h1⟩
   ·exact ⟨_,_,_,h2,fun h=>by cases h⟩
   ·exact ⟨_,_,_,h2,fun h=>by cases h⟩
 ·cases hx
theorem Sim.refit {c:Ctx} {σ σ':Nat→AV} {tm:Array Value} {w:World} {lim lim':Nat→Nat} {X:Nat→Nat→Option Nat} {S:Nat→Prop} (h:Sim c σ tm w lim X) (hw:ZT w lim w lim' S) (hS:∀ b,S b→c.A b∨c.w0.heap.size≤b)
  (hrel:∀ i,ZD c.P w lim' X σ' i (σ' i) (tm.getD i undef)) (hout:∀ i,c.nt≤i→σ' i = .dead∨(σ' i).isG=true) (hG:∀ i,(σ' i).isG=(σ i).isG) (hB:∀ i cs,σ i = .box cs→∃ cs',σ' i = .box cs'):Sim c σ' tm w lim' X where
 rel:=hrel
 size:=h.size
 out:=hout
 ghost d hd:=h.ghost d (by rw [← hG];exact hd)
 dist:=h.dist
 ours:=h.ours
 frm:=h.frm.step hw hS
 pin d v hv:=by
  obtain ⟨h1,cs,h2⟩:=h.pin d v hv
  exact ⟨h1,hB d cs h2⟩
 gpin d b hb:=by
  obtain ⟨h1,h2⟩:=h.gpin d b hb
  exact ⟨h1,by rw [hG];exact h2⟩
theorem Sim.freeze {c:Ctx} {σ:Nat→AV} {tm:Array Value} {w:World} {lim:Nat→Nat} {X:Nat→Nat→Option Nat} (h:Sim c σ tm w lim X) {d q:Nat} {e:TypeId} {xs:List (List AV)} {us:List (Nat×AV)} (hdn:(σ d).isG=false) (hp:Zm (σ d) q=some (e,xs))
  (hs0:c.P.cellsOf e≠0) (h1:∀ u∈us,u.1≠d∧((σ u.1 = .mref d q∧u.2 = .slice false (c.P.cellsOf e) xs)∨((∃ o,σ u.1 = .eref d q o)∧u.2 = .dead))) (h2:∀ i,Z0 (σ i) d q→i∈us.map (·.1)) :
  ∃ lim',Sim c (Jw (upd σ d (ZH (σ d) q false e xs)) us) tm w lim' X:=by
 have hnG:∀ cs,σ d≠.gbox cs:=fun cs he=>by rw [he] at hdn;cases hdn
 obtain ⟨v0,ho⟩:=Ks h hp
 refine ⟨fun b=>if X d q=some b then xs.length*c.P.cellsOf e else lim b,?_⟩
 have hlim0:∀ b,X d q=some b→lim b=0:=by
  intro b hb
  rw [hb] at ho
  obtain ⟨_,_,_,_,g,_⟩:=Ku ho
  exact g
 have hw:ZT w lim w (fun b=>if X d q=some b then xs.length*c.P.cellsOf e else lim b) (fun b=>X d q=some b):=by
  refine ⟨rfl,rfl,rfl,Nat.le_refl _,fun _ _=>rfl,fun b _ hb=>⟨rfl,if_neg hb⟩,fun b _=>⟨?_,fun _ _ _ hu=>hu⟩⟩
  show lim b≤if X d q=some b then xs.length*c.P.cellsOf e else lim b
  split
  ·rename_i hb;rw [hlim0 b hb];exact Nat.zero_le _
  ·exact Nat.le_refl _
 have hnew:∀ v,Z8 c.P w lim true e xs v (X d q)→Z8 c.P w (fun b=>if X d q=some b then xs.length*c.P.cellsOf e else lim b) false e xs v (X d q):=by
  intro v hv
  rcases hv with ⟨ws,g1,g2,g3,g4,g5,g6⟩ | hv
  ·refine .inl ⟨ws,g1,g2,fun b hb=>?_,g4,g5,fun j z u hz hu=>(g6 j z u hz hu).mono hw.ext⟩
   show (if X d q=some b then xs.length*c.P.cellsOf e else lim b)=_
   rw [if_pos hb,if_neg (by simp),g1.1]
  ·exact .inr hv
 have hkept:∀ i k b,(i≠d∨k≠q)→X i k=some b→ZlQ w lim w (fun b=>if X d q=some b then xs.length*c.P.cellsOf e else lim b) b:=by
  intro i k b hik hb
  refine ⟨rfl,if_neg fun hb'=>?_⟩
  obtain ⟨e1,e2⟩:=h.dist i k d q b hb hb'
  exact hik.elim (fun h=>h e1) fun h=>h e2
 have hdu:d∉us.map (·.1):=by
  intro hm
  obtain ⟨u,hu,rfl⟩:=List.mem_map.1 hm
  exact (h1 u hu).1 rfl
 -- what stands where
 have hat:∀ i,i≠d→(i∉us.map (·.1)∧Jw (upd σ d (ZH (σ d) q false e xs)) us i=σ i)∨
   (σ i = .mref d q∧Jw (upd σ d (ZH (σ d) q false e xs)) us i = .slice false (c.P.cellsOf e) xs)∨((∃ o,σ i = .eref d q o)∧Jw (upd σ d (ZH (σ d) q false e xs)) us i = .dead):=by
  intro i hi
  rw [Z7]
  by_cases hm:i∈us.map (·.1)
  ·obtain ⟨x,hx⟩:=KK us i hm
   rw [hx]
   rcases (h1 _ (Zal us i x hx)).2 with ⟨g1,g2⟩ | ⟨g1,g2⟩
   ·exact .inr (.inl ⟨g1,g2⟩)
   ·exact .inr (.inr ⟨g1,g2⟩)
  ·rw [Yn us i hm]
   exact .inl ⟨hm,Zi _ _ hi⟩
 have hatd:Jw (upd σ d (ZH (σ d) q false e xs)) us d=ZH (σ d) q false e xs:=by
  rw [Z7,Yn us d hdu]
  exact ZU _ _ _
 have hdG:(ZH (σ d) q false e xs).isG=false∧(σ d).isG=false:=by
  rcases Zv hp with ⟨g1,rfl⟩ | ⟨cs,k,g1,rfl,_⟩ | ⟨cs,k,g1,rfl,_⟩
  case inr.inr=>exact (hnG _ g1).elim
  all_goals rw [g1];exact ⟨rfl,rfl⟩
 have hdB:∀ cs,σ d = .box cs→∃ cs',ZH (σ d) q false e xs = .box cs':=by
  intro cs hcs
  rcases Zv hp with ⟨g1,rfl⟩ | ⟨cs',k,g1,rfl,_⟩ | ⟨cs,k,g1,rfl,_⟩
  case inr.inr=>exact (hnG _ g1).elim
  ·rw [g1] at hcs;cases hcs
  ·rw [g1];exact ⟨_,rfl⟩
 have hGall:∀ i,(Jw (upd σ d (ZH (σ d) q false e xs)) us i).isG=(σ i).isG:=by
  intro i
  by_cases hi:i=d
  ·subst hi;rw [hatd,hdG.1,hdG.2]
  ·rcases hat i hi with ⟨_,g⟩ | ⟨g,g'⟩ | ⟨⟨o,g⟩,g'⟩
   ·rw [g]
   ·rw [g,g'];rfl
   ·rw [g,g'];rfl
 have hBall:∀ i cs,σ i = .box cs→∃ cs',Jw (upd σ d (ZH (σ d) q false e xs)) us i = .box cs':=by
  intro i cs hcs
  by_cases hi:i=d
  ·subst hi;rw [hatd];exact hdB cs hcs
  ·rcases hat i hi with ⟨_,g⟩ | ⟨g,g'⟩ | ⟨⟨o,g⟩,g'⟩
   ·exact ⟨cs,g.trans hcs⟩
   ·rw [g] at hcs;cases hcs
   ·rw [g] at hcs;cases hcs
 refine h.refit hw (fun b hb=>(h.ours d q b hb).2) (fun i=>?_) (fun i hi=>?_) hGall hBall
 ·by_cases hi:i=d
  ·subst hi
   rw [hatd]
   have hr:=h.rel i
   rcases Zv hp with ⟨g1,rfl⟩ | ⟨cs,k,g1,rfl,g2⟩ | ⟨cs,k,g1,rfl,_⟩
   case inr.inr=>exact (hnG _ g1).elim
   ·rw [g1] at hr ⊢
    exact hnew _ hr
   ·rw [g1] at hr ⊢
    obtain ⟨b,arr,t,k1,k2,k3,k4,k5,k6,k7⟩:=(show Zw c.P w lim (X i) cs _ from hr)
    refine ⟨b,arr,t,k1,k2,k3,by rw [List.length_set];exact k4,((hkept i 0 b (.inr (by omega)) k1).2).trans k5,fun x hx=>?_,fun j x u hx hu=>?_⟩
    ·rcases List.mem_or_eq_of_mem_set hx with hx | hx
     ·exact k6 x hx
     ·exact .inr (.inl ⟨_,_,_,hx⟩)
    ·by_cases hj:j=k
     ·subst hj
      rw [List.getElem?_set_self (List.getElem?_eq_some_iff.1 g2).1] at hx
      simp only [Option.some.injEq] at hx
      subst hx
      exact hnew u (k7 j _ u g2 hu)
     ·rw [List.getElem?_set_ne (fun h=>hj h.symm)] at hx
      exact (k7 j x u hx hu).mono hw.ext fun b' hb'=>hkept i (j+1) b' (.inr (by omega)) hb'
  ·rcases hat i hi with ⟨hm,g⟩ | ⟨g,g'⟩ | ⟨⟨o,g⟩,g'⟩
   ·rw [g]
    have hr:=(h.rel i).mono hw.ext (fun k b hb=>hkept i k b (.inl hi) hb) fun d' k b _ _=>.of rfl
    refine hr.chg rfl (fun d' cs hd'=>⟨hBall d' cs hd',rfl⟩) (fun d' hd'=>⟨by rw [hGall];exact hd',rfl⟩) fun d' k hrf=>⟨?_,rfl⟩
    by_cases hdd:d'=d
    ·subst hdd
     rw [hatd]
     have hkq:k≠q:=fun he=>hm (h2 i (he ▸ hrf))
     intro e' ys hy
     rcases Zv hy with ⟨m1,rfl⟩ | ⟨cs,k',m1,rfl,m2⟩ | ⟨_,_,m1,_⟩
     case inr.inr=>exact (hnG _ m1).elim
     ·rcases Zv hp with ⟨_,h0⟩ | ⟨_,_,h0,_⟩ | ⟨_,_,h0,_⟩
      case inr.inr=>exact (hnG _ h0).elim
      ·exact (hkq h0.symm).elim
      ·rw [m1] at h0;cases h0
     ·rcases Zv hp with ⟨h0,_⟩ | ⟨cs2,q',h0,rfl,_⟩ | ⟨_,_,h0,_⟩
      case inr.inr=>exact (hnG _ h0).elim
      ·rw [m1] at h0;cases h0
      ·refine ⟨ys,?_,rfl⟩
       rw [m1]
       simp only [ZH,Zm]
       rw [List.getElem?_set_ne (by omega),m2]
    ·rcases hat d' hdd with ⟨_,m⟩ | ⟨m,m'⟩ | ⟨⟨o,m⟩,m'⟩
     ·rw [m];exact K5.refl _ _
     ·intro e' ys hy
      rw [m] at hy;cases hy
     ·intro e' ys hy
      rw [m] at hy;cases hy
   ·rw [g']
    have hr:=h.rel i
    rw [g] at hr
    obtain ⟨e',xs',k1,k2⟩:=hr
    rw [hp] at k1
    simp only [Option.some.injEq,Prod.mk.injEq] at k1
    obtain ⟨rfl,rfl⟩:=k1
    show Rep w _ _ _
    rcases k2 with ⟨_,k2,k3 | ⟨a,k3⟩⟩ | ⟨b,arr,cap,k2,k3,k4,k5⟩
    ·have:xs = []:=List.eq_nil_of_length_eq_zero k2
     subst this
     rw [k3];exact .sliceN
    ·have:xs = []:=List.eq_nil_of_length_eq_zero k2
     subst this
     rw [k3];exact .sliceE fun h=>by cases h
    ·have ho':=ho
     rw [k2] at ho'
     obtain ⟨arr0,cap0,m1,m2,_,_,_,m6,_⟩:=Ku ho'
     rw [k3] at m2
     simp only [Option.some.injEq,Obj.cells.injEq,and_true] at m2
     subst m2
     have hcap:cap=cap0:=Nat.eq_of_mul_eq_mul_right (by omega) (k4.symm.trans m6)
     subst hcap
     rw [k5,← m1]
     exact Z8.rep (hnew v0 ho) false rfl
   ·rw [g']
    trivial
 ·by_cases hid:i=d
  ·subst hid
   rcases h.out i hi with h0 | h0
   ·rw [h0] at hp;cases hp
   ·rw [hdG.2] at h0;cases h0
  ·rcases hat i hid with ⟨_,g⟩ | ⟨g,_⟩ | ⟨⟨o,g⟩,_⟩
   ·rw [g];exact h.out i hi
   ·rcases h.out i hi with h0 | h0<;>rw [g] at h0<;>cases h0
   ·rcases h.out i hi with h0 | h0<;>rw [g] at h0<;>cases h0
theorem JZ {P:Program} {g:Nat→SV} {d q:Nat} {e:TypeId} {l:LE} : ∀ (n:Nat) (u:Nat×SV),u∈YM P g d q e l n↔u.1 < n∧((g u.1 = .mref d q∧u.2 = .c (.slice false (P.cellsOf e) l))∨((∃ i s o,g u.1 = .eref d q i s o)∧u.2 = .dead))
 | 0, u => by simp [YM]
 | n + 1, u => by
  have ih:=JZ (P:=P) (g:=g) (d:=d) (q:=q) (e:=e) (l:=l) n u
  have up:∀ {p:Prop},(u.1 < n∧p)→(u.1 < n+1∧p):=fun h=>⟨by omega,h.2⟩
  simp only [YM]
  split
  ·rename_i d' q' hg
   split
   ·rename_i hh
    obtain ⟨rfl,rfl⟩:=hh
    rw [List.mem_cons,ih]
    constructor
    ·rintro (rfl | h)
     ·exact ⟨Nat.lt_succ_self n,.inl ⟨hg,rfl⟩⟩
     ·exact up h
    ·rintro ⟨h1,h2⟩
     by_cases hn:u.1=n
     ·left
      obtain ⟨a,b⟩:=u
      simp only at hn h2
      subst hn
      rcases h2 with ⟨_,h2⟩ | ⟨⟨_,_,_,h2⟩,_⟩
      ·rw [h2]
      ·rw [hg] at h2;cases h2
     ·exact .inr ⟨by omega,h2⟩
   ·rename_i hh
    rw [ih]
    refine ⟨up,fun ⟨h1,h2⟩=>⟨?_,h2⟩⟩
    by_cases hn:u.1=n
    ·rw [hn,hg] at h2
     rcases h2 with ⟨h2,_⟩ | ⟨⟨_,_,_,h2⟩,_⟩
     ·cases h2;exact (hh ⟨rfl,rfl⟩).elim
     ·cases h2
    ·omega
  ·rename_i d' q' i s o hg
   split
   ·rename_i hh
    obtain ⟨rfl,rfl⟩:=hh
    rw [List.mem_cons,ih]
    constructor
    ·rintro (rfl | h)
     ·exact ⟨Nat.lt_succ_self n,.inr ⟨⟨_,_,_,hg⟩,rfl⟩⟩
     ·exact up h
    ·rintro ⟨h1,h2⟩
     by_cases hn:u.1=n
     ·left
      obtain ⟨a,b⟩:=u
      simp only at hn h2
      subst hn
      rcases h2 with ⟨h2,_⟩ | ⟨_,h2⟩
      ·rw [hg] at h2;cases h2
      ·rw [h2]
     ·exact .inr ⟨by omega,h2⟩
   ·rename_i hh
    rw [ih]
    refine ⟨up,fun ⟨h1,h2⟩=>⟨?_,h2⟩⟩
    by_cases hn:u.1=n
    ·rw [hn,hg] at h2
     rcases h2 with ⟨h2,_⟩ | ⟨⟨_,_,_,h2⟩,_⟩
     ·cases h2
     ·cases h2;exact (hh ⟨rfl,rfl⟩).elim
    ·omega
  ·rename_i h1 h2
   rw [ih]
   refine ⟨up,fun ⟨g1,g2⟩=>⟨?_,g2⟩⟩
   by_cases hn:u.1=n
   ·rw [hn] at g2
    rcases g2 with ⟨g2,_⟩ | ⟨⟨_,_,_,g2⟩,_⟩
    ·exact (h1 _ _ g2).elim
    ·exact (h2 _ _ _ _ _ g2).elim
   ·omega
theorem ZcN {P:Program} {E:Env} (hnt:E.top≤1024) {c:Ctx} (hcP:c.P=P) {s:Tr} {n:Nat} {ρ:Nat→V} (p:Nat×Nat) {tm:Array Value} {w:World} (hs:Kt E s n) (h:∃ lim X,Sim c (ZQ E s ρ) tm w lim X) :
  Kt E (YT P E s p) n∧∃ lim X,Sim c (ZQ E (YT P E s p) ρ) tm w lim X:=by
 unfold YT
 split
 ·rename_i e l hp
  split
  ·rename_i hh
   have hlow:K9 E ((p.1,YB (gE E s p.1) p.2 false e l)::YM P (gE E s) p.1 p.2 e l E.top):=by
    unfold K9
    rw [List.all_eq_true]
    intro u hu
    rcases List.mem_cons.1 hu with rfl | hu
    ·simpa using JM hh.1
    ·simpa using ((JZ E.top u).1 hu).1
   have hl:=Yp hp (hs p.1)
   refine ⟨JF hnt _ _ hlow hs fun u hu=>?_,?_⟩
   ·rcases List.mem_cons.1 hu with rfl | hu
    ·exact K7 (hs p.1) hl
    ·rcases ((JZ E.top u).1 hu).2 with ⟨_,h2⟩ | ⟨_,h2⟩ <;> rw [h2]
     ·exact hl
     ·trivial
   ·obtain ⟨lim,X,hsim⟩:=h
    rw [JY hnt _ _ _ hlow]
    have hA:∀ u∈((YM P (gE E s) p.1 p.2 e l E.top).map fun u=>(u.1,u.2.den ρ)),u.1≠p.1∧((ZQ E s ρ u.1 = .mref p.1 p.2∧u.2 = .slice false (c.P.cellsOf e) (l.den ρ))∨((∃ o,ZQ E s ρ u.1 = .eref p.1 p.2 o)∧u.2 = .dead)):=by
     intro u hu
     obtain ⟨v,hv,rfl⟩:=List.mem_map.1 hu
     have hne:v.1≠p.1:=by
      intro he
      have h2:=((JZ E.top v).1 hv).2
      rw [he] at h2
      rcases h2 with ⟨h2,_⟩ | ⟨⟨_,_,_,h2⟩,_⟩ <;> rw [h2] at hp<;>cases hp
     refine ⟨hne,?_⟩
     rcases ((JZ E.top v).1 hv).2 with ⟨h1,h2⟩ | ⟨⟨i,s',o,h1⟩,h2⟩
     ·exact .inl ⟨by show (gE E s v.1).den ρ=_;rw [h1];rfl,by rw [h2,hcP];rfl⟩
     ·exact .inr ⟨⟨_,by show (gE E s v.1).den ρ=_;rw [h1];rfl⟩,by rw [h2];rfl⟩
    have hB:∀ i,Z0 (ZQ E s ρ i) p.1 p.2→i∈((YM P (gE E s) p.1 p.2 e l E.top).map fun u=>(u.1,u.2.den ρ)).map (·.1):=by
     intro i hi
     rw [List.map_map]
     have hi':Z0 ((gE E s i).den ρ) p.1 p.2:=hi
     have hlt:i < E.top:=by
      rcases Nat.lt_or_ge i E.top with h | h
      ·exact h
      ·rw [ZiH s i h] at hi'
       rcases hi' with h0 | ⟨_,h0⟩ <;> cases h0
     have hex:∃ x,(i,x)∈YM P (gE E s) p.1 p.2 e l E.top:=by
      cases hg:gE E s i with
      | mref d' q' =>
       rw [hg] at hi'
       rcases hi' with h0 | ⟨_,h0⟩ <;> cases h0
       exact ⟨_,(JZ E.top (i,_)).2 ⟨hlt,.inl ⟨hg,rfl⟩⟩⟩
      | eref d' q' a b o =>
       rw [hg] at hi'
       rcases hi' with h0 | ⟨_,h0⟩ <;> cases h0
       exact ⟨_,(JZ E.top (i,_)).2 ⟨hlt,.inr ⟨⟨_,_,_,hg⟩,rfl⟩⟩⟩
      | c y => rw [hg] at hi'; rcases hi' with h0 | ⟨_, h0⟩ <;> cases y <;> cases h0
      | _ => rw [hg] at hi'; rcases hi' with h0 | ⟨_, h0⟩ <;> cases h0
     obtain ⟨x,hx⟩:=hex
     exact List.mem_map.2 ⟨_,hx,rfl⟩
    obtain ⟨lim',hf⟩:=hsim.freeze (d:=p.1) (q:=p.2) (Zel ρ hh.2.2) (Jd ρ hp) (by rw [hcP];omega) hA hB
    refine ⟨lim',X,?_⟩
    rw [List.map_cons,Ky]
    exact hf
  ·exact ⟨hs,h⟩
 ·exact ⟨hs,h⟩
theorem ZeH {E:Env} (hnt:E.top≤1024) {c:Ctx} {used:List Nat} {s:Tr} {n:Nat} {ρ:Nat→V} (d:Nat) {tm:Array Value} {w:World} (hs:Kt E s n) (h:∃ lim X,Sim c (ZQ E s ρ) tm w lim X) :
  Kt E (Wg E used s d) n∧∃ lim X,Sim c (ZQ E (Wg E used s d) ρ) tm w lim X:=by
 unfold Wg
 split
 ·rename_i e l hp
  split
  ·rename_i hh
   have hlow:K9 E ((d,.dead)::ZW (gE E s) d E.top):=by
    unfold K9
    rw [List.all_eq_true]
    intro u hu
    rcases List.mem_cons.1 hu with rfl | hu
    ·simpa using JM hh.1
    ·simpa using ((Jv E.top u).1 hu).2.1
   refine ⟨JF hnt _ _ hlow hs fun u hu=>?_,?_⟩
   ·rcases List.mem_cons.1 hu with rfl | hu
    ·trivial
    ·rw [((Jv E.top u).1 hu).1];trivial
   ·obtain ⟨lim,X,hsim⟩:=h
    rw [JY hnt _ _ _ hlow]
    have hd:Kb (ZQ E s ρ) d ((ZW (gE E s) d E.top).map fun u=>(u.1,u.2.den ρ)):=JH (g:=gE E s) ρ (ZiH s)
    obtain ⟨X',h1,_⟩:=hsim.freeAll (t:=d) (x:=true) (e:=e) (xs:=l.den ρ) (by show (gE E s d).den ρ=_;rw [hp];rfl) (.inr hd)
    exact ⟨lim,X',h1⟩
  ·exact ⟨hs,h⟩
 ·exact ⟨hs,h⟩
theorem Zjp {P:Program} {E:Env} (hnt:E.top≤1024) {c:Ctx} (hcP:c.P=P) {id:Nat} {ops:Array Oper} {s:Tr} {n:Nat} {ρ:Nat→V} {tm:Array Value} {w:World} {lim:Nat→Nat} {X:Nat→Nat→Option Nat} (hs:Kt E s n) (h:Sim c (ZQ E s ρ) tm w lim X) :
  Kt E (Zo5 P E id ops s) n∧∃ lim X,Sim c (ZQ E (Zo5 P E id ops s) ρ) tm w lim X:=by
 have step1:∀ (l:List (Nat×Nat)) (s:Tr),Kt E s n→(∃ lim X,Sim c (ZQ E s ρ) tm w lim X)→Kt E (l.foldl (YT P E) s) n∧∃ lim X,Sim c (ZQ E (l.foldl (YT P E) s) ρ) tm w lim X:=by
  intro l
  induction l with
  | nil => exact fun s h1 h2 => ⟨h1, h2⟩
  | cons p l ih =>
   intro s h1 h2
   obtain ⟨g1,g2⟩:=ZcN hnt hcP p h1 h2
   exact ih _ g1 g2
 have step2:∀ (l:List Nat) (s:Tr),Kt E s n→(∃ lim X,Sim c (ZQ E s ρ) tm w lim X)→Kt E (l.foldl (Wg E (ZeR ops)) s) n∧∃ lim X,Sim c (ZQ E (l.foldl (Wg E (ZeR ops)) s) ρ) tm w lim X:=by
  intro l
  induction l with
  | nil => exact fun s h1 h2 => ⟨h1, h2⟩
  | cons p l ih =>
   intro s h1 h2
   obtain ⟨g1,g2⟩:=ZeH hnt p h1 h2
   exact ih _ g1 g2
 obtain ⟨g1,g2⟩:=step1 (E.fz id) s hs ⟨lim,X,h⟩
 exact step2 (ZrX ops) _ g1 g2
section
variable {P:Program} {E:Env} {R:AV→List AV→Prop}
def Zhf (lv:Nat) (A A':Nat→List V→Prop):Prop:=∀ i,i < lv→A' i=A i
theorem ZjG (hm:P.follows .mixedOrders=true) (hps:PlainSound P E.plain) (hnt:E.top≤1024) {c:Ctx} (hcP:c.P=P) (hcn:c.nt=E.nt) (hpin:∀ d v,c.pin d=some v→d∈E.pins) (hgpin:∀ d b,c.gpin d=some b→E.nt≤d∧d < E.top) :
  ∀ (code:Code) (lv n:Nat) (s:Tr) (kn:Tr→Nat→STree) (kx:Nat→Tr→Nat→STree) (kr:Tr→Nat→STree) (A:Nat→List V→Prop) (ρ:Nat→V) (tm:Array Value) (w:World) (lim:Nat→Nat) (X:Nat→Nat→Option Nat)
   (Q:Exit→Act→World→Prop),Kt E s n→(ev P E lv code s n kn kx kr).wp P R A ρ→Sim c (ZQ E s ρ) tm w lim X→
   (∀ s' n' ρ' A',Zhf lv A A'→Kt E s' n'→(kn s' n').wp P R A' ρ'→∀ tm' w' lim' X',Sim c (ZQ E s' ρ') tm' w' lim' X'→Q .normal ⟨tm',[]⟩ w')→
   (∀ id s' n' ρ' A',Zhf lv A A'→Kt E s' n'→(kx id s' n').wp P R A' ρ'→∀ tm' w' lim' X',Sim c (ZQ E s' ρ') tm' w' lim' X'→Q (.exit id) ⟨tm',[]⟩ w')→
   (∀ s' n' ρ' A',Zhf lv A A'→Kt E s' n'→(kr s' n').wp P R A' ρ'→∀ tm' w' lim' X',Sim c (ZQ E s' ρ') tm' w' lim' X'→Q .ret ⟨tm',[]⟩ w')→
   code.wp P Q ⟨tm,[]⟩ w:=by
 intro code
 induction code with
 | skip => intro lv n s kn kx kr A ρ tm w lim X Q hs h hsim hn hx hr; exact wp_skip (hn s n ρ A (fun _ _ => rfl) hs h tm w lim X hsim)
 | label l => intro lv n s kn kx kr A ρ tm w lim X Q hs h hsim hn hx hr; exact wp_label (hn s n ρ A (fun _ _ => rfl) hs h tm w lim X hsim)
 | exit id => intro lv n s kn kx kr A ρ tm w lim X Q hs h hsim hn hx hr; exact wp_exit (hx id s n ρ A (fun _ _ => rfl) hs h tm w lim X hsim)
 | ret => intro lv n s kn kx kr A ρ tm w lim X Q hs h hsim hn hx hr; exact wp_ret (hr s n ρ A (fun _ _ => rfl) hs h tm w lim X hsim)
 | seq a b iha ihb =>
  intro lv n s kn kx kr A ρ tm w lim X Q hs h hsim hn hx hr
  refine wp_seq (iha lv n s _ kx kr A ρ tm w lim X _ hs h hsim ?_ hx hr)
  intro s' n' ρ' A' hA hs' h' tm' w' lim' X' hsim'
  exact ihb lv n' s' kn kx kr A' ρ' tm' w' lim' X' Q hs' h' hsim' (fun s2 n2 ρ2 A2 hA2=>hn s2 n2 ρ2 A2 fun i hi=>(hA2 i hi).trans (hA i hi))
   (fun id s2 n2 ρ2 A2 hA2=>hx id s2 n2 ρ2 A2 fun i hi=>(hA2 i hi).trans (hA i hi)) (fun s2 n2 ρ2 A2 hA2=>hr s2 n2 ρ2 A2 fun i hi=>(hA2 i hi).trans (hA i hi))
 | cond x a b iha ihb =>
  intro lv n s kn kx kr A ρ tm w lim X Q hs h hsim hn hx hr
  simp only [ev] at h
  split at h
  ·rename_i t ht
   have hxt:x = .tmp t:=by cases x<;>simp [ZN] at ht;rw [ht]
   subst hxt
   have heval:∀ v:BE,gE E s t = .c (.bool v)→Act.eval ⟨tm,[]⟩ (.tmp t) = .bool (v.den ρ):=by
    intro v hv
    have hrel:=hsim.rel t
    have:ZQ E s ρ t = .val (.bool (v.den ρ)):=by simp only [ZQ,hv,SV.den,SC.den]
    rw [this] at hrel
    exact KC hrel
   split at h
   ·rename_i v hv
    have he:=heval _ hv
    simp only [BE.den] at he
    split at h
    ·rename_i hvt
     subst hvt
     exact wp_cond_true he (iha lv n s kn kx kr A ρ tm w lim X Q hs h hsim hn hx hr)
    ·rename_i hvt
     have:v=false:=by simpa using hvt
     subst this
     exact wp_cond_false he (ihb lv n s kn kx kr A ρ tm w lim X Q hs h hsim hn hx hr)
   ·rename_i v _ hv
    refine wp_cond_split (heval v hv) (fun hv'=>?_) fun hv'=>?_
    ·obtain ⟨hlt,hsame⟩:=Vg hnt hv hv'
     exact iha lv n _ kn kx kr A ρ tm w lim X Q (JC (x:=.c (.bool (.lit true))) hnt hlt hs trivial) (h.1 hv') (by rw [hsame];exact hsim) hn hx hr
    ·obtain ⟨hlt,hsame⟩:=Vg hnt hv hv'
     exact ihb lv n _ kn kx kr A ρ tm w lim X Q (JC (x:=.c (.bool (.lit false))) hnt hlt hs trivial) (h.2 hv') (by rw [hsame];exact hsim) hn hx hr
   ·exact h.elim
  ·exact h.elim
 | block id body ih =>
  intro lv n s kn kx kr A ρ tm w lim X Q hs h hsim hn hx hr
  refine wp_block (ih lv n s kn _ kr A ρ tm w lim X _ hs h hsim hn ?_ hr)
  intro id' s' n' ρ' A' hA hs' h' tm' w' lim' X' hsim'
  unfold Exit.inBlock
  by_cases hid:id'=id
  ·rw [if_pos hid] at h'
   simp only [hid,if_true]
   exact hn s' n' ρ' A' hA hs' h' tm' w' lim' X' hsim'
  ·rw [if_neg hid] at h'
   simp only [hid,if_false]
   exact hx id' s' n' ρ' A' hA hs' h' tm' w' lim' X' hsim'
 | scope body ih =>
  intro lv n s kn kx kr A ρ tm w lim X Q hs h hsim hn hx hr
  exact wp_scope_straight (ih lv n s kn kx kr A ρ tm w lim X _ hs h hsim hn hx hr)
 | loop body ih =>
  intro lv n s kn kx kr A ρ tm w lim X Q hs h hsim hn hx hr
  simp only [ev] at h
  split at h
  case isFalse=>exact h.elim
  rename_i hok
  split at h
  case h_2=>exact h.elim
  rename_i init hinit
  obtain ⟨I,m,h0,hround⟩:=h
  have hlen:∀ {s':Tr} {ves:List VE},Yl P (gE E s') (E.keep (ZS body))=some ves→(ZJ (E.keep (ZS body)) 0).2=ves.length:=by
   intro s' ves hv
   have:=(YY (P:=P) (g:=gE E s') (ρ:=ρ) _ 0 ves [] hv rfl).1
   omega
  have key:∀ (k:Nat) (vs:List V) (tm:Array Value) (w:World) (lim:Nat→Nat) (X:Nat→Nat→Option Nat),m vs < k→vs.length=init.length→I vs→
    Sim c (ZQ E (Jt (ZJ (E.keep (ZS body)) 0).1 (.leaf .dead)) (bind Zdr 0 vs)) tm w lim X→Code.rounds P body Q k ⟨tm,[]⟩ w:=by
   intro k
   induction k with
   | zero => intro vs tm w lim X hlt; omega
   | succ k ihk =>
    intro vs tm w lim X hlt hlv hI hsim
    rw [rounds_succ]
    obtain ⟨k1,k2,k3,k4,k5,k6⟩:=Vk hok
    have hbd:Kt E (Jt (ZJ (E.keep (ZS body)) 0).1 (.leaf .dead)) (ZJ (E.keep (ZS body)) 0).2:=by
     refine JF hnt _ _ ?_ (fun d=>?_) (Zbl _ 0).2
     ·unfold K9
      rw [List.all_eq_true]
      intro u hu
      have h2:=(YY (P:=P) (g:=gE E s) (ρ:=ρ) _ 0 init [] hinit rfl).2.1
      have hm:u.1∈(E.keep (ZS body)).map (·.1):=by rw [← h2];exact List.mem_map.2 ⟨u,hu,rfl⟩
      obtain ⟨p,hp,he⟩:=List.mem_map.1 hm
      have:=(k2 p hp).1
      rw [he] at this
      simpa using this
     ·unfold gE
      split<;>trivial
    refine ih (lv+1) _ _ _ kx kr _ (bind Zdr 0 vs) tm w lim X _ hbd (hround vs hlv hI) hsim ?_ ?_ ?_
    ·intro s' n' ρ' A' hA hs' h' tm' w' lim' X' hsim'
     split at h'
     ·rename_i vals hvals
      have hAl:A' lv=fun vs'=>I vs'∧m vs' < m vs:=by
       rw [hA lv (Nat.lt_succ_self _)]
       funext vs'
       simp only [ZmK,if_true]
      have h'':A' lv (vals.map (VE.den ρ')):=h'
      rw [hAl] at h''
      obtain ⟨hI',hm'⟩:=h''
      obtain ⟨X2,hs2⟩:=Zfr hnt hcP hcn hpin hgpin hok Zdr hvals hsim'
      exact ihk _ tm' w' lim' X2 (by omega) (by rw [List.length_map,← hlen hvals,hlen hinit]) hI' hs2
     ·exact h'.elim
    ·intro id s' n' ρ' A' hA hs' h' tm' w' lim' X' hsim'
     exact hx id s' n' ρ' A' (fun i hi=>by rw [hA i (by omega)];funext vs';simp only [ZmK,Nat.ne_of_lt hi,if_false]) hs' h' tm' w' lim' X' hsim'
    ·intro s' n' ρ' A' hA hs' h' tm' w' lim' X' hsim'
     exact hr s' n' ρ' A' (fun i hi=>by rw [hA i (by omega)];funext vs';simp only [ZmK,Nat.ne_of_lt hi,if_false]) hs' h' tm' w' lim' X' hsim'
  obtain ⟨X0,hs0⟩:=Zfr hnt hcP hcn hpin hgpin hok Zdr hinit hsim
  exact wp_loop_rounds _ (key (m (init.map (VE.den ρ))+1) _ tm w lim X0 (Nat.lt_succ_self _) (by rw [List.length_map]) h0 hs0)
 | region id ops draw =>
  intro lv n s0 kn kx kr A ρ tm w lim0 X0 Q hs0 h hsim0 hn hx hr
  simp only [ev] at h
  obtain ⟨hs,lim,X,hsim⟩:=Zjp (P:=P) hnt hcP (id:=id) (ops:=ops) hs0 hsim0
  generalize Zo5 P E id ops s0=s at h hs hsim
  split at h
  ·rename_i x a d T neg htest
   split at h
   case h_2=>exact h.elim
   rename_i e l hT hl
   split at h
   case isFalse=>exact h.elim
   rename_i hh
   obtain ⟨ha,hd,hma,hmd,had,hxa⟩:=hh
   obtain ⟨o,p,U,hops,hgo,hgp,h1,h2,h3,h4⟩:=ZdY htest
   obtain ⟨va,k,cap,hv,hnil⟩:=Zgs hl (hsim.rel x)
   have hsz:ops.size=2:=by rw [← Array.length_toList,hops];rfl
   have ho0:ops[0]? = some o:=by rw [← Array.getElem?_toList,hops];rfl
   have ho1:ops[1]? = some p:=by rw [← Array.getElem?_toList,hops];rfl
   refine wp_region ?_
   rw [hsz,show List.range 2 = [0,1] from rfl,wpOps_cons]
   unfold wpOp
   simp only [ho0,Region.wanted,hgo]
   simp only [if_true]
   refine .inl (Zk (v:=.slice va k cap) (w':=w) ?_ ?_)
   ·have hev:Act.eval ⟨tm,[]⟩ (.tmp x)=tm.getD x undef:=rfl
    simp only [execOp,h1,hev,hv,Sem.run_pure]
   ·rw [wpOps_cons]
    unfold wpOp
    simp only [ho1,Region.wanted,hgp]
    simp only [if_true]
    have hea:Act.eval (Act.put ⟨tm,[]⟩ o.dst (.slice va k cap)) (.tmp a) = .slice va k cap:=by
     rw [h2]
     exact JS tm a _ (by rw [hsim.size,hcn];exact ha)
    refine .inl (Zk (v:=.bool (if neg=true then !va.isNone else va.isNone)) (w':=w) ?_ ?_)
    ·have hec:Act.eval (Act.put ⟨tm,[]⟩ o.dst (.slice va k cap)) (.const (.slice none 0 0)) = .slice none 0 0:=rfl
     have heq:=run_equal_slice_nil (P:=P) w T _ va k cap hT
     cases neg
     ·simp [execOp,h3,hea,hec,eqGuard,binOp,heq]
     ·simp [execOp,h3,hea,hec,eqGuard,binOp,heq]
    ·have hb:=h va.isNone hnil
     have hna:KV (ZQ E s ρ a):=ZB (J3 (a:=gE E s a) (b:=.dead) ρ hma)
     have hnd:KV (ZQ E s ρ d):=ZB (J3 (a:=gE E s d) (b:=.dead) ρ hmd)
     have s1:=hsim.put (k:=0) (x:=.dead) (v:=.slice va k cap) (by rw [hcn];exact ha) hna rfl trivial
     have s2:=s1.put (d:=d) (k:=0) (x:=.val (.bool (if neg=true then !va.isNone else va.isNone))) (v:=.bool (if neg=true then !va.isNone else va.isNone)) (by rw [hcn];exact hd) (by rw [Zi _ _ (Ne.symm had)];exact hnd) rfl (Rep.val rfl)
     have hbv:(BE.den (bind ρ n [.b va.isNone]) (if neg=true then .not (.var n) else .var n))=(if neg=true then !va.isNone else va.isNone):=by
      have hvar:bind ρ n [.b va.isNone] n = .b va.isNone:=by simp [bind]
      cases neg
      ·simp only [Bool.false_eq_true,if_false,BE.den,hvar,V.bool]
      ·simp only [if_true,BE.den,hvar,V.bool]
     have hσ:ZQ E ((s.set depth a .dead).set depth d (.c (.bool (if neg=true then .not (.var n) else .var n)))) (bind ρ n [.b va.isNone])=upd (upd (ZQ E s ρ) a .dead) d (.val (.bool (if neg=true then !va.isNone else va.isNone))):=by
      rw [J5 hnt (JM hd),J5 hnt (JM ha),Zbr hs (Zca ρ n _)]
      simp only [SV.den,SC.den,hbv]
     have hs2:Kt E ((s.set depth a .dead).set depth d (.c (.bool (if neg=true then .not (.var n) else .var n)))) (n+1):=by
      refine JC hnt (JM hd) (JC hnt (JM ha) (Zd5 hs (Nat.le_succ n)) trivial) ?_
      cases neg
      ·exact Nat.lt_succ_self n
      ·exact Nat.lt_succ_self n
     rw [h2,h4]
     show Q .normal ⟨(tm.setIfInBounds a (.slice va k cap)).setIfInBounds d (.bool (if neg=true then !va.isNone else va.isNone)),[]⟩ w
     exact hn _ _ _ A (fun _ _=>rfl) hs2 hb _ w lim _ (by rw [hσ];exact s2)
  ·split at h
   ·rename_i x i a b cc T htest _
    split at h
    case h_2=>exact h.elim
    rename_i e0 e l ie hT hgx hgi
    split at h
    case h_2=>exact h.elim
    rename_i inf hinf
    split at h
    case h_2=>exact h.elim
    rename_i z hz
    split at h
    case h_2=>exact h.elim
    rename_i zc sh hzc hsh
    split at h
    case h_2=>exact h.elim
    rename_i zc' hzc'
    split at h
    case isFalse=>exact h.elim
    rename_i hh
    obtain ⟨rfl,hzs,h0,hok⟩:=hh
    simp only [ZiM,Bool.and_eq_true,decide_eq_true_eq] at hok
    obtain ⟨⟨hxn,han,hbn,hcn',hxa,hxb,hxc,hia,hab,hac,hbc⟩,hma,hmb,hmc⟩:=hok
    obtain ⟨r1,r2,h⟩:=h
    have r1':(0:Int)≤ie.den ρ:=r1
    have r2':ie.den ρ≤((l.den ρ).length:Int):=r2
    obtain ⟨o,p,q,r,hops,hgo,hgp,hgq,hgr,h1,h2,h3,h4,h5,h6,⟨cl,h7,h9,h10,h11⟩,h8⟩:=Za6 htest
    have hσx:ZQ E s ρ x = .own true e (l.den ρ):=by show (gE E s x).den ρ=_;rw [hgx];rfl
    have hσi:ZQ E s ρ i = .val (.int .i64 (ie.den ρ)):=by show (gE E s i).den ρ=_;rw [hgi];rfl
    have hzd:=YC ρ z.cells.toList
    rw [hzc] at hzd
    have hzr0:∀ (w:World) (lim:Nat→Nat),JV w lim (zc.map (SC.den ρ)) z.cells.toList:=fun w lim=>Yo (h:=hzd.symm)
    have hzr:∀ (w:World) (lim:Nat→Nat),JV w lim (zc'.map (SC.den ρ)) z.cells.toList:=fun w lim=>(VD ρ _ _ _ hzc').2 w lim _ (hzr0 w lim)
    have h1z:∀ v∈z.cells.toList,v.oneCell'=true:=by
     intro v hv
     obtain ⟨j,hj⟩:=List.mem_iff_getElem?.1 hv
     have hjl:=(List.getElem?_eq_some_iff.1 hj).1
     have hr0:=hzr0 w lim
     have hjz:j < (zc.map (SC.den ρ)).length:=by rw [hr0.1];exact hjl
     exact (hr0.2.2 j _ v (List.getElem?_eq_getElem hjz) hj).oneCell (hr0.2.1 _ (List.getElem_mem hjz))
    obtain ⟨v2,w',X',hsl,hcl,hs',hmx⟩:=hsim.clear (x:=x) (n:=(ie.den ρ).toNat) (T:=T) (zc:=zc'.map (SC.den ρ)) hσx (by rw [hcP];exact hT) (by rw [hcP];exact hinf) hz hzs h0 hzr h1z (by omega)
    rw [hcP] at hsl hcl
    have hvi:tm.getD i undef = .int .i64 (ie.den ρ):=by
     have:=hsim.rel i
     rw [hσi] at this
     exact KC (show Rep w lim _ _ from this)
    have hin:((ie.den ρ).toNat:Int)=ie.den ρ:=by omega
    rw [hin] at hsl
    have hsz:ops.size=4:=by rw [← Array.length_toList,hops];rfl
    have ho0:ops[0]? = some o:=by rw [← Array.getElem?_toList,hops];rfl
    have ho1:ops[1]? = some p:=by rw [← Array.getElem?_toList,hops];rfl
    have ho2:ops[2]? = some q:=by rw [← Array.getElem?_toList,hops];rfl
    have ho3:ops[3]? = some r:=by rw [← Array.getElem?_toList,hops];rfl
    have hts:tm.size=E.nt:=by rw [hsim.size,hcn]
    refine wp_region ?_
    rw [hsz,show List.range 4 = [0,1,2,3] from rfl,wpOps_cons]
    unfold wpOp
    simp only [ho0,Region.wanted,hgo]
    simp only [if_true]
    refine .inl (Zk (v:=tm.getD x undef) (w':=w) ?_ ?_)
    ·have hev:Act.eval ⟨tm,[]⟩ (.tmp x)=tm.getD x undef:=rfl
     simp only [execOp,h1,hev,Sem.run_pure]
    rw [wpOps_cons]
    unfold wpOp
    simp only [ho1,Region.wanted,hgp]
    simp only [if_true]
    have e1:Act.eval (Act.put ⟨tm,[]⟩ o.dst (tm.getD x undef)) (.tmp i) = .int .i64 (ie.den ρ):=by
     rw [h2]
     exact (ZO tm a i _ hia).trans hvi
    refine .inl (Zk (v:=.int .i64 (ie.den ρ)) (w':=w) ?_ ?_)
    ·simp only [execOp,h3,e1,Sem.run_pure]
    rw [wpOps_cons]
    unfold wpOp
    simp only [ho2,Region.wanted,hgq]
    simp only [if_true]
    have e2:Act.eval (Act.put (Act.put ⟨tm,[]⟩ o.dst (tm.getD x undef)) p.dst (.int .i64 (ie.den ρ))) (.tmp a)=tm.getD x undef:=by
     rw [h2,h4]
     exact (ZO _ b a _ hab).trans (JS tm a _ (by rw [hts];exact han))
    have e3:Act.eval (Act.put (Act.put ⟨tm,[]⟩ o.dst (tm.getD x undef)) p.dst (.int .i64 (ie.den ρ))) (.tmp b) = .int .i64 (ie.den ρ):=by
     rw [h2,h4]
     exact JS _ b _ (by show b < (tm.setIfInBounds a _).size;rw [Array.size_setIfInBounds,hts];exact hbn)
    refine .inl (Zk (v:=v2) (w':=w) ?_ ?_)
    ·simp only [execOp,h5,Option.map_some,Option.map_none,Sem.run_bind,e2,e3,hsl,Result.andThen_ok,Sem.run_pure]
    rw [wpOps_cons]
    unfold wpOp
    simp only [ho3,Region.wanted,hgr]
    simp only [if_true]
    have e4:Act.eval (Act.put (Act.put (Act.put ⟨tm,[]⟩ o.dst (tm.getD x undef)) p.dst (.int .i64 (ie.den ρ))) q.dst v2) (.tmp cc)=v2:=by
     rw [h2,h4,h6]
     exact JS _ cc _ (by show cc < ((tm.setIfInBounds a _).setIfInBounds b _).size;rw [Array.size_setIfInBounds,Array.size_setIfInBounds,hts];exact hcn')
    refine .inl (Zk (v:=.tuple #[]) (w':=w') ?_ ?_)
    ·simp only [execOp,h7,h9,h10,h11,resolve,invoke,builtin,Sem.run_bind,Sem.run_pure,Result.andThen_ok,List.map_toArray,List.map_cons,List.map_nil,e4,hcl]
    have hna:KV (ZQ E s ρ a):=ZB (J3 (a:=gE E s a) (b:=.dead) ρ hma)
    have hnb:KV (ZQ E s ρ b):=ZB (J3 (a:=gE E s b) (b:=.dead) ρ hmb)
    have hnc:KV (ZQ E s ρ cc):=ZB (J3 (a:=gE E s cc) (b:=.dead) ρ hmc)
    have s1:=hs'.put (d:=a) (k:=0) (x:=.dead) (v:=tm.getD x undef) (by rw [hcn];exact han) (by rw [Zi _ _ (Ne.symm hxa)];exact hna) rfl trivial
    have s2:=s1.put (d:=b) (k:=0) (x:=.dead) (v:=.int .i64 (ie.den ρ)) (by rw [hcn];exact hbn) (by rw [Zi _ _ (Ne.symm hab),Zi _ _ (Ne.symm hxb)];exact hnb) rfl trivial
    have s3:=s2.put (d:=cc) (k:=0) (x:=.dead) (v:=v2) (by rw [hcn];exact hcn') (by rw [Zi _ _ (Ne.symm hbc),Zi _ _ (Ne.symm hac),Zi _ _ (Ne.symm hxc)];exact hnc) rfl trivial
    have hwr:iop .sub .i64 ((l.den ρ).length:Int) (ie.den ρ)=((l.den ρ).length:Int)-ie.den ρ:=by
     show IntKind.i64.wrap _=_
     rw [IntKind.wrap_i64]
     unfold maxLen at hmx
     omega
    have hlist:(LE.app (.take l ie) (.rep (.bin .sub .i64 (.len l) ie) (ZgJ zc'))).den ρ=(l.den ρ).take (ie.den ρ).toNat++List.replicate ((l.den ρ).length-(ie.den ρ).toNat) (zc'.map (SC.den ρ)):=by
     show (l.den ρ).take (ie.den ρ).toNat++List.replicate (iop .sub .i64 ((l.den ρ).length:Int) (ie.den ρ)).toNat ((ZgJ zc').den ρ)=_
     rw [hwr,VY]
     congr 2
     omega
    have bx:(gE E s x).bd n:=hs x
    have bi:(gE E s i).bd n:=hs i
    rw [hgx] at bx
    rw [hgi] at bi
    have hσ:ZQ E ((((s.set depth x (.own true e (.app (.take l ie) (.rep (.bin .sub .i64 (.len l) ie) (ZgJ zc'))))).set depth a .dead).set depth b .dead).set depth cc .dead) ρ=upd (upd (upd (upd (ZQ E s ρ) x (.own true e ((l.den ρ).take (ie.den ρ).toNat++List.replicate ((l.den ρ).length-(ie.den ρ).toNat) (zc'.map (SC.den ρ))))) a .dead) b .dead) cc .dead:=by
     rw [J5 hnt (JM hcn'),J5 hnt (JM hbn),J5 hnt (JM han),J5 hnt (JM hxn)]
     simp only [SV.den,hlist]
    have hs2:Kt E ((((s.set depth x (.own true e (.app (.take l ie) (.rep (.bin .sub .i64 (.len l) ie) (ZgJ zc'))))).set depth a .dead).set depth b .dead).set depth cc .dead) n:=
     JC hnt (JM hcn') (JC hnt (JM hbn) (JC hnt (JM han) (JC hnt (JM hxn) hs ⟨⟨bx,bi⟩,⟨bx,bi⟩,ZaX _ (Kn _ _ _ hzc' (KD hzc))⟩) trivial) trivial) trivial
    rw [h2,h4,h6,h8]
    exact hn _ _ ρ A (fun _ _=>rfl) hs2 h _ w' lim _ (by rw [hσ];exact s3)
   ·exact Zdx hm hps hnt (fun d hd=>ZfD ρ hd) hs h hcP hcn hsim fun s' n' ρ' hs' h'=>hn s' n' ρ' A (fun _ _=>rfl) hs' h'
 | _ => intro lv n s kn kx kr A ρ tm w lim X Q hs h hsim hn hx hr; exact h.elim
end
end Go.AM
end
