/- AmWeak, AmPat, AmCtl, AmFin, AmPlain, AmUse, AmRow, AmLift, AmRet: texts of the proof, put together. -/
import Derived.Test.YtigknndkmlhmfaaM4
import Derived.LoopN
import Derived.Scope
import Derived.Laws.Cover3
import Derived.Laws.StructEq
import Derived.ChangeArms
import Derived.ChangeStays
import Derived.ChangeBook
import Derived.ChangeSame
import Derived.RowKit
import Derived.ChangeOld
import GoSem.ClaimJoined
import GoSem.ClaimOpenFrom
import Derived.KernelRfl

section
namespace Go.AM
inductive Yi (P:Program):AV→AV→Prop
 | same {x : AV} (h : x.isCell = true ∨ ∃ b e xs, x = .own b e xs) : Yi P x x
 | nil {s s' : Nat} {f : Bool} : Yi P (.slice true s []) (.slice f s' [])
 | imm {f : Bool} {s : Nat} {xs : List (List AV)} : Yi P (.slice f s xs) (.slice false s xs)
 | immN {f : Bool} {s s' : Nat} : Yi P (.slice f s []) (.slice false s' [])
 | own {e : TypeId} {xs : List (List AV)} : Yi P (.own false e xs) (.slice false (P.cellsOf e) xs)
 | ownN {b b' : Bool} {e : TypeId} (h : e < 2097152) : Yi P (.own b e []) (.own b' e [])
 | ownZ {b : Bool} {e : TypeId} {s : Nat} : Yi P (.own b e []) (.slice false s [])
 | give {b : Bool} {s : Nat} {e : TypeId} (h : e < 2097152) : Yi P (.slice true s []) (.own b e [])
theorem Ze9 {w:World} {lim:Nat→Nat} {b:Bool} {e:TypeId} {xs:List (List AV)} {v:Value} (h:Rep w lim (.own b e xs) v):False:=by cases h
theorem WF {P:Program} {w:World} {lim:Nat→Nat} {b b':Bool} {e:TypeId} {v:Value} {ob:Option Nat} (h:WW P w lim b e [] v ob):WW P w lim b' e [] v ob:=by
 rcases h with ⟨us,h1,h2,h3,h4,h5,h6⟩ | h
 ·have hu:us = []:=List.eq_nil_of_length_eq_zero (by rw [h1.1];simp)
  subst hu
  refine .inl ⟨[],h1,h2,fun b0 hb=>?_,h4,h5,h6⟩
  have:=h3 b0 hb
  rw [this]
  simp
 ·exact .inr h
theorem Zji {P:Program} {w:World} {lim:Nat→Nat} {b:Bool} {e:TypeId} {v:Value} {ob:Option Nat} (h:ZP P w lim b e [] v ob):WW P w lim b e [] v ob∨WW P w lim true (bT e) [] v ob∧Ze P e=true:=by
 rcases h with h | h | ⟨_,⟨_,_,_,_,_,_,_,_,_,_,_,h,_⟩ | h | ⟨_,_,_,_,_,_,_,_,_,_,_,h,_⟩⟩
 ·exact .inl (.inl h)
 ·exact .inl (.inr h)
 ·obtain ⟨_,h⟩:=h;cases h
 ·exact .inr ⟨h.2.2,h.1⟩
 ·cases h
theorem Zh9 {P:Program} {w:World} {lim:Nat→Nat} {b b':Bool} {e:TypeId} {v:Value} {ob:Option Nat} (he:e < 2097152) (h:ZP P w lim b e [] v ob):ZP P w lim b' e [] v ob:=by
 rcases Zji h with h | ⟨_,h⟩
 ·exact (WF h).own
 ·rw [J7 he] at h;cases h
theorem ZlD {P:Program} {w:World} {lim:Nat→Nat} {b:Bool} {e:TypeId} {s:Nat} {v:Value} {ob:Option Nat} (h:ZP P w lim b e [] v ob):Rep w lim (.slice false s []) v:=by
 rcases Zji h with h | ⟨h,_⟩
 ·exact K0 (f:=false) (fun h=>h) (ZP.rep (WF (b':=false) h).own false rfl)
 ·exact K0 (f:=false) (fun h=>h) (ZP.rep (WF (b':=false) h).own false rfl)
theorem Zkp {P:Program} {w:World} {lim:Nat→Nat} {x y:AV} {v:Value} (h:Rep w lim x v) (hw:Yi P x y) (hy:y.isCell=true):Rep w lim y v:=by
 cases hw with
 | same _ => exact h
 | nil => exact K0 (fun _ => rfl) h
 | imm => exact ZfD h
 | immN => exact K0 (fun h => by cases h) h
 | own => exact (Ze9 h).elim
 | ownN _ => exact (Ze9 h).elim
 | ownZ => exact (Ze9 h).elim
 | give _ => cases hy
theorem Zix {P:Program} {w:World} {lim:Nat→Nat} {ob:Option Nat} {x y:AV} {v:Value} (h:J0 P w lim ob x v) (hw:Yi P x y):∃ ob',(ob'=ob∨ob'=none)∧((∃ b e xs,x = .own b e xs)→ob'=ob)∧J0 P w lim ob' y v:=by
 cases hw with
 | same _ => exact ⟨ob, .inl rfl, fun _ => rfl, h⟩
 | nil => exact ⟨ob, .inl rfl, fun _ => rfl, K0 (fun _ => rfl) h⟩
 | imm => exact ⟨ob, .inl rfl, fun _ => rfl, ZfD h⟩
 | immN => exact ⟨ob, .inl rfl, fun _ => rfl, K0 (fun h => by cases h) h⟩
 | own => exact ⟨ob, .inl rfl, fun _ => rfl, ZP.rep h false rfl⟩
 | ownN he => exact ⟨ob, .inl rfl, fun _ => rfl, Zh9 he h⟩
 | ownZ => exact ⟨ob, .inl rfl, fun _ => rfl, ZlD h⟩
 | give _ => exact ⟨none, .inr rfl, fun ⟨_, _, _, h⟩ => (by cases h), Zaq h⟩
inductive Zad (P:Program):AV→AV→Prop
 | cell {x y : AV} (h : Yi P x y) : Zad P x y
 | agg {cs cs' : List AV} (hl : cs.length = cs'.length) (hc : ∀ c ∈ cs', c.isCell = true) (h : ∀ (i : Nat) (c c' : AV), cs[i]? = some c → cs'[i]? = some c' → Yi P c c') : Zad P (.agg cs) (.agg cs')
theorem Zmj {w:World} {lim:Nat→Nat} {cs:List AV} {v:Value} (h:Rep w lim (.agg cs) v):∃ vs:List Value,v = .agg vs.toArray∧cs.length=vs.length∧
  ∀ (i:Nat) (c:AV) (v:Value),cs[i]? = some c→vs[i]? = some v→Rep w lim c v:=by
 cases h with
 | agg hl hc hr => exact ⟨_, rfl, hl, hr⟩
theorem ZdT {P:Program} {w:World} {lim:Nat→Nat} {ob:Option Nat} {x y:AV} {v:Value} (h:J0 P w lim ob x v) (hw:Zad P x y):∃ ob',(ob'=ob∨ob'=none)∧((∃ b e xs,x = .own b e xs)→ob'=ob)∧J0 P w lim ob' y v:=by
 cases hw with
 | cell hw => exact Zix h hw
 | @agg cs cs' hl hc hp =>
  refine ⟨ob,.inl rfl,fun _=>rfl,?_⟩
  obtain ⟨vs,rfl,h1,h2⟩:=Zmj (show Rep w lim (.agg cs) v from h)
  refine Rep.agg (by omega) hc fun i c' u hc' hu=>?_
  obtain ⟨c,hcc⟩:∃ c,cs[i]? = some c:=⟨_,List.getElem?_eq_getElem (by rw [hl];exact (List.getElem?_eq_some_iff.1 hc').1)⟩
  exact Zkp (h2 i c u hcc hu) (hp i c c' hcc hc') (hc c' (List.mem_of_getElem? hc'))
theorem Wt {P:Program} {w:World} {lim:Nat→Nat} {cs cs':List AV} {us:List Value} {Y:Nat→Option Nat} (hl:cs.length=cs'.length) (h:∀ (i:Nat) (c:AV) (u:Value),cs[i]? = some c→us[i]? = some u→J0 P w lim (Y i) c u)
  (hw:∀ (i:Nat) (c c':AV),cs[i]? = some c→cs'[i]? = some c'→Zad P c c') :
  ∃ r:Nat→Option Nat,(∀ i,r i=Y i∨r i=none)∧(∀ (i:Nat) (c':AV),i < us.length→cs'[i]? = some c'→(∃ b e xs,cs[i]? = some (.own b e xs))→r i=Y i)∧∀ (i:Nat) (c':AV) (u:Value),cs'[i]? = some c'→us[i]? = some u→J0 P w lim (r i) c' u:=by
 have key:∀ i,∃ ob:Option Nat,(ob=Y i∨ob=none)∧(∀ (c':AV),i < us.length→cs'[i]? = some c'→(∃ b e xs,cs[i]? = some (.own b e xs))→ob=Y i)∧∀ (c':AV) (u:Value),cs'[i]? = some c'→us[i]? = some u→J0 P w lim ob c' u:=by
  intro i
  cases hc':cs'[i]? with
  | none => exact ⟨none, .inr rfl, fun c' _ h => (by cases h), fun c' u h => by cases h⟩
  | some c' =>
   cases hu:us[i]? with
   | none => exact ⟨none, .inr rfl, fun c' hlt _ => (by have := List.getElem?_eq_none_iff.1 hu; omega), fun c' u _ h => by cases h⟩
   | some u =>
    obtain ⟨c,hc⟩:∃ c,cs[i]? = some c:=⟨_,List.getElem?_eq_getElem (by rw [hl];exact (List.getElem?_eq_some_iff.1 hc').1)⟩
    obtain ⟨ob,h1,h3,h2⟩:=ZdT (h i c u hc hu) (hw i c c' hc hc')
    refine ⟨ob,h1,fun _ _ _ ⟨b,e,xs,hx⟩=>h3 ⟨b,e,xs,by rw [hc] at hx;exact Option.some.inj hx⟩,fun c2 u2 e1 e2=>?_⟩
    cases e1
    cases e2
    exact h2
 obtain ⟨r,hr⟩:=Classical.axiomOfChoice key
 exact ⟨r,fun i=>(hr i).1,fun i=>(hr i).2.1,fun i=>(hr i).2.2⟩
inductive Yt (P:Program):AV→AV→Prop
 | dead {x : AV} : Yt P x .dead
 | comp {x y : AV} (h : Zad P x y) : Yt P x y
 | tuple {cs cs' : List AV} (hl : cs.length = cs'.length) (h : ∀ (i : Nat) (c c' : AV), cs[i]? = some c → cs'[i]? = some c' → Zad P c c') : Yt P (.tuple cs) (.tuple cs')
 | box {cs cs' : List AV} (hl : cs.length = cs'.length) (h : ∀ (i : Nat) (c c' : AV), cs[i]? = some c → cs'[i]? = some c' → Yi P c c') : Yt P (.box cs) (.box cs')
 | gbox {cs cs' : List AV} (hl : cs.length = cs'.length) (h : ∀ (i : Nat) (c c' : AV), cs[i]? = some c → cs'[i]? = some c' → Yi P c c') : Yt P (.gbox cs) (.gbox cs')
 | aggo {cs cs' : List AV} (hl : cs.length = cs'.length) (h : ∀ (i : Nat) (c c' : AV), cs[i]? = some c → cs'[i]? = some c' → Yi P c c') : Yt P (.aggo cs) (.aggo cs')
theorem Yf {P:Program} {x y:AV} (h:Yi P x y):y.isCell=true∨∃ b e xs,y = .own b e xs:=by
 cases h with
 | same h => exact h
 | nil => exact .inl rfl
 | imm => exact .inl rfl
 | immN => exact .inl rfl
 | own => exact .inl rfl
 | ownN _ => exact .inr ⟨_, _, _, rfl⟩
 | ownZ => exact .inl rfl
 | give _ => exact .inr ⟨_, _, _, rfl⟩
theorem WD {P:Program} {x y:AV} (h:Yi P x y):x.isCell=true∨∃ b e xs,x = .own b e xs:=by
 cases h with
 | same h => exact h
 | nil => exact .inl rfl
 | imm => exact .inl rfl
 | immN => exact .inl rfl
 | own => exact .inr ⟨_, _, _, rfl⟩
 | ownN _ => exact .inr ⟨_, _, _, rfl⟩
 | ownZ => exact .inr ⟨_, _, _, rfl⟩
 | give _ => exact .inl rfl
theorem ZaB {P:Program} {e e':TypeId} {xs xs':List (List AV)} (h:Yi P (.own true e xs) (.own true e' xs')):e'=e∧xs'=xs:=by
 cases h with
 | same _ => exact ⟨rfl, rfl⟩
 | ownN _ => exact ⟨rfl, rfl⟩
theorem Zcx {P:Program} {x:AV} {e:TypeId} {xs:List (List AV)} (h:Yi P x (.own true e xs)) (hd:Ze P e=true):x = .own true e xs:=by
 cases h with
 | same _ => rfl
 | ownN he => rw [J7 he] at hd; cases hd
 | give he => rw [J7 he] at hd; cases hd
theorem Zhy {P:Program} {x:AV} {e:TypeId} {xs:List (List AV)} (h:Zad P x (.own true e xs)) (hd:Ze P e=true):x = .own true e xs:=by
 cases h with
 | cell h => exact Zcx h hd
theorem Vb {P:Program} {cs cs':List AV} (hl:cs.length=cs'.length) (h:∀ (i:Nat) (c c':AV),cs[i]? = some c→cs'[i]? = some c'→Zad P c c') {k:Nat} {e:TypeId} {xs:List (List AV)}
  (hy:(match cs'[k]? with | some (.own true e xs)=>some (e,xs) | _=>none)=some (e,xs)) (hd:Ze P e=true):(match cs[k]? with | some (.own true e xs)=>some (e,xs) | _=>none)=some (e,xs):=by
 split at hy
 ·rename_i e' xs' hk
  simp only [Option.some.injEq,Prod.mk.injEq] at hy
  obtain ⟨rfl,rfl⟩:=hy
  obtain ⟨c,hc⟩:∃ c,cs[k]? = some c:=⟨_,List.getElem?_eq_getElem (by rw [hl];exact (List.getElem?_eq_some_iff.1 hk).1)⟩
  have:=Zhy (h k c _ hc hk) hd
  subst this
  rw [hc]
 ·cases hy
theorem ZcP {P:Program} {x y:AV} (h:Yt P x y) {k:Nat} {e:TypeId} {xs:List (List AV)} (hy:ZQ y k=some (e,xs)) (hd:Ze P e=true):ZQ x k=some (e,xs):=by
 cases h with
 | dead => cases k <;> cases hy
 | comp h =>
  cases h with
  | agg _ _ _ => cases k <;> cases hy
  | cell h =>
   rcases Yf h with hc | ⟨b,e',xs',rfl⟩
   ·cases y<;>simp [AV.isCell] at hc<;>(cases k<;>cases hy)
   ·cases b with
    | false => cases k <;> cases hy
    | true =>
     cases k with
     | zero =>
      simp only [ZQ,Option.some.injEq,Prod.mk.injEq] at hy
      obtain ⟨rfl,rfl⟩:=hy
      rw [Zcx h hd]
      rfl
     | succ k => cases hy
 | tuple hl h => cases k with | zero => cases hy | succ k => exact Vb hl h hy hd
 | box hl h => cases k with | zero => cases hy | succ k => exact Vb hl (fun i c c' h1 h2 => .cell (h i c c' h1 h2)) hy hd
 | gbox hl h => cases k with | zero => cases hy | succ k => exact Vb hl (fun i c c' h1 h2 => .cell (h i c c' h1 h2)) hy hd
 | aggo hl h => cases k with | zero => cases hy | succ k => exact Vb hl (fun i c c' h1 h2 => .cell (h i c c' h1 h2)) hy hd
theorem ZcN {P:Program} {w:World} {lim:Nat→Nat} {Y:Nat→Option Nat} {cs cs':List AV} {v:Value} (h:ZB P w lim Y cs v) (hl:cs.length=cs'.length)
  (hp:∀ (i:Nat) (c c':AV),cs[i]? = some c→cs'[i]? = some c'→Yi P c c'):∃ r:Nat→Option Nat,(∀ k,r k=Y k∨r k=none)∧r 0=Y 0∧(∀ k,(∃ p,Zj (.box cs) k=some p)→r k=Y k)∧ZB P w lim r cs' v:=by
 obtain ⟨b,arr,t,h1,rfl,h3,h4,h5,h6,h7⟩:=h
 obtain ⟨r,g1,g3,g2⟩:=Wt (P:=P) (w:=w) (lim:=lim) (us:=arr.toList) (Y:=fun i=>Y (i+1)) hl (fun i c u hc hu=>h7 i c u hc (by simpa using hu)) (fun i c c' hc hc'=>.cell (hp i c c' hc hc'))
 refine ⟨fun k=>match k with | 0=>Y 0 | k+1=>r k,fun k=>?_,rfl,fun k hk=>?_,?_⟩
 ·cases k with
  | zero => exact .inl rfl
  | succ k => exact g1 k
 ·obtain ⟨⟨e,xs⟩,hk⟩:=hk
  rcases Zs hk with ⟨h,_⟩ | ⟨ds,q,hd,rfl,hq⟩ | ⟨_,_,h,_⟩
  case inr.inr=>cases h
  ·cases h
  ·cases hd
   have hlt:=(List.getElem?_eq_some_iff.1 hq).1
   exact g3 q _ (by simp;omega) (List.getElem?_eq_getElem (by rw [← hl];exact hlt)) ⟨_,_,_,hq⟩
 ·refine ⟨b,arr,t,h1,rfl,h3,by rw [h4,hl],h5,fun c hc=>?_,fun i c u hc hu=>g2 i c u hc (by simpa using hu)⟩
  obtain ⟨i,hi⟩:=List.mem_iff_getElem?.1 hc
  obtain ⟨c0,hc0⟩:∃ c0,cs[i]? = some c0:=⟨_,List.getElem?_eq_getElem (by rw [hl];exact (List.getElem?_eq_some_iff.1 hi).1)⟩
  exact (Yf (hp i c0 c hc0 hi)).imp id .inl
theorem Yc {P:Program} {x y:AV} (h:Zad P x y):y.isB=false:=by
 cases h with
 | agg _ _ _ => rfl
 | cell h =>
  rcases Yf h with hy | ⟨_,_,_,rfl⟩
  ·cases y<;>first | rfl | (simp [AV.isCell] at hy)
  ·rfl
theorem ZiH {P:Program} {x y:AV} (h:Yt P x y) (hy:y.isG=true):x.isG=true:=by
 cases h with
 | gbox _ _ => rfl
 | comp h => have := Yc h; rw [WC hy] at this; cases this
 | _ => cases hy
theorem Zj0 {P:Program} {x y:AV} (h:Zad P x y):(∀ d o,y≠.ptr d o)∧(∀ d k,y≠.mref d k)∧∀ g ds,y≠.clo g ds:=by
 cases h with
 | agg _ _ _ => exact ⟨fun _ _ h => (by cases h), fun _ _ h => (by cases h), fun _ _ h => (by cases h)⟩
 | cell hw =>
  refine ⟨fun _ _ e=>?_,fun _ _ e=>?_,fun _ _ e=>?_⟩ <;> subst e<;>rcases Yf hw with h | ⟨_,_,_,h⟩ <;> cases h
theorem Wk {P:Program} {x y:AV} (h:Yt P x y):(∀ d o,y≠.ptr d o)∧(∀ d k,y≠.mref d k)∧∀ g ds,y≠.clo g ds:=by
 cases h with
 | comp hw => exact Zj0 hw
 | _ => exact ⟨fun _ _ h => (by cases h), fun _ _ h => (by cases h), fun _ _ h => (by cases h)⟩
theorem ZeD {P:Program} {x y:AV} (h:Yt P x y) {k:Nat} {e e':TypeId} {xs xs':List (List AV)} (hx:Zj x k=some (e,xs)) (hy:Zj y k=some (e',xs')):e'=e∧xs'=xs:=by
 rcases Zs hx with ⟨rfl,rfl⟩ | ⟨cs,q,rfl,rfl,hq⟩ | ⟨cs,q,rfl,rfl,hq⟩
 ·rcases Zs hy with ⟨rfl,_⟩ | ⟨_,_,_,h0,_⟩ | ⟨_,_,_,h0,_⟩
  ·cases h with
   | comp hw =>
    cases hw with
    | cell hc => exact ZaB hc
  ·cases h0
  ·cases h0
 ·rcases Zs hy with ⟨_,h0⟩ | ⟨cs',q',rfl,h0,hq'⟩ | ⟨cs',q',rfl,h0,hq'⟩
  ·cases h0
  ·cases h0
   cases h with
   | comp hw => have := Yc hw; cases this
   | box hl hp => exact ZaB (hp q _ _ hq hq')
  ·cases h with
   | comp hw => have := Yc hw; cases this
 ·rcases Zs hy with ⟨_,h0⟩ | ⟨cs',q',rfl,h0,hq'⟩ | ⟨cs',q',rfl,h0,hq'⟩
  ·cases h0
  ·cases h with
   | comp hw => have := Yc hw; cases this
  ·cases h0
   cases h with
   | comp hw => have := Yc hw; cases this
   | gbox hl hp => exact ZaB (hp q _ _ hq hq')
theorem ZeE {P:Program} {w:World} {lim:Nat→Nat} {X:Nat→Nat→Option Nat} {σ:Nat→AV} {d:Nat} {x y:AV} {v:Value} (h:ZJ P w lim X σ d x v) (hw:Yt P x y) :
  ∃ r:Nat→Option Nat,(∀ k,r k=X d k∨r k=none)∧(y.isB=true→r 0=X d 0)∧(∀ k,(∃ p,Zj x k=some p)→(∃ p,Zj y k=some p)→r k=X d k)∧∀ (X':Nat→Nat→Option Nat) (σ':Nat→AV) (d':Nat),X' d'=r→ZJ P w lim X' σ' d' y v:=by
 cases hw with
 | dead => exact ⟨fun _ => none, fun _ => .inr rfl, fun h => (by cases h), fun k _ ⟨p, hp⟩ => (by rcases Zs (e := p.1) (xs := p.2) hp with ⟨h, _⟩ | ⟨_, _, h, _⟩ | ⟨_, _, h, _⟩ <;> cases h), fun _ _ _ _ => trivial⟩
 | comp hw =>
  have hnb:=Yc hw
  have hc:J0 P w lim (X d 0) x v:=by
   cases hw with
   | agg hl hc hp => exact h
   | cell hw =>
    rcases WD hw with hx | ⟨b,e,xs,rfl⟩
    ·cases x<;>simp [AV.isCell] at hx<;>exact h
    ·exact h
  obtain ⟨ob,h1,h4,h2⟩:=ZdT hc hw
  refine ⟨fun k=>if k=0 then ob else none,fun k=>?_,fun h=>by (rw [hnb] at h;cases h),fun k ⟨p,hp⟩ _=>?_,fun X' σ' d' hX=>?_⟩
  ·dsimp only
   split
   ·rename_i hk;subst hk;exact h1
   ·exact .inr rfl
  ·rcases Zs (e:=p.1) (xs:=p.2) hp with ⟨hx,rfl⟩ | ⟨cs,q,hx,_⟩ | ⟨cs,q,hx,_⟩
   case inr.inr=>
    subst hx
    cases hw with
    | cell hw => rcases WD hw with h | ⟨_, _, _, h⟩ <;> cases h
   ·exact h4 ⟨_,_,_,hx⟩
   ·subst hx
    cases hw with
    | cell hw => rcases WD hw with h | ⟨_, _, _, h⟩ <;> cases h
  ·have h3:X' d' 0=ob:=by rw [hX];rfl
   cases hw with
   | agg hl hc hp => exact h2
   | cell hw =>
    rcases Yf hw with hy | ⟨b,e,xs,rfl⟩
    ·cases y<;>simp [AV.isCell] at hy<;>exact h2
    ·show ZP P w lim b e xs v (X' d' 0)
     rw [h3]
     exact h2
 | @tuple cs cs' hl hp =>
  obtain ⟨us,rfl,h2,h3⟩:=h
  obtain ⟨r,g1,_,g2⟩:=Wt (Y:=fun i=>X d (i+1)) hl h3 hp
  refine ⟨fun k=>match k with | 0=>none | k+1=>r k,fun k=>?_,fun h=>(by cases h),fun k ⟨p,hp⟩ _=>(by rcases Zs (e:=p.1) (xs:=p.2) hp with ⟨h,_⟩ | ⟨_,_,h,_⟩ | ⟨_,_,h,_⟩ <;> cases h),fun X' σ' d' hX=>?_⟩
  ·cases k with
   | zero => exact .inr rfl
   | succ k => exact g1 k
  ·refine ⟨us,rfl,by rw [h2,hl],fun i c u hc hu=>?_⟩
   have:X' d' (i+1)=r i:=by rw [hX]
   rw [this]
   exact g2 i c u hc hu
 | @box cs cs' hl hp =>
  obtain ⟨r,g1,g2,g4,g3⟩:=ZcN h hl hp
  exact ⟨r,g1,fun _=>g2,fun k hk _=>g4 k hk,fun X' σ' d' hX=>by (show ZB P w lim (X' d') cs' v;rw [hX];exact g3)⟩
 | @gbox cs cs' hl hp =>
  obtain ⟨v',h⟩:=h
  obtain ⟨r,g1,g2,g4,g3⟩:=ZcN h hl hp
  exact ⟨r,g1,fun _=>g2,fun k hk _=>g4 k (by cases k<;>exact hk),fun X' σ' d' hX=>⟨v',by rw [hX];exact g3⟩⟩
 | @aggo cs cs' hl hp =>
  obtain ⟨us,rfl,h2,h4,h3⟩:=h
  obtain ⟨r,g1,_,g2⟩:=Wt (Y:=fun i=>X d (i+1)) hl h3 (fun i c c' h1 h2=>.cell (hp i c c' h1 h2))
  refine ⟨fun k=>match k with | 0=>none | k+1=>r k,fun k=>?_,fun h=>(by cases h),fun k ⟨p,hp⟩ _=>(by rcases Zs (e:=p.1) (xs:=p.2) hp with ⟨h,_⟩ | ⟨_,_,h,_⟩ | ⟨_,_,h,_⟩ <;> cases h),fun X' σ' d' hX=>?_⟩
  ·cases k with
   | zero => exact .inr rfl
   | succ k => exact g1 k
  ·refine ⟨us,rfl,by rw [h2,hl],fun c hc=>?_,fun i c u hc hu=>?_⟩
   ·obtain ⟨i,hi⟩:=List.mem_iff_getElem?.1 hc
    obtain ⟨c0,hc0⟩:∃ c0,cs[i]? = some c0:=⟨_,List.getElem?_eq_getElem (by rw [hl];exact (List.getElem?_eq_some_iff.1 hi).1)⟩
    exact Yf (hp i c0 c hc0 hi)
   ·have:X' d' (i+1)=r i:=by rw [hX]
    rw [this]
    exact g2 i c u hc hu
theorem ZI.wider {w:World} {lim:Nat→Nat} {w':World} {lim':Nat→Nat} {S S':Nat→Prop} (h:ZI w lim w' lim' S) (hs:∀ b,S b→S' b):ZI w lim w' lim' S':=
 ⟨h.os,h.tape,h.output,h.size,h.frz,fun b hb hn=>h.blk b hb fun hS=>hn (hs b hS),h.ext⟩
def Zol (bs:List AV) (a b:AV):Prop:=∃ g ds,a = .clo g ds∧b = .clo g ds∧∀ d∈ds,(ZG bs d).isB=true
def ZmF (bs:List AV) (a b:AV):Prop:=∃ j q,a = .mref j q∧b = .mref j q∧∃ p,Zj (ZG bs j) q=some p
def KG (P:Program) (aZ bs:List AV):Prop:=aZ.length=bs.length∧∀ (i:Nat) (a b:AV),aZ[i]? = some a→bs[i]? = some b→Yt P a b∨Zol bs a b∨ZmF bs a b
theorem VV {P:Program} {aZ bs:List AV} (h:KG P aZ bs) (i:Nat):Yt P (ZG aZ i) (ZG bs i)∨Zol bs (ZG aZ i) (ZG bs i)∨ZmF bs (ZG aZ i) (ZG bs i):=by
 cases hb:bs[i]? with
 | none =>
  have:ZG bs i = .dead:=by simp [ZG,hb]
  rw [this]
  exact .inl .dead
 | some b =>
  obtain ⟨a,ha⟩:∃ a,aZ[i]? = some a:=⟨_,List.getElem?_eq_getElem (by rw [h.1];exact (List.getElem?_eq_some_iff.1 hb).1)⟩
  have h1:ZG aZ i=a:=by simp [ZG,ha]
  have h2:ZG bs i=b:=by simp [ZG,hb]
  rw [h1,h2]
  exact h.2 i a b ha hb
theorem ZcS {P:Program} {aZ bs:List AV} (h:KG P aZ bs) {i:Nat} (hi:(ZG bs i).isG=true):(ZG aZ i).isG=true:=by
 rcases VV h i with h1 | ⟨g,ds,_,h1,_⟩ | ⟨_,_,_,h1,_⟩
 ·exact ZiH h1 hi
 ·rw [h1] at hi;cases hi
 ·rw [h1] at hi;cases hi
theorem Zd7:∀ (aZ bs:List AV),aZ.length=bs.length→(∀ (i:Nat) (a b:AV),aZ[i]? = some a→bs[i]? = some b→b.isG=true→a.isG=true)→bs.countP AV.isG≤aZ.countP AV.isG
 | [], [], _, _ => Nat.le_refl _
 | [], _ :: _, h, _ => by simp at h
 | _ :: _, [], h, _ => by simp at h
 | a :: aZ, b :: bs, hl, h => by
  have ih:=Zd7 aZ bs (by simpa using hl) fun i x y hx hy=>h (i+1) x y (by simpa using hx) (by simpa using hy)
  have h0:=h 0 a b rfl rfl
  rw [List.countP_cons,List.countP_cons]
  by_cases hb:b.isG=true
  ·rw [if_pos hb,if_pos (h0 hb)];omega
  ·rw [if_neg hb];split<;>omega
theorem Zey {P:Program} {aZ bs:List AV} (h:KG P aZ bs):bs.countP AV.isG≤aZ.countP AV.isG:=
 Zd7 aZ bs h.1 fun i a b ha hb hg=>by
  have h1:ZG aZ i=a:=by simp [ZG,ha]
  have h2:ZG bs i=b:=by simp [ZG,hb]
  have:=ZcS h (i:=i) (by rw [h2];exact hg)
  rwa [h1] at this
theorem Zb5 {P:Program} {w:World} {lim:Nat→Nat} {X:Nat→Nat→Option Nat} {aZ bs:List AV} {vs:Nat→Value} (h:∀ i,ZJ P w lim X (ZG aZ) i (ZG aZ i) (vs i)) (hw:KG P aZ bs) :
  ∃ X':Nat→Nat→Option Nat,(∀ i k,X' i k=X i k∨X' i k=none)∧(∀ i,(ZG bs i).isB=true→X' i 0=X i 0)∧(∀ i,ZJ P w lim X' (ZG bs) i (ZG bs i) (vs i))∧∀ i,aZ.length≤i→X' i=X i:=by
 have key:∀ i,∃ r:Nat→Option Nat,(aZ.length≤i→r=X i)∧(∀ k,r k=X i k∨r k=none)∧((ZG bs i).isB=true→r 0=X i 0)∧((∀ g ds,ZG bs i≠.clo g ds)→(∀ j q,ZG bs i≠.mref j q)→∀ X':Nat→Nat→Option Nat,X' i=r→ZJ P w lim X' (ZG bs) i (ZG bs i) (vs i))∧
   ∀ k e xs e' xs',Zj (ZG aZ i) k=some (e,xs)→Zj (ZG bs i) k=some (e',xs')→e'=e∧xs'=xs∧r k=X i k:=by
  intro i
  by_cases hli:aZ.length≤i
  ·have hdb:ZG bs i = .dead:=by
    have:bs[i]? = none:=List.getElem?_eq_none (by rw [← hw.1];exact hli)
    simp [ZG,this]
   exact ⟨X i,fun _=>rfl,fun _=>.inl rfl,fun _=>rfl,fun _ _ X' _=>by rw [hdb];trivial,fun k e xs e' xs' _ hy=>by (rw [hdb] at hy;cases hy)⟩
  rcases VV hw i with h1 | ⟨g,ds,_,h1,_⟩ | ⟨_,_,_,h1,_⟩
  ·obtain ⟨r,g1,g2,g4,g3⟩:=ZeE (h i) h1
   refine ⟨r,fun h=>(hli h).elim,g1,g2,fun _ _ X' hX=>g3 X' _ _ hX,fun k e xs e' xs' hx hy=>?_⟩
   obtain ⟨h2,h3⟩:=ZeD h1 hx hy
   exact ⟨h2,h3,g4 k ⟨_,hx⟩ ⟨_,hy⟩⟩
  ·exact ⟨fun _=>none,fun h=>(hli h).elim,fun _=>.inr rfl,fun hb=>by (rw [h1] at hb;cases hb),fun hn _=>(hn g ds h1).elim,fun k e xs e' xs' _ hy=>by (rw [h1] at hy;cases hy)⟩
  ·exact ⟨fun _=>none,fun h=>(hli h).elim,fun _=>.inr rfl,fun hb=>by (rw [h1] at hb;cases hb),fun _ hn=>(hn _ _ h1).elim,fun k e xs e' xs' _ hy=>by (rw [h1] at hy;cases hy)⟩
 obtain ⟨X',hX⟩:=Classical.axiomOfChoice key
 refine ⟨X',fun i=>(hX i).2.1,fun i=>(hX i).2.2.1,fun i=>?_,fun i=>(hX i).1⟩
 rcases VV hw i with h1 | ⟨g',ds',h0,h1,h2⟩ | ⟨j,q,h0,h1,p,h2⟩
 ·exact (hX i).2.2.2.1 (fun g ds e=>(Wk h1).2.2 g ds e) (fun j q e=>(Wk h1).2.1 j q e) X' rfl
 ·have hi:=h i
  rw [h0] at hi
  rw [h1]
  obtain ⟨bs',m1,m2,m3⟩:=hi
  refine ⟨bs',m1,m2,fun k d b hd hb=>?_⟩
  have hB:=h2 d (List.mem_of_getElem? hd)
  exact ⟨((hX d).2.2.1 hB).trans (m3 k d b hd hb).1,hB⟩
 ·have hi:=h i
  rw [h0] at hi
  rw [h1]
  obtain ⟨e,xs,m1,m2⟩:=hi
  obtain ⟨e',xs'⟩:=p
  obtain ⟨n1,n2,n3⟩:=(hX j).2.2.2.2 q e xs e' xs' m1 h2
  subst n1
  subst n2
  exact ⟨e',xs',h2,by rw [n3];exact m2⟩
theorem Zel {X X':Nat→Nat→Option Nat} (h:Zif X) (hX:∀ i k,X' i k=X i k∨X' i k=none):Zif X':=by
 intro d k d' k' b h1 h2
 rcases hX d k with e1 | e1
 ·rcases hX d' k' with e2 | e2
  ·exact h d k d' k' b (e1.symm.trans h1) (e2.symm.trans h2)
  ·rw [e2] at h2;cases h2
 ·rw [e1] at h1;cases h1
theorem ZaE {P:Program} {aZ bs:List AV} (h:KG P aZ bs) {i k:Nat} {e:TypeId} {xs:List (List AV)} (hy:ZQ (ZG bs i) k=some (e,xs)) (hd:Ze P e=true):ZQ (ZG aZ i) k=some (e,xs):=by
 rcases VV h i with h1 | ⟨g,ds,_,h1,_⟩ | ⟨_,_,_,h1,_⟩
 ·exact ZcP h1 hy hd
 ·rw [h1] at hy;cases k<;>cases hy
 ·rw [h1] at hy;cases k<;>cases hy
theorem Zev {aZ:List AV} {x:AV} {i:Nat} (h:i < aZ.length):ZG (aZ++[x]) i=ZG aZ i:=by
 simp only [ZG];rw [List.getElem?_append_left h]
theorem Zd1 {aZ:List AV} {x:AV} : ZG (aZ++[x]) aZ.length=x:=by simp [ZG]
theorem Zft {P:Program} {res res':AV} {outs outs':List AV} (ho:KG P (outs++[res]) (outs'++[res'])) (h:VC P outs):VC P outs':=by
 have hll:outs.length=outs'.length:=by have:=ho.1;simpa using this
 intro i k e xs hi
 cases hd:Ze P e with
 | false => rfl
 | true =>
  have hlt:i < outs'.length:=by
   rcases Nat.lt_or_ge i outs'.length with hlt | hge
   ·exact hlt
   ·have:outs'[i]? = none:=List.getElem?_eq_none hge
    simp only [ZG,this,Option.getD_none] at hi
    cases k<;>cases hi
  rw [← Zev (x:=res') hlt] at hi
  have h1:=ZaE ho hi hd
  rw [Zev (by omega)] at h1
  rw [h i k e xs h1] at hd
  exact hd.symm
theorem Jw.stronger {P:Program} {f:FuncId} {aZ bs:List AV} {res:AV} {outs:List AV} (h:Jw P f bs res outs) (ha:KG P aZ bs):Jw P f aZ res outs:=by
 refine ⟨h.1,by rw [ha.1];exact h.2.1,fun w lim X cargs hcl hrel hdist hsize hfar=>?_⟩
 obtain ⟨X2,g1,g3,g2,g4⟩:=Zb5 hrel ha
 have hX2:∀ i k b,X2 i k=some b→X i k=some b:=by
  intro i k b hb
  rcases g1 i k with e | e
  ·rw [← e];exact hb
  ·rw [e] at hb;cases hb
 refine (h.2.2 w lim X2 cargs (by have:=Zey ha;have:=ha.1;omega) g2 (Zel hdist g1) (fun i k b hb=>hsize i k b (hX2 i k b hb)) fun i hi k=>by rw [g4 i (by rw [ha.1];exact hi)];exact hfar i (by rw [ha.1];exact hi) k).mono ?_
 rintro e w' ⟨v,lim',X',he,hst,hol,hr,hd,hin,hgh,hnl,hnr⟩
 refine ⟨v,lim',X',he,hst.wider fun b ⟨i,k,hb⟩=>⟨i,k,hX2 i k b hb⟩,by rw [hol,ha.1],fun i=>by (rw [ha.1];exact hr i),hd,fun i k b hb=>?_,fun i hi=>?_,hnl,by rw [ha.1];exact hnr⟩
 ·obtain ⟨m1,m2⟩:=hin i k b hb
  exact ⟨m1,m2.imp (fun ⟨i,k,h⟩=>⟨i,k,hX2 i k b h⟩) id⟩
 ·obtain ⟨m1,m2⟩:=hgh i hi
  exact ⟨ZcS ha m1,by rw [m2,g3 i (WC m1)]⟩
end Go.AM
end

section
namespace Go.AM
def Zgr (ρ:Nat→V) (n:Nat) (l:List V):Prop:=∀ (j:Nat) (v:V),l[j]? = some v→ρ (n+j)=v
theorem Zgr.tail {ρ:Nat→V} {n:Nat} {v:V} {l:List V} (h:Zgr ρ n (v::l)):ρ n=v∧Zgr ρ (n+1) l:=
 ⟨h 0 v rfl,fun j u hj=>by rw [show n+1+j=n+(j+1) by omega];exact h (j+1) u (by simpa using hj)⟩
theorem Zgr.app {ρ:Nat→V} {n:Nat} {l l':List V} (h:Zgr ρ n (l++l')):Zgr ρ n l∧Zgr ρ (n+l.length) l':=
  ⟨fun j v hj=>h j v (by rw [List.getElem?_append_left (List.getElem?_eq_some_iff.1 hj).1];exact hj),
   fun j v hj=>by
    rw [show n+l.length+j=n+(l.length+j) by omega]
    exact h _ v (by rw [List.getElem?_append_right (by omega)];simpa using hj)⟩
theorem Zgr.bind (ρ:Nat→V) (n:Nat) (vs:List V):Zgr (bind ρ n vs) n vs:=by
 intro j v hj
 unfold AM.bind
 rw [if_neg (by omega),show n+j-n=j by omega,hj]
 rfl
def vAt (us:List V) (j:Nat):V:=(us[j]?).getD (.i 0)
def YM:Sh→V→AV
 | .int k, v => .val (.int k v.int)
 | .bool, v => .val (.bool v.bool)
 | .str, v => .val (.string v.str)
 | .slice s, v => .slice false s v.list
 | .own x e, v => .own x e v.list
def ZU:List Sh→List V→Nat→List AV
 | [], _, _ => []
 | s :: ss, us, j => YM s (vAt us j) :: ZU ss us (j + 1)
theorem Zhn {s:Sh} (h:s.imm=true) (v:V):(YM s v).isCell=true:=by cases s<;>simp [Sh.imm] at h<;>rfl
theorem K1 (pre post:List V) (v:V):vAt (pre++v::post) pre.length=v:=by simp [vAt]
theorem Jc:∀ (l:List Sh) (us:List V) (j:Nat),(ZU l us j).length=l.length
 | [], _, _ => rfl
 | _ :: ss, us, j => by simp [ZU, Jc ss us (j + 1)]
theorem Kx:∀ (l:List Sh) (us:List V) (j:Nat),l.all Sh.imm=true→∀ c∈ZU l us j,c.isCell=true
 | [], _, _, _ => by simp [ZU]
 | s :: ss, us, j, h => by
  rw [List.all_cons,Bool.and_eq_true] at h
  intro c hc
  rcases List.mem_cons.1 hc with rfl | hc
  ·exact Zhn h.1 _
  ·exact Kx ss us (j+1) h.2 c hc
section
variable {P:Program} {ρ:Nat→V}
theorem Zdc {s:Sh} {x:SC} {v:VE} (h:Zk3 s x=some v):Yi P (x.den ρ) (YM s (v.den ρ)):=by
 unfold Zk3 at h
 split at h
 ·split at h
  ·simp only [Option.some.injEq] at h;subst h;rename_i hk;subst hk;exact .same (.inl rfl)
  ·cases h
 ·simp only [Option.some.injEq] at h;subst h;exact .same (.inl rfl)
 ·simp only [Option.some.injEq] at h;subst h;exact .same (.inl rfl)
 ·split at h
  ·simp only [Option.some.injEq] at h;subst h;rename_i hk;subst hk;exact .imm
  ·split at h
   ·simp only [Option.some.injEq] at h;subst h;exact .immN
   ·cases h
 ·split at h
  ·split at h
   ·rename_i hlt
    simp only [Option.some.injEq] at h;subst h;exact .give hlt
   ·cases h
  ·cases h
 ·cases h
theorem Zer {l:LE} (h:l.isNil=true):l = .nil:=by cases l<;>first | rfl | cases h
theorem ZaA {s:Sh} {x:Bool} {e:TypeId} {l:LE} {v:VE} (h:Zaz P s x e l=some v):Yi P (.own x e (l.den ρ)) (YM s (v.den ρ)):=by
 unfold Zaz at h
 split at h
 ·split at h
  ·simp only [Option.some.injEq] at h
   subst h
   rename_i hk
   obtain ⟨rfl,hk⟩:=hk
   rcases hk with rfl | hk
   ·exact .same (.inr ⟨_,_,_,rfl⟩)
   ·have:=Zer hk.1
    subst this
    exact .ownN hk.2
  ·cases h
 ·split at h
  ·simp only [Option.some.injEq] at h
   subst h
   rename_i hk
   obtain ⟨rfl,hk⟩:=hk
   rcases hk with rfl | hk
   ·exact .own
   ·have:=Zer hk
    subst this
    exact .ownZ
  ·cases h
 ·cases h
theorem Zdp:∀ (l:List Sh) (cs:List SC) (vs:List VE),ZeF l cs=some vs→vs.length=l.length∧cs.length=l.length∧∀ pre post:List V,
  ∀ (i:Nat) (c c':AV),(cs.map (SC.den ρ))[i]? = some c→(ZU l (pre++vs.map (VE.den ρ)++post) pre.length)[i]? = some c'→Yi P c c'
 | [], [], vs, h => by
  simp only [ZeF,Option.some.injEq] at h
  subst h
  exact ⟨rfl,rfl,fun _ _ i c c' h=>by simp at h⟩
 | [], _ :: _, _, h => by simp [ZeF] at h
 | _ :: _, [], _, h => by simp [ZeF] at h
 | s :: ss, c :: cs, us, h => by
  simp only [ZeF] at h
  split at h
  ·rename_i v vs hv hvs
   simp only [Option.some.injEq] at h
   subst h
   obtain ⟨h1,h2,h3⟩:=Zdp ss cs vs hvs
   refine ⟨by simp [h1],by simp [h2],fun pre post i c1 c2 hc1 hc2=>?_⟩
   cases i with
   | zero =>
    simp only [ZU,List.map_cons,List.getElem?_cons_zero,Option.some.injEq] at hc1 hc2
    subst hc1
    subst hc2
    rw [List.append_assoc,List.cons_append,K1]
    exact Zdc hv
   | succ i =>
    have:=h3 (pre++[v.den ρ]) post i c1 c2 (by simpa using hc1)
    simp only [List.append_assoc,List.cons_append,List.nil_append,List.length_append,List.length_cons,List.length_nil] at this
    simp only [ZU,List.map_cons,List.getElem?_cons_succ,List.append_assoc,List.cons_append] at hc2
    exact this hc2
  ·cases h
theorem Zl4 {s:Sh} {x:BC} {v:VE} (h:Zoa P s x=some v):Yi P (x.den ρ) (YM s (v.den ρ)):=by
 unfold Zoa at h
 split at h
 ·exact Zdc h
 ·exact ZaA h
 ·cases h
theorem Kz:∀ (l:List Sh) (cs:List BC) (vs:List VE),Zac P l cs=some vs→vs.length=l.length∧cs.length=l.length∧∀ pre post:List V,
  ∀ (i:Nat) (c c':AV),(cs.map (BC.den ρ))[i]? = some c→(ZU l (pre++vs.map (VE.den ρ)++post) pre.length)[i]? = some c'→Yi P c c'
 | [], [], vs, h => by
  simp only [Zac,Option.some.injEq] at h
  subst h
  exact ⟨rfl,rfl,fun _ _ i c c' h=>by simp at h⟩
 | [], _ :: _, _, h => by simp [Zac] at h
 | _ :: _, [], _, h => by simp [Zac] at h
 | s :: ss, c :: cs, us, h => by
  simp only [Zac] at h
  split at h
  ·rename_i v vs hv hvs
   simp only [Option.some.injEq] at h
   subst h
   obtain ⟨h1,h2,h3⟩:=Kz ss cs vs hvs
   refine ⟨by simp [h1],by simp [h2],fun pre post i c1 c2 hc1 hc2=>?_⟩
   cases i with
   | zero =>
    simp only [ZU,List.map_cons,List.getElem?_cons_zero,Option.some.injEq] at hc1 hc2
    subst hc1
    subst hc2
    rw [List.append_assoc,List.cons_append,K1]
    exact Zl4 hv
   | succ i =>
    have:=h3 (pre++[v.den ρ]) post i c1 c2 (by simpa using hc1)
    simp only [List.append_assoc,List.cons_append,List.nil_append,List.length_append,List.length_cons,List.length_nil] at this
    simp only [ZU,List.map_cons,List.getElem?_cons_succ,List.append_assoc,List.cons_append] at hc2
    exact this hc2
  ·cases h
end
theorem Zg9 {s:Sh} (hs:s.imm=true) {n:Nat} {ρ:Nat→V} {v:V} (h:ρ n=v):(Ju s n).den ρ=YM s v:=by
 subst h
 cases s<;>simp [Sh.imm] at hs<;>rfl
theorem ZaX:∀ (l:List Sh) (n m:Nat) (ρ:Nat→V) (us:List V),l.all Sh.imm=true→(∀ j,j < l.length→ρ (n+j)=vAt us (m+j))→(ZC l n).map (SC.den ρ)=ZU l us m
 | [], _, _, _, _, _, _ => rfl
 | s :: ss, n, m, ρ, us, hi, h => by
  rw [List.all_cons,Bool.and_eq_true] at hi
  rw [ZC,List.map_cons,ZU,Zg9 hi.1 (show ρ n=vAt us m from h 0 (by simp)),ZaX ss (n+1) (m+1) ρ us hi.2 fun j hj=>by
   have:=h (j+1) (by simp;omega)
   rw [show n+1+j=n+(j+1) by omega,show m+1+j=m+(j+1) by omega]
   exact this]
theorem ZjI {s:Sh} {n:Nat} {ρ:Nat→V} {v:V} (h:ρ n=v):(Zmg s n).den ρ=YM s v:=by
 subst h
 cases s<;>rfl
theorem Wr:∀ (l:List Sh) (n m:Nat) (ρ:Nat→V) (us:List V),(∀ j,j < l.length→ρ (n+j)=vAt us (m+j))→(YH l n).map (BC.den ρ)=ZU l us m
 | [], _, _, _, _, _ => rfl
 | s :: ss, n, m, ρ, us, h => by
  rw [YH,List.map_cons,ZU,ZjI (show ρ n=vAt us m from h 0 (by simp)),Wr ss (n+1) (m+1) ρ us fun j hj=>by
   have:=h (j+1) (by simp;omega)
   rw [show n+1+j=n+(j+1) by omega,show m+1+j=m+(j+1) by omega]
   exact this]
def Vk (h:HP) (us:List V) (j:Nat):AV:=
 match h with
 | .c s => YM s (vAt us j)
 | .agg l => .agg (ZU l us j)
 | .box l => .box (ZU l us j)
 | .mref d k => .mref d k
 | .ptr d o => .ptr d o
 | .dead => .dead
 | .gbox l => .gbox (ZU l us j)
 | .clo g ds => .clo g ds
def HP.fine:HP→Bool
 | .agg l => l.all Sh.imm
 | _ => true
theorem Zi5 {h:HP} (hf:h.fine=true) {n m:Nat} {ρ:Nat→V} {us:List V} (hρ:∀ j,j < h.n→ρ (n+j)=vAt us (m+j)):(Zju h n).den ρ=Vk h us m:=by
 cases h with
 | c s =>
  have h0:=hρ 0 (Nat.zero_lt_one)
  simp only [Nat.add_zero] at h0
  cases s<;>simp only [Zju,Vk,SV.den,Ju,SC.den,IE.den,BE.den,SE.den,LE.den,h0,YM]
 | agg l => simp only [Zju, Vk, SV.den, ZaX l n m ρ us hf hρ]
 | box l => simp only [Zju, Vk, SV.den, Wr l n m ρ us hρ]
 | gbox l => simp only [Zju, Vk, SV.den, Wr l n m ρ us hρ]
 | clo g ds => rfl
 | mref d k => rfl
 | ptr d o => rfl
 | dead => rfl
def Zn7 (h:HP) (x:AV):Prop:=(∃ d o,h = .ptr d o∧x = .ptr d o)∨(∃ d k,h = .mref d k∧x = .mref d k)∨∃ g ds,h = .clo g ds∧x = .clo g ds
theorem Zig {P:Program} {ρ:Nat→V} {h:HP} {x:SV} {vs:List VE} (hv:ZgD P h x=some vs):vs.length=h.n∧h.fine=true∧∀ pre post:List V,
  Zn7 h (x.den ρ)∨Yt P (x.den ρ) (Vk h (pre++vs.map (VE.den ρ)++post) pre.length):=by
 unfold ZgD at hv
 split at hv
 ·cases hd:Zk3 _ _ with
  | none => rw [hd] at hv; cases hv
  | some v =>
   rw [hd] at hv
   simp only [Option.map_some,Option.some.injEq] at hv
   subst hv
   refine ⟨rfl,rfl,fun pre post=>.inr ?_⟩
   simp only [Vk,List.map_cons,List.map_nil,List.append_assoc,List.cons_append,List.nil_append,K1]
   exact .comp (.cell (Zdc hd))
 ·cases hd:Zaz P _ _ _ _ with
  | none => rw [hd] at hv; cases hv
  | some v =>
   rw [hd] at hv
   simp only [Option.map_some,Option.some.injEq] at hv
   subst hv
   refine ⟨rfl,rfl,fun pre post=>.inr ?_⟩
   simp only [Vk,List.map_cons,List.map_nil,List.append_assoc,List.cons_append,List.nil_append,K1]
   exact .comp (.cell (ZaA hd))
 ·split at hv
  ·rename_i hi
   obtain ⟨h1,h2,h3⟩:=Zdp (P:=P) (ρ:=ρ) _ _ _ hv
   exact ⟨h1,hi,fun pre post=>.inr (.comp (.agg (by rw [List.length_map,h2,Jc]) (Kx _ _ _ hi) (h3 pre post)))⟩
  ·cases hv
 ·obtain ⟨h1,h2,h3⟩:=Kz (P:=P) (ρ:=ρ) _ _ _ hv
  exact ⟨h1,rfl,fun pre post=>.inr (.box (by rw [List.length_map,h2,Jc]) (h3 pre post))⟩
 ·split at hv
  ·rename_i hh
   simp only [Option.some.injEq] at hv
   subst hv
   obtain ⟨rfl,rfl⟩:=hh
   exact ⟨rfl,rfl,fun _ _=>.inl (.inr (.inl ⟨_,_,rfl,rfl⟩))⟩
  ·cases hv
 ·split at hv
  ·rename_i hh
   simp only [Option.some.injEq] at hv
   subst hv
   obtain ⟨rfl,rfl⟩:=hh
   exact ⟨rfl,rfl,fun _ _=>.inl (.inl ⟨_,_,rfl,rfl⟩)⟩
  ·cases hv
 ·simp only [Option.some.injEq] at hv
  subst hv
  exact ⟨rfl,rfl,fun _ _=>.inr .dead⟩
 ·obtain ⟨h1,h2,h3⟩:=Kz (P:=P) (ρ:=ρ) _ _ _ hv
  exact ⟨h1,rfl,fun pre post=>.inr (.gbox (by rw [List.length_map,h2,Jc]) (h3 pre post))⟩
 ·split at hv
  ·rename_i hh
   simp only [Option.some.injEq] at hv
   subst hv
   obtain ⟨rfl,rfl⟩:=hh
   exact ⟨rfl,rfl,fun _ _=>.inl (.inr (.inr ⟨_,_,rfl,rfl⟩))⟩
  ·cases hv
 ·cases hv
theorem Ks {P:Program} {g:Nat→SV} {ρ:Nat→V} : ∀ (hs:List (Nat×HP)) (n:Nat) (ves:List VE) (pre:List V),YC P g hs=some ves→pre.length=n→
  (ZW hs n).2=n+ves.length∧(ZW hs n).1.map (·.1)=hs.map (·.1)∧∀ u∈(ZW hs n).1,∃ h,(u.1,h)∈hs∧∃ m,u.2=Zju h m∧m+h.n≤n+ves.length∧h.fine=true∧
   ∀ post:List V,Zn7 h ((g u.1).den ρ)∨Yt P ((g u.1).den ρ) (Vk h (pre++ves.map (VE.den ρ)++post) m)
 | [], n, ves, pre, h, hp => by
  simp only [YC,Option.some.injEq] at h
  subst h
  exact ⟨rfl,rfl,by simp [ZW]⟩
 | p :: r, n, ves, pre, h, hp => by
  simp only [YC] at h
  split at h
  ·rename_i v vs hv hvs
   simp only [Option.some.injEq] at h
   subst h
   obtain ⟨h1,h2,h3⟩:=Zig (P:=P) (ρ:=ρ) hv
   obtain ⟨g1,g2,g3⟩:=Ks r (n+p.2.n) vs (pre++v.map (VE.den ρ)) hvs (by simp [hp,h1])
   refine ⟨by simp only [ZW,g1,List.length_append,h1];omega,by simp only [ZW,List.map_cons,g2],fun u hu=>?_⟩
   simp only [ZW,List.mem_cons] at hu
   rcases hu with rfl | hu
   ·refine ⟨p.2,by simp,n,rfl,by simp only [List.length_append,h1];omega,h2,fun post=>?_⟩
    have:=h3 pre (vs.map (VE.den ρ)++post)
    rw [hp] at this
    simpa [List.append_assoc] using this
   ·obtain ⟨h,k1,m,k2,k3,k4,k5⟩:=g3 u hu
    refine ⟨h,by simp [k1],m,k2,by simp only [List.length_append,h1];omega,k4,fun post=>?_⟩
    have:=k5 post
    simpa [List.append_assoc] using this
  ·cases h
theorem ZcQ:∀ (hs:List (Nat×HP)) (n:Nat),n≤(ZW hs n).2∧∀ u∈(ZW hs n).1,u.2.bd (ZW hs n).2
 | [], n => ⟨Nat.le_refl _, by simp [ZW]⟩
 | p :: r, n => by
  obtain ⟨h1,h2⟩:=ZcQ r (n+p.2.n)
  refine ⟨by simp only [ZW];omega,fun u hu=>?_⟩
  simp only [ZW,List.mem_cons] at hu
  rcases hu with rfl | hu
  ·have hb:(Zju p.2 n).bd (n+p.2.n):=by
    cases hp:p.2 with
    | c s => cases s <;> exact Nat.lt_succ_self n
    | agg l => exact Jp l n
    | box l => exact JG l n
    | mref d k => trivial
    | ptr d o => trivial
    | dead => trivial
    | gbox l => exact JG l n
    | clo g ds => trivial
   exact SV.bd_mono (by simpa [ZW] using h1) _ hb
  ·exact h2 u hu
def Zl9 (P:Program) (σ σ':Nat→AV) (d:Nat):Prop:=
 Yt P (σ d) (σ' d)∨(∃ d' o,σ d = .ptr d' o∧σ' d = .ptr d' o∧(∃ cs,σ' d' = .box cs))∨(∃ d' k,σ d = .mref d' k∧σ' d = .mref d' k∧∃ p,Zj (σ' d') k=some p)∨
  ∃ g ds,σ d = .clo g ds∧σ' d = .clo g ds∧∀ d'∈ds,(σ' d').isB=true
theorem ZgT {P:Program} {x:AV} {e:TypeId} {xs:List (List AV)} (h:Yt P x (.own true e xs)):x = .own true e xs∨xs = []:=by
 cases h with
 | comp h =>
  cases h with
  | cell h =>
   cases h with
   | same _ => exact .inl rfl
   | ownN _ => exact .inr rfl
   | give _ => exact .inr rfl
theorem Sim.head {c:Ctx} {σ σ':Nat→AV} {tm:Array Value} {w:World} {lim:Nat→Nat} {X:Nat→Nat→Option Nat} (h:Sim c σ tm w lim X) (hw:∀ d,Zl9 c.P σ σ' d) (hout:∀ d,c.nt≤d→σ' d = .dead∨(σ' d).isG=true)
  (hpin:∀ d v,c.pin d=some v→∃ cs,σ' d = .box cs) (hgpin:∀ d b,c.gpin d=some b→(σ' d).isG=true):∃ X',Sim c σ' tm w lim X':=by
 have hG:∀ d,(σ' d).isG=true→(σ d).isG=true:=by
  intro d hd
  rcases hw d with hs | ⟨d',o,_,h2,_⟩ | ⟨d',k,_,h2,_⟩ | ⟨g,ds,_,h2,_⟩
  ·exact ZiH hs hd
  ·rw [h2] at hd;cases hd
  ·rw [h2] at hd;cases hd
  ·rw [h2] at hd;cases hd
 have hfar:∀ d,ngN≤d→σ' d = .dead:=by
  intro d hd
  rcases hout d (Nat.le_trans h.ntN hd) with h1 | h1
  ·exact h1
  ·have:=hG d h1
   rw [h.far d hd] at this
   cases this
 have key:∀ d,∃ r:Nat→Option Nat,(ngN≤d→r=X d)∧(∀ k,r k=X d k∨r k=none)∧((σ' d).isB=true→r 0=X d 0)∧(∀ k,(∃ p,Zj (σ d) k=some p)→(∃ p,Zj (σ' d) k=some p)→r k=X d k)∧
   (Yt c.P (σ d) (σ' d)→∀ X':Nat→Nat→Option Nat,X' d=r→ZJ c.P w lim X' σ' d (σ' d) (tm.getD d undef))∧(∀ e xs,σ d = .own true e xs→σ' d = .own true e xs→r=X d):=by
  intro d
  have hd:=h.rel d
  by_cases hdf:ngN≤d
  ·exact ⟨X d,fun _=>rfl,fun _=>.inl rfl,fun _=>rfl,fun _ _ _=>rfl,fun _ X' _=>by rw [hfar d hdf];trivial,fun _ _ _ _=>rfl⟩
  by_cases hsame:∃ e xs,σ d = .own true e xs∧σ' d = .own true e xs
  ·obtain ⟨e,xs,h1,h2⟩:=hsame
   refine ⟨X d,fun _=>rfl,fun _=>.inl rfl,fun _=>rfl,fun _ _ _=>rfl,fun _ X' hX=>?_,fun _ _ _ _=>rfl⟩
   rw [h1] at hd
   rw [h2]
   show ZP c.P w lim true e xs _ (X' d 0)
   rw [hX]
   exact hd
  have hsm:∀ {r:Nat→Option Nat} (e:TypeId) (xs:List (List AV)),σ d = .own true e xs→σ' d = .own true e xs→r=X d:=fun e xs h1 h2=>(hsame ⟨e,xs,h1,h2⟩).elim
  have hno:∀ {y:AV},σ d=y→(∀ k,Zj y k=none)→∀ k,(∃ p,Zj (σ d) k=some p)→(∃ p,Zj (σ' d) k=some p)→(none:Option Nat)=X d k:=by
   rintro y he hy k ⟨p,hp⟩ _
   rw [he,hy k] at hp
   cases hp
  rcases hw d with hs | ⟨d',o,h1,h2,_⟩ | ⟨d',k,h1,h2,_⟩ | ⟨g,ds,h1,h2,_⟩
  ·obtain ⟨r,g1,g2,g4,g3⟩:=ZeE hd hs
   exact ⟨r,fun h=>(hdf h).elim,g1,g2,g4,fun _ X' hX=>g3 X' σ' d hX,hsm⟩
  ·exact ⟨fun _=>none,fun h=>(hdf h).elim,fun _=>.inr rfl,fun hb=>by (rw [h2] at hb;cases hb),hno h1 (fun _=>rfl),fun hs=>((Wk hs).1 d' o h2).elim,hsm⟩
  ·exact ⟨fun _=>none,fun h=>(hdf h).elim,fun _=>.inr rfl,fun hb=>by (rw [h2] at hb;cases hb),hno h1 (fun _=>rfl),fun hs=>((Wk hs).2.1 d' k h2).elim,hsm⟩
  ·exact ⟨fun _=>none,fun h=>(hdf h).elim,fun _=>.inr rfl,fun hb=>by (rw [h2] at hb;cases hb),hno h1 (fun _=>rfl),fun hs=>((Wk hs).2.2 g ds h2).elim,hsm⟩
 obtain ⟨X',hX⟩:=Classical.axiomOfChoice key
 have hle:∀ d k b,X' d k=some b→X d k=some b:=by
  intro d k b hb
  rcases (hX d).2.1 k with e | e
  ·rw [← e];exact hb
  ·rw [e] at hb;cases hb
 refine ⟨X',⟨fun d=>?_,h.size,hout,fun d hd=>h.ghost d (hG d hd),fun d k d' k' b h1 h2=>h.dist d k d' k' b (hle _ _ _ h1) (hle _ _ _ h2),fun d k b hb=>h.ours d k b (hle _ _ _ hb),h.frm,fun d v hv=>⟨(h.pin d v hv).1,hpin d v hv⟩,fun d e xs hdo=>?_,
  fun d b hb=>⟨((hX d).2.2.1 (WC (hgpin d b hb))).trans (h.gpin d b hb).1,hgpin d b hb⟩,h.ntN,hfar,fun d k e xs b m1 m2 m3=>?_,fun b m b' hb=>h.yfr b m b' (hle _ _ _ hb)⟩⟩
 rotate_left
 ·have hs:Yt c.P (σ d) (.own true e xs):=by
   rcases hw d with hs | ⟨_,_,_,h2,_⟩ | ⟨_,_,_,h2,_⟩ | ⟨_,_,_,h2,_⟩
   ·rw [hdo] at hs;exact hs
   ·rw [hdo] at h2;cases h2
   ·rw [hdo] at h2;cases h2
   ·rw [hdo] at h2;cases h2
  rcases ZgT hs with h1 | rfl
  ·rw [(hX d).2.2.2.2.2 e xs h1 hdo];exact h.mp d e xs h1
  ·intro _ _ _ _ _ _ _ _ _ _ h3;cases h3
 ·rw [(hX (ngN+b)).1 (Nat.le_add_right _ _)]
  refine h.nst d k e xs b ?_ m2 (hle _ _ _ m3)
  rcases hw d with hs | ⟨_,_,_,h2,_⟩ | ⟨_,_,_,h2,_⟩ | ⟨_,_,_,h2,_⟩
  ·exact ZcP hs m1 m2
  ·rw [h2] at m1;cases k<;>cases m1
  ·rw [h2] at m1;cases k<;>cases m1
  ·rw [h2] at m1;cases k<;>cases m1
 have hd:=h.rel d
 rcases hw d with hs | ⟨d2,o2,h1,h2,cs',h3⟩ | ⟨d2,k2,h1,h2,p2,h3⟩ | ⟨g,ds,h1,h2,h3⟩
 ·exact (hX d).2.2.2.2.1 hs X' rfl
 ·rw [h1] at hd
  obtain ⟨b,cs,g1,g2,g3⟩:=hd
  rw [h2]
  exact ⟨b,cs',by rw [(hX d2).2.2.1 (by rw [h3];rfl),g1],h3,g3⟩
 ·rw [h1] at hd
  obtain ⟨e,xs,g1,g2⟩:=hd
  rw [h2]
  refine ⟨e,xs,?_,by rw [(hX d2).2.2.2.1 k2 ⟨_,g1⟩ ⟨_,h3⟩];exact g2⟩
  rcases hw d2 with hs | ⟨d3,o3,q1,q2,_⟩ | ⟨d3,k3,q1,q2,_⟩ | ⟨g,ds,q1,q2,_⟩
  ·obtain ⟨m1,m2⟩:=ZeD hs g1 (e':=p2.1) (xs':=p2.2) h3
   rw [h3,← m1,← m2]
  ·rw [q1] at g1;cases g1
  ·rw [q1] at g1;cases g1
  ·rw [q1] at g1;cases g1
 ·rw [h1] at hd
  obtain ⟨bs,g1,g2,g3⟩:=hd
  rw [h2]
  refine ⟨bs,g1,g2,fun i d' b hd' hb=>?_⟩
  have hB:=h3 d' (List.mem_of_getElem? hd')
  exact ⟨((hX d').2.2.1 hB).trans (g3 i d' b hd' hb).1,hB⟩
end Go.AM
end

section
namespace Go.AM
theorem ZiL:∀ (hs:List (Nat×HP)) (d:Nat) (h h':HP),(hs.map (·.1)).Nodup→(d,h)∈hs→(d,h')∈hs→h=h'
 | [], _, _, _, _, h, _ => by simp at h
 | p :: r, d, h, h', hn, h1, h2 => by
  rw [List.map_cons,List.nodup_cons] at hn
  rcases List.mem_cons.1 h1 with e1 | e1
  ·rcases List.mem_cons.1 h2 with e2 | e2
   ·rw [← e1] at e2
    exact (Prod.mk.inj e2).2.symm
   ·exact (hn.1 (by rw [← e1];exact List.mem_map.2 ⟨_,e2,rfl⟩)).elim
  ·rcases List.mem_cons.1 h2 with e2 | e2
   ·exact (hn.1 (by rw [← e2];exact List.mem_map.2 ⟨_,e1,rfl⟩)).elim
   ·exact ZiL r d h h' hn.2 e1 e2
theorem Zbs:∀ (us:List (Nat×AV)) (d:Nat) (x:AV),Wx us d=some x→(d,x)∈us
 | [], d, x, h => by simp [Wx] at h
 | (e, y) :: us, d, x, h => by
  simp only [Wx] at h
  cases hl:Wx us d with
  | some z =>
   rw [hl] at h
   simp only [Option.some.injEq] at h
   subst h
   exact List.mem_cons_of_mem _ (Zbs us d _ hl)
  | none =>
   rw [hl] at h
   simp only at h
   split at h
   ·rename_i hd
    simp only [Option.some.injEq] at h
    subst h
    subst hd
    exact List.mem_cons_self
   ·cases h
theorem Zhr {E:Env} {d:Nat} {h:HP} (hp:h.place E d=true):d < E.top∧(h.isG=true∨d < E.nt):=by
 cases h<;>simp only [HP.place,Bool.and_eq_true,decide_eq_true_eq] at hp
 case gbox l=>exact ⟨hp.2,.inl rfl⟩
 all_goals exact ⟨JK hp,.inr hp⟩
theorem VJ {E:Env} {hs:List (Nat×HP)} (h:ZdR E hs=true):(hs.map (·.1)).Nodup∧(∀ p∈hs,p.1 < E.top∧(p.2.isG=true∨p.1 < E.nt))∧((∀ d d' o,(d,HP.ptr d' o)∈hs→∃ l:HP,l.isBox=true∧(d',l)∈hs)∧∀ d d' k,(d,HP.mref d' k)∈hs→∃ l:HP,l.isPl k=true∧(d',l)∈hs)∧
  (∀ d∈E.pins,∃ l:HP,l.isBox=true∧(d,l)∈hs)∧(∀ d g ds,(d,HP.clo g ds)∈hs→∀ d'∈ds,∃ l:HP,(l.isBox||l.isG)=true∧(d',l)∈hs)∧∀ d,E.nt≤d→d < E.top→∃ l:HP,l.isG=true∧(d,l)∈hs:=by
 have hany:∀ (f:HP→Bool) (d:Nat),(hs.any fun q=>decide (q.1=d)&&f q.2)=true→∃ l:HP,f l=true∧(d,l)∈hs:=by
  intro f d hd
  rw [List.any_eq_true] at hd
  obtain ⟨q,hq,hd⟩:=hd
  obtain ⟨q1,q2⟩:=q
  simp only [Bool.and_eq_true,decide_eq_true_eq] at hd
  obtain ⟨rfl,hd⟩:=hd
  exact ⟨_,hd,hq⟩
 simp only [ZdR,Bool.and_eq_true] at h
 obtain ⟨⟨⟨h1,h2⟩,h3⟩,h4⟩:=h
 rw [List.all_eq_true] at h2 h3 h4
 refine ⟨VU _ h1,fun p hp=>?_,⟨fun d d' o hm=>?_,fun d d' k hm=>?_⟩,fun d hd=>hany HP.isBox d (h3 d hd),fun d g ds hm d' hd'=>?_,fun d hd hd'=>?_⟩
 ·have:=h2 p hp
  simp only [Bool.and_eq_true] at this
  exact Zhr this.1
 ·have:=h2 _ hm
  simp only [Bool.and_eq_true] at this
  exact hany HP.isBox d' this.2
 ·have:=h2 _ hm
  simp only [Bool.and_eq_true] at this
  exact hany (fun h=>h.isPl k) d' this.2
 ·have:=h2 _ hm
  simp only [Bool.and_eq_true] at this
  have h5:=this.2
  rw [List.all_eq_true] at h5
  exact hany (fun h=>h.isBox||h.isG) d' (h5 d' hd')
 ·have:=h4 (d-E.nt) (List.mem_range.2 (by have:E.top=E.nt+E.ng:=rfl;omega))
  rw [show E.nt+(d-E.nt)=d by omega] at this
  exact hany HP.isG d this
theorem ZlP {P:Program} {E:Env} (hnt:E.top≤1024) {hs:List (Nat×HP)} (hok:ZdR E hs=true) {s:Tr} {ρ ρ0:Nat→V} {ves:List VE} (hv:YC P (gE E s) hs=some ves) :
  (∀ d,d∉hs.map (·.1)→ZO E (Je (ZW hs 0).1 (.leaf .dead)) (bind ρ0 0 (ves.map (VE.den ρ))) d = .dead)∧
  ∀ d h,(d,h)∈hs→∃ m,ZO E (Je (ZW hs 0).1 (.leaf .dead)) (bind ρ0 0 (ves.map (VE.den ρ))) d=Vk h (ves.map (VE.den ρ)) m∧
   (Zn7 h (ZO E s ρ d)∨Yt P (ZO E s ρ d) (Vk h (ves.map (VE.den ρ)) m)):=by
 obtain ⟨k1,k2,k3,k4,k5,k6⟩:=VJ hok
 obtain ⟨h1,h2,h3⟩:=Ks (P:=P) (g:=gE E s) (ρ:=ρ) hs 0 ves [] hv rfl
 have hl:Kv E (ZW hs 0).1:=by
  unfold Kv
  rw [List.all_eq_true]
  intro u hu
  have hm:u.1∈hs.map (·.1):=by rw [← h2];exact List.mem_map.2 ⟨u,hu,rfl⟩
  obtain ⟨p,hp,he⟩:=List.mem_map.1 hm
  have:=(k2 p hp).1
  rw [he] at this
  simpa using this
 have hdead:∀ d,ZO E (.leaf .dead) (bind ρ0 0 (ves.map (VE.den ρ))) d = .dead:=by
  intro d
  simp only [ZO,gE]
  split<;>rfl
 have hfst:((ZW hs 0).1.map fun u=>(u.1,u.2.den (bind ρ0 0 (ves.map (VE.den ρ))))).map (·.1)=hs.map (·.1):=by rw [List.map_map];exact h2
 rw [Jz hnt _ _ _ hl]
 refine ⟨fun d hd=>?_,fun d h hm=>?_⟩
 ·rw [Jj,YF _ d (by rw [hfst];exact hd),hdead]
  rfl
 ·obtain ⟨x,hx⟩:=K9 ((ZW hs 0).1.map fun u=>(u.1,u.2.den (bind ρ0 0 (ves.map (VE.den ρ))))) d (by rw [hfst];exact List.mem_map.2 ⟨_,hm,rfl⟩)
  obtain ⟨u,hu,he⟩:=List.mem_map.1 (Zbs _ _ _ hx)
  simp only [Prod.mk.injEq] at he
  obtain ⟨rfl,rfl⟩:=he
  obtain ⟨h',g1,m,g2,g3,g4,g5⟩:=h3 u hu
  have:h'=h:=ZiL hs u.1 h' h k1 g1 hm
  subst this
  have hden:u.2.den (bind ρ0 0 (ves.map (VE.den ρ)))=Vk h' (ves.map (VE.den ρ)) m:=by
   rw [g2]
   refine Zi5 g4 fun j hj=>?_
   have hlt:m+j < (ves.map (VE.den ρ)).length:=by rw [List.length_map];omega
   have:=Zgr.bind ρ0 0 (ves.map (VE.den ρ)) (m+j) _ (List.getElem?_eq_getElem hlt)
   rw [Nat.zero_add] at this
   rw [this,vAt,List.getElem?_eq_getElem hlt]
   rfl
  refine ⟨m,?_,?_⟩
  ·rw [Jj,hx,← hden]
   rfl
  ·have:=g5 []
   simp only [List.nil_append,List.append_nil] at this
   exact this
theorem ZaV:∀ (l:List Sh) (us:List V) (j k:Nat) (s:Sh),l[k]? = some s→(ZU l us j)[k]? = some (YM s (vAt us (j+k)))
 | [], _, _, _, _, h => by simp at h
 | t :: ts, us, j, 0, s, h => by
  simp only [List.getElem?_cons_zero,Option.some.injEq] at h
  subst h
  rfl
 | t :: ts, us, j, k + 1, s, h => by
  have:=ZaV ts us (j+1) k s (by simpa using h)
  rw [show j+1+k=j+(k+1) by omega] at this
  simpa [ZU] using this
theorem Zgf {h:HP} {k:Nat} (hk:h.isPl k=true) (us:List V) (m:Nat):∃ p,Zj (Vk h us m) k=some p:=by
 unfold HP.isPl at hk
 split at hk
 ·exact ⟨_,rfl⟩
 ·rename_i l k
  split at hk
  ·rename_i e hl
   have:=ZaV l us m k _ hl
   refine ⟨(e,(vAt us (m+k)).list),?_⟩
   simp only [Vk,Zj,this,YM]
  ·cases hk
 ·rename_i l k
  split at hk
  ·rename_i e hl
   have:=ZaV l us m k _ hl
   refine ⟨(e,(vAt us (m+k)).list),?_⟩
   simp only [Vk,Zj,this,YM]
  ·cases hk
 ·cases hk
theorem ZgK {P:Program} {E:Env} (hnt:E.top≤1024) {c:Ctx} (hcP:c.P=P) (hcn:c.nt=E.nt) (hpin:∀ d v,c.pin d=some v→d∈E.pins) (hgpin:∀ d b,c.gpin d=some b→E.nt≤d∧d < E.top) {hs:List (Nat×HP)} (hok:ZdR E hs=true) {s:Tr} {ρ:Nat→V} (ρ0:Nat→V) {ves:List VE}
  (hv:YC P (gE E s) hs=some ves) {tm:Array Value} {w:World} {lim:Nat→Nat} {X:Nat→Nat→Option Nat} (hsim:Sim c (ZO E s ρ) tm w lim X) :
  ∃ X',Sim c (ZO E (Je (ZW hs 0).1 (.leaf .dead)) (bind ρ0 0 (ves.map (VE.den ρ)))) tm w lim X':=by
 obtain ⟨k1,k2,k3,k4,k5,k6⟩:=VJ hok
 obtain ⟨h1,h2⟩:=ZlP (P:=P) hnt hok (ρ0:=ρ0) (ρ:=ρ) hv
 have hbox:∀ d (l:HP),l.isBox=true→(d,l)∈hs→∃ cs,ZO E (Je (ZW hs 0).1 (.leaf .dead)) (bind ρ0 0 (ves.map (VE.den ρ))) d = .box cs:=by
  intro d l hl hm
  obtain ⟨m,g1,_⟩:=h2 d _ hm
  cases l<;>simp [HP.isBox] at hl<;>exact ⟨_,g1⟩
 have hgb:∀ d (l:HP),l.isG=true→(d,l)∈hs→(ZO E (Je (ZW hs 0).1 (.leaf .dead)) (bind ρ0 0 (ves.map (VE.den ρ))) d).isG=true:=by
  intro d l hl hm
  obtain ⟨m,g1,_⟩:=h2 d _ hm
  rw [g1]
  cases l<;>simp [HP.isG] at hl<;>rfl
 refine hsim.head (fun d=>?_) (fun d hd=>?_) (fun d v hp=>?_) fun d b hp=>?_
 ·by_cases hm:d∈hs.map (·.1)
  ·obtain ⟨p,hp,rfl⟩:=List.mem_map.1 hm
   obtain ⟨m,g1,g2⟩:=h2 p.1 p.2 hp
   unfold Zl9
   rw [g1,hcP]
   rcases g2 with (⟨d',o,g2,g3⟩ | ⟨d',k,g2,g3⟩ | ⟨g,ds,g2,g3⟩) | g2
   ·obtain ⟨l,hl,hm⟩:=k3.1 p.1 d' o (by rw [← g2];exact hp)
    exact .inr (.inl ⟨d',o,g3,by rw [g2];rfl,hbox d' l hl hm⟩)
   ·obtain ⟨l,hl,hm⟩:=k3.2 p.1 d' k (by rw [← g2];exact hp)
    obtain ⟨m',q1,_⟩:=h2 d' l hm
    exact .inr (.inr (.inl ⟨d',k,g3,by rw [g2];rfl,by rw [q1];exact Zgf hl _ _⟩))
   ·refine .inr (.inr (.inr ⟨g,ds,g3,by rw [g2];rfl,fun d' hd'=>?_⟩))
    obtain ⟨l,hl,hm⟩:=k5 p.1 g ds (by rw [← g2];exact hp) d' hd'
    rw [Bool.or_eq_true] at hl
    rcases hl with hl | hl
    ·obtain ⟨cs,hcs⟩:=hbox d' l hl hm
     rw [hcs];rfl
    ·exact WC (hgb d' l hl hm)
   ·exact .inl g2
  ·unfold Zl9
   rw [h1 d hm]
   exact .inl .dead
 ·by_cases hm:d∈hs.map (·.1)
  ·obtain ⟨p,hp,rfl⟩:=List.mem_map.1 hm
   rcases (k2 p hp).2 with h3 | h3
   ·exact .inr (hgb p.1 p.2 h3 hp)
   ·omega
  ·exact .inl (h1 d hm)
 ·obtain ⟨l,hl,hm⟩:=k4 d (hpin d v hp)
  exact hbox d l hl hm
 ·obtain ⟨m1,m2⟩:=hgpin d b hp
  obtain ⟨l,hl,hm⟩:=k6 d m1 m2
  exact hgb d l hl hm
theorem Zed {ops:Array Oper} {x a d:Nat} {T:TypeId} {neg:Bool} (h:Zfe ops=some (x,a,d,T,neg)) :
  ∃ o p U,ops.toList = [o,p]∧o.guard=none∧p.guard=none∧o.op = .move (.tmp x)∧o.dst=some a∧p.op = .binOp (if neg=true then .neq else .eql) T (.tmp a) (.const (.slice none 0 0)) U∧p.dst=some d:=by
 unfold Zfe at h
 split at h
 ·rename_i o p hops
  split at h
  ·rename_i hg
   simp only [Option.isNone_iff_eq_none] at hg
   split at h
   ·rename_i h1 h2 h3 h4
    split at h
    ·rename_i hb
     subst hb
     simp only [Option.some.injEq,Prod.mk.injEq] at h
     obtain ⟨rfl,rfl,rfl,rfl,rfl⟩:=h
     exact ⟨o,p,_,hops,hg.1,hg.2,h1,h2,by simpa using h3,h4⟩
    ·cases h
   ·rename_i h1 h2 h3 h4
    split at h
    ·rename_i hb
     subst hb
     simp only [Option.some.injEq,Prod.mk.injEq] at h
     obtain ⟨rfl,rfl,rfl,rfl,rfl⟩:=h
     exact ⟨o,p,_,hops,hg.1,hg.2,h1,h2,by simpa using h3,h4⟩
    ·cases h
   ·cases h
  ·cases h
 ·cases h
theorem Zb4 {ops:Array Oper} {x i a b c:Nat} {T:TypeId} (h:ZbF ops=some (x,i,a,b,c,T)) :
  ∃ o p q r,ops.toList = [o,p,q,r]∧o.guard=none∧p.guard=none∧q.guard=none∧r.guard=none∧o.op = .move (.tmp x)∧o.dst=some a∧p.op = .move (.tmp i)∧p.dst=some b∧
   q.op = .slice T (.tmp a) (some (.tmp b)) none none∧q.dst=some c∧(∃ cl,r.op = .call cl∧cl.callee = .builtin .clear∧cl.args = #[.tmp c]∧cl.argTypes = #[T])∧r.dst=none:=by
 unfold ZbF at h
 split at h
 case h_2=>cases h
 rename_i o p q r hops
 split at h
 case isFalse=>cases h
 rename_i hg
 simp only [Option.isNone_iff_eq_none] at hg
 split at h
 case h_2=>cases h
 rename_i x' a' i' b' h1 h2 h3 h4
 split at h
 case h_2=>cases h
 rename_i T' a'' b'' c' cl h5 h6 h7 h8
 split at h
 case h_2=>cases h
 rename_i c'' T'' h9 h10 h11
 split at h
 case isFalse=>cases h
 rename_i he
 obtain ⟨e1,e2,e3,e4⟩:=he
 subst e1 e2 e3 e4
 simp only [Option.some.injEq,Prod.mk.injEq] at h
 obtain ⟨rfl,rfl,rfl,rfl,rfl,rfl⟩:=h
 exact ⟨o,p,q,r,hops,hg.1,hg.2.1,hg.2.2.1,hg.2.2.2,h1,h2,h3,h4,h5,h6,⟨cl,h7,h9,by rw [← h10,Array.toArray_toList],by rw [← h11,Array.toArray_toList]⟩,h8⟩
theorem Zhg {P:Program} {w:World} {lim:Nat→Nat} {X:Nat→Nat→Option Nat} {g:Nat→SV} {d:Nat} {x:SV} {l:LE} {ρ:Nat→V} {v:Value} (hx:ZiE P g x=some l) (h:ZJ P w lim X (fun d=>(g d).den ρ) d (x.den ρ) v) :
  ∃ a k cap,v = .slice a k cap∧(a.isNone=true→l.den ρ = []):=by
 have hrep:∀ f s,Rep w lim (.slice f s (l.den ρ)) v→∃ a k cap,v = .slice a k cap∧(a.isNone=true→l.den ρ = []):=by
  intro f s hr
  have key:∀ y,Rep w lim y v→y = .slice f s (l.den ρ)→∃ a k cap,v = .slice a k cap∧(a.isNone=true→l.den ρ = []):=by
   intro y hy hye
   cases hy with
   | sliceN => injection hye with _ _ h3; exact ⟨none, 0, 0, rfl, fun _ => h3.symm⟩
   | sliceE _ => injection hye with _ _ h3; exact ⟨_, _, _, rfl, fun _ => h3.symm⟩
   | sliceC _ _ _ _ _ _ _ _ => exact ⟨_, _, _, rfl, fun h => by cases h⟩
   | val _ => cases hye
   | agg _ _ _ => cases hye
   | nest => cases hye
  exact key _ hr rfl
 unfold ZiE at hx
 split at hx
 ·simp only [Option.some.injEq] at hx
  subst hx
  exact hrep _ _ h
 ·split at hx
  case isFalse=>cases hx
  rename_i hnm
  simp only [Option.some.injEq] at hx
  subst hx
  rcases ZP.noMap (show ZP P w lim _ _ _ v (X d 0) from h) hnm with ⟨us,h1,_⟩ | ⟨h1,_,a,h2⟩
  ·rcases h1.2 with ⟨hv,hn⟩ | ⟨g,cap,cur,hv,_⟩
   ·exact ⟨none,0,0,hv,fun _=>List.eq_nil_of_length_eq_zero hn⟩
   ·exact ⟨_,_,_,hv,fun h=>by cases h⟩
  ·exact ⟨_,_,_,h2,fun h=>by cases h⟩
 ·rename_i d' q
  cases hp:Z6 (g d') q with
  | none => rw [hp] at hx; cases hx
  | some p =>
   rw [hp] at hx
   dsimp only at hx
   split at hx
   case isFalse=>cases hx
   rename_i hnm
   simp only [Option.some.injEq] at hx
   subst hx
   obtain ⟨e,xs,h1,h2⟩:=h
   have h3:Zj ((g d').den ρ) q=some (p.1,p.2.den ρ):=ZL ρ hp
   have h1':Zj ((g d').den ρ) q=some (e,xs):=h1
   rw [h3] at h1'
   simp only [Option.some.injEq,Prod.mk.injEq] at h1'
   obtain ⟨he,rfl⟩:=h1'
   rw [he] at hnm
   rcases h2.noMap hnm with ⟨_,h1,h2 | ⟨a,h2⟩⟩ | ⟨b,arr,cap,_,_,_,h2⟩
   ·exact ⟨none,0,0,h2,fun _=>List.eq_nil_of_length_eq_zero h1⟩
   ·exact ⟨_,_,_,h2,fun h=>by cases h⟩
   ·exact ⟨_,_,_,h2,fun h=>by cases h⟩
 ·cases hx
theorem Sim.refit {c:Ctx} {σ σ':Nat→AV} {tm:Array Value} {w:World} {lim lim':Nat→Nat} {X:Nat→Nat→Option Nat} {S:Nat→Prop} (h:Sim c σ tm w lim X) (hw:ZI w lim w lim' S) (hS:∀ b,S b→c.A b∨c.w0.heap.size≤b)
  (hrel:∀ i,ZJ c.P w lim' X σ' i (σ' i) (tm.getD i undef)) (hout:∀ i,c.nt≤i→σ' i = .dead∨(σ' i).isG=true) (hG:∀ i,(σ' i).isG=(σ i).isG) (hB:∀ i cs,σ i = .box cs→∃ cs',σ' i = .box cs') (hmp:∀ d e xs,σ' d = .own true e xs→ZdH c.P w lim' e xs (X d))
  (hns:∀ d k e xs b,ZQ (σ' d) k=some (e,xs)→Ze c.P e=true→X d k=some b→Vm c.P w lim' e xs b (X (ngN+b))):Sim c σ' tm w lim' X where
 mp:=hmp
 nst:=hns
 ntN:=h.ntN
 yfr:=h.yfr
 far d hd:=by
  rcases hout d (Nat.le_trans h.ntN hd) with h1 | h1
  ·exact h1
  ·rw [hG,h.far d hd] at h1;cases h1
 rel:=hrel
 size:=h.size
 out:=hout
 ghost d hd:=h.ghost d (by rw [← hG];exact hd)
 dist:=h.dist
 ours:=h.ours
 frm:=h.frm.step hw hS
 pin d v hv:=by
  obtain ⟨h1,cs,h2⟩:=h.pin d v hv
  exact ⟨h1,hB d cs h2⟩
 gpin d b hb:=by
  obtain ⟨h1,h2⟩:=h.gpin d b hb
  exact ⟨h1,by rw [hG];exact h2⟩
theorem Sim.freeze {c:Ctx} {σ:Nat→AV} {tm:Array Value} {w:World} {lim:Nat→Nat} {X:Nat→Nat→Option Nat} (h:Sim c σ tm w lim X) {d q:Nat} {e:TypeId} {xs:List (List AV)} {us:List (Nat×AV)} (hdn:(σ d).isG=false) (hp:Zj (σ d) q=some (e,xs))
  (hs0:c.P.cellsOf e≠0) (hnm:Zg c.P e=false) (h1:∀ u∈us,u.1≠d∧((σ u.1 = .mref d q∧u.2 = .slice false (c.P.cellsOf e) xs)∨((∃ o,σ u.1 = .eref d q o)∧u.2 = .dead))) (h2:∀ i,Z8 (σ i) d q→i∈us.map (·.1)) :
  ∃ lim',Sim c (Jl (upd σ d (Zi (σ d) q false e xs)) us) tm w lim' X:=by
 have hnG:∀ cs,σ d≠.gbox cs:=fun cs he=>by rw [he] at hdn;cases hdn
 obtain ⟨v0,ho⟩:=Jy h hp
 refine ⟨fun b=>if X d q=some b then xs.length*c.P.cellsOf e else lim b,?_⟩
 have hlim0:∀ b,X d q=some b→lim b=0:=by
  intro b hb
  rw [hb] at ho
  obtain ⟨_,_,_,_,g,_⟩:=KO ho (.inl hnm)
  exact g
 have hw:ZI w lim w (fun b=>if X d q=some b then xs.length*c.P.cellsOf e else lim b) (fun b=>X d q=some b):=by
  refine ⟨rfl,rfl,rfl,Nat.le_refl _,fun _ _=>rfl,fun b _ hb=>⟨rfl,if_neg hb⟩,fun b _=>⟨?_,fun _ _ _ hu=>hu⟩⟩
  show lim b≤if X d q=some b then xs.length*c.P.cellsOf e else lim b
  split
  ·rename_i hb;rw [hlim0 b hb];exact Nat.zero_le _
  ·exact Nat.le_refl _
 have hnew:∀ v,ZP c.P w lim true e xs v (X d q)→ZP c.P w (fun b=>if X d q=some b then xs.length*c.P.cellsOf e else lim b) false e xs v (X d q):=by
  intro v hv
  rcases hv.noMap hnm with ⟨ws,g1,g2,g3,g4,g5,g6⟩ | hv
  ·refine .inl ⟨ws,g1,g2,fun b hb=>?_,g4,g5,fun j z u hz hu=>(g6 j z u hz hu).mono hw.ext⟩
   show (if X d q=some b then xs.length*c.P.cellsOf e else lim b)=_
   rw [if_pos hb,if_neg (by simp),g1.1]
  ·exact .inr (.inl hv)
 have hkept:∀ i k b,(i≠d∨k≠q)→X i k=some b→Ze2 w lim w (fun b=>if X d q=some b then xs.length*c.P.cellsOf e else lim b) b:=by
  intro i k b hik hb
  refine ⟨rfl,if_neg fun hb'=>?_⟩
  obtain ⟨e1,e2⟩:=h.dist i k d q b hb hb'
  exact hik.elim (fun h=>h e1) fun h=>h e2
 have hdu:d∉us.map (·.1):=by
  intro hm
  obtain ⟨u,hu,rfl⟩:=List.mem_map.1 hm
  exact (h1 u hu).1 rfl
 -- what stands where
 have hat:∀ i,i≠d→(i∉us.map (·.1)∧Jl (upd σ d (Zi (σ d) q false e xs)) us i=σ i)∨
   (σ i = .mref d q∧Jl (upd σ d (Zi (σ d) q false e xs)) us i = .slice false (c.P.cellsOf e) xs)∨((∃ o,σ i = .eref d q o)∧Jl (upd σ d (Zi (σ d) q false e xs)) us i = .dead):=by
  intro i hi
  rw [Jj]
  by_cases hm:i∈us.map (·.1)
  ·obtain ⟨x,hx⟩:=K9 us i hm
   rw [hx]
   rcases (h1 _ (Zbs us i x hx)).2 with ⟨g1,g2⟩ | ⟨g1,g2⟩
   ·exact .inr (.inl ⟨g1,g2⟩)
   ·exact .inr (.inr ⟨g1,g2⟩)
  ·rw [YF us i hm]
   exact .inl ⟨hm,Zd _ _ hi⟩
 have hatd:Jl (upd σ d (Zi (σ d) q false e xs)) us d=Zi (σ d) q false e xs:=by
  rw [Jj,YF us d hdu]
  exact Zu _ _ _
 have hdG:(Zi (σ d) q false e xs).isG=false∧(σ d).isG=false:=by
  rcases Zs hp with ⟨g1,rfl⟩ | ⟨cs,k,g1,rfl,_⟩ | ⟨cs,k,g1,rfl,_⟩
  case inr.inr=>exact (hnG _ g1).elim
  all_goals rw [g1];exact ⟨rfl,rfl⟩
 have hdB:∀ cs,σ d = .box cs→∃ cs',Zi (σ d) q false e xs = .box cs':=by
  intro cs hcs
  rcases Zs hp with ⟨g1,rfl⟩ | ⟨cs',k,g1,rfl,_⟩ | ⟨cs,k,g1,rfl,_⟩
  case inr.inr=>exact (hnG _ g1).elim
  ·rw [g1] at hcs;cases hcs
  ·rw [g1];exact ⟨_,rfl⟩
 have hGall:∀ i,(Jl (upd σ d (Zi (σ d) q false e xs)) us i).isG=(σ i).isG:=by
  intro i
  by_cases hi:i=d
  ·subst hi;rw [hatd,hdG.1,hdG.2]
  ·rcases hat i hi with ⟨_,g⟩ | ⟨g,g'⟩ | ⟨⟨o,g⟩,g'⟩
   ·rw [g]
   ·rw [g,g'];rfl
   ·rw [g,g'];rfl
 have hBall:∀ i cs,σ i = .box cs→∃ cs',Jl (upd σ d (Zi (σ d) q false e xs)) us i = .box cs':=by
  intro i cs hcs
  by_cases hi:i=d
  ·subst hi;rw [hatd];exact hdB cs hcs
  ·rcases hat i hi with ⟨_,g⟩ | ⟨g,g'⟩ | ⟨⟨o,g⟩,g'⟩
   ·exact ⟨cs,g.trans hcs⟩
   ·rw [g] at hcs;cases hcs
   ·rw [g] at hcs;cases hcs
 have hmp:∀ i e1 xs1,Jl (upd σ d (Zi (σ d) q false e xs)) us i = .own true e1 xs1→ZdH c.P w (fun b=>if X d q=some b then xs.length*c.P.cellsOf e else lim b) e1 xs1 (X i):=by
  intro i e1 xs1 he
  by_cases hi:i=d
  ·subst hi
   rw [hatd] at he
   rcases Zs hp with ⟨g1,rfl⟩ | ⟨cs,k,g1,rfl,_⟩ | ⟨cs,k,g1,rfl,_⟩
   ·rw [g1] at he;simp [Zi] at he
   ·rw [g1] at he;simp [Zi] at he
   ·exact (hnG _ g1).elim
  ·rcases hat i hi with ⟨_,g⟩ | ⟨_,g'⟩ | ⟨_,g'⟩
   ·rw [g] at he
    exact (h.mp i e1 xs1 he).mono hw.ext fun k b hb=>hkept i k b (.inl hi) hb
   ·rw [g'] at he;cases he
   ·rw [g'] at he;cases he
 have hdf:d < ngN:=by
  rcases Nat.lt_or_ge d ngN with hlt | hge
  ·exact hlt
  ·rw [h.far d hge] at hp;cases hp
 have hns:∀ i k e1 xs1 b,ZQ (Jl (upd σ d (Zi (σ d) q false e xs)) us i) k=some (e1,xs1)→Ze c.P e1=true→X i k=some b→Vm c.P w (fun b=>if X d q=some b then xs.length*c.P.cellsOf e else lim b) e1 xs1 b (X (ngN+b)):=by
  intro i k e1 xs1 b m1 m2 m3
  have old:(i≠d∨k≠q)→ZQ (σ i) k=some (e1,xs1)→Vm c.P w (fun b=>if X d q=some b then xs.length*c.P.cellsOf e else lim b) e1 xs1 b (X (ngN+b)):=fun hik ho=>
   (h.nst i k e1 xs1 b ho m2 m3).mono hw.ext (hkept i k b hik m3).1 fun j b' hb'=>hkept (ngN+b) j b' (.inl (by omega)) hb'
  by_cases hi:i=d
  ·subst hi
   rw [hatd] at m1
   rcases Zs hp with ⟨g1,rfl⟩ | ⟨cs,k',g1,rfl,g2⟩ | ⟨cs,k',g1,rfl,_⟩
   case inr.inr=>exact (hnG _ g1).elim
   ·rw [g1] at m1
    cases k with
    | zero => cases m1
    | succ k => cases m1
   ·rw [g1] at m1
    rcases J4 m1 with ⟨_,m4⟩ | ⟨m4,m5⟩
    ·cases m4
    ·exact old (.inr m4) (by rw [g1];exact m5)
  ·rcases hat i hi with ⟨_,g⟩ | ⟨_,g'⟩ | ⟨_,g'⟩
   ·rw [g] at m1;exact old (.inl hi) m1
   ·rw [g'] at m1;cases k<;>cases m1
   ·rw [g'] at m1;cases k<;>cases m1
 refine h.refit hw (fun b hb=>(h.ours d q b hb).2) (fun i=>?_) (fun i hi=>?_) hGall hBall hmp hns
 ·by_cases hi:i=d
  ·subst hi
   rw [hatd]
   have hr:=h.rel i
   rcases Zs hp with ⟨g1,rfl⟩ | ⟨cs,k,g1,rfl,g2⟩ | ⟨cs,k,g1,rfl,_⟩
   case inr.inr=>exact (hnG _ g1).elim
   ·rw [g1] at hr ⊢
    exact hnew _ hr
   ·rw [g1] at hr ⊢
    obtain ⟨b,arr,t,k1,k2,k3,k4,k5,k6,k7⟩:=(show ZB c.P w lim (X i) cs _ from hr)
    refine ⟨b,arr,t,k1,k2,k3,by rw [List.length_set];exact k4,((hkept i 0 b (.inr (by omega)) k1).2).trans k5,fun x hx=>?_,fun j x u hx hu=>?_⟩
    ·rcases List.mem_or_eq_of_mem_set hx with hx | hx
     ·exact k6 x hx
     ·exact .inr (.inl ⟨_,_,_,hx⟩)
    ·by_cases hj:j=k
     ·subst hj
      rw [List.getElem?_set_self (List.getElem?_eq_some_iff.1 g2).1] at hx
      simp only [Option.some.injEq] at hx
      subst hx
      exact hnew u (k7 j _ u g2 hu)
     ·rw [List.getElem?_set_ne (fun h=>hj h.symm)] at hx
      exact (k7 j x u hx hu).mono hw.ext fun b' hb'=>hkept i (j+1) b' (.inr (by omega)) hb'
  ·rcases hat i hi with ⟨hm,g⟩ | ⟨g,g'⟩ | ⟨⟨o,g⟩,g'⟩
   ·rw [g]
    have hr:=(h.rel i).mono hw.ext (fun k b hb=>hkept i k b (.inl hi) hb) fun d' k b _ _=>.of rfl
    refine hr.chg rfl (fun d' cs hd'=>⟨hBall d' cs hd',rfl⟩) (fun d' hd'=>⟨by rw [hGall];exact hd',rfl⟩) fun d' k hrf=>⟨?_,rfl⟩
    by_cases hdd:d'=d
    ·subst hdd
     rw [hatd]
     have hkq:k≠q:=fun he=>hm (h2 i (he ▸ hrf))
     intro e' ys hy
     rcases Zs hy with ⟨m1,rfl⟩ | ⟨cs,k',m1,rfl,m2⟩ | ⟨_,_,m1,_⟩
     case inr.inr=>exact (hnG _ m1).elim
     ·rcases Zs hp with ⟨_,h0⟩ | ⟨_,_,h0,_⟩ | ⟨_,_,h0,_⟩
      case inr.inr=>exact (hnG _ h0).elim
      ·exact (hkq h0.symm).elim
      ·rw [m1] at h0;cases h0
     ·rcases Zs hp with ⟨h0,_⟩ | ⟨cs2,q',h0,rfl,_⟩ | ⟨_,_,h0,_⟩
      case inr.inr=>exact (hnG _ h0).elim
      ·rw [m1] at h0;cases h0
      ·refine ⟨ys,?_,rfl⟩
       rw [m1]
       simp only [Zi,Zj]
       rw [List.getElem?_set_ne (by omega),m2]
    ·rcases hat d' hdd with ⟨_,m⟩ | ⟨m,m'⟩ | ⟨⟨o,m⟩,m'⟩
     ·rw [m];exact Y5.refl _ _
     ·intro e' ys hy
      rw [m] at hy;cases hy
     ·intro e' ys hy
      rw [m] at hy;cases hy
   ·rw [g']
    have hr:=h.rel i
    rw [g] at hr
    obtain ⟨e',xs',k1,k2⟩:=hr
    rw [hp] at k1
    simp only [Option.some.injEq,Prod.mk.injEq] at k1
    obtain ⟨rfl,rfl⟩:=k1
    show Rep w _ _ _
    rcases k2.noMap hnm with ⟨_,k2,k3 | ⟨a,k3⟩⟩ | ⟨b,arr,cap,k2,k3,k4,k5⟩
    ·have:xs = []:=List.eq_nil_of_length_eq_zero k2
     subst this
     rw [k3];exact .sliceN
    ·have:xs = []:=List.eq_nil_of_length_eq_zero k2
     subst this
     rw [k3];exact .sliceE fun h=>by cases h
    ·have ho':=ho
     rw [k2] at ho'
     obtain ⟨arr0,cap0,m1,m2,_,_,_,m6,_⟩:=KO ho' (.inl hnm)
     rw [k3] at m2
     simp only [Option.some.injEq,Obj.cells.injEq,and_true] at m2
     subst m2
     have hcap:cap=cap0:=Nat.eq_of_mul_eq_mul_right (by omega) (k4.symm.trans m6)
     subst hcap
     rw [k5,← m1]
     exact ZP.rep (hnew v0 ho) false rfl
   ·rw [g']
    trivial
 ·by_cases hid:i=d
  ·subst hid
   rcases h.out i hi with h0 | h0
   ·rw [h0] at hp;cases hp
   ·rw [hdG.2] at h0;cases h0
  ·rcases hat i hid with ⟨_,g⟩ | ⟨g,_⟩ | ⟨⟨o,g⟩,_⟩
   ·rw [g];exact h.out i hi
   ·rcases h.out i hi with h0 | h0<;>rw [g] at h0<;>cases h0
   ·rcases h.out i hi with h0 | h0<;>rw [g] at h0<;>cases h0
theorem Yk {P:Program} {g:Nat→SV} {d q:Nat} {e:TypeId} {l:LE} : ∀ (n:Nat) (u:Nat×SV),u∈Kc P g d q e l n↔u.1 < n∧((g u.1 = .mref d q∧u.2 = .c (.slice false (P.cellsOf e) l))∨((∃ i s o,g u.1 = .eref d q i s o)∧u.2 = .dead))
 | 0, u => by simp [Kc]
 | n + 1, u => by
  have ih:=Yk (P:=P) (g:=g) (d:=d) (q:=q) (e:=e) (l:=l) n u
  have up:∀ {p:Prop},(u.1 < n∧p)→(u.1 < n+1∧p):=fun h=>⟨by omega,h.2⟩
  simp only [Kc]
  split
  ·rename_i d' q' hg
   split
   ·rename_i hh
    obtain ⟨rfl,rfl⟩:=hh
    rw [List.mem_cons,ih]
    constructor
    ·rintro (rfl | h)
     ·exact ⟨Nat.lt_succ_self n,.inl ⟨hg,rfl⟩⟩
     ·exact up h
    ·rintro ⟨h1,h2⟩
     by_cases hn:u.1=n
     ·left
      obtain ⟨a,b⟩:=u
      simp only at hn h2
      subst hn
      rcases h2 with ⟨_,h2⟩ | ⟨⟨_,_,_,h2⟩,_⟩
      ·rw [h2]
      ·rw [hg] at h2;cases h2
     ·exact .inr ⟨by omega,h2⟩
   ·rename_i hh
    rw [ih]
    refine ⟨up,fun ⟨h1,h2⟩=>⟨?_,h2⟩⟩
    by_cases hn:u.1=n
    ·rw [hn,hg] at h2
     rcases h2 with ⟨h2,_⟩ | ⟨⟨_,_,_,h2⟩,_⟩
     ·cases h2;exact (hh ⟨rfl,rfl⟩).elim
     ·cases h2
    ·omega
  ·rename_i d' q' i s o hg
   split
   ·rename_i hh
    obtain ⟨rfl,rfl⟩:=hh
    rw [List.mem_cons,ih]
    constructor
    ·rintro (rfl | h)
     ·exact ⟨Nat.lt_succ_self n,.inr ⟨⟨_,_,_,hg⟩,rfl⟩⟩
     ·exact up h
    ·rintro ⟨h1,h2⟩
     by_cases hn:u.1=n
     ·left
      obtain ⟨a,b⟩:=u
      simp only at hn h2
      subst hn
      rcases h2 with ⟨h2,_⟩ | ⟨_,h2⟩
      ·rw [hg] at h2;cases h2
      ·rw [h2]
     ·exact .inr ⟨by omega,h2⟩
   ·rename_i hh
    rw [ih]
    refine ⟨up,fun ⟨h1,h2⟩=>⟨?_,h2⟩⟩
    by_cases hn:u.1=n
    ·rw [hn,hg] at h2
     rcases h2 with ⟨h2,_⟩ | ⟨⟨_,_,_,h2⟩,_⟩
     ·cases h2
     ·cases h2;exact (hh ⟨rfl,rfl⟩).elim
    ·omega
  ·rename_i h1 h2
   rw [ih]
   refine ⟨up,fun ⟨g1,g2⟩=>⟨?_,g2⟩⟩
   by_cases hn:u.1=n
   ·rw [hn] at g2
    rcases g2 with ⟨g2,_⟩ | ⟨⟨_,_,_,g2⟩,_⟩
    ·exact (h1 _ _ g2).elim
    ·exact (h2 _ _ _ _ _ g2).elim
   ·omega
theorem Zeu {P:Program} {x y:SV} {k:Nat} (h:Zfb P x k=some y):∃ cs j e l,x = .box cs∧k=j+1∧cs[j]? = some (.own false e l)∧y = .box (cs.set j (.c (.slice false (P.cellsOf e) l))):=by
 unfold Zfb at h
 split at h
 ·rename_i cs j
  split at h
  ·rename_i e l hc
   cases h
   exact ⟨cs,j,e,l,rfl,rfl,hc,rfl⟩
  ·cases h
 ·cases h
theorem Sim.loose {c:Ctx} {σ:Nat→AV} {tm:Array Value} {w:World} {lim:Nat→Nat} {X:Nat→Nat→Option Nat} (h:Sim c σ tm w lim X) {d k:Nat} {e:TypeId} {xs:List (List AV)} {cs:List AV} (hd:σ d = .box cs) (hk:cs[k]? = some (.own false e xs)) :
  ∃ X',Sim c (upd σ d (.box (cs.set k (.slice false (c.P.cellsOf e) xs)))) tm w lim X':=by
 have hdn:d < c.nt:=by
  rcases Nat.lt_or_ge d c.nt with hlt | hge
  ·exact hlt
  ·have:=h.out d hge;rw [hd] at this;rcases this with h0 | h0<;>cases h0
 have hr:=h.rel d
 rw [hd] at hr
 obtain ⟨b,arr,t,h1,h2,h3,h4,h5,h6,h7⟩:=(show ZB c.P w lim (X d) cs _ from hr)
 refine ⟨_,h.putRow (hns:=fun q e1 xs1 b' m1 m2 m3=>by
  rcases J4 m1 with ⟨_,m4⟩ | ⟨m4,m5⟩
  ·cases m4
  ·exact h.nst d q e1 xs1 b' (by rw [hd];exact m5) m2 m3) (S:=fun _=>False) (X d) (ZI.refl w lim _) (fun _ hs=>hs.elim) hdn rfl (fun _ _=>rfl) (.inr ⟨⟨_,rfl⟩,rfl,rfl⟩) (fun i q _ _=>⟨fun e1 xs1 ho=>?_,rfl,fun _ _=>.of rfl⟩) ?_
  (fun q b' hq=>⟨(h.ours d q b' hq).1,(h.ours d q b' hq).2,fun i j hij hx=>hij (h.dist i j d q b' hx hq).1⟩) (fun q q' b' hq hq'=>(h.dist d q d q' b' hq hq').2)⟩
 ·rw [hd] at ho
  cases q with
  | zero => cases ho
  | succ q =>
   refine ⟨xs1,?_,rfl⟩
   have hq:q≠k:=fun he=>by
    subst he
    simp only [Zj,hk] at ho
    cases ho
   simp only [Zj,List.getElem?_set,if_neg (Ne.symm hq)] at ho ⊢
   exact ho
 ·show ZB c.P w lim (Kl X d (X d) d) _ _
  rw [Zk]
  refine ⟨b,arr,t,h1,h2,h3,by rw [List.length_set];exact h4,h5,fun y hy=>?_,fun i y u hy hu=>?_⟩
  ·rcases List.mem_or_eq_of_mem_set hy with hy | rfl
   ·exact h6 y hy
   ·exact .inl rfl
  ·rw [List.getElem?_set] at hy
   split at hy
   ·rename_i hik
    subst hik
    split at hy
    ·cases hy
     exact ZP.rep (h7 k _ u hk hu) false rfl
    ·cases hy
   ·exact h7 i y u hy hu
theorem ZfE {P:Program} {E:Env} (hnt:E.top≤1024) {c:Ctx} (hcP:c.P=P) {s s':Tr} {n:Nat} {ρ:Nat→V} (p:Nat×Nat) {tm:Array Value} {w:World} (hs:KB E s n) (h:∃ lim X,Sim c (ZO E s ρ) tm w lim X) (hd:Zfx P E s p=some s') :
  KB E s' n∧∃ lim X,Sim c (ZO E s' ρ) tm w lim X:=by
 unfold Zfx at hd
 split at hd
 case h_2=>cases hd
 rename_i e l hp
 split at hd
 case isFalse=>cases hd
 rename_i hh
 obtain ⟨hlt,hng⟩:=hh
 obtain ⟨lim,X,hsim⟩:=h
 have hl:=Jt hp (hs p.1)
 have hat:Zj (ZO E s ρ p.1) (p.2 % 1000)=some (e,l.den ρ):=ZL ρ hp
 have hda:YX (ZO E s ρ) p.1 ((ZK (gE E s) p.1 E.top).map fun u=>(u.1,u.2.den ρ)):=JD (g:=gE E s) ρ (Za4 s)
 have gen:∀ (e2:TypeId) (l2:LE),l2.bd n→(∀ σ X,Sim c σ tm w lim X→Zj (σ p.1) (p.2 % 1000)=some (e,l.den ρ)→(σ p.1).isG=false→(∀ i,¬ Z8 (σ i) p.1 (p.2 % 1000))→∃ lim' X',Sim c (upd σ p.1 (Zi (σ p.1) (p.2 % 1000) true e2 (l2.den ρ))) tm w lim' X')→
   KB E (Je (ZK (gE E s) p.1 E.top++[(p.1,Z4 (gE E s p.1) (p.2 % 1000) true e2 l2)]) s) n∧∃ lim X,Sim c (ZO E (Je (ZK (gE E s) p.1 E.top++[(p.1,Z4 (gE E s p.1) (p.2 % 1000) true e2 l2)]) s) ρ) tm w lim X:=by
  intro e2 l2 hb2 hstep
  have hlow:Kv E (ZK (gE E s) p.1 E.top++[(p.1,Z4 (gE E s p.1) (p.2 % 1000) true e2 l2)]):=by
   unfold Kv
   rw [List.all_eq_true]
   intro u hu
   rcases List.mem_append.1 hu with hu | hu
   ·simpa using ((Jf E.top u).1 hu).2.1
   ·rw [List.mem_singleton.1 hu];simpa using JK hlt
  refine ⟨Jr hnt _ _ hlow hs fun u hu=>?_,?_⟩
  ·rcases List.mem_append.1 hu with hu | hu
   ·rw [((Jf E.top u).1 hu).1];trivial
   ·rw [List.mem_singleton.1 hu];exact JA (hs p.1) hb2
  ·rw [Jz hnt _ _ _ hlow,List.map_append,List.map_cons,List.map_nil,Jm,KX]
   obtain ⟨X1,k1,k2⟩:=hsim.drops ((ZK (gE E s) p.1 E.top).map fun u=>(u.1,u.2.den ρ)) fun u hu=>by
    obtain ⟨m0,m1,k,m3⟩:=hda.1 u hu
    obtain ⟨p1,p2,p3⟩:=Yh m3
    exact ⟨m1,p2,Ye hsim (fun e=>by rw [e] at m3;rcases m3 with m3 | ⟨_,m3⟩ <;> cases m3) p3⟩
   have hnd:p.1∉((ZK (gE E s) p.1 E.top).map fun u=>(u.1,u.2.den ρ)).map (·.1):=by
    intro hm
    obtain ⟨u,hu,he⟩:=List.mem_map.1 hm
    exact (hda.1 u hu).1 he
   have hsame:Jl (ZO E s ρ) ((ZK (gE E s) p.1 E.top).map fun u=>(u.1,u.2.den ρ)) p.1=ZO E s ρ p.1:=ZaL _ _ _ hnd
   have hdead:∀ i,Jl (ZO E s ρ) ((ZK (gE E s) p.1 E.top).map fun u=>(u.1,u.2.den ρ)) i=if i∈((ZK (gE E s) p.1 E.top).map fun u=>(u.1,u.2.den ρ)).map (·.1) then .dead else ZO E s ρ i:=fun i=>Ke _ _ i fun u hu=>(hda.1 u hu).2.1
   have:=hstep _ X1 k1 (by rw [hsame];exact hat) (by rw [hsame];exact Kw ρ hng) (fun i hr=>by
    rw [hdead] at hr
    split at hr
    ·rcases hr with hr | ⟨_,hr⟩ <;> cases hr
    ·rename_i hm
     by_cases hi:i=p.1
     ·subst hi
      rcases hr with hr | ⟨_,hr⟩ <;> (rw [hr] at hat;cases hat)
     ·exact hm (hda.2 i _ hi hr))
   rw [hsame] at this
   exact this
 split at hd
 ·split at hd
  case isFalse=>cases hd
  rename_i hh
  cases hd
  refine gen _ _ ⟨hl,trivial,trivial,trivial⟩ fun σ X hs h1 h2 h3=>?_
  obtain ⟨X',hx⟩:=hs.deepen h1 h2 (by rw [hcP];exact hh.1) (by rw [hcP];exact hh.2) (Zlz hh.2) h3
  exact ⟨lim,X',hx⟩
 ·rename_i hdp
  split at hd
  case isFalse=>cases hd
  rename_i hh
  cases hd
  refine gen _ _ ⟨hl,trivial,trivial,trivial⟩ fun σ X hs h1 h2 h3=>?_
  exact hs.undeep h1 h2 (by rw [hcP];exact hdp) (by rw [hcP];exact hh) h3
 ·cases hd
theorem Zc6 {P:Program} {E:Env} (hnt:E.top≤1024) {c:Ctx} (hcP:c.P=P) {s:Tr} {n:Nat} {ρ:Nat→V} (p:Nat×Nat) {tm:Array Value} {w:World} (hs:KB E s n) (h:∃ lim X,Sim c (ZO E s ρ) tm w lim X) :
  KB E (Kb P E s p) n∧∃ lim X,Sim c (ZO E (Kb P E s p) ρ) tm w lim X:=by
 unfold Kb
 split
 ·rename_i s' hd
  exact ZfE hnt hcP p hs h hd
 split
 ·rename_i e l hp
  split
  ·rename_i hh
   have hlow:Kv E ((p.1,Z4 (gE E s p.1) p.2 false e l)::Kc P (gE E s) p.1 p.2 e l E.top):=by
    unfold Kv
    rw [List.all_eq_true]
    intro u hu
    rcases List.mem_cons.1 hu with rfl | hu
    ·simpa using JK hh.1
    ·simpa using ((Yk E.top u).1 hu).1
   have hl:=Jt hp (hs p.1)
   refine ⟨Jr hnt _ _ hlow hs fun u hu=>?_,?_⟩
   ·rcases List.mem_cons.1 hu with rfl | hu
    ·exact JA (hs p.1) hl
    ·rcases ((Yk E.top u).1 hu).2 with ⟨_,h2⟩ | ⟨_,h2⟩ <;> rw [h2]
     ·exact hl
     ·trivial
   ·obtain ⟨lim,X,hsim⟩:=h
    rw [Jz hnt _ _ _ hlow]
    have hA:∀ u∈((Kc P (gE E s) p.1 p.2 e l E.top).map fun u=>(u.1,u.2.den ρ)),u.1≠p.1∧((ZO E s ρ u.1 = .mref p.1 p.2∧u.2 = .slice false (c.P.cellsOf e) (l.den ρ))∨((∃ o,ZO E s ρ u.1 = .eref p.1 p.2 o)∧u.2 = .dead)):=by
     intro u hu
     obtain ⟨v,hv,rfl⟩:=List.mem_map.1 hu
     have hne:v.1≠p.1:=by
      intro he
      have h2:=((Yk E.top v).1 hv).2
      rw [he] at h2
      rcases h2 with ⟨h2,_⟩ | ⟨⟨_,_,_,h2⟩,_⟩ <;> rw [h2] at hp<;>cases hp
     refine ⟨hne,?_⟩
     rcases ((Yk E.top v).1 hv).2 with ⟨h1,h2⟩ | ⟨⟨i,s',o,h1⟩,h2⟩
     ·exact .inl ⟨by show (gE E s v.1).den ρ=_;rw [h1];rfl,by rw [h2,hcP];rfl⟩
     ·exact .inr ⟨⟨_,by show (gE E s v.1).den ρ=_;rw [h1];rfl⟩,by rw [h2];rfl⟩
    have hB:∀ i,Z8 (ZO E s ρ i) p.1 p.2→i∈((Kc P (gE E s) p.1 p.2 e l E.top).map fun u=>(u.1,u.2.den ρ)).map (·.1):=by
     intro i hi
     rw [List.map_map]
     have hi':Z8 ((gE E s i).den ρ) p.1 p.2:=hi
     have hlt:i < E.top:=by
      rcases Nat.lt_or_ge i E.top with h | h
      ·exact h
      ·rw [Za4 s i h] at hi'
       rcases hi' with h0 | ⟨_,h0⟩ <;> cases h0
     have hex:∃ x,(i,x)∈Kc P (gE E s) p.1 p.2 e l E.top:=by
      cases hg:gE E s i with
      | mref d' q' =>
       rw [hg] at hi'
       rcases hi' with h0 | ⟨_,h0⟩ <;> cases h0
       exact ⟨_,(Yk E.top (i,_)).2 ⟨hlt,.inl ⟨hg,rfl⟩⟩⟩
      | eref d' q' a b o =>
       rw [hg] at hi'
       rcases hi' with h0 | ⟨_,h0⟩ <;> cases h0
       exact ⟨_,(Yk E.top (i,_)).2 ⟨hlt,.inr ⟨⟨_,_,_,hg⟩,rfl⟩⟩⟩
      | c y => rw [hg] at hi'; rcases hi' with h0 | ⟨_, h0⟩ <;> cases y <;> cases h0
      | _ => rw [hg] at hi'; rcases hi' with h0 | ⟨_, h0⟩ <;> cases h0
     obtain ⟨x,hx⟩:=hex
     exact List.mem_map.2 ⟨_,hx,rfl⟩
    obtain ⟨lim',hf⟩:=hsim.freeze (d:=p.1) (q:=p.2) (Kw ρ hh.2.2.1) (ZL ρ hp) (by rw [hcP];omega) (by rw [hcP];exact hh.2.2.2) hA hB
    refine ⟨lim',X,?_⟩
    rw [List.map_cons,Jm]
    exact hf
  ·exact ⟨hs,h⟩
 ·split
  ·rename_i x hx
   split
   ·rename_i hlt
    have hlow:Kv E [(p.1,x)]:=by simpa [Kv] using JK hlt
    obtain ⟨cs,k,e,l,h1,h2,h3,rfl⟩:=Zeu hx
    have hbd:=hs p.1
    rw [h1] at hbd
    refine ⟨Jr hnt _ _ hlow hs fun u hu=>?_,?_⟩
    ·rw [List.mem_singleton.1 hu]
     intro y hy
     rcases List.mem_or_eq_of_mem_set hy with hy | rfl
     ·exact hbd y hy
     ·exact (show l.bd n from hbd (.own false e l) (List.mem_of_getElem? h3))
    ·obtain ⟨lim,X,hsim⟩:=h
     rw [Jz hnt _ _ _ hlow]
     have hd:ZO E s ρ p.1 = .box (cs.map (BC.den ρ)):=by show (gE E s p.1).den ρ=_;rw [h1];rfl
     obtain ⟨X',hX⟩:=hsim.loose hd (k:=k) (e:=e) (xs:=l.den ρ) (by rw [List.getElem?_map,h3];rfl)
     refine ⟨lim,X',?_⟩
     have e1:(SV.box (cs.set k (.c (.slice false (P.cellsOf e) l)))).den ρ = .box ((cs.map (BC.den ρ)).set k (.slice false (c.P.cellsOf e) (l.den ρ))):=by
      rw [hcP]
      simp only [SV.den,List.map_set]
      rfl
     show Sim c (upd (ZO E s ρ) p.1 ((SV.box (cs.set k (.c (.slice false (P.cellsOf e) l)))).den ρ)) tm w lim X'
     rw [e1]
     exact hX
   ·exact ⟨hs,h⟩
  ·exact ⟨hs,h⟩
theorem ZfI {E:Env} (hnt:E.top≤1024) {c:Ctx} {used:List Nat} {s:Tr} {n:Nat} {ρ:Nat→V} (d:Nat) {tm:Array Value} {w:World} (hs:KB E s n) (h:∃ lim X,Sim c (ZO E s ρ) tm w lim X) :
  KB E (Ww E used s d) n∧∃ lim X,Sim c (ZO E (Ww E used s d) ρ) tm w lim X:=by
 unfold Ww
 split
 ·rename_i e l hp
  split
  ·rename_i hh
   have hlow:Kv E ((d,.dead)::ZK (gE E s) d E.top):=by
    unfold Kv
    rw [List.all_eq_true]
    intro u hu
    rcases List.mem_cons.1 hu with rfl | hu
    ·simpa using JK hh.1
    ·simpa using ((Jf E.top u).1 hu).2.1
   refine ⟨Jr hnt _ _ hlow hs fun u hu=>?_,?_⟩
   ·rcases List.mem_cons.1 hu with rfl | hu
    ·trivial
    ·rw [((Jf E.top u).1 hu).1];trivial
   ·obtain ⟨lim,X,hsim⟩:=h
    rw [Jz hnt _ _ _ hlow]
    have hd:YX (ZO E s ρ) d ((ZK (gE E s) d E.top).map fun u=>(u.1,u.2.den ρ)):=JD (g:=gE E s) ρ (Za4 s)
    obtain ⟨X',h1,_⟩:=hsim.freeAll (t:=d) (x:=true) (e:=e) (xs:=l.den ρ) (by show (gE E s d).den ρ=_;rw [hp];rfl) (.inr hd)
    exact ⟨lim,X',h1⟩
  ·exact ⟨hs,h⟩
 ·exact ⟨hs,h⟩
theorem ZcV {P:Program} {E:Env} (hnt:E.top≤1024) {c:Ctx} (hcP:c.P=P) {id:Nat} {ops:Array Oper} {s:Tr} {n:Nat} {ρ:Nat→V} {tm:Array Value} {w:World} {lim:Nat→Nat} {X:Nat→Nat→Option Nat} (hs:KB E s n) (h:Sim c (ZO E s ρ) tm w lim X) :
  KB E (ZmV P E id ops s) n∧∃ lim X,Sim c (ZO E (ZmV P E id ops s) ρ) tm w lim X:=by
 have step1:∀ (l:List (Nat×Nat)) (s:Tr),KB E s n→(∃ lim X,Sim c (ZO E s ρ) tm w lim X)→KB E (l.foldl (Kb P E) s) n∧∃ lim X,Sim c (ZO E (l.foldl (Kb P E) s) ρ) tm w lim X:=by
  intro l
  induction l with
  | nil => exact fun s h1 h2 => ⟨h1, h2⟩
  | cons p l ih =>
   intro s h1 h2
   obtain ⟨g1,g2⟩:=Zc6 hnt hcP p h1 h2
   exact ih _ g1 g2
 have step2:∀ (l:List Nat) (s:Tr),KB E s n→(∃ lim X,Sim c (ZO E s ρ) tm w lim X)→KB E (l.foldl (Ww E (Zfg ops)) s) n∧∃ lim X,Sim c (ZO E (l.foldl (Ww E (Zfg ops)) s) ρ) tm w lim X:=by
  intro l
  induction l with
  | nil => exact fun s h1 h2 => ⟨h1, h2⟩
  | cons p l ih =>
   intro s h1 h2
   obtain ⟨g1,g2⟩:=ZfI hnt p h1 h2
   exact ih _ g1 g2
 obtain ⟨g1,g2⟩:=step1 (E.fz id) s hs ⟨lim,X,h⟩
 exact step2 (Zos ops) _ g1 g2
section
variable {P:Program} {E:Env} {R:AV→List AV→Prop}
def Zij (lv:Nat) (A A':Nat→List V→Prop):Prop:=∀ i,i < lv→A' i=A i
theorem ZkO (hm:P.follows .mixedOrders=true) (hps:EnvSound P E) (hnt:E.top≤1024) {c:Ctx} (hcP:c.P=P) (hcn:c.nt=E.nt) (hpin:∀ d v,c.pin d=some v→d∈E.pins) (hgpin:∀ d b,c.gpin d=some b→E.nt≤d∧d < E.top) :
  ∀ (code:Code) (lv n:Nat) (s:Tr) (kn:Tr→Nat→STree) (kx:Nat→Tr→Nat→STree) (kr:Tr→Nat→STree) (A:Nat→List V→Prop) (ρ:Nat→V) (tm:Array Value) (w:World) (lim:Nat→Nat) (X:Nat→Nat→Option Nat)
   (Q:Exit→Act→World→Prop),KB E s n→(ev P E lv code s n kn kx kr).wp P R A ρ→Sim c (ZO E s ρ) tm w lim X→
   (∀ s' n' ρ' A',Zij lv A A'→KB E s' n'→(kn s' n').wp P R A' ρ'→∀ tm' w' lim' X',Sim c (ZO E s' ρ') tm' w' lim' X'→Q .normal ⟨tm',[]⟩ w')→
   (∀ id s' n' ρ' A',Zij lv A A'→KB E s' n'→(kx id s' n').wp P R A' ρ'→∀ tm' w' lim' X',Sim c (ZO E s' ρ') tm' w' lim' X'→Q (.exit id) ⟨tm',[]⟩ w')→
   (∀ s' n' ρ' A',Zij lv A A'→KB E s' n'→(kr s' n').wp P R A' ρ'→∀ tm' w' lim' X',Sim c (ZO E s' ρ') tm' w' lim' X'→Q .ret ⟨tm',[]⟩ w')→
   code.wp P Q ⟨tm,[]⟩ w:=by
 intro code
 induction code with
 | skip => intro lv n s kn kx kr A ρ tm w lim X Q hs h hsim hn hx hr; exact wp_skip (hn s n ρ A (fun _ _ => rfl) hs h tm w lim X hsim)
 | label l => intro lv n s kn kx kr A ρ tm w lim X Q hs h hsim hn hx hr; exact wp_label (hn s n ρ A (fun _ _ => rfl) hs h tm w lim X hsim)
 | exit id => intro lv n s kn kx kr A ρ tm w lim X Q hs h hsim hn hx hr; exact wp_exit (hx id s n ρ A (fun _ _ => rfl) hs h tm w lim X hsim)
 | ret => intro lv n s kn kx kr A ρ tm w lim X Q hs h hsim hn hx hr; exact wp_ret (hr s n ρ A (fun _ _ => rfl) hs h tm w lim X hsim)
 | seq a b iha ihb =>
  intro lv n s kn kx kr A ρ tm w lim X Q hs h hsim hn hx hr
  refine wp_seq (iha lv n s _ kx kr A ρ tm w lim X _ hs h hsim ?_ hx hr)
  intro s' n' ρ' A' hA hs' h' tm' w' lim' X' hsim'
  exact ihb lv n' s' kn kx kr A' ρ' tm' w' lim' X' Q hs' h' hsim' (fun s2 n2 ρ2 A2 hA2=>hn s2 n2 ρ2 A2 fun i hi=>(hA2 i hi).trans (hA i hi))
   (fun id s2 n2 ρ2 A2 hA2=>hx id s2 n2 ρ2 A2 fun i hi=>(hA2 i hi).trans (hA i hi)) (fun s2 n2 ρ2 A2 hA2=>hr s2 n2 ρ2 A2 fun i hi=>(hA2 i hi).trans (hA i hi))
 | cond x a b iha ihb =>
  intro lv n s kn kx kr A ρ tm w lim X Q hs h hsim hn hx hr
  simp only [ev] at h
  split at h
  ·rename_i t ht
   have hxt:x = .tmp t:=by cases x<;>simp [ZM] at ht;rw [ht]
   subst hxt
   have heval:∀ v:BE,gE E s t = .c (.bool v)→Act.eval ⟨tm,[]⟩ (.tmp t) = .bool (v.den ρ):=by
    intro v hv
    have hrel:=hsim.rel t
    have:ZO E s ρ t = .val (.bool (v.den ρ)):=by simp only [ZO,hv,SV.den,SC.den]
    rw [this] at hrel
    exact KU hrel
   split at h
   ·rename_i v hv
    have he:=heval _ hv
    simp only [BE.den] at he
    split at h
    ·rename_i hvt
     subst hvt
     exact wp_cond_true he (iha lv n s kn kx kr A ρ tm w lim X Q hs h hsim hn hx hr)
    ·rename_i hvt
     have:v=false:=by simpa using hvt
     subst this
     exact wp_cond_false he (ihb lv n s kn kx kr A ρ tm w lim X Q hs h hsim hn hx hr)
   ·rename_i v _ hv
    refine wp_cond_split (heval v hv) (fun hv'=>?_) fun hv'=>?_
    ·obtain ⟨hlt,hsame⟩:=VF hnt hv hv'
     exact iha lv n _ kn kx kr A ρ tm w lim X Q (JP (x:=.c (.bool (.lit true))) hnt hlt hs trivial) (h.1 hv') (by rw [hsame];exact hsim) hn hx hr
    ·obtain ⟨hlt,hsame⟩:=VF hnt hv hv'
     exact ihb lv n _ kn kx kr A ρ tm w lim X Q (JP (x:=.c (.bool (.lit false))) hnt hlt hs trivial) (h.2 hv') (by rw [hsame];exact hsim) hn hx hr
   ·exact h.elim
  ·exact h.elim
 | block id body ih =>
  intro lv n s kn kx kr A ρ tm w lim X Q hs h hsim hn hx hr
  refine wp_block (ih lv n s kn _ kr A ρ tm w lim X _ hs h hsim hn ?_ hr)
  intro id' s' n' ρ' A' hA hs' h' tm' w' lim' X' hsim'
  unfold Exit.inBlock
  by_cases hid:id'=id
  ·rw [if_pos hid] at h'
   simp only [hid,if_true]
   exact hn s' n' ρ' A' hA hs' h' tm' w' lim' X' hsim'
  ·rw [if_neg hid] at h'
   simp only [hid,if_false]
   exact hx id' s' n' ρ' A' hA hs' h' tm' w' lim' X' hsim'
 | scope body ih =>
  intro lv n s kn kx kr A ρ tm w lim X Q hs h hsim hn hx hr
  exact wp_scope_straight (ih lv n s kn kx kr A ρ tm w lim X _ hs h hsim hn hx hr)
 | loop body ih =>
  intro lv n s kn kx kr A ρ tm w lim X Q hs h hsim hn hx hr
  simp only [ev] at h
  split at h
  case isFalse=>exact h.elim
  rename_i hok
  split at h
  case h_2=>exact h.elim
  rename_i init hinit
  obtain ⟨I,m,h0,hround⟩:=h
  have hlen:∀ {s':Tr} {ves:List VE},YC P (gE E s') (E.keep (Z7 body))=some ves→(ZW (E.keep (Z7 body)) 0).2=ves.length:=by
   intro s' ves hv
   have:=(Ks (P:=P) (g:=gE E s') (ρ:=ρ) _ 0 ves [] hv rfl).1
   omega
  have key:∀ (k:Nat) (vs:List V) (tm:Array Value) (w:World) (lim:Nat→Nat) (X:Nat→Nat→Option Nat),m vs < k→vs.length=init.length→I vs→
    Sim c (ZO E (Je (ZW (E.keep (Z7 body)) 0).1 (.leaf .dead)) (bind Zex 0 vs)) tm w lim X→Code.rounds P body Q k ⟨tm,[]⟩ w:=by
   intro k
   induction k with
   | zero => intro vs tm w lim X hlt; omega
   | succ k ihk =>
    intro vs tm w lim X hlt hlv hI hsim
    rw [rounds_succ]
    obtain ⟨k1,k2,k3,k4,k5,k6⟩:=VJ hok
    have hbd:KB E (Je (ZW (E.keep (Z7 body)) 0).1 (.leaf .dead)) (ZW (E.keep (Z7 body)) 0).2:=by
     refine Jr hnt _ _ ?_ (fun d=>?_) (ZcQ _ 0).2
     ·unfold Kv
      rw [List.all_eq_true]
      intro u hu
      have h2:=(Ks (P:=P) (g:=gE E s) (ρ:=ρ) _ 0 init [] hinit rfl).2.1
      have hm:u.1∈(E.keep (Z7 body)).map (·.1):=by rw [← h2];exact List.mem_map.2 ⟨u,hu,rfl⟩
      obtain ⟨p,hp,he⟩:=List.mem_map.1 hm
      have:=(k2 p hp).1
      rw [he] at this
      simpa using this
     ·unfold gE
      split<;>trivial
    refine ih (lv+1) _ _ _ kx kr _ (bind Zex 0 vs) tm w lim X _ hbd (hround vs hlv hI) hsim ?_ ?_ ?_
    ·intro s' n' ρ' A' hA hs' h' tm' w' lim' X' hsim'
     split at h'
     ·rename_i vals hvals
      have hAl:A' lv=fun vs'=>I vs'∧m vs' < m vs:=by
       rw [hA lv (Nat.lt_succ_self _)]
       funext vs'
       simp only [ZmR,if_true]
      have h'':A' lv (vals.map (VE.den ρ')):=h'
      rw [hAl] at h''
      obtain ⟨hI',hm'⟩:=h''
      obtain ⟨X2,hs2⟩:=ZgK hnt hcP hcn hpin hgpin hok Zex hvals hsim'
      exact ihk _ tm' w' lim' X2 (by omega) (by rw [List.length_map,← hlen hvals,hlen hinit]) hI' hs2
     ·exact h'.elim
    ·intro id s' n' ρ' A' hA hs' h' tm' w' lim' X' hsim'
     exact hx id s' n' ρ' A' (fun i hi=>by rw [hA i (by omega)];funext vs';simp only [ZmR,Nat.ne_of_lt hi,if_false]) hs' h' tm' w' lim' X' hsim'
    ·intro s' n' ρ' A' hA hs' h' tm' w' lim' X' hsim'
     exact hr s' n' ρ' A' (fun i hi=>by rw [hA i (by omega)];funext vs';simp only [ZmR,Nat.ne_of_lt hi,if_false]) hs' h' tm' w' lim' X' hsim'
  obtain ⟨X0,hs0⟩:=ZgK hnt hcP hcn hpin hgpin hok Zex hinit hsim
  exact wp_loop_rounds _ (key (m (init.map (VE.den ρ))+1) _ tm w lim X0 (Nat.lt_succ_self _) (by rw [List.length_map]) h0 hs0)
 | region id ops draw =>
  intro lv n s0 kn kx kr A ρ tm w lim0 X0 Q hs0 h hsim0 hn hx hr
  simp only [ev] at h
  obtain ⟨hs,lim,X,hsim⟩:=ZcV (P:=P) hnt hcP (id:=id) (ops:=ops) hs0 hsim0
  generalize ZmV P E id ops s0=s at h hs hsim
  split at h
  ·rename_i x a d T neg htest
   split at h
   case h_2=>exact h.elim
   rename_i e l hT hl
   split at h
   case isFalse=>exact h.elim
   rename_i hh
   obtain ⟨ha,hd,hma,hmd,had,hxa⟩:=hh
   obtain ⟨o,p,U,hops,hgo,hgp,h1,h2,h3,h4⟩:=Zed htest
   obtain ⟨va,k,cap,hv,hnil⟩:=Zhg hl (show ZJ P w lim X (ZO E s ρ) x (ZO E s ρ x) (tm.getD x undef) from hcP ▸ hsim.rel x)
   have hsz:ops.size=2:=by rw [← Array.length_toList,hops];rfl
   have ho0:ops[0]? = some o:=by rw [← Array.getElem?_toList,hops];rfl
   have ho1:ops[1]? = some p:=by rw [← Array.getElem?_toList,hops];rfl
   refine wp_region ?_
   rw [hsz,show List.range 2 = [0,1] from rfl,wpOps_cons]
   unfold wpOp
   simp only [ho0,Region.wanted,hgo]
   simp only [if_true]
   refine .inl (Zl (v:=.slice va k cap) (w':=w) ?_ ?_)
   ·have hev:Act.eval ⟨tm,[]⟩ (.tmp x)=tm.getD x undef:=rfl
    simp only [execOp,h1,hev,hv,Sem.run_pure]
   ·rw [wpOps_cons]
    unfold wpOp
    simp only [ho1,Region.wanted,hgp]
    simp only [if_true]
    have hea:Act.eval (Act.put ⟨tm,[]⟩ o.dst (.slice va k cap)) (.tmp a) = .slice va k cap:=by
     rw [h2]
     exact JF tm a _ (by rw [hsim.size,hcn];exact ha)
    refine .inl (Zl (v:=.bool (if neg=true then !va.isNone else va.isNone)) (w':=w) ?_ ?_)
    ·have hec:Act.eval (Act.put ⟨tm,[]⟩ o.dst (.slice va k cap)) (.const (.slice none 0 0)) = .slice none 0 0:=rfl
     have heq:=run_equal_slice_nil (P:=P) w T _ va k cap hT
     cases neg
     ·simp [execOp,h3,hea,hec,eqGuard,binOp,heq]
     ·simp [execOp,h3,hea,hec,eqGuard,binOp,heq]
    ·have hb:=h va.isNone hnil
     have hna:Vn (ZO E s ρ a):=ZE (Yb (a:=gE E s a) (b:=.dead) ρ hma)
     have hnd:Vn (ZO E s ρ d):=ZE (Yb (a:=gE E s d) (b:=.dead) ρ hmd)
     have s1:=hsim.put (k:=0) (x:=.dead) (v:=.slice va k cap) (by rw [hcn];exact ha) hna rfl trivial
     have s2:=s1.put (d:=d) (k:=0) (x:=.val (.bool (if neg=true then !va.isNone else va.isNone))) (v:=.bool (if neg=true then !va.isNone else va.isNone)) (by rw [hcn];exact hd) (by rw [Zd _ _ (Ne.symm had)];exact hnd) rfl (Rep.val rfl)
     have hbv:(BE.den (bind ρ n [.b va.isNone]) (if neg=true then .not (.var n) else .var n))=(if neg=true then !va.isNone else va.isNone):=by
      have hvar:bind ρ n [.b va.isNone] n = .b va.isNone:=by simp [bind]
      cases neg
      ·simp only [Bool.false_eq_true,if_false,BE.den,hvar,V.bool]
      ·simp only [if_true,BE.den,hvar,V.bool]
     have hσ:ZO E ((s.set depth a .dead).set depth d (.c (.bool (if neg=true then .not (.var n) else .var n)))) (bind ρ n [.b va.isNone])=upd (upd (ZO E s ρ) a .dead) d (.val (.bool (if neg=true then !va.isNone else va.isNone))):=by
      rw [Yp hnt (JK hd),Yp hnt (JK ha),Zb6 hs (Kn ρ n _)]
      simp only [SV.den,SC.den,hbv]
     have hs2:KB E ((s.set depth a .dead).set depth d (.c (.bool (if neg=true then .not (.var n) else .var n)))) (n+1):=by
      refine JP hnt (JK hd) (JP hnt (JK ha) (ZeR hs (Nat.le_succ n)) trivial) ?_
      cases neg
      ·exact Nat.lt_succ_self n
      ·exact Nat.lt_succ_self n
     rw [h2,h4]
     show Q .normal ⟨(tm.setIfInBounds a (.slice va k cap)).setIfInBounds d (.bool (if neg=true then !va.isNone else va.isNone)),[]⟩ w
     exact hn _ _ _ A (fun _ _=>rfl) hs2 hb _ w lim _ (by rw [hσ];exact s2)
  ·split at h
   ·rename_i x i a b cc T htest _
    split at h
    case h_2=>exact h.elim
    rename_i e0 e l ie hT hgx hgi
    split at h
    case h_2=>exact h.elim
    rename_i inf hinf
    split at h
    case h_2=>exact h.elim
    rename_i z hz
    split at h
    case h_2=>exact h.elim
    rename_i zc sh hzc hsh
    split at h
    case h_2=>exact h.elim
    rename_i zc' hzc'
    split at h
    case isFalse=>exact h.elim
    rename_i hh
    obtain ⟨rfl,hzs,⟨h0,hnm⟩,hok⟩:=hh
    simp only [Zip,Bool.and_eq_true,decide_eq_true_eq] at hok
    obtain ⟨⟨hxn,han,hbn,hcn',hxa,hxb,hxc,hia,hab,hac,hbc⟩,hma,hmb,hmc⟩:=hok
    obtain ⟨r1,r2,h⟩:=h
    have r1':(0:Int)≤ie.den ρ:=r1
    have r2':ie.den ρ≤((l.den ρ).length:Int):=r2
    obtain ⟨o,p,q,r,hops,hgo,hgp,hgq,hgr,h1,h2,h3,h4,h5,h6,⟨cl,h7,h9,h10,h11⟩,h8⟩:=Zb4 htest
    have hσx:ZO E s ρ x = .own true e (l.den ρ):=by show (gE E s x).den ρ=_;rw [hgx];rfl
    have hσi:ZO E s ρ i = .val (.int .i64 (ie.den ρ)):=by show (gE E s i).den ρ=_;rw [hgi];rfl
    have hzd:=YW ρ z.cells.toList
    rw [hzc] at hzd
    have hzr0:∀ (w:World) (lim:Nat→Nat),J2 w lim (zc.map (SC.den ρ)) z.cells.toList:=fun w lim=>YE (h:=hzd.symm)
    have hzr:∀ (w:World) (lim:Nat→Nat),J2 w lim (zc'.map (SC.den ρ)) z.cells.toList:=fun w lim=>(KY ρ _ _ _ hzc').2 w lim _ (hzr0 w lim)
    have h1z:∀ v∈z.cells.toList,v.oneCell'=true:=by
     intro v hv
     obtain ⟨j,hj⟩:=List.mem_iff_getElem?.1 hv
     have hjl:=(List.getElem?_eq_some_iff.1 hj).1
     have hr0:=hzr0 w lim
     have hjz:j < (zc.map (SC.den ρ)).length:=by rw [hr0.1];exact hjl
     exact (hr0.2.2 j _ v (List.getElem?_eq_getElem hjz) hj).oneCell (hr0.2.1 _ (List.getElem_mem hjz))
    obtain ⟨v2,w',X',hsl,hcl,hs',hmx⟩:=hsim.clear (x:=x) (n:=(ie.den ρ).toNat) (T:=T) (zc:=zc'.map (SC.den ρ)) hσx (by rw [hcP];exact hT) (by rw [hcP];exact hinf) hz hzs h0 hzr h1z (by omega) (by rw [hcP];exact hnm)
    rw [hcP] at hsl hcl
    have hvi:tm.getD i undef = .int .i64 (ie.den ρ):=by
     have:=hsim.rel i
     rw [hσi] at this
     exact KU (show Rep w lim _ _ from this)
    have hin:((ie.den ρ).toNat:Int)=ie.den ρ:=by omega
    rw [hin] at hsl
    have hsz:ops.size=4:=by rw [← Array.length_toList,hops];rfl
    have ho0:ops[0]? = some o:=by rw [← Array.getElem?_toList,hops];rfl
    have ho1:ops[1]? = some p:=by rw [← Array.getElem?_toList,hops];rfl
    have ho2:ops[2]? = some q:=by rw [← Array.getElem?_toList,hops];rfl
    have ho3:ops[3]? = some r:=by rw [← Array.getElem?_toList,hops];rfl
    have hts:tm.size=E.nt:=by rw [hsim.size,hcn]
    refine wp_region ?_
    rw [hsz,show List.range 4 = [0,1,2,3] from rfl,wpOps_cons]
    unfold wpOp
    simp only [ho0,Region.wanted,hgo]
    simp only [if_true]
    refine .inl (Zl (v:=tm.getD x undef) (w':=w) ?_ ?_)
    ·have hev:Act.eval ⟨tm,[]⟩ (.tmp x)=tm.getD x undef:=rfl
     simp only [execOp,h1,hev,Sem.run_pure]
    rw [wpOps_cons]
    unfold wpOp
    simp only [ho1,Region.wanted,hgp]
    simp only [if_true]
    have e1:Act.eval (Act.put ⟨tm,[]⟩ o.dst (tm.getD x undef)) (.tmp i) = .int .i64 (ie.den ρ):=by
     rw [h2]
     exact (ZN tm a i _ hia).trans hvi
    refine .inl (Zl (v:=.int .i64 (ie.den ρ)) (w':=w) ?_ ?_)
    ·simp only [execOp,h3,e1,Sem.run_pure]
    rw [wpOps_cons]
    unfold wpOp
    simp only [ho2,Region.wanted,hgq]
    simp only [if_true]
    have e2:Act.eval (Act.put (Act.put ⟨tm,[]⟩ o.dst (tm.getD x undef)) p.dst (.int .i64 (ie.den ρ))) (.tmp a)=tm.getD x undef:=by
     rw [h2,h4]
     exact (ZN _ b a _ hab).trans (JF tm a _ (by rw [hts];exact han))
    have e3:Act.eval (Act.put (Act.put ⟨tm,[]⟩ o.dst (tm.getD x undef)) p.dst (.int .i64 (ie.den ρ))) (.tmp b) = .int .i64 (ie.den ρ):=by
     rw [h2,h4]
     exact JF _ b _ (by show b < (tm.setIfInBounds a _).size;rw [Array.size_setIfInBounds,hts];exact hbn)
    refine .inl (Zl (v:=v2) (w':=w) ?_ ?_)
    ·simp only [execOp,h5,Option.map_some,Option.map_none,Sem.run_bind,e2,e3,hsl,Result.andThen_ok,Sem.run_pure]
    rw [wpOps_cons]
    unfold wpOp
    simp only [ho3,Region.wanted,hgr]
    simp only [if_true]
    have e4:Act.eval (Act.put (Act.put (Act.put ⟨tm,[]⟩ o.dst (tm.getD x undef)) p.dst (.int .i64 (ie.den ρ))) q.dst v2) (.tmp cc)=v2:=by
     rw [h2,h4,h6]
     exact JF _ cc _ (by show cc < ((tm.setIfInBounds a _).setIfInBounds b _).size;rw [Array.size_setIfInBounds,Array.size_setIfInBounds,hts];exact hcn')
    refine .inl (Zl (v:=.tuple #[]) (w':=w') ?_ ?_)
    ·simp only [execOp,h7,h9,h10,h11,resolve,invoke,builtin,Sem.run_bind,Sem.run_pure,Result.andThen_ok,List.map_toArray,List.map_cons,List.map_nil,e4,hcl]
    have hna:Vn (ZO E s ρ a):=ZE (Yb (a:=gE E s a) (b:=.dead) ρ hma)
    have hnb:Vn (ZO E s ρ b):=ZE (Yb (a:=gE E s b) (b:=.dead) ρ hmb)
    have hnc:Vn (ZO E s ρ cc):=ZE (Yb (a:=gE E s cc) (b:=.dead) ρ hmc)
    have s1:=hs'.put (d:=a) (k:=0) (x:=.dead) (v:=tm.getD x undef) (by rw [hcn];exact han) (by rw [Zd _ _ (Ne.symm hxa)];exact hna) rfl trivial
    have s2:=s1.put (d:=b) (k:=0) (x:=.dead) (v:=.int .i64 (ie.den ρ)) (by rw [hcn];exact hbn) (by rw [Zd _ _ (Ne.symm hab),Zd _ _ (Ne.symm hxb)];exact hnb) rfl trivial
    have s3:=s2.put (d:=cc) (k:=0) (x:=.dead) (v:=v2) (by rw [hcn];exact hcn') (by rw [Zd _ _ (Ne.symm hbc),Zd _ _ (Ne.symm hac),Zd _ _ (Ne.symm hxc)];exact hnc) rfl trivial
    have hwr:iop .sub .i64 ((l.den ρ).length:Int) (ie.den ρ)=((l.den ρ).length:Int)-ie.den ρ:=by
     show IntKind.i64.wrap _=_
     rw [IntKind.wrap_i64]
     unfold maxLen at hmx
     omega
    have hlist:(LE.app (.take l ie) (.rep (.bin .sub .i64 (.len l) ie) (ZgX zc'))).den ρ=(l.den ρ).take (ie.den ρ).toNat++List.replicate ((l.den ρ).length-(ie.den ρ).toNat) (zc'.map (SC.den ρ)):=by
     show (l.den ρ).take (ie.den ρ).toNat++List.replicate (iop .sub .i64 ((l.den ρ).length:Int) (ie.den ρ)).toNat ((ZgX zc').den ρ)=_
     rw [hwr,Vc]
     congr 2
     omega
    have bx:(gE E s x).bd n:=hs x
    have bi:(gE E s i).bd n:=hs i
    rw [hgx] at bx
    rw [hgi] at bi
    have hσ:ZO E ((((s.set depth x (.own true e (.app (.take l ie) (.rep (.bin .sub .i64 (.len l) ie) (ZgX zc'))))).set depth a .dead).set depth b .dead).set depth cc .dead) ρ=upd (upd (upd (upd (ZO E s ρ) x (.own true e ((l.den ρ).take (ie.den ρ).toNat++List.replicate ((l.den ρ).length-(ie.den ρ).toNat) (zc'.map (SC.den ρ))))) a .dead) b .dead) cc .dead:=by
     rw [Yp hnt (JK hcn'),Yp hnt (JK hbn),Yp hnt (JK han),Yp hnt (JK hxn)]
     simp only [SV.den,hlist]
    have hs2:KB E ((((s.set depth x (.own true e (.app (.take l ie) (.rep (.bin .sub .i64 (.len l) ie) (ZgX zc'))))).set depth a .dead).set depth b .dead).set depth cc .dead) n:=
     JP hnt (JK hcn') (JP hnt (JK hbn) (JP hnt (JK han) (JP hnt (JK hxn) hs ⟨⟨bx,bi⟩,⟨bx,bi⟩,Wv _ (Ki _ _ _ hzc' (KW hzc))⟩) trivial) trivial) trivial
    rw [h2,h4,h6,h8]
    exact hn _ _ ρ A (fun _ _=>rfl) hs2 h _ w' lim _ (by rw [hσ];exact s3)
   ·exact Zd9 hm hps hnt (fun d j=>ZmL) (fun d hd=>Zf8 ρ hd) hs h hcP hcn hsim fun s' n' ρ' hs' h'=>hn s' n' ρ' A (fun _ _=>rfl) hs' h'
 | _ => intro lv n s kn kx kr A ρ tm w lim X Q hs h hsim hn hx hr; exact h.elim
end
end Go.AM
end

section
namespace Go.AM
def KS (tm:Array Value):ResultVar→Sem Value
 | .tmp t => pure (tm.getD t undef)
 | .cell a t => do loadVar t (← asAddr (tm.getD a undef))
def Wf:ResultVar→Nat
 | .tmp _ => 0
 | .cell _ _ => 1
theorem ZgR (fn:Func) (tm:Array Value):results fn tm=(do
  let vs ← fn.results.mapM (KS tm)
  pure (if h:vs.size=1 then vs[0] else .tuple vs)):=by
 unfold results
 congr 1
theorem Zgx {P:Program} {w:World} {f:ResultVar→Sem Value} : ∀ (rs:List ResultVar) (vs:List Value),rs.length=vs.length→
  (∀ (i:Nat) (r:ResultVar) (v:Value),rs[i]? = some r→vs[i]? = some v→(f r).run P w = .ok v w)→(rs.mapM f).run P w = .ok vs w
 | [], [], _, _ => by simp
 | [], _ :: _, h, _ => by simp at h
 | _ :: _, [], h, _ => by simp at h
 | r :: rs, v :: vs, h, hf => by
  have h1:=hf 0 r v rfl rfl
  have h2:=Zgx rs vs (by simpa using h) fun i r' v' hr hv=>hf (i+1) r' v' (by simpa using hr) (by simpa using hv)
  simp [List.mapM_cons,h1,h2]
theorem Ko {P:Program} {w:World} {fn:Func} {tm:Array Value} {vs:List Value} (hl:fn.results.toList.length=vs.length)
  (hf:∀ (i:Nat) (r:ResultVar) (v:Value),fn.results.toList[i]? = some r→vs[i]? = some v→(KS tm r).run P w = .ok v w) :
  (results fn tm).run P w = .ok (match vs with | [v]=>v | vs=>.tuple vs.toArray) w:=by
 have h:=Zgx _ _ hl hf
 rw [ZgR,Array.mapM_eq_mapM_toList]
 simp only [Sem.run_bind,Sem.run_map,h,Result.andThen_ok]
 rcases vs with _ | ⟨v,_ | ⟨u,l⟩⟩ <;> simp
section
variable {P:Program} {E:Env}
theorem Zef {c:Ctx} (hc:c.P=P) {s:Tr} {ρ:Nat→V} {tm:Array Value} {w:World} {lim:Nat→Nat} {X:Nat→Nat→Option Nat} (hs:Sim c (ZO E s ρ) tm w lim X) {r:ResultVar} {x:TC}
  (h:Kg P (gE E s) r=some x):∃ v,(KS tm r).run P w = .ok v w∧J0 P w lim (X (ZV r) (Wf r)) (x.den ρ) v:=by
 cases r with
 | tmp t =>
  have hr:=hs.rel t
  simp only [Kg] at h
  split at h
  ·rename_i y hy
   simp only [Option.some.injEq] at h
   subst h
   have:ZO E s ρ t=y.den ρ:=by simp only [ZO,hy,SV.den]
   rw [this] at hr
   exact ⟨_,rfl,by cases y<;>exact hr⟩
  ·rename_i cs hy
   simp only [Option.some.injEq] at h
   subst h
   have:ZO E s ρ t = .agg (cs.map (SC.den ρ)):=by simp only [ZO,hy,SV.den]
   rw [this] at hr
   exact ⟨_,rfl,hr⟩
  ·rename_i b e xs hy
   simp only [Option.some.injEq] at h
   subst h
   have:ZO E s ρ t = .own b e (xs.den ρ):=by simp only [ZO,hy,SV.den]
   rw [this,hc] at hr
   exact ⟨_,rfl,hr⟩
  ·cases h
 | cell t T =>
  have hr:=hs.rel t
  simp only [Kg] at h
  split at h
  ·rename_i cs hT hy
   split at h
   ·rename_i hl
    simp only [Option.some.injEq] at h
    subst h
    have:ZO E s ρ t = .box (cs.map (BC.den ρ)):=by simp only [ZO,hy,SV.den]
    rw [this,hc] at hr
    obtain ⟨b,us,g1,g2,g3,g4,g5,g6⟩:=ZB.part (show ZB P w lim (X t) _ _ from hr) 0 (P.cellsOf T) (by simp [hl.1]) (by rw [List.drop_zero,List.take_of_length_le (by simp [hl.1])];exact Za6 hl.2.1 ρ) (by rw [List.drop_zero,List.take_of_length_le (by simp [hl.1])];exact VW hl.2.2 ρ)
    refine ⟨.agg us.toArray,?_,?_⟩
    ·obtain ⟨i,hi⟩:=WI hT
     have hl2:=run_loadCells_list (P:=P) w ⟨b,0,none⟩ us (fun j v hj=>by rw [Jq];exact g4 j v hj)
     rw [g3] at hl2
     simp [KS,g2,asAddr,loadVar,Vh hT,Zq hi,hl2]
    ·have he:(TC.agg (cs.map (Zcj P))).den ρ = .agg ((((cs.map (BC.den ρ)).drop 0).take (P.cellsOf T)).map (Ya P)):=by
      rw [List.drop_zero,List.take_of_length_le (by simp [hl.1])]
      simp only [TC.den,List.map_map]
      congr 1
      exact List.map_congr_left fun b _=>ZcJ P ρ b
     rw [he]
     exact .agg (by simp [g3,hl.1]) g5 g6
   ·cases h
  ·rename_i bx e xs hT hy
   simp only [Option.some.injEq] at h
   subst h
   have:ZO E s ρ t = .box [.own bx e (xs.den ρ)]:=by simp only [ZO,hy,SV.den];rfl
   rw [this,hc] at hr
   obtain ⟨b,arr,ty,h1,h2,h3,h4,h5,h6,h7⟩:=(show ZB P w lim (X t) _ _ from hr)
   obtain ⟨u,hu⟩:∃ u,arr[0]? = some u:=⟨_,Array.getElem?_eq_getElem (by rw [h4];simp)⟩
   refine ⟨u,?_,h7 0 _ u rfl hu⟩
   have hcell:w.cell? ⟨b,0,none⟩=some u:=by rw [Zr h3];exact hu
   simp [KS,h2,asAddr,loadVar,Ku hT,hcell]
  ·rename_i y hT hy
   simp only [Option.some.injEq] at h
   subst h
   have:ZO E s ρ t = .box [y.den ρ]:=by simp only [ZO,hy,SV.den];rfl
   rw [this,hc] at hr
   obtain ⟨b,arr,ty,h1,h2,h3,h4,h5,h6,h7⟩:=(show ZB P w lim (X t) _ _ from hr)
   obtain ⟨u,hu⟩:∃ u,arr[0]? = some u:=⟨_,Array.getElem?_eq_getElem (by rw [h4];simp)⟩
   have h70:=h7 0 _ u rfl hu
   refine ⟨u,?_,by cases y<;>exact h70⟩
   have hcell:w.cell? ⟨b,0,none⟩=some u:=by rw [Zr h3];exact hu
   simp [KS,h2,asAddr,loadVar,Ku hT,hcell]
  ·cases h
theorem Zea {c:Ctx} (hc:c.P=P) {s:Tr} {ρ:Nat→V} {tm:Array Value} {w:World} {lim:Nat→Nat} {X:Nat→Nat→Option Nat} (hs:Sim c (ZO E s ρ) tm w lim X):∀ (rs:List ResultVar) (xs:List TC),
  KF P (gE E s) rs=some xs→∃ vs:List Value,rs.length=vs.length∧xs.length=vs.length∧∀ (i:Nat) (r:ResultVar) (v:Value),rs[i]? = some r→vs[i]? = some v→
   (KS tm r).run P w = .ok v w∧∀ x,xs[i]? = some x→J0 P w lim (X (ZV r) (Wf r)) (x.den ρ) v
 | [], xs, h => by
  simp only [KF,Option.some.injEq] at h
  subst h
  exact ⟨[],rfl,rfl,by simp⟩
 | r :: rs, xs, h => by
  simp only [KF] at h
  split at h
  ·rename_i x xs' hx hxs
   simp only [Option.some.injEq] at h
   subst h
   obtain ⟨v,h1,h2⟩:=Zef hc hs hx
   obtain ⟨vs,g1,g2,g3⟩:=Zea hc hs rs xs' hxs
   refine ⟨v::vs,by simp [g1],by simp [g2],fun i r' v' hr hv=>?_⟩
   cases i with
   | zero =>
    simp only [List.getElem?_cons_zero,Option.some.injEq] at hr hv
    subst hr
    subst hv
    refine ⟨h1,fun y hy=>?_⟩
    simp only [List.getElem?_cons_zero,Option.some.injEq] at hy
    subst hy
    exact h2
   | succ i =>
    obtain ⟨k1,k2⟩:=g3 i r' v' (by simpa using hr) (by simpa using hv)
    exact ⟨k1,fun y hy=>k2 y (by simpa using hy)⟩
  ·cases h
theorem Zfm {w:World} {lim:Nat→Nat} {X:Nat→Nat→Option Nat} {σ:Nat→AV} {d:Nat} {x:TC} {ρ:Nat→V} {v:Value} (h:J0 P w lim (X d 0) (x.den ρ) v):ZJ P w lim X σ d (x.den ρ) v:=by
 cases x with
 | c y => cases y <;> exact h
 | agg cs => exact h
 | own x e l => exact h
 | gone => trivial
theorem Zb7 (ρ:Nat→V):∀ (aZ:List SV) (i:Nat) (σ:Nat→AV) (d:Nat),Jl σ ((KT aZ i).map fun u=>(u.1,u.2.den ρ)) d=if i≤d∧d < i+aZ.length then ZG (aZ.map (SV.den ρ)) (d-i) else σ d
 | [], i, σ, d => by
  rw [if_neg (by simp)]
  rfl
 | a :: aZ, i, σ, d => by
  simp only [KT,List.map_cons,Jl]
  rw [Zb7 ρ aZ (i+1)]
  by_cases h:i+1≤d∧d < i+1+aZ.length
  ·rw [if_pos h,if_pos (by simp only [List.length_cons];omega)]
   obtain ⟨k,hk⟩:∃ k,d-i=k+1:=⟨d-i-1,by omega⟩
   rw [hk,show d-(i+1)=k by omega]
   simp [ZG]
  ·rw [if_neg h]
   by_cases hd:d=i
   ·subst hd
    rw [Zu,if_pos (by simp)]
    simp [ZG]
   ·rw [Zd _ _ hd,if_neg (by simp only [List.length_cons];omega)]
theorem Zd3 {n:Nat} : ∀ (aZ:List SV) (i:Nat),(∀ a∈aZ,a.bd n)→∀ u∈KT aZ i,u.2.bd n
 | [], i, _, u, hu => by simp [KT] at hu
 | a :: aZ, i, h, u, hu => by
  rcases List.mem_cons.1 hu with rfl | hu
  ·exact h a (by simp)
  ·exact Zd3 aZ (i+1) (fun b hb=>h b (by simp [hb])) u hu
theorem Zcf:∀ (aZ:List SV) (i m:Nat),i+aZ.length≤m→∀ u∈KT aZ i,u.1 < m
 | [], i, m, _, u, hu => by simp [KT] at hu
 | a :: aZ, i, m, h, u, hu => by
  simp only [List.length_cons] at h
  rcases List.mem_cons.1 hu with rfl | hu
  ·show i < m;omega
  ·exact Zcf aZ (i+1) m (by omega) u hu
def SV.isBx:SV→Bool
 | .box _ => true
 | .gbox _ => true
 | _ => false
theorem Kk {a:SV} {aZ:List SV} {i:Nat} (h:Jh E (a::aZ) i=true):Jh E aZ (i+1)=true:=by
 cases a<;>simp only [Jh,Bool.and_eq_true,Bool.false_eq_true] at h<;>exact h.2
theorem Vz:∀ (aZ:List SV) (i:Nat),Jh E aZ i=true→∀ (j:Nat) (a:SV),aZ[j]? = some a→(∀ cs,a = .box cs→i+j∈E.pins)∧(a.isG=true↔E.nt≤i+j)
 | [], i, _, j, a, h => by simp at h
 | a :: aZ, i, hf, j, b, h => by
  cases j with
  | zero =>
   simp only [List.getElem?_cons_zero,Option.some.injEq] at h
   subst h
   refine ⟨fun cs e=>?_,?_⟩
   ·subst e
    simp only [Jh,Bool.and_eq_true,List.contains_iff_mem] at hf
    exact hf.1.2
   ·cases a<;>simp only [Jh,Bool.and_eq_true,decide_eq_true_eq,Bool.false_eq_true] at hf<;>simp only [SV.isG,Bool.false_eq_true,false_iff,true_iff]<;>omega
  | succ j =>
   have:=Vz aZ (i+1) (Kk hf) j b (by simpa using h)
   rw [show i+(j+1)=i+1+j by omega]
   exact this
theorem Zgn (g:Nat→SV):∀ (aZ:List SV) (i j:Nat),(YB g aZ i)[j]? = (aZ[j]?).map fun a=>if a.isBx=true then g (i+j) else .dead
 | [], i, j => by simp [YB]
 | a :: aZ, i, 0 => by cases a <;> rfl
 | a :: aZ, i, j + 1 => by
  have:=Zgn g aZ (i+1) j
  rw [show i+1+j=i+(j+1) by omega] at this
  cases a<;>simpa [YB] using this
theorem ZeO (g:Nat→SV):∀ (aZ:List SV) (i:Nat),(YB g aZ i).length=aZ.length
 | [], i => rfl
 | a :: aZ, i => by cases a <;> simp [YB, ZeO g aZ]
def ZdJ (args:List SV) (rs:List ResultVar) (i k:Nat):Option (Nat×Nat):=
 if i < args.length then (if (args[i]?).map SV.isBx=some true then some (i,k) else none)
 else if i=args.length then
  match rs with
  | [r] => if k = 0 then some (ZV r, Wf r) else none
  | rs => match k with | 0 => none | k + 1 => (rs[k]?).map fun r => (ZV r, Wf r)
 else none
theorem Zgc:∀ (rs:List ResultVar),(rs.map ZV).Nodup→∀ (i j:Nat) (a b:ResultVar),rs[i]? = some a→rs[j]? = some b→ZV a=ZV b→i=j
 | [], _, i, j, a, b, h, _, _ => by simp at h
 | r :: rs, hn, i, j, a, b, ha, hb, he => by
  rw [List.map_cons,List.nodup_cons] at hn
  cases i with
  | zero =>
   cases j with
   | zero => rfl
   | succ j =>
    simp only [List.getElem?_cons_zero,Option.some.injEq] at ha
    subst ha
    exact (hn.1 (List.mem_map.2 ⟨b,List.mem_of_getElem? (by simpa using hb),he.symm⟩)).elim
  | succ i =>
   cases j with
   | zero =>
    simp only [List.getElem?_cons_zero,Option.some.injEq] at hb
    subst hb
    exact (hn.1 (List.mem_map.2 ⟨a,List.mem_of_getElem? (by simpa using ha),he⟩)).elim
   | succ j => rw [Zgc rs hn.2 i j a b (by simpa using ha) (by simpa using hb) he]
theorem Zan {args:List SV} {rs:List ResultVar} {k:Nat} {p:Nat×Nat} (h:ZdJ args rs args.length k=some p) :
  ∃ j r,rs[j]? = some r∧p=(ZV r,Wf r)∧((rs.length=1∧j=0∧k=0)∨(rs.length≠1∧k=j+1)):=by
 unfold ZdJ at h
 rw [if_neg (Nat.lt_irrefl _),if_pos rfl] at h
 split at h
 ·rename_i r
  split at h
  ·rename_i hk
   simp only [Option.some.injEq] at h
   exact ⟨0,r,rfl,h.symm,.inl ⟨rfl,rfl,hk⟩⟩
  ·cases h
 ·rename_i hne
  split at h
  ·cases h
  ·rename_i k
   cases hr:rs[k]? with
   | none => simp [hr] at h
   | some r =>
    simp only [hr,Option.map_some,Option.some.injEq] at h
    refine ⟨k,r,hr,h.symm,.inr ⟨fun h1=>?_,rfl⟩⟩
    obtain ⟨r',hr'⟩:=List.length_eq_one_iff.1 h1
    exact hne r' hr'
theorem ZkA {args:List SV} {rs:List ResultVar} (hf:WE args rs=true) {i k i' k':Nat} {p:Nat×Nat} (h:ZdJ args rs i k=some p) (h':ZdJ args rs i' k'=some p):i=i'∧k=k':=by
 simp only [WE,Bool.and_eq_true] at hf
 obtain ⟨hn,hb⟩:=hf
 have hnd:=VU _ hn
 have hform:∀ i k p,ZdJ args rs i k=some p→(i < args.length∧p=(i,k)∧∃ a,args[i]? = some a∧a.isBx=true)∨i=args.length:=by
  intro i k p h
  unfold ZdJ at h
  split at h
  ·rename_i hi
   split at h
   ·rename_i hbx
    simp only [Option.some.injEq] at h
    obtain ⟨a,ha,hax⟩:=Option.map_eq_some_iff.1 hbx
    exact .inl ⟨hi,h.symm,a,ha,hax⟩
   ·cases h
  ·split at h
   ·rename_i hi;exact .inr hi
   ·cases h
 have hno:∀ (j:Nat) (r:ResultVar),rs[j]? = some r→∀ a,args[ZV r]? = some a→a.isBx=true→False:=by
  intro j r hr a ha hax
  rw [List.all_eq_true] at hb
  have:=hb r (List.mem_of_getElem? hr)
  rw [ha] at this
  cases a<;>simp [SV.isBx] at hax<;>cases this
 rcases hform i k p h with ⟨h1,h2,a,h3,h4⟩ | h1<;>rcases hform i' k' p h' with ⟨h1',h2',a',h3',h4'⟩ | h1'
 ·rw [h2] at h2'
  simp only [Prod.mk.injEq] at h2'
  exact h2'
 ·subst h1'
  obtain ⟨j,r,g1,g2,_⟩:=Zan h'
  rw [h2] at g2
  simp only [Prod.mk.injEq] at g2
  exact (hno j r g1 a (by rw [← g2.1];exact h3) h4).elim
 ·subst h1
  obtain ⟨j,r,g1,g2,_⟩:=Zan h
  rw [h2'] at g2
  simp only [Prod.mk.injEq] at g2
  exact (hno j r g1 a' (by rw [← g2.1];exact h3') h4').elim
 ·subst h1
  subst h1'
  obtain ⟨j,r,g1,g2,g3⟩:=Zan h
  obtain ⟨j',r',g1',g2',g3'⟩:=Zan h'
  rw [g2] at g2'
  simp only [Prod.mk.injEq] at g2'
  have:=Zgc rs hnd j j' r r' g1 g1' g2'.1
  refine ⟨rfl,?_⟩
  omega
end
end Go.AM
end

section
namespace Go.AM
def Zj4 (P:Program) (rec:TypeId→Bool) (e:Nat):List Field→Nat→Bool
 | [], _ => true
 | f :: fs, off => (f.name != "_") && (f.offset == off) &&
  (match P.underlying f.type with
   | some (.int _) => true
   | some .bool => true
   | some (.struct _) => rec f.type && (P.info? f.type).isSome
   | _ => false) &&
  (match Yr P e f.type with | some l=>(P.cellsOf f.type == l.length)&&Zj4 P rec e fs (off+l.length) | none=>false)
def Zg3 (P:Program):Nat→TypeId→Bool
 | 0, _ => false
 | e + 1, T =>
  match P.underlying T with
  | some (.struct fs) => Zj4 P (Zg3 P e) e fs.toList 0 && !P.stoodInHeld T
  | _ => false
def Znr (P:Program) (T:TypeId):Bool:=Zg3 P 8 T&&!P.eqGuardType P.depth T
theorem Ve:∀ (L1 L2:List Sh) (us:List Value),Yq (L1++L2) us→Yq L1 (us.take L1.length)∧Yq L2 (us.drop L1.length)∧(us.take L1.length).length=L1.length
 | [], L2, us, h => ⟨by simp [Yq], by simpa using h, by simp⟩
 | s :: L1, L2, [], h => by cases s <;> exact h.elim
 | s :: L1, L2, u :: us, h => by
  cases s<;>cases u<;>try exact h.elim
  ·obtain ⟨h1,h2,h3⟩:=Ve L1 L2 us h.2
   exact ⟨⟨h.1,h1⟩,h2,by simpa using h3⟩
  ·obtain ⟨h1,h2,h3⟩:=Ve L1 L2 us h
   exact ⟨h1,h2,by simpa using h3⟩
theorem Ze8:∀ (L:List Sh) (a c b d:List Value),Yq L a→Yq L c→eqV (a++b) (c++d)=(eqV a c&&eqV b d)
 | [], [], [], b, d, _, _ => by simp [eqV]
 | [], _ :: _, _, _, _, h, _ => h.elim
 | [], [], _ :: _, _, _, _, h => h.elim
 | s :: L, [], _, _, _, h, _ => by cases s <;> exact h.elim
 | s :: L, _ :: _, [], _, _, _, h => by cases s <;> exact h.elim
 | s :: L, x :: a, y :: c, b, d, h, h' => by
  cases s<;>cases x<;>(try exact h.elim)<;>cases y<;>try exact h'.elim
  ·simp only [List.cons_append,eqV,Ze8 L a c b d h.2 h'.2,Bool.and_assoc]
  ·simp only [List.cons_append,eqV,Ze8 L a c b d h h',Bool.and_assoc]
section
variable {P:Program}
def Zk8 (P:Program) (e k:Nat) (T:TypeId):Prop:=∀ (L:List Sh) (us vs:List Value) (w:World),Yr P e T=some L→Yq L us→Yq L vs→
 (Op.equalIn (k+e) T (.agg us.toArray) (.agg vs.toArray)).run P w = .ok (eqV us vs) w
theorem Zbq (e k:Nat) (rec:TypeId→Bool) (hrec:∀ T,rec T=true→Zk8 P e k T) (w:World) (us vs:List Value):∀ (fs:List Field) (n:Nat) (L:List Sh),Zj4 P rec e fs n=true→
  fs.foldr (fun f acc=>match Yr P e f.type,acc with | some a,some b=>some (a++b) | _,_=>none) (some [])=some L→Yq L (us.drop n)→Yq L (vs.drop n)→
  (Op.eqFields (k+e) us.toArray vs.toArray fs).run P w = .ok (eqV (us.drop n) (vs.drop n)) w
 | [], n, L, _, hL, hu, hv => by
  simp only [List.foldr_nil,Option.some.injEq] at hL
  subst hL
  cases h:us.drop n with
  | nil => simp [Op.eqFields, eqV]
  | cons x l => rw [h] at hu; exact hu.elim
 | f :: fs, n, L, hf, hL, hu, hv => by
  simp only [Zj4,Bool.and_eq_true,bne_iff_ne,ne_eq,beq_iff_eq] at hf
  obtain ⟨⟨⟨hname,hoff⟩,hty⟩,hrest⟩:=hf
  simp only [List.foldr_cons] at hL
  split at hL
  case h_2=>cases hL
  rename_i a L' ha hL'
  simp only [Option.some.injEq] at hL
  subst hL
  rw [ha] at hrest
  simp only [Bool.and_eq_true,beq_iff_eq] at hrest
  obtain ⟨hcells,hrest⟩:=hrest
  obtain ⟨u1,u2,u3⟩:=Ve a L' _ hu
  obtain ⟨v1,v2,v3⟩:=Ve a L' _ hv
  rw [List.drop_drop] at u2 v2
  have ih:=Zbq e k rec hrec w us vs fs (n+a.length) L' hrest hL' u2 v2
  have hus:us.drop n=(us.drop n).take a.length++us.drop (n+a.length):=by
   rw [← List.drop_drop,List.take_append_drop]
  have hvs:vs.drop n=(vs.drop n).take a.length++vs.drop (n+a.length):=by
   rw [← List.drop_drop,List.take_append_drop]
  have hev:eqV (us.drop n) (vs.drop n)=(eqV ((us.drop n).take a.length) ((vs.drop n).take a.length)&&eqV (us.drop (n+a.length)) (vs.drop (n+a.length))):=by
   rw [hus,hvs]
   have:=Ze8 a ((us.drop n).take a.length) ((vs.drop n).take a.length) (us.drop (n+a.length)) (vs.drop (n+a.length)) u1 v1
   rw [← hus,← hvs] at this ⊢
   exact this
  rw [hev]
  -- the field's value
  suffices hx:∃ x y,(part f.type us.toArray f.offset).run P w = .ok x w∧(part f.type vs.toArray f.offset).run P w = .ok y w∧(Op.equalIn (k+e) f.type x y).run P w = .ok (eqV ((us.drop n).take a.length) ((vs.drop n).take a.length)) w by
   obtain ⟨x,y,p1,p2,p3⟩:=hx
   simp only [Op.eqFields,hname,ne_eq,not_false_eq_true,if_true,Sem.run_bind,p1,p2,p3,Result.andThen_ok,Sem.run_ite]
   cases h:eqV ((us.drop n).take a.length) ((vs.drop n).take a.length)
   ·simp
   ·simpa using ih
  have he:∃ e',e=e'+1:=by
   cases e with
   | zero => simp [Yr] at ha
   | succ e' => exact ⟨e', rfl⟩
  obtain ⟨e',rfl⟩:=he
  have one:∀ (l:List Value),((l.drop n).take 1).length=1→∃ x,(l.drop n).take 1 = [x]∧l[n]? = some x:=by
   intro l hl
   cases h:l.drop n with
   | nil => rw [h] at hl; simp at hl
   | cons x r =>
    refine ⟨x,rfl,?_⟩
    have:=congrArg (fun l=>l[0]?) h
    simpa using this
  split at hty
  ·rename_i kk hk
   have ha':a = [.int kk]:=by
    simp only [Yr,hk,Option.some.injEq] at ha
    exact ha.symm
   subst ha'
   obtain ⟨x,x1,x2⟩:=one us u3
   obtain ⟨y,y1,y2⟩:=one vs v3
   simp only [List.length_cons,List.length_nil,Nat.zero_add] at u1 v1 ⊢
   rw [x1] at u1 ⊢
   rw [y1] at v1 ⊢
   cases x<;>try exact u1.elim
   cases y<;>try exact v1.elim
   obtain ⟨rfl,_⟩:=u1
   obtain ⟨rfl,_⟩:=v1
   have p1:∀ (l:List Value) (x:Value),l[n]? = some x→(part f.type l.toArray f.offset).run P w = .ok x w:=by
    intro l x h
    rw [hoff]
    have:l.toArray[n]? = some x:=by simpa using h
    simp [part,isAgg,run_underlying hk,this]
   refine ⟨_,_,p1 us _ x2,p1 vs _ y2,?_⟩
   rw [show k+(e'+1)=(k+e')+1 from rfl,run_equalIn_int w (k+e') f.type _ _ _ _ hk]
   simp [eqV]
  ·rename_i hk
   have ha':a = [.bool]:=by
    simp only [Yr,hk,Option.some.injEq] at ha
    exact ha.symm
   subst ha'
   obtain ⟨x,x1,x2⟩:=one us u3
   obtain ⟨y,y1,y2⟩:=one vs v3
   simp only [List.length_cons,List.length_nil,Nat.zero_add] at u1 v1 ⊢
   rw [x1] at u1 ⊢
   rw [y1] at v1 ⊢
   cases x<;>try exact u1.elim
   cases y<;>try exact v1.elim
   have p1:∀ (l:List Value) (x:Value),l[n]? = some x→(part f.type l.toArray f.offset).run P w = .ok x w:=by
    intro l x h
    rw [hoff]
    have:l.toArray[n]? = some x:=by simpa using h
    simp [part,isAgg,run_underlying hk,this]
   refine ⟨_,_,p1 us _ x2,p1 vs _ y2,?_⟩
   rw [show k+(e'+1)=(k+e')+1 from rfl,run_equalIn_bool' w (k+e') f.type _ _ hk]
   simp [eqV]
  ·rename_i gs hk
   rw [Bool.and_eq_true] at hty
   obtain ⟨inf,hinf⟩:=Option.isSome_iff_exists.1 hty.2
   have hsz:P.cellsOf f.type=inf.size:=Zx hinf
   have p1:∀ (l:List Value),(part f.type l.toArray f.offset).run P w = .ok (.agg ((l.drop n).take a.length).toArray) w:=by
    intro l
    rw [hoff]
    have hag:(isAgg f.type).run P w = .ok true w:=by simp [isAgg,run_underlying hk]
    have:l.toArray.extract n (n+inf.size)=((l.drop n).take a.length).toArray:=by
     apply Array.toList_inj.1
     rw [Array.toList_extract]
     simp [List.extract_eq_take_drop,← hcells,hsz]
    rw [← hsz,hcells] at this
    simp [part,hag,Zq hinf,← hsz,hcells]
   exact ⟨_,_,p1 us,p1 vs,hrec f.type hty.1 a _ _ w ha u1 v1⟩
  ·cases hty
theorem ZiY:∀ (e k:Nat) (T:TypeId),Zg3 P e T=true→Zk8 P e k T
 | 0, _, _, h => by simp [Zg3] at h
 | e + 1, k, T, h => by
  intro L us vs w hL hu hv
  unfold Zg3 at h
  split at h
  ·rename_i fs hfs
   simp only [Bool.and_eq_true,Bool.not_eq_true'] at h
   have hfo:P.fieldsOf T=fs:=by simp only [Program.fieldsOf,hfs]
   rw [show k+(e+1)=(k+e)+1 from rfl,run_equalIn_struct w (k+e) T _ _ (by rw [hfo];exact hfs) h.2,hfo]
   have:=Zbq e k (Zg3 P e) (fun T' h'=>ZiY e k T' h') w us vs fs.toList 0 L h.1 (by
    rw [Yr] at hL
    simp only [hfs] at hL
    exact hL) (by simpa using hu) (by simpa using hv)
   simpa using this
  ·cases h
theorem Zkg {plain:List TypeId} (h:plain.all (Znr P)=true):Vj P plain:=by
 intro T hT
 rw [List.all_eq_true] at h
 have hf:=h T hT
 unfold Znr at hf
 simp only [Bool.and_eq_true,Bool.not_eq_true'] at hf
 exact ⟨hf.2,fun L hL us vs hu hv w=>ZiY 8 9992 T hf.1 L us vs w hL hu hv⟩
end
end Go.AM
end

section
namespace Go.AM
def Znh (l:List V):Nat→V:=fun n=>(l[n]?).getD (.i 0)
abbrev I (z:Int):AV:=.val (.int .i64 z)
abbrev B (b:Bool):AV:=.val (.bool b)
theorem ZhY {z:Int} (h1 : -(2^63:Int)≤z) (h2:z < 2^63):IntKind.i64.wrap z=z:=by
 have e:(2:Int)^63=9223372036854775808:=by decide
 rw [e] at h1 h2
 simp only [IntKind.wrap]
 have:IntKind.i64.signed=true:=rfl
 simp [this,IntKind.bits]
 omega
theorem Zi4 {a b:Int} (h1 : -(2^63:Int)≤a+b) (h2:a+b < 2^63):iop .add .i64 a b=a+b:=ZhY h1 h2
theorem Zod {a b:Int} (h1 : -(2^63:Int)≤a-b) (h2:a-b < 2^63):iop .sub .i64 a b=a-b:=ZhY h1 h2
theorem Zjn (a b:Int):(cop .lss a b=true)=(a < b):=by simp [cop]
theorem Ziq (a b:Int):(cop .lss a b=false)=(b≤a):=by simp [cop]
theorem Zh6 (a b:Int):(cop .leq a b=true)=(a≤b):=by simp [cop]
theorem Zh1 (a b:Int):(cop .leq a b=false)=(b < a):=by simp [cop]
theorem Zid (a b:Int):(cop .gtr a b=true)=(b < a):=by simp [cop]
theorem Zie (a b:Int):(cop .gtr a b=false)=(a≤b):=by simp [cop]
theorem ZhM (a b:Int):(cop .geq a b=true)=(b≤a):=by simp [cop]
theorem ZiB (a b:Int):(cop .geq a b=false)=(a < b):=by simp [cop]
theorem ZiG (a b:Int):(cop .eql a b=true)=(a=b):=by simp [cop]
theorem Zh0 (a b:Int):(cop .eql a b=false)=(a≠b):=by simp [cop]
theorem Zjd (a b:Int):(cop .neq a b=true)=(a≠b):=by simp [cop]
theorem Zia (a b:Int):(cop .neq a b=false)=(a=b):=by simp [cop]
end Go.AM
end

section
namespace Go.AM
def TyR (P:Program):Nat→TypeId→List AV→Prop
 | 0, _, _ => False
 | d + 1, T, cs =>
  match P.underlying T with
  | some (.int k) => ∃ z, cs = [.val (.int k z)] ∧ (Lit.int k z).wf = true
  | some .bool => ∃ b, cs = [.val (.bool b)]
  | some .string => ∃ s, cs = [.val (.string s)]
  | some (.slice e) => ∃ xs : List (List AV), cs = [.slice false (P.cellsOf e) xs] ∧ xs.length ≤ maxLen ∧ ∀ x ∈ xs, TyR P d e x
  | some (.struct fs) => ∃ parts : List (List AV), cs = parts.flatten ∧ parts.length = fs.size ∧ ∀ (i : Nat) (f : Field) (p : List AV), fs[i]? = some f → parts[i]? = some p → TyR P d f.type p
  | _ => False
def Zab (P:Program):Nat→TypeId→Bool
 | 0, _ => false
 | d + 1, T =>
  match P.underlying T with
  | some (.int _) => true
  | some .bool => true
  | some .string => true
  | some (.slice e) => Zab P d e && decide (0 < P.cellsOf e)
  | some (.struct fs) => (fs.toList.all fun f => Zab P d f.type) && decide (P.cellsOf T = (fs.toList.map fun f => P.cellsOf f.type).sum) &&
    (fs.toList.zipIdx.all fun p=>decide (p.1.offset=((fs.toList.take p.2).map fun f=>P.cellsOf f.type).sum))
  | _ => false
def KJ (w:World):Nat→Nat:=fun b=>match w.heap[b]? with | some (.cells c _ _)=>c.size | _=>0
theorem ZiJ {w:World} {b o:Nat} {u:Value} (h:w.cell? ⟨b,o,none⟩=some u):o < KJ w b:=by
 unfold World.cell? at h
 unfold KJ
 split at h
 ·rename_i c t fr hc
  have h':c[o]? = some u:=by simpa using h
  have hc':w.heap[b]? = some (.cells c t fr):=hc
  rw [hc']
  exact (Array.getElem?_eq_some_iff.1 h').1
 ·cases h
theorem J2.flat {w:World} {lim:Nat→Nat} : ∀ (aZ:List (List AV)) (us:List (List Value)),aZ.length=us.length→(∀ (i:Nat) (a:List AV) (u:List Value),aZ[i]? = some a→us[i]? = some u→J2 w lim a u)→J2 w lim aZ.flatten us.flatten
 | [], [], _, _ => J2.nil w lim
 | [], _ :: _, h, _ => by simp at h
 | _ :: _, [], h, _ => by simp at h
 | a :: aZ, u :: us, h, hr => by
  have h1:=hr 0 a u rfl rfl
  have h2:=J2.flat aZ us (by simpa using h) fun i a' u' ha hu=>hr (i+1) a' u' (by simpa using ha) (by simpa using hu)
  refine ⟨by simp [h1.1,h2.1],fun c hc=>?_,fun i c v hc hv=>?_⟩
  ·rw [List.flatten_cons,List.mem_append] at hc
   rcases hc with hc | hc
   ·exact h1.2.1 c hc
   ·exact h2.2.1 c hc
  ·rw [List.flatten_cons] at hc hv
   by_cases hi:i < a.length
   ·rw [List.getElem?_append_left hi] at hc
    rw [List.getElem?_append_left (by rw [← h1.1];exact hi)] at hv
    exact h1.2.2 i c v hc hv
   ·rw [List.getElem?_append_right (by omega)] at hc
    rw [List.getElem?_append_right (by rw [← h1.1];omega),← h1.1] at hv
    exact h2.2.2 _ c v hc hv
theorem Zlb {α:Type} : ∀ (ns:List Nat) (cs:List α),cs.length=ns.sum→∃ ps:List (List α),ps.length=ns.length∧ps.flatten=cs∧∀ (i:Nat) (n:Nat),ns[i]? = some n→ps[i]? = some ((cs.drop (ns.take i).sum).take n)
 | [], cs, h => ⟨[], rfl, by simp at h; simp [h], by simp⟩
 | n :: ns, cs, h => by
  obtain ⟨ps,h1,h2,h3⟩:=Zlb ns (cs.drop n) (by simp only [List.sum_cons] at h;simp;omega)
  refine ⟨cs.take n::ps,by simp [h1],by rw [List.flatten_cons,h2,List.take_append_drop],fun i m hi=>?_⟩
  cases i with
  | zero => simp at hi; subst hi; simp
  | succ i =>
   have:=h3 i m (by simpa using hi)
   simp only [List.getElem?_cons_succ,this,List.take_succ_cons,List.sum_cons,List.drop_drop]
theorem VH {β:Type} {Q:Nat→β→Prop} : ∀ (n:Nat),(∀ i,i < n→∃ b,Q i b)→∃ l:List β,l.length=n∧∀ (i:Nat) (b:β),l[i]? = some b→Q i b
 | 0, _ => ⟨[], rfl, by simp⟩
 | n + 1, h => by
  obtain ⟨l,h1,h2⟩:=VH n fun i hi=>h i (by omega)
  obtain ⟨b,hb⟩:=h n (by omega)
  refine ⟨l++[b],by simp [h1],fun i c hc=>?_⟩
  by_cases hi:i < l.length
  ·rw [List.getElem?_append_left hi] at hc
   exact h2 i c hc
  ·rw [List.getElem?_append_right (by omega)] at hc
   have h0:i-l.length=0:=by
    have:=(List.getElem?_eq_some_iff.1 hc).1
    simp at this
    omega
   rw [h0] at hc
   simp only [List.getElem?_cons_zero,Option.some.injEq] at hc
   subst hc
   have:i=n:=by omega
   rw [this]
   exact hb
theorem Zcn {s:Nat} {cell:Nat→Option Value} : ∀ (l:List (List Value)) (o:Nat),(∀ (i:Nat) (us:List Value),l[i]? = some us→us.length=s∧∀ (k:Nat) (u:Value),us[k]? = some u→cell (o+i*s+k)=some u)→
  ∀ (j:Nat) (u:Value),l.flatten[j]? = some u→cell (o+j)=some u
 | [], o, _, j, u, h => by simp at h
 | us :: l, o, h, j, u, hj => by
  obtain ⟨h1,h2⟩:=h 0 us rfl
  rw [List.flatten_cons] at hj
  by_cases hlt:j < us.length
  ·rw [List.getElem?_append_left hlt] at hj
   have:=h2 j u hj
   simpa using this
  ·rw [List.getElem?_append_right (by omega)] at hj
   have:=Zcn l (o+s) (fun i us' hi=>by
    obtain ⟨g1,g2⟩:=h (i+1) us' (by simpa using hi)
    refine ⟨g1,fun k u' hk=>?_⟩
    have:=g2 k u' hk
    rw [Nat.add_mul,Nat.one_mul] at this
    rw [show o+s+i*s+k=o+(i*s+s)+k by omega]
    exact this) (j-us.length) u hj
   rw [show o+s+(j-us.length)=o+j by omega] at this
   exact this
theorem ZgV {H:Type} {f:Func} {s:ChangeSpec} {apart fresh handsOn again:Bool} {W W':World} {args:Array Value} {v:Value} {ds gs:List (DataW H)} {before pa:List MemPlace} {P:Program} {enc:TypeId×Value→H}
  (hW:DataW.Whole enc P f.params.toList s.vars apart W args.toList ds gs before)
  (hres:∀ (b:Nat) (sp:Nat→Bool) (hd:Bool),DataW.TrodAll enc P W' b sp hd f.resultTypes.toList (v.resultList f.resultTypes.size) (s.fn H (ds++gs)).results [])
  (hargs:∀ sp:Nat→Bool,(∀ p∈before,sp p.block=true)→DataW.TrodAll enc P W' 0 sp true f.params.toList args.toList (s.fn H (ds++gs)).args pa)
  (hvars:∀ sp:Nat→Bool,(∀ p∈before,sp p.block=true)→DataW.TrodVars enc P W' sp s.vars (s.fn H (ds++gs)).vars [])
  (hps:before=pa++[]) (hk:W.keptBut W' (·∈before)) (hfz:∀ a:Addr,a.block < W.heap.size→W'.frozen? a=W.frozen? a)
  (hok:∀ (j:Nat) (t:TypeId) (r:Value),f.resultTypes[j]? = some t→(v.resultList f.resultTypes.size)[j]? = some r→Value.okWide P W' .any 0 t r) :
  s.post enc P f apart fresh handsOn again W args v W':=by
 have hin:∀ p∈before,p.block < W.heap.size:=fun p hp=>hW.lt p hp
 have hdec:∀ p∈before,(fun b=>decide (b < W.heap.size)) p.block=true:=fun p hp=>decide_eq_true (hin p hp)
 refine ⟨ds,gs,before,[],pa,[],hW,hres _ _ _,hargs _ hdec,hvars _ hdec,World.keptBut_mono (fun p hp=>⟨hp,?_⟩) hk,fun _=>?_⟩
 ·refine Or.inr (Or.inl ?_)
  rwa [hps,List.append_nil] at hp
 ·have hWp:=hW
  obtain ⟨_,_,_,_,_,hz,hn⟩:=hWp
  refine ⟨hok,_,_,([]++pa)++[],⟨[]++pa,[],ChangeShapes.trodAll_append (hargs _ fun _ _=>rfl) (hres _ _ _),hvars _ fun _ _=>rfl,rfl,?_,?_⟩,?_⟩
  ·intro b off hp
   have hmem:MemPlace.cell b off∈before:=by rw [hps];simpa using hp
   rw [hfz _ (hin _ hmem)]
   exact hz b off hmem
  ·intro ha
   have h1:=hn ha
   rw [hps] at h1
   simpa using h1
  ·intro p hp _
   rw [hps]
   simpa using hp
section
variable {P:Program} {H:Type} {enc:TypeId×Value→H} {w:World} {sp:Nat→Bool} {held:Bool}
theorem Zfl:∀ (d n:Nat) (T:TypeId) (cs:List Value) (x:DataW H×List MemPlace),Zab P d T=true→DataW.trod enc P w 0 sp held n T cs=some x→∃ avs,TyR P d T avs∧J2 w (KJ w) avs cs
 | 0, n, T, cs, x, hf, _ => by simp [Zab] at hf
 | d + 1, n, T, cs, x, hf, h => by
  simp only [Zab] at hf
  split at hf
  ·rename_i k hk
   obtain ⟨z,rfl,_,hw⟩:=DataW.trod_int hk h
   refine ⟨[.val (.int k z)],?_,rfl,by simp [AV.isCell],fun i c u hc hu=>?_⟩
   ·simp only [TyR,hk];exact ⟨z,rfl,hw⟩
   ·cases i with
    | zero => simp at hc hu; subst hc; subst hu; exact .val rfl
    | succ i => simp at hc
  ·rename_i hk
   obtain ⟨b,rfl,_⟩:=DataW.trod_bool hk h
   refine ⟨[.val (.bool b)],?_,rfl,by simp [AV.isCell],fun i c u hc hu=>?_⟩
   ·simp only [TyR,hk];exact ⟨b,rfl⟩
   ·cases i with
    | zero => simp at hc hu; subst hc; subst hu; exact .val rfl
    | succ i => simp at hc
  ·rename_i hk
   obtain ⟨s,rfl,_⟩:=DataW.trod_string hk h
   refine ⟨[.val (.string s)],?_,rfl,by simp [AV.isCell],fun i c u hc hu=>?_⟩
   ·simp only [TyR,hk];exact ⟨s,rfl⟩
   ·cases i with
    | zero => simp at hc hu; subst hc; subst hu; exact .val rfl
    | succ i => simp at hc
  ·rename_i e hk
   simp only [Bool.and_eq_true,decide_eq_true_eq] at hf
   rcases DataW.trod_slice hk h with ⟨rfl,_⟩ | ⟨a,len,cap,Wi,rest,m,_,rfl,_,_,hlc,hcm,hel,hcells,_,_⟩
   ·refine ⟨[.slice false (P.cellsOf e) []],?_,rfl,by simp [AV.isCell],fun i c u hc hu=>?_⟩
    ·simp only [TyR,hk];exact ⟨[],rfl,by simp,by simp⟩
    ·cases i with
     | zero => simp at hc hu; subst hc; subst hu; exact .sliceN
     | succ i => simp at hc
   ·obtain ⟨l,hl1,hl2⟩:=VH (Q:=fun i (p:List Value×List AV)=>w.cells? 0 (a.add (i*P.cellsOf e)) (P.cellsOf e)=some p.1∧TyR P d e p.2∧J2 w (KJ w) p.2 p.1) len fun i hi=>by
     have h1:=hcells i hi
     obtain ⟨y,hy⟩:∃ y,Wi[i]? = some y:=⟨_,List.getElem?_eq_getElem (by omega)⟩
     rw [hy,Option.bind_eq_some_iff] at h1
     obtain ⟨us,h2,h3⟩:=h1
     obtain ⟨avs,h4,h5⟩:=Zfl d m e us y hf.1 h3
     exact ⟨(us,avs),h2,h4,h5⟩
    have hall:∀ p∈l,TyR P d e p.2∧J2 w (KJ w) p.2 p.1∧p.1.length=P.cellsOf e:=by
     intro p hp
     obtain ⟨i,hi⟩:=List.mem_iff_getElem?.1 hp
     obtain ⟨g1,g2,g3⟩:=hl2 i p hi
     exact ⟨g2,g3,(World.cells?_some g1).2.1⟩
    refine ⟨[.slice false (P.cellsOf e) (l.map (·.2))],?_,rfl,by simp [AV.isCell],fun i c u hc hu=>?_⟩
    ·simp only [TyR,hk]
     refine ⟨_,rfl,by simp;omega,fun y hy=>?_⟩
     obtain ⟨p,hp,rfl⟩:=List.mem_map.1 hy
     exact (hall p hp).1
    ·cases i with
     | succ i => simp at hc
     | zero =>
      simp only [List.getElem?_cons_zero,Option.some.injEq] at hc hu
      subst hc
      subst hu
      cases l with
      | nil =>
       have:len=0:=by simpa using hl1.symm
       subst this
       exact .sliceE (fun h=>by cases h)
      | cons p l' =>
       have hcell:∀ (j:Nat) (u:Value),((p::l').map (·.1)).flatten[j]? = some u→w.cell? ⟨a.block,a.off+j,none⟩=some u:=by
        refine Zcn (s:=P.cellsOf e) (cell:=fun o=>w.cell? ⟨a.block,o,none⟩) _ a.off fun i us hi=>?_
        rw [List.getElem?_map] at hi
        cases hpi:(p::l')[i]? with
        | none => simp [hpi] at hi
        | some q =>
         simp only [hpi,Option.map_some,Option.some.injEq] at hi
         subst hi
         obtain ⟨g1,_,_⟩:=hl2 i q hpi
         obtain ⟨_,k2,k3⟩:=World.cells?_some g1
         refine ⟨k2,fun k u hu=>?_⟩
         have hk':k < P.cellsOf e:=by rw [← k2];exact (List.getElem?_eq_some_iff.1 hu).1
         have:=k3 k hk'
         rw [hu] at this
         have hblk:((a.add (i*P.cellsOf e)).add k).block=a.block∧((a.add (i*P.cellsOf e)).add k).off=a.off+i*P.cellsOf e+k:=by
          unfold Addr.add
          split<;>split<;>simp_all
         have hspot:((a.add (i*P.cellsOf e)).add k).spot=none:=by
          unfold World.cell? at this
          split at this
          ·split at this
           ·cases this
           ·rename_i hs;simpa using hs
          ·cases this
         have heq:(a.add (i*P.cellsOf e)).add k=⟨a.block,a.off+i*P.cellsOf e+k,none⟩:=by
          rw [← hblk.1,← hblk.2,← hspot]
         rw [heq] at this
         exact this
       have hspot:a.spot=none:=by
        obtain ⟨g1,_,_⟩:=hl2 0 p rfl
        obtain ⟨_,k2,k3⟩:=World.cells?_some g1
        have:=k3 0 hf.2
        obtain ⟨u,hu⟩:∃ u,p.1[0]? = some u:=⟨_,List.getElem?_eq_getElem (by rw [k2];exact hf.2)⟩
        rw [hu] at this
        have ha:(a.add (0*P.cellsOf e)).add 0=a:=by simp [Addr.add]
        rw [ha] at this
        unfold World.cell? at this
        split at this
        ·split at this
         ·cases this
         ·rename_i hs;simpa using hs
        ·cases this
       have ha:a=⟨a.block,a.off,none⟩:=by rw [← hspot]
       have hlen:((p::l').map (·.2)).length=len:=by rw [List.length_map];exact hl1
       rw [ha,← hlen]
       have hrel:J2 w (KJ w) ((p::l').map (·.2)).flatten ((p::l').map (·.1)).flatten:=by
        refine J2.flat _ _ (by simp) fun i x us hx hus=>?_
        rw [List.getElem?_map] at hx hus
        cases hpi:(p::l')[i]? with
        | none => simp [hpi] at hx
        | some q =>
         simp only [hpi,Option.map_some,Option.some.injEq] at hx hus
         subst hx
         subst hus
         exact (hl2 i q hpi).2.2
       have hsz:∀ x∈(p::l').map (·.2),x.length=P.cellsOf e:=by
        intro x hx
        obtain ⟨q,hq,rfl⟩:=List.mem_map.1 hx
        obtain ⟨_,g2,g3⟩:=hall q hq
        rw [g2.1,g3]
       refine .sliceC (us:=((p::l').map (·.1)).flatten) hsz (fun x hx=>?_) (fun h=>by cases h) (by rw [hlen];exact hlc) (fun hne=>?_) ?_ hcell hrel.2.2
       ·obtain ⟨q,hq,rfl⟩:=List.mem_map.1 hx
        exact (hall q hq).2.1.2.1
       ·have hpos:0 < (((p::l').map (·.1)).flatten).length:=List.length_pos_iff.2 hne
        have hlast:=hcell ((((p::l').map (·.1)).flatten).length-1) _ (List.getElem?_eq_getElem (by omega))
        have:=ZiJ hlast
        omega
       ·rw [← hrel.1,Zh _ _ hsz]
  ·rename_i fs hk
   simp only [Bool.and_eq_true,decide_eq_true_eq,List.all_eq_true] at hf
   obtain ⟨⟨h1,h2⟩,h3⟩:=hf
   obtain ⟨xs,m,_,_,hlen,hxl,hparts⟩:=DataW.trod_struct hk h
   obtain ⟨ps,q1,q2,q3⟩:=Zlb (fs.toList.map fun f=>P.cellsOf f.type) cs (by rw [hlen,h2])
   have hps:ps.length=fs.size:=by rw [q1];simp
   obtain ⟨l,hl1,hl2⟩:=VH (Q:=fun i (avs:List AV)=>∃ (f:Field) (us:List Value),fs[i]? = some f∧ps[i]? = some us∧TyR P d f.type avs∧J2 w (KJ w) avs us) fs.size fun i hi=>by
    have hfi:fs[i]? = some fs[i]:=Array.getElem?_eq_getElem hi
    have hn:(fs.toList.map fun f=>P.cellsOf f.type)[i]? = some (P.cellsOf fs[i].type):=by simp [hi]
    have h4:=q3 i _ hn
    have h5:=hparts i _ hfi
    have hoff:=h3 (fs[i],i) (by rw [List.mem_zipIdx_iff_getElem?];simp [hi])
    simp only at hoff
    rw [hoff,List.map_take] at h5
    obtain ⟨y,hy⟩:∃ y,xs[i]? = some y:=⟨_,List.getElem?_eq_getElem (by omega)⟩
    rw [hy] at h5
    obtain ⟨avs,h6,h7⟩:=Zfl d m _ _ y (h1 fs[i] (by simp)) h5
    exact ⟨avs,fs[i],_,hfi,h4,h6,h7⟩
   refine ⟨l.flatten,?_,?_⟩
   ·simp only [TyR,hk]
    refine ⟨l,rfl,hl1,fun i f p hf hp=>?_⟩
    obtain ⟨f',us,g1,g2,g3,g4⟩:=hl2 i p hp
    rw [hf] at g1
    cases g1
    exact g3
   ·rw [← q2]
    refine J2.flat _ _ (by rw [hl1,hps]) fun i avs us ha hu=>?_
    obtain ⟨f',us',g1,g2,g3,g4⟩:=hl2 i avs ha
    rw [hu] at g2
    cases g2
    exact g4
  ·cases hf
def ZbU (P:Program) (d:Nat) (T:TypeId) (x:AV):Prop:=
 match P.underlying T with
 | some (.struct _) => ∃ cs, x = .agg cs ∧ TyR P d T cs
 | _ => x.isCell = true ∧ TyR P d T [x]
theorem Zkn {lim:Nat→Nat} {avs:List AV} {v:Value} (h:J2 w lim avs [v]):∃ x,avs = [x]∧x.isCell=true∧Rep w lim x v:=by
 obtain ⟨x,rfl⟩:=List.length_eq_one_iff.1 (by simpa using h.1:avs.length=1)
 exact ⟨x,rfl,h.2.1 x (by simp),h.2.2 0 x v rfl rfl⟩
theorem ZkM {d:Nat} {T:TypeId} {v:Value} {x:DataW H} {ps:List MemPlace} {r:Reach} {base:Nat} (hf:Zab P d T=true) (hok:Value.okWide P w r base T v)
  (h:DataW.Trod enc P w 0 sp held T v x ps):∃ y,ZbU P d T y∧∀ X σ k,ZJ P w (KJ w) X σ k y v:=by
 obtain ⟨n,h⟩:=h
 obtain ⟨avs,h1,h2⟩:=Zfl d n T _ _ hf h
 cases d with
 | zero => simp [Zab] at hf
 | succ d =>
  have one:v.cells.toList = [v]→(∀ fs,P.underlying T≠some (.struct fs))→∃ y,ZbU P (d+1) T y∧∀ X σ k,ZJ P w (KJ w) X σ k y v:=by
   intro hv hns
   rw [hv] at h2
   obtain ⟨y,rfl,h3,h4⟩:=Zkn h2
   refine ⟨y,?_,fun X σ k=>(Y9 h3 h4).2⟩
   unfold ZbU
   split
   ·rename_i fs hfs;exact (hns fs hfs).elim
   ·exact ⟨h3,h1⟩
  simp only [Zab] at hf
  split at hf
  ·rename_i kd hk
   obtain ⟨z,hz,_⟩:=DataW.trod_int hk h
   refine one ?_ (by rw [hk];simp)
   simp only [Value.okWide,hk,Cell.okWide] at hok
   cases v<;>simp_all [Cell.ok,Value.cells]
  ·rename_i hk
   refine one ?_ (by rw [hk];simp)
   simp only [Value.okWide,hk,Cell.okWide] at hok
   cases v<;>simp_all [Cell.ok,Value.cells]
  ·rename_i hk
   refine one ?_ (by rw [hk];simp)
   simp only [Value.okWide,hk,Cell.okWide] at hok
   cases v<;>simp_all [Cell.ok,Value.cells]
  ·rename_i e hk
   refine one ?_ (by rw [hk];simp)
   simp only [Value.okWide,hk,Cell.okWide] at hok
   cases v<;>simp_all [Cell.ok,Value.cells]
  ·rename_i fs hk
   simp only [Value.okWide,hk] at hok
   obtain ⟨cs,rfl,_,_⟩:=hok
   refine ⟨.agg avs,?_,?_⟩
   ·unfold ZbU
    simp only [hk]
    exact ⟨avs,rfl,h1⟩
   ·have:cs=cs.toList.toArray:=by simp
    intro X σ k
    show Rep w (KJ w) (.agg avs) (.agg cs)
    rw [this]
    exact .agg h2.1 h2.2.1 h2.2.2
  ·cases hf
theorem ZeW {d:Nat} {r:Reach} {base:Nat} : ∀ (ts:List TypeId) (vs:List Value) (ds:List (DataW H)) (ps:List MemPlace),(∀ t∈ts,Zab P d t=true)→
  (∀ (j:Nat) (t:TypeId) (v:Value),ts[j]? = some t→vs[j]? = some v→Value.okWide P w r base t v)→DataW.TrodAll enc P w 0 sp held ts vs ds ps→
  vs.length=ts.length∧∃ xs:List AV,xs.length=ts.length∧∀ (i:Nat) (t:TypeId) (x:AV) (v:Value),ts[i]? = some t→xs[i]? = some x→vs[i]? = some v→ZbU P d t x∧∀ X σ k,ZJ P w (KJ w) X σ k x v
 | [], [], [], ps, _, _, _ => ⟨rfl, [], rfl, by simp⟩
 | t :: ts, v :: vs, x :: ds, ps, hf, hok, h => by
  obtain ⟨p,q,h1,h2,_⟩:=h
  obtain ⟨y,g1,g2⟩:=ZkM (hf t (by simp)) (hok 0 t v rfl rfl) h1
  obtain ⟨k1,xs,k2,k3⟩:=ZeW ts vs ds q (fun t ht=>hf t (by simp [ht])) (fun j t' v' ht hv=>hok (j+1) t' v' (by simpa using ht) (by simpa using hv)) h2
  refine ⟨by simp [k1],y::xs,by simp [k2],fun i t' x' v' ht hx hv=>?_⟩
  cases i with
  | zero =>
   simp only [List.getElem?_cons_zero,Option.some.injEq] at ht hx hv
   subst ht
   subst hx
   subst hv
   exact ⟨g1,g2⟩
  | succ i => exact k3 i t' x' v' (by simpa using ht) (by simpa using hx) (by simpa using hv)
 | [], _ :: _, _, _, _, _, h => h.elim
 | [], [], _ :: _, _, _, _, h => h.elim
 | _ :: _, [], _, _, _, _, h => h.elim
 | _ :: _, _ :: _, [], _, _, _, h => h.elim
theorem Zd6 {w':World} {sp':Nat→Bool} (hl:laidOutB P=true):∀ (ts:List TypeId) (vs:List Value) (ds:List (DataW H)) (ps:List MemPlace),(∀ t∈ts,t < P.types.size∧P.readableRec t=true)→
  DataW.TrodAll enc P w 0 (fun _=>true) true ts vs ds ps→(∀ p∈ps,w.sameAt w' p)→(∀ p∈ps,sp' p.block=true)→DataW.TrodAll enc P w' 0 sp' true ts vs ds ps
 | [], [], [], _, _, h, _, _ => h
 | t :: ts, v :: vs, x :: ds, ps, ht, h, hs, hp => by
  obtain ⟨p,q,⟨n,h1⟩,h2,rfl⟩:=h
  refine ⟨p,q,⟨n,?_⟩,Zd6 hl ts vs ds q (fun t' h'=>ht t' (by simp [h'])) h2 (fun z hz=>hs z (by simp [hz])) (fun z hz=>hp z (by simp [hz])),rfl⟩
  have hr:=(ht t (by simp)).2
  exact DataW.trod_stays (T:=InBook P t) (kids_book hl hr) (fun {t' e} h' hu=>book_sized hr h' hu) (fun h=>by cases h) ⟨(ht t (by simp)).1,book_self t⟩ h1 (fun z hz=>hs z (by simp [hz])) (fun z hz=>hp z (by simp [hz]))
 | [], _ :: _, _, _, _, h, _, _ => h.elim
 | [], [], _ :: _, _, _, h, _, _ => h.elim
 | _ :: _, [], _, _, _, h, _, _ => h.elim
 | _ :: _, _ :: _, [], _, _, h, _, _ => h.elim
theorem Zdm {fn:Func} {f:FuncId} {s:ChangeSpec} {apart fresh handsOn again:Bool} {tb:TypeId} {d:Nat} (hl:laidOutB P=true) (hpar:∀ t∈fn.params.toList,Zab P d t=true∧t < P.types.size∧P.readableRec t=true)
  (hres:fn.resultTypes = #[tb]) (htb:P.underlying tb=some .bool) (hvars:s.vars = []) (hs:∀ ds,ds.length=fn.params.size→s.fn H ds = { results:=[.lit (.bool true)],args:=ds })
  (hcall:∀ xs:List AV,xs.length=fn.params.toList.length→(∀ (i:Nat) (t:TypeId) (x:AV),fn.params.toList[i]? = some t→xs[i]? = some x→ZbU P d t x)→∃ outs,Jw P f xs (B true) outs)
  (W:World) (base:Nat) (args:Array Value) (ds gs:List (DataW H)) (before:List MemPlace)
  (hval:∀ (j:Nat) t v,fn.params[j]? = some t→args[j]? = some v→Value.okWide P W .any base t v) (hW:DataW.Whole enc P fn.params.toList s.vars apart W args.toList ds gs before) :
  Calls P f args W fun e W'=>∃ v,e = .returned v∧s.post enc P fn apart fresh handsOn again W args v W':=by
 have hW':=hW
 obtain ⟨p,q,hA,hV,rfl,_,_⟩:=hW
 rw [hvars] at hV
 obtain ⟨rfl,rfl⟩:=ChangeShapes.trodVars_none hV
 obtain ⟨hlen,xs,hx1,hx2⟩:=ZeW (r:=.any) (base:=base) _ _ _ _ (fun t ht=>(hpar t ht).1) (fun j t v ht hv=>hval j t v (by simpa using ht) (by simpa using hv)) hA
 have hdl:ds.length=fn.params.size:=by
  have:∀ (ts:List TypeId) (vs:List Value) (ds:List (DataW H)) (ps:List MemPlace),DataW.TrodAll enc P W 0 (fun _=>true) true ts vs ds ps→ds.length=ts.length:=by
   intro ts
   induction ts with
   | nil => intro vs ds ps h; cases vs <;> cases ds <;> simp_all [DataW.TrodAll]
   | cons t ts ih =>
    intro vs ds ps h
    cases vs with
    | nil => exact h.elim
    | cons v vs =>
     cases ds with
     | nil => exact h.elim
     | cons x ds => obtain ⟨_, _, _, h2, _⟩ := h; simp [ih _ _ _ h2]
  simpa using this _ _ _ _ hA
 obtain ⟨outs,_,hc⟩:=hcall xs hx1 fun i t x ht hx=>by
  obtain ⟨v,hv⟩:∃ v,args.toList[i]? = some v:=⟨_,List.getElem?_eq_getElem (by rw [hlen];exact (List.getElem?_eq_some_iff.1 ht).1)⟩
  exact (hx2 i t x v ht hx hv).1
 have hng:xs.countP AV.isG=0:=by
  rw [List.countP_eq_zero]
  intro x hx hg
  obtain ⟨i,hi⟩:=List.mem_iff_getElem?.1 hx
  have hlt:=(List.getElem?_eq_some_iff.1 hi).1
  obtain ⟨v,hv⟩:∃ v,args.toList[i]? = some v:=⟨_,List.getElem?_eq_getElem (by omega)⟩
  obtain ⟨t,ht⟩:∃ t,fn.params.toList[i]? = some t:=⟨_,List.getElem?_eq_getElem (by omega)⟩
  have hr:=(hx2 i t x v ht hi hv).2 (fun _ _=>none) (fun _=>.dead) 0
  cases x<;>simp [AV.isG] at hg
  obtain ⟨v',b,_,_,h,_⟩:=hr
  cases h
 have hcalls:=hc.2 W (KJ W) (fun _ _=>none) args.toList (by rw [hng,hlen,hx1];exact Nat.le_refl _) (fun i=>by
  cases hxi:xs[i]? with
  | none =>
   have:ZG xs i = .dead:=by simp [ZG,hxi]
   rw [this]
   trivial
  | some x =>
   have hi:=(List.getElem?_eq_some_iff.1 hxi).1
   obtain ⟨v,hv⟩:∃ v,args.toList[i]? = some v:=⟨_,List.getElem?_eq_getElem (by omega)⟩
   obtain ⟨t,ht⟩:∃ t,fn.params.toList[i]? = some t:=⟨_,List.getElem?_eq_getElem (by omega)⟩
   have h1:ZG xs i=x:=by simp [ZG,hxi]
   have h2:args.toList.getD i undef=v:=by rw [List.getD_eq_getElem?_getD,hv];rfl
   rw [h1,h2]
   exact (hx2 i t x v ht hxi hv).2 _ _ _) (fun _ _ _ _ _ h=>by cases h) (fun _ _ _ h=>by cases h) (fun _ _ _=>rfl)
 rw [Array.toArray_toList] at hcalls
 refine hcalls.mono ?_
 rintro e W' ⟨v,lim',X',rfl,hst,hol,hrel,_,_,_⟩
 have hv:v = .bool true:=by
  have h:=hrel xs.length
  have h1:ZG (outs++[B true]) xs.length=B true:=by
   simp only [ZG]
   rw [List.getElem?_append_right (by omega),hol]
   simp
  have h2:WJ xs.length args.toList v xs.length=v:=if_pos rfl
  rw [h1,h2] at h
  exact KU h
 subst hv
 have hkept:∀ b,b < W.heap.size→W'.heap[b]? = W.heap[b]?:=fun b hb=>(hst.blk b hb (by rintro ⟨_,_,h⟩;cases h)).1
 have hsame:∀ z∈p++[],W.sameAt W' z:=by
  intro z hz
  have hlt:=hW'.lt z hz
  cases z with
  | cell b off =>
   show W'.cell? ⟨b,off,none⟩=W.cell? ⟨b,off,none⟩
   unfold World.cell?
   rw [hkept b hlt]
  | map b => exact hkept b hlt
 refine ⟨_,rfl,ZgV (pa:=p) hW' (fun b sp hd=>?_) (fun sp hp=>?_) (fun sp _=>?_) rfl ?_ hst.frz ?_⟩
 ·rw [hs _ (by simpa using hdl),hres]
  exact ⟨[],[],⟨1,by simp [DataW.trod,htb,Value.cells]⟩,rfl,rfl⟩
 ·rw [hs _ (by simpa using hdl),List.append_nil]
  exact Zd6 hl _ _ _ _ (fun t ht=>(hpar t ht).2) hA (fun z hz=>hsame z (by simpa using hz)) (fun z hz=>hp z (by simpa using hz))
 ·rw [hs _ (by simpa using hdl),hvars]
  rfl
 ·refine ⟨hst.os,hst.output,fun i hi=>?_⟩
  rw [hkept i hi]
  cases W.heap[i]? with
  | none => rfl
  | some o => cases o <;> simp
 ·exact RowKit.ok_one hres rfl (RowKit.okWide_bool_mk htb true)
end
end Go.AM
end

section
namespace Go.AM
open Go
set_option linter.unusedSimpArgs false
set_option linter.unusedVariables false
def blank:Char:=Char.ofNat 32
theorem Zfp (r:List Char):wordsSigns (blank::r) = []::wordsSigns r:=by
 show wordsSigns (Char.ofNat 32::r)=_
 rw [wordsSigns]
theorem Ze4 (c:Char) (r:List Char) (h:c≠blank):wordsSigns (c::r)=match wordsSigns r with | w::ws=>(c::w)::ws | []=>[[c]]:=by
 rw [wordsSigns]
 ·rfl
 ·exact h
theorem K8 (r:List Char):∀ (w:List Char),(w.all fun c=>c != blank)=true→wordsSigns (w++blank::r)=w::wordsSigns r
 | [], _ => Zfp r
 | c :: w, h => by
  rw [List.all_cons,Bool.and_eq_true] at h
  rw [List.cons_append,Ze4 c _ (by simpa using h.1),K8 r w h.2]
theorem ZdW {L:List Char} (h1:((L.take 7).all fun c=>c != blank)=true) (h2:(((L.drop 8).take 64).all fun c=>c != blank)=true) (h3:(((L.drop 73).take 3).all fun c=>c != blank)=true)
  (hL : L = L.take 7 ++ blank :: ((L.drop 8).take 64 ++ blank :: ((L.drop 73).take 3 ++ blank :: L.drop 77))) (hm : ((L.take 7 == "harness".toList || L.take 7 == "ownmain".toList) && isSumSigns ((L.drop 8).take 64)) = true)
  (hc : (L.drop 73).take 3 = "cut".toList) : ∃ ws, behindMainWord (wordsSigns L) = "cut".toList :: ws := by
 refine ⟨wordsSigns (L.drop 77),?_⟩
 have h:wordsSigns L=L.take 7::(L.drop 8).take 64::(L.drop 73).take 3::wordsSigns (L.drop 77):=by
  rw [hL,K8 _ _ h1,K8 _ _ h2,K8 _ _ h3,← hL]
 rw [h,behindMainWord,if_pos hm,hc]
theorem enters_of {P : Program} {ws : List (List Char)} (h : behindMainWord (wordsSigns P.initOrder.toList) = "cut".toList :: ws) (h1 : P.laysLater = false) (h2 : P.bearsReflect = false) (h3 : P.doorFits [] = true) : P.mayEnter = true := by
 unfold Program.mayEnter
 rw [h]
 have hs : stripLifts liftWords ("cut".toList :: ws) = ([], "cut".toList :: ws) := by kernel_rfl
 simp only [hs]
 simp [h1,h2,h3]
theorem lifts_of {P : Program} {ws : List (List Char)} (h : behindMainWord (wordsSigns P.initOrder.toList) = "cut".toList :: ws) : P.headLifts = [] := by
 unfold Program.headLifts
 rw [h]
 have hs : stripLifts liftWords ("cut".toList :: ws) = ([], "cut".toList :: ws) := by kernel_rfl
 simp only [hs]
 simp
theorem final_of {P : Program} {ws : List (List Char)} (h : behindMainWord (wordsSigns P.initOrder.toList) = "cut".toList :: ws) : P.liftsFinal = false := by
 unfold Program.liftsFinal
 rw [lifts_of h,h]
 have hs : ("cut".toList == "carried".toList) = false := by decide +kernel
 simp [hs]
theorem make_of {P : Program} {ws : List (List Char)} (h : behindMainWord (wordsSigns P.initOrder.toList) = "cut".toList :: ws) : P.make = some .cut := by
 unfold Program.make
 rw [h]
 simp
end Go.AM
end

section
namespace Go.AM
section
variable {P:Program} {E:Env}
def ZcL (P:Program) (g:Nat→SV) (rs:List ResultVar):Option SV:=
 match rs with
 | [r] => (Kg P g r).map Zm8
 | rs => (KF P g rs).map .tuple
theorem ZfO {g:Nat→SV} {rs:List ResultVar} {r:SV} (h:ZjC P g rs=some r) :
  (∃ t T cs,rs = [.cell t T]∧Z2 P T=some true∧g t = .box cs∧cs.length=P.cellsOf T∧KV cs=true∧r = .aggo cs)∨ZcL P g rs=some r:=by
 unfold ZjC at h
 split at h
 ·rename_i r0
  split at h
  ·rename_i cs hcs
   cases h
   unfold Zh2 at hcs
   split at hcs
   ·rename_i t T
    split at hcs
    ·rename_i cs1 hT hg
     split at hcs
     ·rename_i hh
      cases hcs
      exact .inl ⟨t,T,_,rfl,hT,hg,hh.1,hh.2.2,rfl⟩
     ·cases hcs
    ·cases hcs
   ·cases hcs
  ·exact .inr h
 ·rename_i hne
  refine .inr ?_
  unfold ZcL
  split
  ·rename_i r1
   exact (hne r1 rfl).elim
  ·exact h
theorem Zis {a:SV} {ρ:Nat→V} (h:ZbX P a=true):∀ e xs,a.den ρ = .own true e xs→Zg P e=false:=by
 intro e xs he
 cases a with
 | own x e' l =>
  simp only [SV.den,AV.own.injEq] at he
  obtain ⟨rfl,rfl,_⟩:=he
  simpa [ZbX] using h
 | c y => cases y <;> cases he
 | _ => cases he
theorem WS {cs:List BC} {ρ:Nat→V} {k:Nat} {e:TypeId} {xs:List (List AV)} (h:(cs.all fun c=>match c with | .own true e _=>!Ze P e | _=>true)=true)
  (ho:(match (cs.map (BC.den ρ))[k]? with | some (.own true e xs)=>some (e,xs) | _=>none)=some (e,xs)):Ze P e=false:=by
 rw [List.getElem?_map] at ho
 cases hc:cs[k]? with
 | none => rw [hc] at ho; cases ho
 | some c =>
  rw [hc] at ho
  have h1:=List.all_eq_true.1 h c (List.mem_of_getElem? hc)
  cases c with
  | c y => cases y <;> cases ho
  | gone => cases ho
  | own x e' l =>
   cases x with
   | false => cases ho
   | true =>
    simp only [Option.map_some,BC.den,Option.some.injEq,Prod.mk.injEq] at ho
    rw [← ho.1]
    simpa using h1
theorem Zcl {a:SV} {ρ:Nat→V} (h:ZbX P a=true) {k:Nat} {e:TypeId} {xs:List (List AV)} (ho:ZQ (a.den ρ) k=some (e,xs)):Ze P e=false:=by
 cases a with
 | own x e' l =>
  cases x with
  | false => cases k <;> cases ho
  | true =>
   cases k with
   | zero =>
    simp only [SV.den,ZQ,Option.some.injEq,Prod.mk.injEq] at ho
    rw [← ho.1]
    exact ZY (by simpa [ZbX] using h)
   | succ k => cases ho
 | box cs => cases k with | zero => cases ho | succ k => exact WS (ρ := ρ) h ho
 | gbox cs => cases k with | zero => cases ho | succ k => exact WS (ρ := ρ) h ho
 | tuple _ => cases h
 | aggo _ => cases h
 | c y => cases y <;> (cases k <;> cases ho)
 | _ => cases k <;> cases ho
theorem Zbg {s:Tr} {r:ResultVar} {x:TC} (h:Kg P (gE E s) r=some x):ZV r < E.top:=by
 rcases Nat.lt_or_ge (ZV r) E.top with hlt | hge
 ·exact hlt
 ·have hd:gE E s (ZV r) = .dead:=Za4 s _ hge
  cases r with
  | tmp t => simp only [ZV] at hd; simp only [Kg, hd] at h; cases h
  | cell t T =>
   simp only [ZV] at hd
   simp only [Kg,hd] at h
   cases hT:Z2 P T with
   | none => rw [hT] at h; cases h
   | some b => rw [hT] at h; cases b <;> cases h
theorem ZaY {s:Tr} : ∀ (rs:List ResultVar) (xs:List TC),KF P (gE E s) rs=some xs→∀ r∈rs,ZV r < E.top
 | [], _, _, r, hr => by cases hr
 | r0 :: rs, xs, h, r, hr => by
  simp only [KF] at h
  split at h
  ·rename_i x xs' hx hxs
   rcases List.mem_cons.1 hr with rfl | hr
   ·exact Zbg hx
   ·exact ZaY rs xs' hxs r hr
  ·cases h
theorem Zcu {s:Tr} {ρ:Nat→V} {r:ResultVar} {x:TC} (h:Kg P (gE E s) r=some x) {e:TypeId} {xs:List (List AV)} (hx:x.den ρ = .own true e xs):ZQ (ZO E s ρ (ZV r)) (Wf r)=some (e,xs):=by
 cases r with
 | tmp t =>
  simp only [Kg] at h
  split at h
  ·rename_i y hy
   cases h
   cases y<;>cases hx
  ·cases h;cases hx
  ·rename_i b e' l hy
   cases h
   simp only [TC.den,AV.own.injEq] at hx
   obtain ⟨rfl,rfl,rfl⟩:=hx
   simp only [ZV,Wf,ZO,hy]
   rfl
  ·cases h
 | cell t T =>
  simp only [Kg] at h
  split at h
  ·split at h
   ·cases h;cases hx
   ·cases h
  ·rename_i bx e' l hT hy
   cases h
   simp only [TC.den,AV.own.injEq] at hx
   obtain ⟨rfl,rfl,rfl⟩:=hx
   simp only [ZV,Wf,ZO,hy]
   rfl
  ·rename_i y hT hy
   cases h
   cases y<;>cases hx
  ·cases h
theorem ZcF {s:Tr} {ρ:Nat→V} : ∀ (rs:List ResultVar) (xs:List TC),KF P (gE E s) rs=some xs→∀ (i:Nat) (x:TC) (e:TypeId) (ys:List (List AV)),xs[i]? = some x→x.den ρ = .own true e ys→∃ r,rs[i]? = some r∧ZQ (ZO E s ρ (ZV r)) (Wf r)=some (e,ys)
 | [], xs, h, i, x, e, ys, hx, _ => by
  simp only [KF,Option.some.injEq] at h
  subst h
  simp at hx
 | r0 :: rs, xs, h, i, x, e, ys, hx, ho => by
  simp only [KF] at h
  split at h
  ·rename_i x0 xs' h0 hxs
   cases h
   cases i with
   | zero =>
    simp only [List.getElem?_cons_zero,Option.some.injEq] at hx
    subst hx
    exact ⟨r0,rfl,Zcu h0 ho⟩
   | succ i =>
    obtain ⟨r,h1,h2⟩:=ZcF rs xs' hxs i x e ys (by simpa using hx) ho
    exact ⟨r,by simpa using h1,h2⟩
  ·cases h
theorem callOk_ofR {R : AV → List AV → Prop} (hm : P.follows .mixedOrders = true) (hps : EnvSound P E) {f : FuncId} {fn : Func} (hf : P.funcs[f]? = some fn) (hname : (fn.name == "runtime.NumGoroutine") = false) {args : List SV} {n : Nat} {ρ : Nat → V}
  (hargs:∀ a∈args,a.bd n) {res:AV} {outs:List AV} (hR:∀ r os,R r os→KG P (os++[r]) (outs++[res])) (h:(ZnJ P E fn args n).wp P R (fun _ _=>False) ρ):Jw P f (args.map (SV.den ρ)) res outs:=by
 unfold ZnJ at h
 split at h
 case h_2=>exact h.elim
 rename_i code hbody
 dsimp only at h
 split at h
 case isFalse=>exact h.elim
 rename_i hh
 obtain ⟨hnt,hnm,hal,hng,haf,hanm⟩:=hh
 have hat:=Vz args 0 haf
 have hngb:args.length < ngN:=Nat.lt_of_le_of_lt (Nat.le_trans hal hnt) (by decide)
 refine ⟨⟨fn,hf,hname,by rw [hbody];rfl⟩,by rw [List.length_map];exact hngb,?_⟩
 intro w lim X cargs hcl hrel hdist hsize hxfar
 rw [List.length_map] at hxfar
 rw [List.length_map] at hcl
 have hgl:∀ (aZ:List SV) (i:Nat),Jh E aZ i=true→i+aZ.length≤E.nt+((aZ.map (SV.den ρ)).countP AV.isG)∨aZ.length≤(aZ.map (SV.den ρ)).countP AV.isG:=by
  intro aZ
  induction aZ with
  | nil => intro i _; exact .inr (Nat.zero_le _)
  | cons a aZ ih =>
   intro i hf
   have h0:=Vz (a::aZ) i hf 0 a rfl
   have hd:(a.den ρ).isG=a.isG:=by cases a<;>first | rfl | (rename_i x;cases x<;>rfl)
   rw [List.map_cons,List.countP_cons,hd,List.length_cons]
   by_cases hg:a.isG=true
   ·rw [if_pos hg]
    rcases ih (i+1) (Kk hf) with h1 | h1
    ·left;omega
    ·right;omega
   ·rw [if_neg hg]
    have h2:i < E.nt:=by
     rcases Nat.lt_or_ge i E.nt with h | h
     ·exact h
     ·exact (hg (h0.2.2 (by simpa using h))).elim
    rcases ih (i+1) (Kk hf) with h1 | h1
    ·left;omega
    ·left;omega
 have hcn:cargs.length≤E.nt:=by
  rcases hgl args 0 haf with h1 | h1<;>omega
 have hcd:∀ d,d < args.length→(∃ a,args[d]? = some a):=fun d hd=>⟨_,List.getElem?_eq_getElem hd⟩
 refine calls_of_wp hf hbody ?_
 let c:Ctx:=⟨P,w,lim,fun b=>∃ i k,X i k=some b,E.nt,fun d=>match args[d]? with | some (.box _)=>some (cargs.getD d undef) | _=>none,fun d=>match args[d]? with | some (.gbox _)=>X d 0 | _=>none⟩
 have hlow:Kv E (KT args 0):=by
  unfold Kv
  rw [List.all_eq_true]
  intro u hu
  have:=Zcf args 0 E.top (by omega) u hu
  simpa using this
 have hσ:ZO E (Je (KT args 0) (.leaf .dead)) ρ=ZG (args.map (SV.den ρ)):=by
  rw [Jz hnt ρ _ _ hlow]
  funext d
  rw [Zb7,Nat.zero_add,Nat.sub_zero]
  split
  ·rfl
  ·rename_i hd
   have h1:ZO E (.leaf .dead) ρ d = .dead:=by
    simp only [ZO,gE]
    split<;>rfl
   have h2:(args.map (SV.den ρ))[d]? = none:=List.getElem?_eq_none (by rw [List.length_map];omega)
   rw [h1]
   simp only [ZG,h2]
   rfl
 have htm:∀ d,(cargs.toArray++Array.replicate (fn.ntmps-cargs.toArray.size) undef).getD d undef=cargs.getD d undef:=by
  intro d
  rw [List.getD_eq_getElem?_getD,Array.getD_eq_getD_getElem?,Array.getElem?_append]
  simp only [List.size_toArray,List.getElem?_toArray]
  split
  ·rfl
  ·rename_i h1
   rw [List.getElem?_eq_none (by omega),Array.getElem?_replicate]
   split<;>rfl
 have hpin:∀ d v,c.pin d=some v→(∃ cs,args[d]? = some (.box cs))∧v=cargs.getD d undef:=by
  intro d v hv
  have hv':(match args[d]? with | some (.box _)=>some (cargs.getD d undef) | _=>none)=some v:=hv
  split at hv'
  ·rename_i cs hcs
   simp only [Option.some.injEq] at hv'
   exact ⟨⟨cs,hcs⟩,hv'.symm⟩
  ·cases hv'
 have hsim:Sim c (ZO E (Je (KT args 0) (.leaf .dead)) ρ) (cargs.toArray++Array.replicate (fn.ntmps-cargs.toArray.size) undef) w lim X:=by
  rw [hσ]
  have hG:∀ d,(ZG (args.map (SV.den ρ)) d).isG=true↔∃ cs,args[d]? = some (.gbox cs):=by
   intro d
   cases ha:args[d]? with
   | none =>
    have h2:(args.map (SV.den ρ))[d]? = none:=by rw [List.getElem?_map,ha];rfl
    simp only [ZG,h2]
    exact ⟨fun h=>(by cases h),fun ⟨_,h⟩=>(by cases h)⟩
   | some a =>
    have h2:ZG (args.map (SV.den ρ)) d=a.den ρ:=by simp only [ZG,List.getElem?_map,ha];rfl
    rw [h2]
    cases a with
    | gbox cs => exact ⟨fun _ => ⟨cs, rfl⟩, fun _ => rfl⟩
    | c x => exact ⟨fun h => (by cases x <;> cases h), fun ⟨_, h⟩ => (by cases h)⟩
    | _ => exact ⟨fun h => (by cases h), fun ⟨_, h⟩ => (by cases h)⟩
  refine ⟨fun d=>by rw [htm d];exact hrel d,?_,fun d hd=>?_,fun d hd=>?_,hdist,fun d k b hb=>⟨hsize d k b hb,.inl ⟨d,k,hb⟩⟩,⟨rfl,rfl,rfl,Nat.le_refl _,fun _ _=>rfl,fun _ _ _=>⟨rfl,rfl⟩,Ext.refl w lim⟩,fun d v hv=>?_,fun d e xs hdo=>?_,fun d b hb=>?_,Nat.le_trans (Nat.le_trans (Nat.le_add_right _ _) hnt) (by decide),fun d hd=>?_,fun d k e xs b m1 m2 _=>?_,fun b m b' hb=>?_⟩
  ·show _=E.nt
   simp
   omega
  ·cases ha:args[d]? with
   | none =>
    left
    have h2:(args.map (SV.den ρ))[d]? = none:=by rw [List.getElem?_map,ha];rfl
    simp only [ZG,h2]
    rfl
   | some a =>
    right
    have h3:=(hat d a ha).2.2 (by rw [Nat.zero_add];exact hd)
    refine (hG d).2 ?_
    cases a<;>simp [SV.isG] at h3
    exact ⟨_,ha⟩
  ·obtain ⟨cs,hcs⟩:=(hG d).1 hd
   have:=(hat d _ hcs).2.1 rfl
   rwa [Nat.zero_add] at this
  ·obtain ⟨⟨cs,hcs⟩,rfl⟩:=hpin d v hv
   refine ⟨htm d,cs.map (BC.den ρ),?_⟩
   simp only [ZG,List.getElem?_map,hcs]
   rfl
  ·cases ha:args[d]? with
   | none =>
    have h2:(args.map (SV.den ρ))[d]? = none:=by rw [List.getElem?_map,ha];rfl
    simp only [ZG,h2] at hdo
    cases hdo
   | some a =>
    have h2:ZG (args.map (SV.den ρ)) d=a.den ρ:=by simp only [ZG,List.getElem?_map,ha];rfl
    rw [h2] at hdo
    rw [List.all_eq_true] at hanm
    exact .noMap (Zis (hanm a (List.mem_of_getElem? ha)) e xs hdo)
  ·have hb':(match args[d]? with | some (.gbox _)=>X d 0 | _=>none)=some b:=hb
   split at hb'
   ·rename_i cs hcs
    exact ⟨hb',(hG d).2 ⟨cs,hcs⟩⟩
   ·cases hb'
  ·have h2:(args.map (SV.den ρ))[d]? = none:=List.getElem?_eq_none (by rw [List.length_map];omega)
   simp only [ZG,h2]
   rfl
  ·exfalso
   cases ha:args[d]? with
   | none =>
    have h2:(args.map (SV.den ρ))[d]? = none:=by rw [List.getElem?_map,ha];rfl
    simp only [ZG,h2,Option.getD_none] at m1
    cases k<;>cases m1
   | some a =>
    have h2:ZG (args.map (SV.den ρ)) d=a.den ρ:=by simp only [ZG,List.getElem?_map,ha];rfl
    rw [h2] at m1
    rw [List.all_eq_true] at hanm
    have h3:=Zcl (hanm a (List.mem_of_getElem? ha)) m1
    have m2':Ze P e=true:=m2
    rw [h3] at m2'
    cases m2'
  ·rw [hxfar _ (by omega)] at hb;cases hb
 have hfin:∀ s' n' ρ' (A':Nat→List V→Prop),KB E s' n'→((match ZiM (gE E s') args fn.results.toList with
   | some (_, cs) => if (YB (gE E s') args 0).all (ZbX P) = true then .ret (.box cs) (YB (gE E s') args 0) else .stuck 125
   | none =>
   match ZjC P (gE E s') fn.results.toList with
   | some r => if WE args fn.results.toList = true ∧ (YB (gE E s') args 0).all (ZbX P) = true then STree.ret r (YB (gE E s') args 0) else .stuck 124
   | none => .stuck 120) : STree).wp P R A' ρ' → ∀ tm' w' lim' X', Sim c (ZO E s' ρ') tm' w' lim' X' → ∃ v, (results fn tm').run P w' = .ok v w' ∧
    ∃ v1 lim1 X1,Ending.returned v = .returned v1∧ZI w lim w' lim1 (fun b=>∃ i k,X i k=some b)∧outs.length=(args.map (SV.den ρ)).length∧
     (∀ i,ZJ P w' lim1 X1 (ZG (outs++[res])) i (ZG (outs++[res]) i) (WJ (args.map (SV.den ρ)).length cargs v1 i))∧Zif X1∧
     (∀ i k b,X1 i k=some b→b < w'.heap.size∧((∃ i k,X i k=some b)∨w.heap.size≤b))∧(∀ i,(ZG (outs++[res]) i).isG=true→(ZG (args.map (SV.den ρ)) i).isG=true∧X1 i 0=X i 0)∧VC P outs∧Zm0 P w' lim1 X1 res (args.map (SV.den ρ)).length:=by
  intro s' n' ρ' A' _ h' tm' w' lim' X' hsim'
  obtain ⟨r,SRC,hA,hB,hval,hG0,h',hnd,hlo,hD⟩:∃ (r:SV) (SRC:Nat→Nat→Option (Nat×Nat)),(∀ i,i < args.length→∀ k,SRC i k=if (args[i]?).map SV.isBx=some true then some (i,k) else none)∧
    (∀ i k i' k' p,SRC i k=some p→SRC i' k'=some p→i=i'∧k=k')∧
    (∃ v,(results fn tm').run P w' = .ok v w'∧ZJ P w' lim' (fun i k=>(SRC i k).bind fun p=>X' p.1 p.2) (ZG ((YB (gE E s') args 0).map (SV.den ρ')++[r.den ρ'])) args.length (r.den ρ') v)∧
    (r.den ρ').isG=false∧(STree.ret r (YB (gE E s') args 0)).wp P R A' ρ'∧(YB (gE E s') args 0).all (ZbX P)=true∧(∀ i k p,SRC i k=some p→p.1 < ngN)∧
    ∀ k e xs,ZQ (r.den ρ') k=some (e,xs)→∀ p,SRC args.length k=some p→ZQ (ZO E s' ρ' p.1) p.2=some (e,xs):=by
   split at h'
   ·rename_i d0 cs hbr
    unfold ZiM at hbr
    split at hbr
    case h_2=>cases hbr
    rename_i t hrs
    split at hbr
    case h_2=>cases hbr
    rename_i d1 hgt
    split at hbr
    case h_2=>cases hbr
    rename_i cs1 hgd
    split at hbr
    case isFalse=>cases hbr
    rename_i hna
    simp only [Option.some.injEq,Prod.mk.injEq] at hbr
    obtain ⟨rfl,rfl⟩:=hbr
    split at h'
    case isFalse=>exact h'.elim
    rename_i hndl
    have hd1:d1 < ngN:=by
     rcases Nat.lt_or_ge d1 E.top with hlt | hge
     ·exact Nat.lt_of_lt_of_le hlt (Nat.le_trans hnt (by decide))
     ·rw [Za4 s' _ hge] at hgd;cases hgd
    have hnb:∀ a,args[d1]? = some a→a.isBx=true→False:=by
     intro a ha hax
     rw [ha] at hna
     cases a<;>simp [SV.isBx] at hax<;>cases hna
    refine ⟨.box cs1,fun i k=>if i < args.length then (if (args[i]?).map SV.isBx=some true then some (i,k) else none) else if i=args.length then some (d1,k) else none,fun i hi k=>if_pos hi,?_,?_,rfl,h',hndl,fun i k p hp=>?_,fun k e xs ho p hp=>?_⟩
    rotate_left 2
    ·dsimp only at hp
     split at hp
     ·split at hp
      ·cases hp;dsimp only;omega
      ·cases hp
     ·split at hp
      ·cases hp;exact hd1
      ·cases hp
    ·dsimp only at hp
     rw [if_neg (Nat.lt_irrefl _),if_pos rfl] at hp
     cases hp
     show ZQ (ZO E s' ρ' d1) k=_
     have e2:ZO E s' ρ' d1 = .box (cs1.map (BC.den ρ')):=by simp only [ZO,hgd];rfl
     rw [e2]
     exact ho
    ·intro i k i' k' p h1 h2
     dsimp only at h1 h2
     split at h1
     ·split at h1
      ·rename_i hi hb
       simp only [Option.some.injEq] at h1
       subst h1
       obtain ⟨a,ha,hax⟩:=Option.map_eq_some_iff.1 hb
       split at h2
       ·split at h2
        ·simp only [Option.some.injEq,Prod.mk.injEq] at h2;exact ⟨h2.1.symm,h2.2.symm⟩
        ·cases h2
       ·split at h2
        ·simp only [Option.some.injEq,Prod.mk.injEq] at h2
         exact (hnb a (by rw [h2.1];exact ha) hax).elim
        ·cases h2
      ·cases h1
     ·split at h1
      ·rename_i hi
       simp only [Option.some.injEq] at h1
       subst h1
       split at h2
       ·split at h2
        ·rename_i hi' hb
         simp only [Option.some.injEq,Prod.mk.injEq] at h2
         obtain ⟨a,ha,hax⟩:=Option.map_eq_some_iff.1 hb
         exact (hnb a (by rw [← h2.1];exact ha) hax).elim
        ·cases h2
       ·split at h2
        ·rename_i hi'
         simp only [Option.some.injEq,Prod.mk.injEq] at h2
         exact ⟨by rw [hi,hi'],h2.2.symm⟩
        ·cases h2
      ·cases h1
    ·have ht:=hsim'.rel t
     have hd:=hsim'.rel d1
     have e1:ZO E s' ρ' t = .ptr d1 0:=by simp only [ZO,hgt];rfl
     have e2:ZO E s' ρ' d1 = .box (cs1.map (BC.den ρ')):=by simp only [ZO,hgd];rfl
     rw [e1] at ht
     rw [e2] at hd
     obtain ⟨b,cs',hb,_,hv⟩:=ht
     have hp:ZB P w' lim' (X' d1) (cs1.map (BC.den ρ')) (tm'.getD d1 undef):=hd
     obtain ⟨b',hb',hv'⟩:=YD hp
     rw [hb] at hb'
     simp only [Option.some.injEq] at hb'
     subst hb'
     refine ⟨tm'.getD t undef,?_,?_⟩
     ·exact Ko (vs:=[tm'.getD t undef]) (by rw [hrs];rfl) fun i r' v' hr' hv2=>by
       rw [hrs] at hr'
       cases i with
       | zero =>
        simp only [List.getElem?_cons_zero,Option.some.injEq] at hr' hv2
        subst hr'
        subst hv2
        rfl
       | succ i => simp at hr'
     ·show ZB P w' lim' (fun k=>((if args.length < args.length then (if (args[args.length]?).map SV.isBx=some true then some (args.length,k) else none) else if args.length=args.length then some (d1,k) else none:Option (Nat×Nat)).bind fun p=>X' p.1 p.2)) (cs1.map (BC.den ρ')) (tm'.getD t undef)
      have e3:(fun k=>((if args.length < args.length then (if (args[args.length]?).map SV.isBx=some true then some (args.length,k) else none) else if args.length=args.length then some (d1,k) else none:Option (Nat×Nat)).bind fun p=>X' p.1 p.2))=X' d1:=by
       funext k
       rw [if_neg (Nat.lt_irrefl _),if_pos rfl];rfl
      rw [e3,hv,← hv']
      exact hp
   ·split at h'
    case h_2=>exact h'.elim
    rename_i r hr
    split at h'
    case isFalse=>exact h'.elim
    rename_i hfine
    obtain ⟨hfine,hndl⟩:=hfine
    rcases ZfO hr with ⟨t,T,cs,hrs,hT,hgt,hcl2,hwh,rfl⟩ | hr
    ·-- a struct that owns what its cells own
     have htn:t < ngN:=by
      rcases Nat.lt_or_ge t E.top with hlt | hge
      ·exact Nat.lt_of_lt_of_le hlt (Nat.le_trans hnt (by decide))
      ·rw [Za4 s' _ hge] at hgt;cases hgt
     have hna:∀ a,args[t]? = some a→a.isBx=true→False:=by
      intro a ha hax
      have h1:WE args [.cell t T]=true:=by rw [← hrs];exact hfine
      simp only [WE,Bool.and_eq_true,List.all_cons,List.all_nil,Bool.and_true,ZV] at h1
      have h2:=h1.2
      rw [ha] at h2
      cases a<;>simp [SV.isBx] at hax<;>cases h2
     have e2:ZO E s' ρ' t = .box (cs.map (BC.den ρ')):=by simp only [ZO,hgt];rfl
     refine ⟨.aggo cs,fun i k=>if i < args.length then (if (args[i]?).map SV.isBx=some true then some (i,k) else none) else if i=args.length then (if k=0 then none else some (t,k)) else none,fun i hi k=>if_pos hi,?_,?_,rfl,h',hndl,fun i k p hp=>?_,fun k e xs ho p hp=>?_⟩
     ·intro i k i' k' p h1 h2
      dsimp only at h1 h2
      split at h1
      ·split at h1
       ·rename_i hi hb
        cases h1
        obtain ⟨a,ha,hax⟩:=Option.map_eq_some_iff.1 hb
        split at h2
        ·split at h2
         ·cases h2;exact ⟨rfl,rfl⟩
         ·cases h2
        ·split at h2
         ·split at h2
          ·cases h2
          ·simp only [Option.some.injEq,Prod.mk.injEq] at h2
           exact (hna a (by rw [h2.1];exact ha) hax).elim
         ·cases h2
       ·cases h1
      ·split at h1
       ·rename_i hi
        split at h1
        ·cases h1
        ·cases h1
         split at h2
         ·split at h2
          ·rename_i hi' hb
           simp only [Option.some.injEq,Prod.mk.injEq] at h2
           obtain ⟨a,ha,hax⟩:=Option.map_eq_some_iff.1 hb
           exact (hna a (by rw [← h2.1];exact ha) hax).elim
          ·cases h2
         ·split at h2
          ·rename_i hi'
           split at h2
           ·cases h2
           ·simp only [Option.some.injEq,Prod.mk.injEq] at h2
            exact ⟨by rw [hi,hi'],h2.2.symm⟩
          ·cases h2
       ·cases h1
     ·have hd:=hsim'.rel t
      rw [e2] at hd
      obtain ⟨b,arr,ty,g1,g2,g3,g4,g5,g6,g7⟩:=(show ZB P w' lim' (X' t) (cs.map (BC.den ρ')) (tm'.getD t undef) from hd)
      have hal:arr.toList.length=cs.length:=by simpa using g4
      refine ⟨.agg arr.toList.toArray,?_,?_⟩
      ·exact Ko (vs:=[.agg arr.toList.toArray]) (by rw [hrs];rfl) fun i r' v' hr' hv'=>by
        rw [hrs] at hr'
        cases i with
        | zero =>
         simp only [List.getElem?_cons_zero,Option.some.injEq] at hr' hv'
         subst hr'
         subst hv'
         obtain ⟨i,hi⟩:=WI hT
         have hl2:=run_loadCells_list (P:=P) w' ⟨b,0,none⟩ arr.toList (fun j v hj=>by rw [Jq,Zr g3,Nat.zero_add];simpa using hj)
         rw [hal,hcl2] at hl2
         simp [KS,g2,asAddr,loadVar,Vh hT,Zq hi,hl2]
        | succ i => simp at hr'
      ·refine ⟨arr.toList,rfl,by rw [hal,List.length_map],fun x hx=>?_,fun j x u hx hu=>?_⟩
       ·rcases g6 x hx with h | h | rfl
        ·exact .inl h
        ·exact .inr h
        ·exact (VW hwh ρ' _ hx rfl).elim
       ·show J0 P w' lim' ((if args.length < args.length then (if (args[args.length]?).map SV.isBx=some true then some (args.length,j+1) else none) else if args.length=args.length then (if j+1=0 then none else some (t,j+1)) else none:Option (Nat×Nat)).bind fun p=>X' p.1 p.2) x u
        rw [if_neg (Nat.lt_irrefl _),if_pos rfl,if_neg (by omega)]
        exact g7 j x u hx (by simpa using hu)
     ·dsimp only at hp
      split at hp
      ·split at hp
       ·cases hp;dsimp only;omega
       ·cases hp
      ·split at hp
       ·split at hp
        ·cases hp
        ·cases hp;exact htn
       ·cases hp
     ·dsimp only at hp
      rw [if_neg (Nat.lt_irrefl _),if_pos rfl] at hp
      split at hp
      ·cases hp
      ·cases hp
       show ZQ (ZO E s' ρ' t) k=_
       rw [e2]
       cases k with
       | zero => cases ho
       | succ k => exact ho
    have hlo0:∀ i k p,ZdJ args fn.results.toList i k=some p→p.1 < ngN:=by
     intro i k p hp
     have hrs:∀ r∈fn.results.toList,ZV r < ngN:=by
      intro r0 hr0
      have:ZV r0 < E.top:=by
       unfold ZcL at hr
       split at hr
       ·rename_i r1 hrs
        rw [hrs,List.mem_singleton] at hr0
        subst hr0
        obtain ⟨x,hx,_⟩:=Option.map_eq_some_iff.1 hr
        exact Zbg hx
       ·obtain ⟨xs,hx,_⟩:=Option.map_eq_some_iff.1 hr
        exact ZaY _ _ hx r0 hr0
      exact Nat.lt_of_lt_of_le this (Nat.le_trans hnt (by decide))
     unfold ZdJ at hp
     split at hp
     ·split at hp
      ·cases hp;dsimp only;omega
      ·cases hp
     ·split at hp
      ·split at hp
       ·rename_i r1 hr1
        split at hp
        ·cases hp;exact hrs r1 (by rw [hr1];simp)
        ·cases hp
       ·split at hp
        ·cases hp
        ·obtain ⟨r1,hr1,rfl⟩:=Option.map_eq_some_iff.1 hp
         exact hrs r1 (List.mem_of_getElem? hr1)
      ·cases hp
    have hD0:∀ k e xs,ZQ (r.den ρ') k=some (e,xs)→∀ p,ZdJ args fn.results.toList args.length k=some p→ZQ (ZO E s' ρ' p.1) p.2=some (e,xs):=by
     intro k e xs ho p hp
     have hrow:∀ k,ZdJ args fn.results.toList args.length k=match fn.results.toList with
       | [r] => if k = 0 then some (ZV r, Wf r) else none
       | rs => match k with | 0 => none | k + 1 => (rs[k]?).map fun r => (ZV r, Wf r) := by
      intro k
      unfold ZdJ
      rw [if_neg (Nat.lt_irrefl _),if_pos rfl]
      all_goals rfl
     rw [hrow] at hp
     unfold ZcL at hr
     split at hr
     ·rename_i r1 hrs
      obtain ⟨x,hx,rfl⟩:=Option.map_eq_some_iff.1 hr
      rw [hrs] at hp
      dsimp only at hp
      split at hp
      ·rename_i hk
       subst hk
       cases hp
       rw [Zam] at ho
       refine Zcu hx ?_
       cases x with
       | c y => cases y <;> cases ho
       | agg cs => cases ho
       | gone => cases ho
       | own b e' l =>
        cases b with
        | false => cases ho
        | true =>
         simp only [TC.den,ZQ,Option.some.injEq,Prod.mk.injEq] at ho ⊢
         obtain ⟨rfl,rfl⟩:=ho
         rfl
      ·cases hp
     ·rename_i hne
      obtain ⟨xs1,hx,rfl⟩:=Option.map_eq_some_iff.1 hr
      split at hp
      ·rename_i r1 hr1;exact (hne r1 hr1).elim
      ·cases k with
       | zero => cases hp
       | succ k =>
        obtain ⟨r1,hr1,rfl⟩:=Option.map_eq_some_iff.1 hp
        simp only [SV.den,ZQ] at ho
        split at ho
        ·rename_i e1 ys1 hk
         simp only [Option.some.injEq,Prod.mk.injEq] at ho
         obtain ⟨rfl,rfl⟩:=ho
         rw [List.getElem?_map] at hk
         obtain ⟨x,hxk,hxd⟩:=Option.map_eq_some_iff.1 hk
         obtain ⟨r2,h1,h2⟩:=ZcF (ρ:=ρ') _ _ hx k x e1 ys1 hxk hxd
         rw [hr1] at h1
         cases h1
         exact h2
        ·cases ho
    refine ⟨r,ZdJ args fn.results.toList,fun i hi k=>?_,fun i k i' k' p h1 h2=>ZkA hfine h1 h2,?_,?_,h',hndl,hlo0,hD0⟩
    ·unfold ZdJ;rw [if_pos hi]
    ·generalize (YB (gE E s') args 0).map (SV.den ρ')=outs0
     have hrow:∀ k,ZdJ args fn.results.toList args.length k=match fn.results.toList with
       | [r] => if k = 0 then some (ZV r, Wf r) else none
       | rs => match k with | 0 => none | k + 1 => (rs[k]?).map fun r => (ZV r, Wf r) := by
      intro k
      unfold ZdJ
      rw [if_neg (Nat.lt_irrefl _),if_pos rfl]
      all_goals rfl
     unfold ZcL at hr
     split at hr
     ·rename_i r0 hrs
      cases hx:Kg P (gE E s') r0 with
      | none => simp [hx] at hr
      | some x =>
       simp only [hx,Option.map_some,Option.some.injEq] at hr
       subst hr
       rw [Zam]
       obtain ⟨v,h1,h2⟩:=Zef (c:=c) rfl hsim' hx
       refine ⟨v,?_,Zfm ?_⟩
       ·exact Ko (vs:=[v]) (by rw [hrs];rfl) fun i r' v' hr' hv'=>by
         rw [hrs] at hr'
         cases i with
         | zero =>
          simp only [List.getElem?_cons_zero,Option.some.injEq] at hr' hv'
          subst hr'
          subst hv'
          exact h1
         | succ i => simp at hr'
       ·show J0 P w' lim' ((ZdJ args fn.results.toList args.length 0).bind fun p=>X' p.1 p.2) _ v
        rw [hrow,hrs]
        exact h2
     ·rename_i hne
      cases hx:KF P (gE E s') fn.results.toList with
      | none => simp [hx] at hr
      | some xs =>
       simp only [hx,Option.map_some,Option.some.injEq] at hr
       subst hr
       obtain ⟨vs,g1,g2,g3⟩:=Zea (c:=c) rfl hsim' _ _ hx
       have hne1:∀ v,vs≠[v]:=by
        intro v hv
        rw [hv] at g1
        obtain ⟨r',hr'⟩:=List.length_eq_one_iff.1 g1
        exact hne r' hr'
       refine ⟨.tuple vs.toArray,?_,?_⟩
       ·have:=Ko g1 fun i r' v' hr' hv'=>(g3 i r' v' hr' hv').1
        rw [this]
        rcases vs with _ | ⟨v,_ | ⟨u,l⟩⟩
        ·rfl
        ·exact (hne1 v rfl).elim
        ·rfl
       ·refine ⟨vs,rfl,by simp [g2],fun i y u hy hu=>?_⟩
        rw [List.getElem?_map] at hy
        cases hxi:xs[i]? with
        | none => simp [hxi] at hy
        | some x =>
         simp only [hxi,Option.map_some,Option.some.injEq] at hy
         subst hy
         obtain ⟨r',hr'⟩:∃ r',fn.results.toList[i]? = some r':=⟨_,List.getElem?_eq_getElem (by rw [g1];exact (List.getElem?_eq_some_iff.1 hu).1)⟩
         have h3:=(g3 i r' u hr' hu).2 x hxi
         have hsrc:ZdJ args fn.results.toList args.length (i+1)=some (ZV r',Wf r'):=by
          rw [hrow]
          split
          ·rename_i r1 hr1;exact (hne r1 hr1).elim
          ·simp [hr']
         show J0 P w' lim' ((ZdJ args fn.results.toList args.length (i+1)).bind fun p=>X' p.1 p.2) _ u
         rw [hsrc]
         exact h3
    ·unfold ZcL at hr
     split at hr
     ·obtain ⟨x,_,rfl⟩:=Option.map_eq_some_iff.1 hr
      rw [Zam]
      cases x with
      | c y => cases y <;> rfl
      | _ => rfl
     ·obtain ⟨x,_,rfl⟩:=Option.map_eq_some_iff.1 hr
      rfl
  obtain ⟨res0,hres⟩:∃ y,SV.den ρ' r=y:=⟨_,rfl⟩
  obtain ⟨outs0,houts⟩:∃ y,(YB (gE E s') args 0).map (SV.den ρ')=y:=⟨_,rfl⟩
  have hww:=hR _ _ h'
  rw [hres,houts] at hww
  suffices hz:∃ v,(results fn tm').run P w' = .ok v w'∧
    ∃ v1 lim1 X1,Ending.returned v = .returned v1∧ZI w lim w' lim1 (fun b=>∃ i k,X i k=some b)∧outs0.length=(args.map (SV.den ρ)).length∧
     (∀ i,ZJ P w' lim1 X1 (ZG (outs0++[res0])) i (ZG (outs0++[res0]) i) (WJ (args.map (SV.den ρ)).length cargs v1 i))∧Zif X1∧
     (∀ i k b,X1 i k=some b→b < w'.heap.size∧((∃ i k,X i k=some b)∨w.heap.size≤b))∧(∀ i,(ZG (outs0++[res0]) i).isG=true→(ZG (args.map (SV.den ρ)) i).isG=true∧X1 i 0=X i 0)∧VC P outs0∧Zm0 P w' lim1 X1 res0 (args.map (SV.den ρ)).length by
   obtain ⟨v,hrun,v1,lim1,X1,he,hst,hol,hr,hd,hin,hgh,hnl,hnr⟩:=hz
   obtain ⟨X3,k1,k3,k2,k4⟩:=Zb5 hr hww
   have hX3:∀ i k b,X3 i k=some b→X1 i k=some b:=by
    intro i k b hb
    rcases k1 i k with e | e
    ·rw [← e];exact hb
    ·rw [e] at hb;cases hb
   have hll:outs0.length=outs.length:=by have:=hww.1;simpa using this
   refine ⟨v,hrun,v1,lim1,X3,he,hst,by rw [← hll,hol],k2,Zel hd k1,fun i k b hb=>hin i k b (hX3 i k b hb),fun i hi=>?_,Zft hww hnl,fun k e xs b m1 m2 m3=>?_⟩
   ·obtain ⟨m1,m2⟩:=hgh i (ZcS hww hi)
    exact ⟨m1,by rw [k3 i (WC hi),m2]⟩
   ·have hal2:outs0.length=args.length:=by rw [hol,List.length_map]
    rw [← Zd1 (aZ:=outs) (x:=res)] at m1
    have h1:=ZaE hww m1 m2
    rw [← hll,Zd1] at h1
    rw [k4 _ (by simp;omega)]
    exact hnr k e xs b h1 m2 (hX3 _ _ _ m3)
  rw [hres,houts] at hval
  obtain ⟨v,hv1,hv2⟩:=hval
  have hol:outs0.length=args.length:=by rw [← houts,List.length_map,ZeO]
  have hrt:∀ i,WJ (args.map (SV.den ρ)).length cargs v i=if i=args.length then v else cargs.getD i undef:=by
   intro i
   unfold WJ
   rw [List.length_map]
  have hout:∀ i,i < args.length→ZG (outs0++[res0]) i=match args[i]? with | some a=>if a.isBx=true then ZO E s' ρ' i else .dead | none=>.dead:=by
   intro i hi
   simp only [ZG]
   rw [List.getElem?_append_left (by omega),← houts,List.getElem?_map,Zgn,Nat.zero_add]
   have:=List.getElem?_eq_getElem hi
   rw [this]
   simp only [Option.map_some,Option.getD_some]
   split<;>rfl
  have hgpn:∀ i cs,args[i]? = some (.gbox cs)→X' i 0=X i 0∧(ZO E s' ρ' i).isG=true:=by
   intro i cs hcs
   have hri:=hrel i
   have h2:ZG (args.map (SV.den ρ)) i = .gbox (cs.map (BC.den ρ)):=by simp only [ZG,List.getElem?_map,hcs];rfl
   rw [h2] at hri
   obtain ⟨v',hp⟩:=hri
   obtain ⟨b,hb,_⟩:=YD hp
   obtain ⟨g1,g2⟩:=hsim'.gpin i b (by show (match args[i]? with | some (.gbox _)=>X i 0 | _=>none)=_;rw [hcs];exact hb)
   exact ⟨by rw [g1,hb],g2⟩
  obtain ⟨SRC2,hS2⟩:∃ SRC2:Nat→Nat→Option (Nat×Nat),SRC2=fun i k=>if ngN≤i then some (i,k) else SRC i k:=⟨_,rfl⟩
  have hSlo:∀ i,i < ngN→∀ k,SRC2 i k=SRC i k:=fun i hi k=>by rw [hS2];exact if_neg (by omega)
  have hShi:∀ i,ngN≤i→∀ k,SRC2 i k=some (i,k):=fun i hi k=>by rw [hS2];exact if_pos hi
  have hA:∀ i,i < args.length→∀ k,SRC2 i k=if (args[i]?).map SV.isBx=some true then some (i,k) else none:=fun i hi k=>(hSlo i (by omega) k).trans (hA i hi k)
  have hB2:∀ i k i' k' p,SRC2 i k=some p→SRC2 i' k'=some p→i=i'∧k=k':=fun i k i' k' p h1 h2=>by
   rcases Nat.lt_or_ge i ngN with hi | hi<;>rcases Nat.lt_or_ge i' ngN with hi' | hi'
   ·rw [hSlo i hi] at h1;rw [hSlo i' hi'] at h2;exact hB i k i' k' p h1 h2
   ·rw [hSlo i hi] at h1;rw [hShi i' hi'] at h2;cases h2;have:=hlo i k _ h1;dsimp only at this;omega
   ·rw [hShi i hi] at h1;rw [hSlo i' hi'] at h2;cases h1;have:=hlo i' k' _ h2;dsimp only at this;omega
   ·rw [hShi i hi] at h1;rw [hShi i' hi'] at h2;cases h1;cases h2;exact ⟨rfl,rfl⟩
  have hdlt:∀ d,ZG (outs0++[res0]) d≠.dead→d < ngN:=fun d hd=>by
   rcases Nat.lt_or_ge d ngN with h | h
   ·exact h
   ·refine (hd ?_).elim
    have:(outs0++[res0])[d]? = none:=List.getElem?_eq_none (by simp;omega)
    simp only [ZG,this]
    rfl
  have hv2:ZJ P w' lim' (fun i k=>(SRC2 i k).bind fun p=>X' p.1 p.2) (ZG (outs0++[res0])) args.length res0 v:=by
   have hrow:∀ i,i < ngN→(fun k=>(SRC2 i k).bind fun p=>X' p.1 p.2)=fun k=>(SRC i k).bind fun p=>X' p.1 p.2:=fun i hi=>by
    funext k;rw [hSlo i hi]
   have hat:∀ i,i < ngN→∀ k,(SRC2 i k).bind (fun p=>X' p.1 p.2)=(SRC i k).bind fun p=>X' p.1 p.2:=fun i hi k=>by rw [hSlo i hi]
   refine hv2.chg (hrow _ (by omega)) (fun d' cs hd'=>⟨⟨cs,hd'⟩,hat d' (hdlt d' (by rw [hd'];exact fun h=>by cases h)) 0⟩) (fun d' hd'=>⟨hd',hat d' (hdlt d' (by intro h;rw [h] at hd';cases hd')) 0⟩) fun d' k hr=>⟨Y5.refl _ _,?_⟩
   obtain ⟨p,hp⟩:=ZeS hv2 hr
   exact hat d' (hdlt d' (by intro h;rw [h] at hp;cases hp)) k
  have hlow2:∀ k p,SRC2 args.length k=some p→SRC args.length k=some p:=fun k p hp=>by rw [← hSlo _ hngb];exact hp
  refine ⟨v,hv1,v,lim',fun i k=>(SRC2 i k).bind fun p=>X' p.1 p.2,rfl,⟨hsim'.frm.os,hsim'.frm.tape,hsim'.frm.output,hsim'.frm.size,hsim'.frm.frz,hsim'.frm.blk,hsim'.frm.ext⟩,by rw [hol,List.length_map],fun i=>?_,fun d k d' k' b hb hb'=>?_,fun i k b hb=>?_,fun i hi=>?_,fun i k e xs hi=>?_,fun k e xs b m1 m2 m3=>?_⟩
  ·rw [hrt]
   rcases Nat.lt_trichotomy i args.length with hi | hi | hi
   ·rw [if_neg (by omega),hout i hi]
    obtain ⟨a,ha⟩:=hcd i hi
    rw [ha]
    dsimp only
    have hrow:a.isBx=true→(fun k=>(SRC2 i k).bind fun p=>X' p.1 p.2)=X' i:=by
     intro hbx
     funext k
     rw [hA i hi k,ha,if_pos (by simp [hbx])]
     rfl
    cases a with
    | box cs =>
     rw [if_pos (show (SV.box cs).isBx=true from rfl)]
     obtain ⟨p1,cs',p2⟩:=hsim'.pin i (cargs.getD i undef) (by show (match args[i]? with | some (.box _)=>some (cargs.getD i undef) | _=>none)=_;rw [ha])
     have hrl:=hsim'.rel i
     rw [p2,p1] at hrl
     rw [p2]
     show ZB P w' lim' (fun k=>(SRC2 i k).bind fun p=>X' p.1 p.2) cs' _
     rw [hrow rfl]
     exact hrl
    | gbox cs =>
     rw [if_pos (show (SV.gbox cs).isBx=true from rfl)]
     obtain ⟨_,g2⟩:=hgpn i cs ha
     have hrl:=hsim'.rel i
     generalize ZO E s' ρ' i=x at g2 hrl
     cases x<;>simp [AV.isG] at g2
     obtain ⟨v',hrl⟩:=hrl
     refine ⟨v',?_⟩
     show ZB P w' lim' (fun k=>(SRC2 i k).bind fun p=>X' p.1 p.2) _ v'
     rw [hrow rfl]
     exact hrl
    | _ => exact trivial
   ·subst hi
    have hout:ZG (outs0++[res0]) args.length=res0:=by
     simp only [ZG]
     rw [List.getElem?_append_right (by omega),hol]
     simp
    rw [if_pos rfl,hout]
    exact hv2
   ·have hout:ZG (outs0++[res0]) i = .dead:=by
     simp only [ZG]
     rw [List.getElem?_eq_none (by simp;omega)]
     rfl
    rw [hout]
    trivial
  ·cases hp:SRC2 d k with
   | none => simp [hp] at hb
   | some p =>
    cases hp':SRC2 d' k' with
    | none => simp [hp'] at hb'
    | some p' =>
     simp only [hp,hp',Option.bind_some] at hb hb'
     obtain ⟨e1,e2⟩:=hsim'.dist _ _ _ _ b hb hb'
     have:p=p':=Prod.ext e1 e2
     subst this
     exact hB2 _ _ _ _ _ hp hp'
  ·cases hp:SRC2 i k with
   | none => simp [hp] at hb
   | some p =>
    simp only [hp,Option.bind_some] at hb
    exact hsim'.ours _ _ b hb
  ·rcases Nat.lt_trichotomy i args.length with hl | hl | hl
   ·rw [hout i hl] at hi
    obtain ⟨a,ha⟩:=hcd i hl
    rw [ha] at hi
    dsimp only at hi
    cases a with
    | gbox cs =>
     obtain ⟨g1,g2⟩:=hgpn i cs ha
     refine ⟨by simp only [ZG,List.getElem?_map,ha];rfl,?_⟩
     show (SRC2 i 0).bind (fun p=>X' p.1 p.2)=X i 0
     rw [hA i hl 0,ha,if_pos (show (some (SV.gbox cs)).map SV.isBx=some true from rfl)]
     exact g1
    | box cs =>
     obtain ⟨p1,cs',p2⟩:=hsim'.pin i (cargs.getD i undef) (by show (match args[i]? with | some (.box _)=>some (cargs.getD i undef) | _=>none)=_;rw [ha])
     rw [if_pos (show (SV.box cs).isBx=true from rfl),p2] at hi
     cases hi
    | _ => cases hi
   ·subst hl
    have hres0:ZG (outs0++[res0]) args.length=res0:=by
     simp only [ZG]
     rw [List.getElem?_append_right (by omega),hol]
     simp
    rw [hres0,← hres,hG0] at hi
    cases hi
   ·have:ZG (outs0++[res0]) i = .dead:=by
     simp only [ZG]
     rw [List.getElem?_eq_none (by simp;omega)]
     rfl
    rw [this] at hi
    cases hi
  ·cases hd:Ze P e with
   | false => rfl
   | true =>
    exfalso
    rw [← houts] at hi
    cases hg:(YB (gE E s') args 0)[i]? with
    | none =>
     have h2:((YB (gE E s') args 0).map (SV.den ρ'))[i]? = none:=by rw [List.getElem?_map,hg];rfl
     simp only [ZG,h2,Option.getD_none] at hi
     cases k<;>cases hi
    | some a =>
     have h2:ZG ((YB (gE E s') args 0).map (SV.den ρ')) i=a.den ρ':=by simp only [ZG,List.getElem?_map,hg];rfl
     rw [h2] at hi
     rw [Zcl (List.all_eq_true.1 hnd a (List.mem_of_getElem? hg)) hi] at hd
     cases hd
  ·rw [List.length_map] at m3
   have m3':(SRC2 args.length k).bind (fun p=>X' p.1 p.2)=some b:=m3
   cases hp:SRC2 args.length k with
   | none => rw [hp] at m3'; cases m3'
   | some p =>
    rw [hp] at m3'
    rw [← hres] at m1
    have h1:=hD k e xs m1 p (hlow2 k p hp)
    have h2:=hsim'.nst p.1 p.2 e xs b h1 m2 m3'
    have h3:(fun k=>(SRC2 (ngN+b) k).bind fun p=>X' p.1 p.2)=X' (ngN+b):=by
     funext k
     rw [hShi _ (Nat.le_add_right _ _)]
     rfl
    show Vm P w' lim' e xs b (fun k=>(SRC2 (ngN+b) k).bind fun p=>X' p.1 p.2)
    rw [h3]
    exact h2
 refine ZkO hm hps hnt (c:=c) rfl rfl (fun d v hv=>?_) (fun d b hb=>?_) code 0 n _ _ _ _ _ ρ _ w lim X _ ?_ h hsim ?_ ?_ ?_
 ·obtain ⟨⟨cs,hcs⟩,_⟩:=hpin d v hv
  have:=(hat d _ hcs).1 cs rfl
  rwa [Nat.zero_add] at this
 ·have hb':(match args[d]? with | some (.gbox _)=>X d 0 | _=>none)=some b:=hb
  split at hb'
  ·rename_i cs hcs
   have h1:=(hat d _ hcs).2.1 rfl
   have h2:=(List.getElem?_eq_some_iff.1 hcs).1
   exact ⟨by omega,by omega⟩
  ·cases hb'
 ·refine Jr hnt _ _ hlow (fun d=>?_) (Zd3 args 0 hargs)
  unfold gE
  split<;>trivial
 ·intro s' n' ρ' A' _ hs' h' tm' w' lim' X' hsim'
  obtain ⟨g1,lim2,X2,g2⟩:=ZcV (P:=P) (E:=E) hnt rfl (id:=1000000) (ops:=#[]) hs' hsim'
  obtain ⟨v,h1,h2⟩:=hfin _ n' ρ' A' g1 h' tm' w' lim2 X2 g2
  exact ⟨rfl,v,h1,h2⟩
 ·intro id s' n' ρ' A' _ hs' h'
  exact h'.elim
 ·intro s' n' ρ' A' _ hs' h' tm' w' lim' X' hsim'
  obtain ⟨g1,lim2,X2,g2⟩:=ZcV (P:=P) (E:=E) hnt rfl (id:=1000000) (ops:=#[]) hs' hsim'
  obtain ⟨v,h1,h2⟩:=hfin _ n' ρ' A' g1 h' tm' w' lim2 X2 g2
  exact ⟨rfl,v,h1,h2⟩
end
end Go.AM
end
