import Derived.Test.YtpjnmgjphfnmmaaM3
import Derived.Orders
import Derived.LoopN
import Derived.Scope
import Derived.Laws.Cover3
import Derived.Laws.StructEq
import Derived.WalkKit
import Derived.Lib.Walk
import Derived.Lib.SliceRun
import Derived.Lib.AppendZerosOnto
import Derived.Lib.Overlaps
import Derived.Laws.Externs
import Derived.Laws.IdiomCopy
import Derived.Shelf.RegionOpenPlain
import Derived.Shelf.SlIterI.Nil
import Derived.Shelf.SortM.Plain
import Derived.Shelf.SortM.SortNone
import Derived.Ground.GgzProg
import Derived.Ground.SlgmProg
import Derived.Sort.OwnSortedInts
import Derived.KernelRfl
import Derived.Test.YtpjnmgjphfnmmaaProg
open Option renaming some→Xa,none→Xc,bind_some→Xi,map_some→Xw,map_eq_some_iff→X6,getD_some→UZ,isNone_iff_eq_none→Tv
open Bool renaming true→Xb,false→Xe,and_eq_true→Xs,true_and→Wc,false_eq_true→UF,not_eq_true'→UM
open Option.some renaming injEq→Xf,inj→XT
open List renaming replicate→Xg,map_cons→Xh,mem_map→Xj,getElem?_eq_some_iff→Xk,getElem?_map→Xl,mem_of_getElem?→Xm,append_assoc→Xo,getElem?_eq_getElem→Xp,mem_cons→Xq,length_map→Xr,length_append→Xu,mem_append→Xv,getElem?_append_left→Xx,getElem?_append_right→Xz,length_cons→XA,getElem?_cons_zero→XB,getElem?_take→XC,all_eq_true→XD,mem_singleton→XE,map_nil→XF,cons_append→XJ,nil_append→XM,append_nil→XN,mem_iff_getElem?→XO,getElem?_drop→XP,getElem?_cons_succ→XQ,length_take→XU,length_nil→XW,eq_nil_of_length_eq_zero→X7,nodup_cons→Wa,map_map→Wf,getElem?_set_self→Wi,getElem?_eq_none→Wl,getElem?_set_ne→Wn,ext_getElem?→Wo,map_congr_left→Wr,map_toArray→Ws,range→Ua,getElem_mem→Uc,any_eq_true→Ud,length_drop→Ui,mem_cons_of_mem→Ul,take_of_length_le→Uo,all_cons→Uz,size_toArray→UB,mem_append_left→UG,getElem?_set→UH,take_append_drop→UR,countP_cons→UU,drop_zero→UY,length_eq_one_iff→U3,mem_cons_self→U8,mem_append_right→Td,filterMap_cons_some→Th
open Prod.mk renaming injEq→Xt
open Nat renaming le_refl→Xy,lt_or_ge→XG,zero_add→XH,le_trans→XI,lt_of_lt_of_le→XS,le_add_right→XX,mul_le_mul_right→XZ,zero_le→X5,mul_one→Wj,add_assoc→Wu,add_zero→Uh,lt_succ_self→Uj,lt_irrefl→Uv,sub_self→UE,lt_trichotomy→Tn
open Array renaming getElem?_eq_getElem→XV,getElem?_toList→Wg,toArray_toList→UA,length_toList→UD,size_setIfInBounds→U0
open Classical renaming axiomOfChoice→U7
set_option linter.unusedVariables false
set_option linter.unusedSimpArgs false
set_option linter.defProp false
namespace Go.AM
inductive Y0 (P:Program):AV→AV→Prop
 | same {x : AV} (h : x.isCell = Xb ∨ ∃ b e xs, x = .own b e xs) : Y0 P x x
 | nil {s s' : Nat} {f : Bool} : Y0 P (.slice Xb s []) (.slice f s' [])
 | imm {f : Bool} {s : Nat} {xs : List (List AV)} : Y0 P (.slice f s xs) (.slice Xe s xs)
 | immN {f : Bool} {s s' : Nat} : Y0 P (.slice f s []) (.slice Xe s' [])
 | own {e : TypeId} {xs : List (List AV)} : Y0 P (.own Xe e xs) (.slice Xe (P.cellsOf e) xs)
 | ownN {b b' : Bool} {e : TypeId} (h : e < 2097152) : Y0 P (.own b e []) (.own b' e [])
 | ownZ {b : Bool} {e : TypeId} {s : Nat} : Y0 P (.own b e []) (.slice Xe s [])
 | give {b : Bool} {s : Nat} {e : TypeId} (h : e < 2097152) : Y0 P (.slice Xb s []) (.own b e [])
theorem Zjy {w:World} {lim:Lm} {b:Bool} {e:TypeId} {xs:List (List AV)} {v:Value} (h:Rep w lim (.own b e xs) v):False:=by cases h
theorem ZbS {P:Program} {w:World} {lim:Lm} {b b':Bool} {e:TypeId} {v:Value} {ob:Option Nat} (h:Zg0 P w lim b e [] v ob):Zg0 P w lim b' e [] v ob:=by
 rcases h with ⟨us,h1,h2,h3,h4,h5,h6⟩ | h
 ·have hu:us = []:=X7 (by rw [h1.1];simp);subst hu;refine .inl ⟨[],h1,h2,fun b0 hb=>?_,h4,h5,h6⟩;have:=h3 b0 hb;rw [this];simp
 ·exact .inr h
theorem ZnL {P:Program} {w:World} {lim:Lm} {b:Bool} {e:TypeId} {v:Value} {ob:Option Nat} (h:Jv P w lim b e [] v ob):Zg0 P w lim b e [] v ob∨Zg0 P w lim Xb (bT e) [] v ob∧Zn P e=Xb:=by
 rcases h with h | h | ⟨_,⟨_,_,_,_,_,_,_,_,_,_,_,h,_⟩ | h | ⟨_,_,_,_,_,_,_,_,_,_,_,h,_⟩⟩
 ·exact .inl (.inl h)
 ·exact .inl (.inr h)
 ·obtain ⟨_,h⟩:=h;cases h
 ·exact .inr ⟨h.2.2,h.1⟩
 ·cases h
theorem Zm6 {P:Program} {w:World} {lim:Lm} {b b':Bool} {e:TypeId} {v:Value} {ob:Option Nat} (he:e < 2097152) (h:Jv P w lim b e [] v ob):Jv P w lim b' e [] v ob:=by
 rcases ZnL h with h | ⟨_,h⟩
 ·exact (ZbS h).own
 ·rw [WQ he] at h;cases h
theorem ZtP {P:Program} {w:World} {lim:Lm} {b:Bool} {e:TypeId} {s:Nat} {v:Value} {ob:Option Nat} (h:Jv P w lim b e [] v ob):Rep w lim (.slice Xe s []) v:=by
 rcases ZnL h with h | ⟨h,_⟩
 ·exact VT (f:=Xe) (fun h=>h) (Jv.rep (ZbS (b':=Xe) h).own Xe rfl)
 ·exact VT (f:=Xe) (fun h=>h) (Jv.rep (ZbS (b':=Xe) h).own Xe rfl)
theorem Zp6 {P:Program} {w:World} {lim:Lm} {x y:AV} {v:Value} (h:Rep w lim x v) (hw:Y0 P x y) (hy:y.isCell=Xb):Rep w lim y v:=by
 cases hw with
 | same _ => exact h
 | nil => exact VT (fun _ => rfl) h
 | imm => exact ZgU h
 | immN => exact VT (fun h => by cases h) h
 | own => exact (Zjy h).elim
 | ownN _ => exact (Zjy h).elim
 | ownZ => exact (Zjy h).elim
 | give _ => cases hy
theorem Zm0 {P:Program} {w:World} {lim:Lm} {ob:Option Nat} {x y:AV} {v:Value} (h:Yq P w lim ob x v) (hw:Y0 P x y):∃ ob',(ob'=ob∨ob'=Xc)∧((∃ b e xs,x = .own b e xs)→ob'=ob)∧Yq P w lim ob' y v:=by
 cases hw with
 | same _ => exact ⟨ob, .inl rfl, fun _ => rfl, h⟩
 | nil => exact ⟨ob, .inl rfl, fun _ => rfl, VT (fun _ => rfl) h⟩
 | imm => exact ⟨ob, .inl rfl, fun _ => rfl, ZgU h⟩
 | immN => exact ⟨ob, .inl rfl, fun _ => rfl, VT (fun h => by cases h) h⟩
 | own => exact ⟨ob, .inl rfl, fun _ => rfl, Jv.rep h Xe rfl⟩
 | ownN he => exact ⟨ob, .inl rfl, fun _ => rfl, Zm6 he h⟩
 | ownZ => exact ⟨ob, .inl rfl, fun _ => rfl, ZtP h⟩
 | give _ => exact ⟨Xc, .inr rfl, fun ⟨_, _, _, h⟩ => (by cases h), ZbC h⟩
inductive ZcI (P:Program):AV→AV→Prop
 | cell {x y : AV} (h : Y0 P x y) : ZcI P x y
 | agg {cs cs' : List AV} (hl : cs.length = cs'.length) (hc : ∀ c ∈ cs', c.isCell = Xb) (h : ∀ (i : Nat) (c c' : AV), cs[i]? = Xa c → cs'[i]? = Xa c' → Y0 P c c') : ZcI P (.agg cs) (.agg cs')
theorem Ztj {w:World} {lim:Lm} {cs:List AV} {v:Value} (h:Rep w lim (.agg cs) v):∃ vs:List Value,v = .agg vs.toArray∧cs.length=vs.length∧
  ∀ (i:Nat) (c:AV) (v:Value),cs[i]? = Xa c→vs[i]? = Xa v→Rep w lim c v:=by
 cases h with
 | agg hl hc hr => exact ⟨_, rfl, hl, hr⟩
theorem Zid {P:Program} {w:World} {lim:Lm} {ob:Option Nat} {x y:AV} {v:Value} (h:Yq P w lim ob x v) (hw:ZcI P x y):∃ ob',(ob'=ob∨ob'=Xc)∧((∃ b e xs,x = .own b e xs)→ob'=ob)∧Yq P w lim ob' y v:=by
 cases hw with
 | cell hw => exact Zm0 h hw
 | @agg cs cs' hl hc hp =>
  refine ⟨ob,.inl rfl,fun _=>rfl,?_⟩;obtain ⟨vs,rfl,h1,h2⟩:=Ztj (show Rep w lim (.agg cs) v from h);refine Rep.agg (by omega) hc fun i c' u hc' hu=>?_;obtain ⟨c,hcc⟩:∃ c,cs[i]? = Xa c:=⟨_,Xp (by rw [hl];exact (Xk.1 hc').1)⟩;exact Zp6 (h2 i c u hcc hu) (hp i c c' hcc hc') (hc c' (Xm hc'))
theorem Zb2 {P:Program} {w:World} {lim:Lm} {cs cs':List AV} {us:List Value} {Y:Nat→Option Nat} (hl:cs.length=cs'.length) (h:∀ (i:Nat) (c:AV) (u:Value),cs[i]? = Xa c→us[i]? = Xa u→Yq P w lim (Y i) c u)
  (hw:∀ (i:Nat) (c c':AV),cs[i]? = Xa c→cs'[i]? = Xa c'→ZcI P c c') :
  ∃ r:Nat→Option Nat,(∀ i,r i=Y i∨r i=Xc)∧(∀ (i:Nat) (c':AV),i < us.length→cs'[i]? = Xa c'→(∃ b e xs,cs[i]? = Xa (.own b e xs))→r i=Y i)∧∀ (i:Nat) (c':AV) (u:Value),cs'[i]? = Xa c'→us[i]? = Xa u→Yq P w lim (r i) c' u:=by
 have key:∀ i,∃ ob:Option Nat,(ob=Y i∨ob=Xc)∧(∀ (c':AV),i < us.length→cs'[i]? = Xa c'→(∃ b e xs,cs[i]? = Xa (.own b e xs))→ob=Y i)∧∀ (c':AV) (u:Value),cs'[i]? = Xa c'→us[i]? = Xa u→Yq P w lim ob c' u:=by
  intro i
  cases hc':cs'[i]? with
  | none => exact ⟨Xc, .inr rfl, fun c' _ h => (by cases h), fun c' u h => by cases h⟩
  | some c' =>
   cases hu:us[i]? with
   | none => exact ⟨Xc, .inr rfl, fun c' hlt _ => (by have := List.getElem?_eq_none_iff.1 hu; omega), fun c' u _ h => by cases h⟩
   | some u =>
    obtain ⟨c,hc⟩:∃ c,cs[i]? = Xa c:=⟨_,Xp (by rw [hl];exact (Xk.1 hc').1)⟩;obtain ⟨ob,h1,h3,h2⟩:=Zid (h i c u hc hu) (hw i c c' hc hc');refine ⟨ob,h1,fun _ _ _ ⟨b,e,xs,hx⟩=>h3 ⟨b,e,xs,by rw [hc] at hx;exact XT hx⟩,fun c2 u2 e1 e2=>?_⟩
    cases e1
    cases e2
    exact h2
 obtain ⟨r,hr⟩:=U7 key;exact ⟨r,fun i=>(hr i).1,fun i=>(hr i).2.1,fun i=>(hr i).2.2⟩
inductive YO (P:Program):AV→AV→Prop
 | dead {x : AV} : YO P x .dead
 | comp {x y : AV} (h : ZcI P x y) : YO P x y
 | tuple {cs cs' : List AV} (hl : cs.length = cs'.length) (h : ∀ (i : Nat) (c c' : AV), cs[i]? = Xa c → cs'[i]? = Xa c' → ZcI P c c') : YO P (.tuple cs) (.tuple cs')
 | box {cs cs' : List AV} (hl : cs.length = cs'.length) (h : ∀ (i : Nat) (c c' : AV), cs[i]? = Xa c → cs'[i]? = Xa c' → Y0 P c c') : YO P (.box cs) (.box cs')
 | gbox {cs cs' : List AV} (hl : cs.length = cs'.length) (h : ∀ (i : Nat) (c c' : AV), cs[i]? = Xa c → cs'[i]? = Xa c' → Y0 P c c') : YO P (.gbox cs) (.gbox cs')
 | aggo {cs cs' : List AV} (hl : cs.length = cs'.length) (h : ∀ (i : Nat) (c c' : AV), cs[i]? = Xa c → cs'[i]? = Xa c' → Y0 P c c') : YO P (.aggo cs) (.aggo cs')
 | store {rows : List (List AV)} : YO P (.store rows) (.store rows)
theorem Y5 {P:Program} {x y:AV} (h:Y0 P x y):y.isCell=Xb∨∃ b e xs,y = .own b e xs:=by
 cases h with
 | same h => exact h
 | nil => exact .inl rfl
 | imm => exact .inl rfl
 | immN => exact .inl rfl
 | own => exact .inl rfl
 | ownN _ => exact .inr ⟨_, _, _, rfl⟩
 | ownZ => exact .inl rfl
 | give _ => exact .inr ⟨_, _, _, rfl⟩
theorem ZbR {P:Program} {x y:AV} (h:Y0 P x y):x.isCell=Xb∨∃ b e xs,x = .own b e xs:=by
 cases h with
 | same h => exact h
 | nil => exact .inl rfl
 | imm => exact .inl rfl
 | immN => exact .inl rfl
 | own => exact .inr ⟨_, _, _, rfl⟩
 | ownN _ => exact .inr ⟨_, _, _, rfl⟩
 | ownZ => exact .inr ⟨_, _, _, rfl⟩
 | give _ => exact .inl rfl
theorem Zeg {P:Program} {e e':TypeId} {xs xs':List (List AV)} (h:Y0 P (.own Xb e xs) (.own Xb e' xs')):e'=e∧xs'=xs:=by
 cases h with
 | same _ => exact ⟨rfl, rfl⟩
 | ownN _ => exact ⟨rfl, rfl⟩
theorem Ze0 {P:Program} {x:AV} {e:TypeId} {xs:List (List AV)} (h:Y0 P x (.own Xb e xs)) (hd:Zn P e=Xb):x = .own Xb e xs:=by
 cases h with
 | same _ => rfl
 | ownN he => rw [WQ he] at hd; cases hd
 | give he => rw [WQ he] at hd; cases hd
theorem ZmF {P:Program} {x:AV} {e:TypeId} {xs:List (List AV)} (h:ZcI P x (.own Xb e xs)) (hd:Zn P e=Xb):x = .own Xb e xs:=by
 cases h with
 | cell h => exact Ze0 h hd
theorem Zaj {P:Program} {cs cs':List AV} (hl:cs.length=cs'.length) (h:∀ (i:Nat) (c c':AV),cs[i]? = Xa c→cs'[i]? = Xa c'→ZcI P c c') {k:Nat} {e:TypeId} {xs:List (List AV)}
  (hy:(match cs'[k]? with | some (.own Xb e xs)=>Xa (e,xs) | _=>Xc)=Xa (e,xs)) (hd:Zn P e=Xb):(match cs[k]? with | some (.own Xb e xs)=>Xa (e,xs) | _=>Xc)=Xa (e,xs):=by
 split at hy
 ·rename_i e' xs' hk;simp only [Xf,Xt] at hy;obtain ⟨rfl,rfl⟩:=hy;obtain ⟨c,hc⟩:∃ c,cs[k]? = Xa c:=⟨_,Xp (by rw [hl];exact (Xk.1 hk).1)⟩;have:=ZmF (h k c _ hc hk) hd;subst this;rw [hc]
 ·cases hy
theorem Zfv {P:Program} {x y:AV} (h:YO P x y) {k:Nat} {e:TypeId} {xs:List (List AV)} (hy:Jg y k=Xa (e,xs)) (hd:Zn P e=Xb):Jg x k=Xa (e,xs):=by
 cases h with
 | dead => cases k <;> first | cases hy | exact (Jb hy rfl).elim
 | comp h =>
  cases h with
  | agg _ _ _ => cases k <;> first | cases hy | exact (Jb hy rfl).elim
  | cell h =>
   rcases Y5 h with hc | ⟨b,e',xs',rfl⟩
   ·cases y<;>simp [AV.isCell] at hc<;>(cases k<;>first | cases hy | exact (Jb hy rfl).elim)
   ·cases b with
    | false => cases k <;> first | cases hy | exact (Jb hy rfl).elim
    | true =>
     cases k with
     | zero =>
      simp only [Jg,Xf,Xt] at hy;obtain ⟨rfl,rfl⟩:=hy;rw [Ze0 h hd];rfl
     | succ k => cases hy
 | tuple hl h => cases k with | zero => cases hy | succ k => exact Zaj hl h hy hd
 | box hl h => cases k with | zero => cases hy | succ k => exact Zaj hl (fun i c c' h1 h2 => .cell (h i c c' h1 h2)) hy hd
 | gbox hl h => cases k with | zero => cases hy | succ k => exact Zaj hl (fun i c c' h1 h2 => .cell (h i c c' h1 h2)) hy hd
 | aggo hl h => cases k with | zero => cases hy | succ k => exact Zaj hl (fun i c c' h1 h2 => .cell (h i c c' h1 h2)) hy hd
 | store => exact hy
theorem Zfn {P:Program} {w:World} {lim:Lm} {Y:Nat→Option Nat} {cs cs':List AV} {v:Value} (h:Z0 P w lim Y cs v) (hl:cs.length=cs'.length)
  (hp:∀ (i:Nat) (c c':AV),cs[i]? = Xa c→cs'[i]? = Xa c'→Y0 P c c'):∃ r:Nat→Option Nat,(∀ k,r k=Y k∨r k=Xc)∧r 0=Y 0∧(∀ k,(∃ p,Zy (.box cs) k=Xa p)→r k=Y k)∧Z0 P w lim r cs' v:=by
 obtain ⟨b,arr,t,h1,rfl,h3,h4,h5,h6,h7⟩:=h;obtain ⟨r,g1,g3,g2⟩:=Zb2 (P:=P) (w:=w) (lim:=lim) (us:=arr.toList) (Y:=fun i=>Y (i+1)) hl (fun i c u hc hu=>h7 i c u hc (by simpa using hu)) (fun i c c' hc hc'=>.cell (hp i c c' hc hc'));refine ⟨fun k=>match k with | 0=>Y 0 | k+1=>r k,fun k=>?_,rfl,fun k hk=>?_,?_⟩
 ·cases k with
  | zero => exact .inl rfl
  | succ k => exact g1 k
 ·obtain ⟨⟨e,xs⟩,hk⟩:=hk;rcases ZK hk with ⟨h,_⟩ | ⟨ds,q,hd,rfl,hq⟩ | ⟨_,_,h,_⟩
  case inr.inr=>cases h
  ·cases h
  ·cases hd
   have hlt:=(Xk.1 hq).1;exact g3 q _ (by simp;omega) (Xp (by rw [← hl];exact hlt)) ⟨_,_,_,hq⟩
 ·refine ⟨b,arr,t,h1,rfl,h3,by rw [h4,hl],h5,fun c hc=>?_,fun i c u hc hu=>g2 i c u hc (by simpa using hu)⟩;obtain ⟨i,hi⟩:=XO.1 hc;obtain ⟨c0,hc0⟩:∃ c0,cs[i]? = Xa c0:=⟨_,Xp (by rw [hl];exact (Xk.1 hi).1)⟩;exact (Y5 (hp i c0 c hc0 hi)).imp id .inl
theorem Yv {P:Program} {x y:AV} (h:ZcI P x y):y.isB=Xe:=by
 cases h with
 | agg _ _ _ => rfl
 | cell h =>
  rcases Y5 h with hy | ⟨_,_,_,rfl⟩
  ·cases y<;>first | rfl | (simp [AV.isCell] at hy)
  ·rfl
theorem Zoq {x:AV} (h:x.isSto=Xb):x.isB=Xb:=by cases x<;>first | rfl | cases h
theorem Zhj {P:Program} {x y:AV} (h:YO P x y) (hy:y.isSto=Xb):x.isSto=Xb:=by
 cases h with
 | store => rfl
 | comp h => have := Yv h; rw [Zoq hy] at this; cases this
 | _ => cases hy
theorem ZoB {P:Program} {x y:AV} (h:YO P x y) (hy:y.isG=Xb):x.isG=Xb:=by
 cases h with
 | store => rfl
 | gbox _ _ => rfl
 | comp h => have := Yv h; rw [Zb7 hy] at this; cases this
 | _ => cases hy
theorem Zq3 {P:Program} {x y:AV} (h:ZcI P x y):(∀ d o,y≠.ptr d o)∧(∀ d k,y≠.mref d k)∧(∀ g ds,y≠.clo g ds)∧∀ d k o,y≠.eref d k o:=by
 cases h with
 | agg _ _ _ => exact ⟨fun _ _ h => (by cases h), fun _ _ h => (by cases h), fun _ _ h => (by cases h), fun _ _ _ h => (by cases h)⟩
 | cell hw =>
  refine ⟨fun _ _ e=>?_,fun _ _ e=>?_,fun _ _ e=>?_,fun _ _ _ e=>?_⟩ <;> subst e<;>rcases Y5 hw with h | ⟨_,_,_,h⟩ <;> cases h
theorem Zah {P:Program} {x y:AV} (h:YO P x y):(∀ d o,y≠.ptr d o)∧(∀ d k,y≠.mref d k)∧(∀ g ds,y≠.clo g ds)∧∀ d k o,y≠.eref d k o:=by
 cases h with
 | comp hw => exact Zq3 hw
 | _ => exact ⟨fun _ _ h => (by cases h), fun _ _ h => (by cases h), fun _ _ h => (by cases h), fun _ _ _ h => (by cases h)⟩
theorem Zd2 {P:Program} {x y:AV} (h:YO P x y) {k:Nat} {e e':TypeId} {xs xs':List (List AV)} (hx:Zy x k=Xa (e,xs)) (hy:Zy y k=Xa (e',xs')):e'=e∧xs'=xs:=by
 rcases ZK hx with ⟨rfl,rfl⟩ | ⟨cs,q,rfl,rfl,hq⟩ | ⟨cs,q,rfl,rfl,hq⟩
 ·rcases ZK hy with ⟨rfl,_⟩ | ⟨_,_,_,h0,_⟩ | ⟨_,_,_,h0,_⟩
  ·cases h with
   | comp hw =>
    cases hw with
    | cell hc => exact Zeg hc
  ·cases h0
  ·cases h0
 ·rcases ZK hy with ⟨_,h0⟩ | ⟨cs',q',rfl,h0,hq'⟩ | ⟨cs',q',rfl,h0,hq'⟩
  ·cases h0
  ·cases h0
   cases h with
   | comp hw => have := Yv hw; cases this
   | box hl hp => exact Zeg (hp q _ _ hq hq')
  ·cases h with
   | comp hw => have := Yv hw; cases this
 ·rcases ZK hy with ⟨_,h0⟩ | ⟨cs',q',rfl,h0,hq'⟩ | ⟨cs',q',rfl,h0,hq'⟩
  ·cases h0
  ·cases h with
   | comp hw => have := Yv hw; cases this
  ·cases h0
   cases h with
   | comp hw => have := Yv hw; cases this
   | gbox hl hp => exact Zeg (hp q _ _ hq hq')
theorem Zh5 {P:Program} {w:World} {lim:Lm} {X:Nat→Nat→Option Nat} {σ:Nat→AV} {d:Nat} {x y:AV} {v:Value} (h:ZS P w lim X σ d x v) (hw:YO P x y) :
  ∃ r:Nat→Option Nat,(∀ k,r k=X d k∨r k=Xc)∧(y.isB=Xb→r 0=X d 0)∧(∀ k,(∃ p,Zy x k=Xa p)→(∃ p,Zy y k=Xa p)→r k=X d k)∧∀ (X':Nat→Nat→Option Nat) (σ':Nat→AV) (d':Nat),X' d'=r→ZS P w lim X' σ' d' y v:=by
 cases hw with
 | dead => exact ⟨fun _ => Xc, fun _ => .inr rfl, fun h => (by cases h), fun k _ ⟨p, hp⟩ => (by rcases ZK (e := p.1) (xs := p.2) hp with ⟨h, _⟩ | ⟨_, _, h, _⟩ | ⟨_, _, h, _⟩ <;> cases h), fun _ _ _ _ => trivial⟩
 | comp hw =>
  have hnb:=Yv hw
  have hc:Yq P w lim (X d 0) x v:=by
   cases hw with
   | agg hl hc hp => exact h
   | cell hw =>
    rcases ZbR hw with hx | ⟨b,e,xs,rfl⟩
    ·cases x<;>simp [AV.isCell] at hx<;>exact h
    ·exact h
  obtain ⟨ob,h1,h4,h2⟩:=Zid hc hw;refine ⟨fun k=>if k=0 then ob else Xc,fun k=>?_,fun h=>by (rw [hnb] at h;cases h),fun k ⟨p,hp⟩ _=>?_,fun X' σ' d' hX=>?_⟩
  ·dsimp only;split
   ·rename_i hk;subst hk;exact h1
   ·exact .inr rfl
  ·rcases ZK (e:=p.1) (xs:=p.2) hp with ⟨hx,rfl⟩ | ⟨cs,q,hx,_⟩ | ⟨cs,q,hx,_⟩
   case inr.inr=>
    subst hx
    cases hw with
    | cell hw => rcases ZbR hw with h | ⟨_, _, _, h⟩ <;> cases h
   ·exact h4 ⟨_,_,_,hx⟩
   ·subst hx
    cases hw with
    | cell hw => rcases ZbR hw with h | ⟨_, _, _, h⟩ <;> cases h
  ·have h3:X' d' 0=ob:=by rw [hX];rfl
   cases hw with
   | agg hl hc hp => exact h2
   | cell hw =>
    rcases Y5 hw with hy | ⟨b,e,xs,rfl⟩
    ·cases y<;>simp [AV.isCell] at hy<;>exact h2
    ·show Jv P w lim b e xs v (X' d' 0);rw [h3];exact h2
 | @tuple cs cs' hl hp =>
  obtain ⟨us,rfl,h2,h3⟩:=h;obtain ⟨r,g1,_,g2⟩:=Zb2 (Y:=fun i=>X d (i+1)) hl h3 hp;refine ⟨fun k=>match k with | 0=>Xc | k+1=>r k,fun k=>?_,fun h=>(by cases h),fun k ⟨p,hp⟩ _=>(by rcases ZK (e:=p.1) (xs:=p.2) hp with ⟨h,_⟩ | ⟨_,_,h,_⟩ | ⟨_,_,h,_⟩ <;> cases h),fun X' σ' d' hX=>?_⟩
  ·cases k with
   | zero => exact .inr rfl
   | succ k => exact g1 k
  ·refine ⟨us,rfl,by rw [h2,hl],fun i c u hc hu=>?_⟩;have:X' d' (i+1)=r i:=by rw [hX]
   rw [this];exact g2 i c u hc hu
 | @box cs cs' hl hp =>
  obtain ⟨r,g1,g2,g4,g3⟩:=Zfn h hl hp;exact ⟨r,g1,fun _=>g2,fun k hk _=>g4 k hk,fun X' σ' d' hX=>by (show Z0 P w lim (X' d') cs' v;rw [hX];exact g3)⟩
 | store => exact ⟨X d, fun _ => .inl rfl, fun _ => rfl, fun _ _ _ => rfl, fun X' σ' d' hX => by (show JC P w lim (X' d') _; rw [hX]; exact h)⟩
 | @gbox cs cs' hl hp =>
  obtain ⟨v',h⟩:=h;obtain ⟨r,g1,g2,g4,g3⟩:=Zfn h hl hp;exact ⟨r,g1,fun _=>g2,fun k hk _=>g4 k (by cases k<;>exact hk),fun X' σ' d' hX=>⟨v',by rw [hX];exact g3⟩⟩
 | @aggo cs cs' hl hp =>
  obtain ⟨us,rfl,h2,h4,h3⟩:=h;obtain ⟨r,g1,_,g2⟩:=Zb2 (Y:=fun i=>X d (i+1)) hl h3 (fun i c c' h1 h2=>.cell (hp i c c' h1 h2));refine ⟨fun k=>match k with | 0=>Xc | k+1=>r k,fun k=>?_,fun h=>(by cases h),fun k ⟨p,hp⟩ _=>(by rcases ZK (e:=p.1) (xs:=p.2) hp with ⟨h,_⟩ | ⟨_,_,h,_⟩ | ⟨_,_,h,_⟩ <;> cases h),fun X' σ' d' hX=>?_⟩
  ·cases k with
   | zero => exact .inr rfl
   | succ k => exact g1 k
  ·refine ⟨us,rfl,by rw [h2,hl],⟨fun c hc=>?_,h4.2⟩,fun i c u hc hu=>?_⟩
   ·obtain ⟨i,hi⟩:=XO.1 hc;obtain ⟨c0,hc0⟩:∃ c0,cs[i]? = Xa c0:=⟨_,Xp (by rw [hl];exact (Xk.1 hi).1)⟩;exact (Y5 (hp i c0 c hc0 hi)).imp id .inl
   ·have:X' d' (i+1)=r i:=by rw [hX]
    rw [this];exact g2 i c u hc hu
theorem Jh.wider {w:World} {lim:Lm} {w':World} {lim':Lm} {S S':Nat→Prop} (h:Jh w lim w' lim' S) (hs:∀ b,S b→S' b):Jh w lim w' lim' S':=
 ⟨h.os,h.tape,h.output,h.size,h.frz,fun b hb hn=>h.blk b hb fun hS=>hn (hs b hS),h.ext,h.t⟩
def Zw7 (bs:List AV) (a b:AV):Prop:=∃ g ds,a = .clo g ds∧b = .clo g ds∧∀ d∈ds,(ZB bs d).isB=Xb
def Zux (bs:List AV) (a b:AV):Prop:=∃ j q,a = .mref j q∧b = .mref j q∧∃ p,Zy (ZB bs j) q=Xa p
def Vr (P:Program) (aZ bs:List AV):Prop:=aZ.length=bs.length∧∀ (i:Nat) (a b:AV),aZ[i]? = Xa a→bs[i]? = Xa b→YO P a b∨Zw7 bs a b∨Zux bs a b
theorem WJ {P:Program} {aZ bs:List AV} (h:Vr P aZ bs) (i:Nat):YO P (ZB aZ i) (ZB bs i)∨Zw7 bs (ZB aZ i) (ZB bs i)∨Zux bs (ZB aZ i) (ZB bs i):=by
 cases hb:bs[i]? with
 | none =>
  have:ZB bs i = .dead:=by simp [ZB,hb]
  rw [this];exact .inl .dead
 | some b =>
  obtain ⟨a,ha⟩:∃ a,aZ[i]? = Xa a:=⟨_,Xp (by rw [h.1];exact (Xk.1 hb).1)⟩;have h1:ZB aZ i=a:=by simp [ZB,ha]
  have h2:ZB bs i=b:=by simp [ZB,hb]
  rw [h1,h2];exact h.2 i a b ha hb
theorem ZgP {P:Program} {aZ bs:List AV} (h:Vr P aZ bs) {i:Nat} (hi:(ZB bs i).isG=Xb):(ZB aZ i).isG=Xb:=by
 rcases WJ h i with h1 | ⟨g,ds,_,h1,_⟩ | ⟨_,_,_,h1,_⟩
 ·exact ZoB h1 hi
 ·rw [h1] at hi;cases hi
 ·rw [h1] at hi;cases hi
theorem Zh1:∀ (aZ bs:List AV),aZ.length=bs.length→(∀ (i:Nat) (a b:AV),aZ[i]? = Xa a→bs[i]? = Xa b→b.isG=Xb→a.isG=Xb)→bs.countP AV.isG≤aZ.countP AV.isG
 | [], [], _, _ => Xy _
 | [], _ :: _, h, _ => by simp at h
 | _ :: _, [], h, _ => by simp at h
 | a :: aZ, b :: bs, hl, h => by
  have ih:=Zh1 aZ bs (by simpa using hl) fun i x y hx hy=>h (i+1) x y (by simpa using hx) (by simpa using hy);have h0:=h 0 a b rfl rfl;rw [UU,UU];by_cases hb:b.isG=Xb
  ·rw [if_pos hb,if_pos (h0 hb)];omega
  ·rw [if_neg hb];split<;>omega
theorem Zhu {P:Program} {aZ bs:List AV} (h:Vr P aZ bs):bs.countP AV.isG≤aZ.countP AV.isG:=
 Zh1 aZ bs h.1 fun i a b ha hb hg=>by
  have h1:ZB aZ i=a:=by simp [ZB,ha]
  have h2:ZB bs i=b:=by simp [ZB,hb]
  have:=ZgP h (i:=i) (by rw [h2];exact hg)
  rwa [h1] at this
theorem ZfD {P:Program} {w:World} {lim:Lm} {X:Nat→Nat→Option Nat} {aZ bs:List AV} {vs:Nat→Value} (h:∀ i,ZS P w lim X (ZB aZ) i (ZB aZ i) (vs i)) (hw:Vr P aZ bs) :
  ∃ X':Nat→Nat→Option Nat,(∀ i k,X' i k=X i k∨X' i k=Xc)∧(∀ i,(ZB bs i).isB=Xb→X' i 0=X i 0)∧(∀ i,ZS P w lim X' (ZB bs) i (ZB bs i) (vs i))∧∀ i,aZ.length≤i→X' i=X i:=by
 have key:∀ i,∃ r:Nat→Option Nat,(aZ.length≤i→r=X i)∧(∀ k,r k=X i k∨r k=Xc)∧((ZB bs i).isB=Xb→r 0=X i 0)∧((∀ g ds,ZB bs i≠.clo g ds)→(∀ j q,ZB bs i≠.mref j q)→∀ X':Nat→Nat→Option Nat,X' i=r→ZS P w lim X' (ZB bs) i (ZB bs i) (vs i))∧
   ∀ k e xs e' xs',Zy (ZB aZ i) k=Xa (e,xs)→Zy (ZB bs i) k=Xa (e',xs')→e'=e∧xs'=xs∧r k=X i k:=by
  intro i;by_cases hli:aZ.length≤i
  ·have hdb:ZB bs i = .dead:=by
    have:bs[i]? = Xc:=Wl (by rw [← hw.1];exact hli);simp [ZB,this]
   exact ⟨X i,fun _=>rfl,fun _=>.inl rfl,fun _=>rfl,fun _ _ X' _=>by rw [hdb];trivial,fun k e xs e' xs' _ hy=>by (rw [hdb] at hy;cases hy)⟩
  rcases WJ hw i with h1 | ⟨g,ds,_,h1,_⟩ | ⟨_,_,_,h1,_⟩
  ·obtain ⟨r,g1,g2,g4,g3⟩:=Zh5 (h i) h1;refine ⟨r,fun h=>(hli h).elim,g1,g2,fun _ _ X' hX=>g3 X' _ _ hX,fun k e xs e' xs' hx hy=>?_⟩;obtain ⟨h2,h3⟩:=Zd2 h1 hx hy;exact ⟨h2,h3,g4 k ⟨_,hx⟩ ⟨_,hy⟩⟩
  ·exact ⟨fun _=>Xc,fun h=>(hli h).elim,fun _=>.inr rfl,fun hb=>by (rw [h1] at hb;cases hb),fun hn _=>(hn g ds h1).elim,fun k e xs e' xs' _ hy=>by (rw [h1] at hy;cases hy)⟩
  ·exact ⟨fun _=>Xc,fun h=>(hli h).elim,fun _=>.inr rfl,fun hb=>by (rw [h1] at hb;cases hb),fun _ hn=>(hn _ _ h1).elim,fun k e xs e' xs' _ hy=>by (rw [h1] at hy;cases hy)⟩
 obtain ⟨X',hX⟩:=U7 key;refine ⟨X',fun i=>(hX i).2.1,fun i=>(hX i).2.2.1,fun i=>?_,fun i=>(hX i).1⟩;rcases WJ hw i with h1 | ⟨g',ds',h0,h1,h2⟩ | ⟨j,q,h0,h1,p,h2⟩
 ·exact (hX i).2.2.2.1 (fun g ds e=>(Zah h1).2.2.1 g ds e) (fun j q e=>(Zah h1).2.1 j q e) X' rfl
 ·have hi:=h i;rw [h0] at hi;rw [h1];obtain ⟨bs',m1,m2,m3⟩:=hi;refine ⟨bs',m1,m2,fun k d b hd hb=>?_⟩;have hB:=h2 d (Xm hd);exact ⟨((hX d).2.2.1 hB).trans (m3 k d b hd hb).1,hB⟩
 ·have hi:=h i;rw [h0] at hi;rw [h1];obtain ⟨e,xs,m1,m2⟩:=hi;obtain ⟨e',xs'⟩:=p;obtain ⟨n1,n2,n3⟩:=(hX j).2.2.2.2 q e xs e' xs' m1 h2;subst n1;subst n2;exact ⟨e',xs',h2,by rw [n3];exact m2⟩
theorem K7.wider {w:World} {lim:Lm} {w':World} {lim':Lm} {S S':Nat→Prop} {st st':Bool} (h:K7 w lim w' lim' S st) (hs:∀ b,S b→S' b) (ht:st'=Xe→st=Xe):K7 w lim w' lim' S' st':=
 ⟨h.os,h.tape,h.output,h.size,h.frz,fun b hb hn=>h.blk b hb fun hS=>hn (hs b hS),h.ext,fun h'=>h.t (ht h')⟩
theorem ZmG {P:Program} {aZ bs:List AV} (ha:Vr P aZ bs) (h:aZ.any AV.isSto=Xe):bs.any AV.isSto=Xe:=by
 rw [List.any_eq_false] at h ⊢;intro y hy;obtain ⟨i,hi⟩:=XO.1 hy;have hb:ZB bs i=y:=by simp [ZB,hi]
 intro hs
 have hx:(ZB aZ i).isSto=Xb:=by
  rcases WJ ha i with h2 | h2 | h2
  ·rw [hb] at h2;exact Zhj h2 hs
  ·obtain ⟨_,_,_,h3,_⟩:=h2;rw [hb] at h3;rw [h3] at hs;cases hs
  ·rw [hb] at h2;obtain ⟨_,_,_,h3,_⟩:=h2;rw [h3] at hs;cases hs
 unfold ZB at hx
 cases hai:aZ[i]? with
 | none => rw [hai] at hx; cases hx
 | some x => rw [hai] at hx; exact h x (Xm hai) hx
theorem Zia {X X':Nat→Nat→Option Nat} (h:ZmH X) (hX:∀ i k,X' i k=X i k∨X' i k=Xc):ZmH X':=by
 intro d k d' k' b h1 h2;rcases hX d k with e1 | e1
 ·rcases hX d' k' with e2 | e2
  ·exact h d k d' k' b (e1.symm.trans h1) (e2.symm.trans h2)
  ·rw [e2] at h2;cases h2
 ·rw [e1] at h1;cases h1
theorem Zee {P:Program} {aZ bs:List AV} (h:Vr P aZ bs) {i k:Nat} {e:TypeId} {xs:List (List AV)} (hy:Jg (ZB bs i) k=Xa (e,xs)) (hd:Zn P e=Xb):Jg (ZB aZ i) k=Xa (e,xs):=by
 rcases WJ h i with h1 | ⟨g,ds,_,h1,_⟩ | ⟨_,_,_,h1,_⟩
 ·exact Zfv h1 hy hd
 ·rw [h1] at hy;cases k<;>first | cases hy | exact (Jb hy rfl).elim
 ·rw [h1] at hy;cases k<;>first | cases hy | exact (Jb hy rfl).elim
theorem ZhW {aZ:List AV} {x:AV} {i:Nat} (h:i < aZ.length):ZB (aZ++[x]) i=ZB aZ i:=by
 simp only [ZB];rw [Xx h]
theorem ZhZ {aZ:List AV} {x:AV} : ZB (aZ++[x]) aZ.length=x:=by simp [ZB]
theorem Zjj {P:Program} {res res':AV} {outs outs':List AV} (ho:Vr P (outs++[res]) (outs'++[res'])) (h:VS P outs):VS P outs':=by
 have hll:outs.length=outs'.length:=by have:=ho.1;simpa using this
 intro i k e xs hi
 cases hd:Zn P e with
 | false => rfl
 | true =>
  have hlt:i < outs'.length:=by
   rcases XG i outs'.length with hlt | hge
   ·exact hlt
   ·have:outs'[i]? = Xc:=Wl hge;simp only [ZB,this,Option.getD_none] at hi
    cases k<;>first | cases hi | exact (Jb hi rfl).elim
  rw [← ZhW (x:=res') hlt] at hi;have h1:=Zee ho hi hd;rw [ZhW (by omega)] at h1;rw [h i k e xs h1] at hd;exact hd.symm
theorem JN.stronger {P:Program} {f:FuncId} {aZ bs:List AV} {res:AV} {outs:List AV} (h:JN P f bs res outs) (ha:Vr P aZ bs):JN P f aZ res outs:=by
 refine ⟨h.1,by rw [ha.1];exact h.2.1,fun w lim X cargs hcl hrel hdist hsize hfar=>?_⟩;obtain ⟨X2,g1,g3,g2,g4⟩:=ZfD hrel ha
 have hX2:∀ i k b,X2 i k=Xa b→X i k=Xa b:=by
  intro i k b hb;rcases g1 i k with e | e
  ·rw [← e];exact hb
  ·rw [e] at hb;cases hb
 refine (h.2.2 w lim X2 cargs (by have:=Zhu ha;have:=ha.1;omega) g2 (Zia hdist g1) (fun i k b hb=>hsize i k b (hX2 i k b hb)) fun i hi k=>by rw [g4 i (by rw [ha.1];exact hi)];exact hfar i (by rw [ha.1];exact hi) k).mono ?_;rintro e w' ⟨v,lim',X',he,hst,hol,hr,hd,hin,hgh,hnl,hnr⟩;refine ⟨v,lim',X',he,hst.wider (fun b ⟨i,k,hb⟩=>⟨i,k,hX2 i k b hb⟩) (ZmG ha),by rw [hol,ha.1],fun i=>by (rw [ha.1];exact hr i),hd,fun i k b hb=>?_,fun i hi=>?_,hnl,by rw [ha.1];exact hnr⟩
 ·obtain ⟨m1,m2⟩:=hin i k b hb;exact ⟨m1,m2.imp (fun ⟨i,k,h⟩=>⟨i,k,hX2 i k b h⟩) id⟩
 ·obtain ⟨m1,m2⟩:=hgh i hi;exact ⟨ZgP ha m1,by rw [m2,g3 i (Zb7 m1)]⟩
def ZlG (ρ:Nat→V) (n:Nat) (l:List V):Prop:=∀ (j:Nat) (v:V),l[j]? = Xa v→ρ (n+j)=v
theorem ZlG.tail {ρ:Nat→V} {n:Nat} {v:V} {l:List V} (h:ZlG ρ n (v::l)):ρ n=v∧ZlG ρ (n+1) l:=
 ⟨h 0 v rfl,fun j u hj=>by rw [show n+1+j=n+(j+1) by omega];exact h (j+1) u (by simpa using hj)⟩
theorem ZlG.app {ρ:Nat→V} {n:Nat} {l l':List V} (h:ZlG ρ n (l++l')):ZlG ρ n l∧ZlG ρ (n+l.length) l':=
  ⟨fun j v hj=>h j v (by rw [Xx (Xk.1 hj).1];exact hj),
   fun j v hj=>by
    rw [show n+l.length+j=n+(l.length+j) by omega];exact h _ v (by rw [Xz (by omega)];simpa using hj)⟩
theorem ZlG.bind (ρ:Nat→V) (n:Nat) (vs:List V):ZlG (bind ρ n vs) n vs:=by
 intro j v hj;unfold AM.bind;rw [if_neg (by omega),show n+j-n=j by omega,hj];rfl
def vAt (us:List V) (j:Nat):V:=(us[j]?).getD (.i 0)
def Y9:Sh→V→AV
 | .int k, v => .val (.int k v.int)
 | .bool, v => .val (.bool v.bool)
 | .str, v => .val (.string v.str)
 | .slice s, v => .slice Xe s v.list
 | .own x e, v => .own x e v.list
 | .cel, v => Zd v.list
def Z9:List Sh→List V→Nat→List AV
 | [], _, _ => []
 | s :: ss, us, j => Y9 s (vAt us j) :: Z9 ss us (j + 1)
theorem Zl0 {s:Sh} (h:s.imm=Xb) (v:V):(Y9 s v).isCell=Xb:=by
 cases s with
 | own _ _ => simp [Sh.imm] at h
 | cel => exact J8 (JD _)
 | _ => rfl
theorem Y4 (pre post:List V) (v:V):vAt (pre++v::post) pre.length=v:=by simp [vAt]
theorem JA:∀ (l:List Sh) (us:List V) (j:Nat),(Z9 l us j).length=l.length
 | [], _, _ => rfl
 | _ :: ss, us, j => by simp [Z9, JA ss us (j + 1)]
theorem VK:∀ (l:List Sh) (us:List V) (j:Nat),l.all Sh.imm=Xb→∀ c∈Z9 l us j,c.isCell=Xb
 | [], _, _, _ => by simp [Z9]
 | s :: ss, us, j, h => by
  rw [Uz,Xs] at h;intro c hc;rcases Xq.1 hc with rfl | hc
  ·exact Zl0 h.1 _
  ·exact VK ss us (j+1) h.2 c hc
section
variable {P:Program} {ρ:Nat→V}
theorem ZfZ {s:Sh} {x:SC} {v:VE} (h:ZrU s x=Xa v):Y0 P (x.den ρ) (Y9 s (v.den ρ)):=by
 unfold ZrU at h;split at h
 ·split at h
  ·simp only [Xf] at h;subst h;rename_i hk;subst hk;exact .same (.inl rfl)
  ·cases h
 ·simp only [Xf] at h;subst h;exact .same (.inl rfl)
 ·simp only [Xf] at h;subst h;exact .same (.inl rfl)
 ·split at h
  ·simp only [Xf] at h;subst h;rename_i hk;subst hk;exact .imm
  ·split at h
   ·simp only [Xf] at h;subst h;exact .immN
   ·cases h
 ·simp only [Xf] at h;subst h;exact .same (.inl (J8 (JD _)))
 ·split at h
  ·split at h
   ·rename_i hlt;simp only [Xf] at h;subst h;exact .give hlt
   ·cases h
  ·cases h
 ·cases h
theorem Zh3 {l:LE} (h:l.isNil=Xb):l = .nil:=by cases l<;>first | rfl | cases h
theorem ZdV {s:Sh} {x:Bool} {e:TypeId} {l:LE} {v:VE} (h:Zdh P s x e l=Xa v):Y0 P (.own x e (l.den ρ)) (Y9 s (v.den ρ)):=by
 unfold Zdh at h;split at h
 ·split at h
  ·simp only [Xf] at h;subst h;rename_i hk;obtain ⟨rfl,hk⟩:=hk;rcases hk with rfl | hk
   ·exact .same (.inr ⟨_,_,_,rfl⟩)
   ·have:=Zh3 hk.1;subst this;exact .ownN hk.2
  ·cases h
 ·split at h
  ·simp only [Xf] at h;subst h;rename_i hk;obtain ⟨rfl,hk⟩:=hk;rcases hk with rfl | hk
   ·exact .own
   ·have:=Zh3 hk;subst this;exact .ownZ
  ·cases h
 ·cases h
theorem Zgh:∀ (l:List Sh) (cs:List SC) (vs:List VE),ZiE l cs=Xa vs→vs.length=l.length∧cs.length=l.length∧∀ pre post:List V,
  ∀ (i:Nat) (c c':AV),(cs.map (SC.den ρ))[i]? = Xa c→(Z9 l (pre++vs.map (VE.den ρ)++post) pre.length)[i]? = Xa c'→Y0 P c c'
 | [], [], vs, h => by
  simp only [ZiE,Xf] at h;subst h;exact ⟨rfl,rfl,fun _ _ i c c' h=>by simp at h⟩
 | [], _ :: _, _, h => by simp [ZiE] at h
 | _ :: _, [], _, h => by simp [ZiE] at h
 | s :: ss, c :: cs, us, h => by
  simp only [ZiE] at h;split at h
  ·rename_i v vs hv hvs;simp only [Xf] at h;subst h;obtain ⟨h1,h2,h3⟩:=Zgh ss cs vs hvs;refine ⟨by simp [h1],by simp [h2],fun pre post i c1 c2 hc1 hc2=>?_⟩
   cases i with
   | zero =>
    simp only [Z9,Xh,XB,Xf] at hc1 hc2;subst hc1;subst hc2;rw [Xo,XJ,Y4];exact ZfZ hv
   | succ i =>
    have:=h3 (pre++[v.den ρ]) post i c1 c2 (by simpa using hc1);simp only [Xo,XJ,XM,Xu,XA,XW] at this;simp only [Z9,Xh,XQ,Xo,XJ] at hc2;exact this hc2
  ·cases h
theorem Zts {s:Sh} {x:BC} {v:VE} (h:ZwC P s x=Xa v):Y0 P (x.den ρ) (Y9 s (v.den ρ)):=by
 unfold ZwC at h;split at h
 ·exact ZfZ h
 ·exact ZdV h
 ·cases h
theorem VG:∀ (l:List Sh) (cs:List BC) (vs:List VE),ZcC P l cs=Xa vs→vs.length=l.length∧cs.length=l.length∧∀ pre post:List V,
  ∀ (i:Nat) (c c':AV),(cs.map (BC.den ρ))[i]? = Xa c→(Z9 l (pre++vs.map (VE.den ρ)++post) pre.length)[i]? = Xa c'→Y0 P c c'
 | [], [], vs, h => by
  simp only [ZcC,Xf] at h;subst h;exact ⟨rfl,rfl,fun _ _ i c c' h=>by simp at h⟩
 | [], _ :: _, _, h => by simp [ZcC] at h
 | _ :: _, [], _, h => by simp [ZcC] at h
 | s :: ss, c :: cs, us, h => by
  simp only [ZcC] at h;split at h
  ·rename_i v vs hv hvs;simp only [Xf] at h;subst h;obtain ⟨h1,h2,h3⟩:=VG ss cs vs hvs;refine ⟨by simp [h1],by simp [h2],fun pre post i c1 c2 hc1 hc2=>?_⟩
   cases i with
   | zero =>
    simp only [Z9,Xh,XB,Xf] at hc1 hc2;subst hc1;subst hc2;rw [Xo,XJ,Y4];exact Zts hv
   | succ i =>
    have:=h3 (pre++[v.den ρ]) post i c1 c2 (by simpa using hc1);simp only [Xo,XJ,XM,Xu,XA,XW] at this;simp only [Z9,Xh,XQ,Xo,XJ] at hc2;exact this hc2
  ·cases h
end
theorem Zl2 {s:Sh} (hs:s.imm=Xb) {n:Nat} {ρ:Nat→V} {v:V} (h:ρ n=v):(Yw s n).den ρ=Y9 s v:=by
 subst h
 cases s with
 | own _ _ => simp [Sh.imm] at hs
 | cel => simp only [Yw, SC.den, LE.den, Y9]
 | _ => rfl
theorem ZdN:∀ (l:List Sh) (n m:Nat) (ρ:Nat→V) (us:List V),l.all Sh.imm=Xb→(∀ j,j < l.length→ρ (n+j)=vAt us (m+j))→(ZH l n).map (SC.den ρ)=Z9 l us m
 | [], _, _, _, _, _, _ => rfl
 | s :: ss, n, m, ρ, us, hi, h => by
  rw [Uz,Xs] at hi
  rw [ZH,Xh,Z9,Zl2 hi.1 (show ρ n=vAt us m from h 0 (by simp)),ZdN ss (n+1) (m+1) ρ us hi.2 fun j hj=>by
   have:=h (j+1) (by simp;omega);rw [show n+1+j=n+(j+1) by omega,show m+1+j=m+(j+1) by omega];exact this]
theorem Zrn {s:Sh} {n:Nat} {ρ:Nat→V} {v:V} (h:ρ n=v):(ZqZ s n).den ρ=Y9 s v:=by
 subst h
 cases s with
 | cel => simp only [ZqZ, BC.den, Yw, SC.den, LE.den, Y9]
 | _ => rfl
theorem ZbT:∀ (l:List Sh) (n m:Nat) (ρ:Nat→V) (us:List V),(∀ j,j < l.length→ρ (n+j)=vAt us (m+j))→(KT l n).map (BC.den ρ)=Z9 l us m
 | [], _, _, _, _, _ => rfl
 | s :: ss, n, m, ρ, us, h => by
  rw [KT,Xh,Z9,Zrn (show ρ n=vAt us m from h 0 (by simp)),ZbT ss (n+1) (m+1) ρ us fun j hj=>by
   have:=h (j+1) (by simp;omega);rw [show n+1+j=n+(j+1) by omega,show m+1+j=m+(j+1) by omega];exact this]
def KQ (h:HP) (us:List V) (j:Nat):AV:=
 match h with
 | .c s => Y9 s (vAt us j)
 | .agg l => .agg (Z9 l us j)
 | .box l => .box (Z9 l us j)
 | .mref d k => .mref d k
 | .ptr d o => .ptr d o
 | .dead => .dead
 | .gbox l => .gbox (Z9 l us j)
 | .clo g ds => .clo g ds
 | .eref d k s o => .eref d k ((vAt us j).int.toNat * s + o)
 | .sto => .store (vAt us j).list
def HP.fine:HP→Bool
 | .agg l => l.all Sh.imm
 | _ => Xb
theorem ZnF {h:HP} (hf:h.fine=Xb) {n m:Nat} {ρ:Nat→V} {us:List V} (hρ:∀ j,j < h.n→ρ (n+j)=vAt us (m+j)):(ZmV h n).den ρ=KQ h us m:=by
 cases h with
 | c s =>
  have h0:=hρ 0 (Nat.zero_lt_one);simp only [Uh] at h0
  cases s<;>simp only [ZmV,KQ,SV.den,Yw,SC.den,IE.den,BE.den,SE.den,LE.den,h0,Y9]
 | agg l => simp only [ZmV, KQ, SV.den, ZdN l n m ρ us hf hρ]
 | box l => simp only [ZmV, KQ, SV.den, ZbT l n m ρ us hρ]
 | gbox l => simp only [ZmV, KQ, SV.den, ZbT l n m ρ us hρ]
 | clo g ds => rfl
 | mref d k => rfl
 | ptr d o => rfl
 | dead => rfl
 | sto =>
  have h0:=hρ 0 (Nat.zero_lt_one);simp only [Uh] at h0;simp only [ZmV,KQ,SV.den,LE.den,h0]
 | eref d k s o =>
  have h0:=hρ 0 (Nat.zero_lt_one);simp only [Uh] at h0;simp only [ZmV,KQ,SV.den,IE.den,h0]
def Zwy (h:HP) (x y:AV):Prop:=(∃ d o,h = .ptr d o∧x = .ptr d o)∨(∃ d k,h = .mref d k∧x = .mref d k)∨(∃ g ds,h = .clo g ds∧x = .clo g ds)∨∃ d k s o q,h = .eref d k s o∧x = .eref d k q∧y = .eref d k q
theorem Zop {P:Program} {ρ:Nat→V} {h:HP} {x:SV} {vs:List VE} (hv:ZkA P h x=Xa vs):vs.length=h.n∧h.fine=Xb∧∀ pre post:List V,
  Zwy h (x.den ρ) (KQ h (pre++vs.map (VE.den ρ)++post) pre.length)∨YO P (x.den ρ) (KQ h (pre++vs.map (VE.den ρ)++post) pre.length):=by
 unfold ZkA at hv;split at hv
 ·cases hd:ZrU _ _ with
  | none => rw [hd] at hv; cases hv
  | some v =>
   rw [hd] at hv;simp only [Xw,Xf] at hv;subst hv;refine ⟨rfl,rfl,fun pre post=>.inr ?_⟩;simp only [KQ,Xh,XF,Xo,XJ,XM,Y4];exact .comp (.cell (ZfZ hd))
 ·cases hd:Zdh P _ _ _ _ with
  | none => rw [hd] at hv; cases hv
  | some v =>
   rw [hd] at hv;simp only [Xw,Xf] at hv;subst hv;refine ⟨rfl,rfl,fun pre post=>.inr ?_⟩;simp only [KQ,Xh,XF,Xo,XJ,XM,Y4];exact .comp (.cell (ZdV hd))
 ·split at hv
  ·rename_i hi;obtain ⟨h1,h2,h3⟩:=Zgh (P:=P) (ρ:=ρ) _ _ _ hv;exact ⟨h1,hi,fun pre post=>.inr (.comp (.agg (by rw [Xr,h2,JA]) (VK _ _ _ hi) (h3 pre post)))⟩
  ·cases hv
 ·obtain ⟨h1,h2,h3⟩:=VG (P:=P) (ρ:=ρ) _ _ _ hv;exact ⟨h1,rfl,fun pre post=>.inr (.box (by rw [Xr,h2,JA]) (h3 pre post))⟩
 ·split at hv
  ·rename_i hh;simp only [Xf] at hv;subst hv;obtain ⟨rfl,rfl⟩:=hh;exact ⟨rfl,rfl,fun _ _=>.inl (.inr (.inl ⟨_,_,rfl,rfl⟩))⟩
  ·cases hv
 ·split at hv
  ·rename_i hh;simp only [Xf] at hv;subst hv;obtain ⟨rfl,rfl⟩:=hh;exact ⟨rfl,rfl,fun _ _=>.inl (.inl ⟨_,_,rfl,rfl⟩)⟩
  ·cases hv
 ·simp only [Xf] at hv;subst hv;exact ⟨rfl,rfl,fun _ _=>.inr .dead⟩
 ·obtain ⟨h1,h2,h3⟩:=VG (P:=P) (ρ:=ρ) _ _ _ hv;exact ⟨h1,rfl,fun pre post=>.inr (.gbox (by rw [Xr,h2,JA]) (h3 pre post))⟩
 ·simp only [Xf] at hv;subst hv;refine ⟨rfl,rfl,fun pre post=>.inr ?_⟩;simp only [KQ,Xh,XF,Xo,XJ,XM,Y4];exact .store
 ·split at hv
  ·rename_i hh;simp only [Xf] at hv;subst hv;obtain ⟨rfl,rfl⟩:=hh;exact ⟨rfl,rfl,fun _ _=>.inl (.inr (.inr (.inl ⟨_,_,rfl,rfl⟩)))⟩
  ·cases hv
 ·split at hv
  ·rename_i hh;simp only [Xf] at hv;subst hv;obtain ⟨rfl,rfl,rfl,rfl⟩:=hh;refine ⟨rfl,rfl,fun pre post=>.inl (.inr (.inr (.inr ⟨_,_,_,_,_,rfl,rfl,?_⟩)))⟩;simp only [KQ,Xh,XF,Xo,XJ,XM,Y4];rfl
  ·cases hv
 ·cases hv
theorem V0 {P:Program} {g:Nat→SV} {ρ:Nat→V} : ∀ (hs:List (Nat×HP)) (n:Nat) (ves:List VE) (pre:List V),Kz P g hs=Xa ves→pre.length=n→
  (Z8 hs n).2=n+ves.length∧(Z8 hs n).1.map (·.1)=hs.map (·.1)∧∀ u∈(Z8 hs n).1,∃ h,(u.1,h)∈hs∧∃ m,u.2=ZmV h m∧m+h.n≤n+ves.length∧h.fine=Xb∧
   ∀ post:List V,Zwy h ((g u.1).den ρ) (KQ h (pre++ves.map (VE.den ρ)++post) m)∨YO P ((g u.1).den ρ) (KQ h (pre++ves.map (VE.den ρ)++post) m)
 | [], n, ves, pre, h, hp => by
  simp only [Kz,Xf] at h;subst h;exact ⟨rfl,rfl,by simp [Z8]⟩
 | p :: r, n, ves, pre, h, hp => by
  simp only [Kz] at h;split at h
  ·rename_i v vs hv hvs;simp only [Xf] at h;subst h;obtain ⟨h1,h2,h3⟩:=Zop (P:=P) (ρ:=ρ) hv;obtain ⟨g1,g2,g3⟩:=V0 r (n+p.2.n) vs (pre++v.map (VE.den ρ)) hvs (by simp [hp,h1]);refine ⟨by simp only [Z8,g1,Xu,h1];omega,by simp only [Z8,Xh,g2],fun u hu=>?_⟩;simp only [Z8,Xq] at hu;rcases hu with rfl | hu
   ·refine ⟨p.2,by simp,n,rfl,by simp only [Xu,h1];omega,h2,fun post=>?_⟩;have:=h3 pre (vs.map (VE.den ρ)++post);rw [hp] at this;simpa [Xo] using this
   ·obtain ⟨h,k1,m,k2,k3,k4,k5⟩:=g3 u hu;refine ⟨h,by simp [k1],m,k2,by simp only [Xu,h1];omega,k4,fun post=>?_⟩;have:=k5 post;simpa [Xo] using this
  ·cases h
theorem ZeW:∀ (hs:List (Nat×HP)) (n:Nat),n≤(Z8 hs n).2∧∀ u∈(Z8 hs n).1,u.2.bd (Z8 hs n).2
 | [], n => ⟨Xy _, by simp [Z8]⟩
 | p :: r, n => by
  obtain ⟨h1,h2⟩:=ZeW r (n+p.2.n);refine ⟨by simp only [Z8];omega,fun u hu=>?_⟩;simp only [Z8,Xq] at hu;rcases hu with rfl | hu
  ·have hb:(ZmV p.2 n).bd (n+p.2.n):=by
    cases hp:p.2 with
    | c s => cases s <;> exact Uj n
    | agg l => exact JQ l n
    | box l => exact Ya l n
    | mref d k => trivial
    | ptr d o => trivial
    | dead => trivial
    | gbox l => exact Ya l n
    | clo g ds => trivial
    | eref d k s o => exact Uj n
    | sto => exact Uj n
   exact SV.bd_mono (by simpa [Z8] using h1) _ hb
  ·exact h2 u hu
def Zs1 (P:Program) (σ σ':Nat→AV) (d:Nat):Prop:=
 YO P (σ d) (σ' d)∨(∃ d' o,σ d = .ptr d' o∧σ' d = .ptr d' o∧(∃ cs,σ' d' = .box cs))∨(∃ d' k,σ d = .mref d' k∧σ' d = .mref d' k∧∃ p,Zy (σ' d') k=Xa p)∨
  (∃ g ds,σ d = .clo g ds∧σ' d = .clo g ds∧∀ d'∈ds,(σ' d').isB=Xb)∨∃ d' k o,σ d = .eref d' k o∧σ' d = .eref d' k o∧∃ p,Zy (σ' d') k=Xa p
theorem ZmP {P:Program} {x:AV} {e:TypeId} {xs:List (List AV)} (h:YO P x (.own Xb e xs)):x = .own Xb e xs∨xs = []:=by
 cases h with
 | comp h =>
  cases h with
  | cell h =>
   cases h with
   | same _ => exact .inl rfl
   | ownN _ => exact .inr rfl
   | give _ => exact .inr rfl
theorem Sim.head {c:Ctx} {σ σ':Nat→AV} {tm:Array Value} {w:World} {lim:Lm} {X:Nat→Nat→Option Nat} (h:Sim c σ tm w lim X) (hw:∀ d,Zs1 c.P σ σ' d) (hout:∀ d,c.nt≤d→σ' d = .dead∨(σ' d).isG=Xb)
  (hpin:∀ d v,c.pin d=Xa v→∃ cs,σ' d = .box cs) (hgpin:∀ d b,c.gpin d=Xa b→(σ' d).isG=Xb):∃ X',Sim c σ' tm w lim X':=by
 have hG:∀ d,(σ' d).isG=Xb→(σ d).isG=Xb:=by
  intro d hd;rcases hw d with hs | ⟨d',o,_,h2,_⟩ | ⟨d',k,_,h2,_⟩ | ⟨g,ds,_,h2,_⟩ | ⟨d',k,o,_,h2,_⟩
  ·exact ZoB hs hd
  all_goals (rw [h2] at hd;cases hd)
 have hfar:∀ d,ngN≤d→σ' d = .dead:=by
  intro d hd;rcases hout d (XI h.ntN hd) with h1 | h1
  ·exact h1
  ·have:=hG d h1;rw [h.far d hd] at this
   cases this
 have key:∀ d,∃ r:Nat→Option Nat,(ngN≤d→r=X d)∧(∀ k,r k=X d k∨r k=Xc)∧((σ' d).isB=Xb→r 0=X d 0)∧(∀ k,(∃ p,Zy (σ d) k=Xa p)→(∃ p,Zy (σ' d) k=Xa p)→r k=X d k)∧
   (YO c.P (σ d) (σ' d)→∀ X':Nat→Nat→Option Nat,X' d=r→ZS c.P w lim X' σ' d (σ' d) (tm.getD d undef))∧(∀ e xs,σ d = .own Xb e xs→σ' d = .own Xb e xs→r=X d):=by
  intro d;have hd:=h.rel d;by_cases hdf:ngN≤d
  ·exact ⟨X d,fun _=>rfl,fun _=>.inl rfl,fun _=>rfl,fun _ _ _=>rfl,fun _ X' _=>by rw [hfar d hdf];trivial,fun _ _ _ _=>rfl⟩
  by_cases hsame:∃ e xs,σ d = .own Xb e xs∧σ' d = .own Xb e xs
  ·obtain ⟨e,xs,h1,h2⟩:=hsame;refine ⟨X d,fun _=>rfl,fun _=>.inl rfl,fun _=>rfl,fun _ _ _=>rfl,fun _ X' hX=>?_,fun _ _ _ _=>rfl⟩;rw [h1] at hd;rw [h2];show Jv c.P w lim Xb e xs _ (X' d 0);rw [hX];exact hd
  have hsm:∀ {r:Nat→Option Nat} (e:TypeId) (xs:List (List AV)),σ d = .own Xb e xs→σ' d = .own Xb e xs→r=X d:=fun e xs h1 h2=>(hsame ⟨e,xs,h1,h2⟩).elim
  have hno:∀ {y:AV},σ d=y→(∀ k,Zy y k=Xc)→∀ k,(∃ p,Zy (σ d) k=Xa p)→(∃ p,Zy (σ' d) k=Xa p)→(Xc:Option Nat)=X d k:=by
   rintro y he hy k ⟨p,hp⟩ _;rw [he,hy k] at hp
   cases hp
  rcases hw d with hs | ⟨d',o,h1,h2,_⟩ | ⟨d',k,h1,h2,_⟩ | ⟨g,ds,h1,h2,_⟩ | ⟨d',k,o,h1,h2,_⟩
  ·obtain ⟨r,g1,g2,g4,g3⟩:=Zh5 hd hs;exact ⟨r,fun h=>(hdf h).elim,g1,g2,g4,fun _ X' hX=>g3 X' σ' d hX,hsm⟩
  ·exact ⟨fun _=>Xc,fun h=>(hdf h).elim,fun _=>.inr rfl,fun hb=>by (rw [h2] at hb;cases hb),hno h1 (fun _=>rfl),fun hs=>((Zah hs).1 d' o h2).elim,hsm⟩
  ·exact ⟨fun _=>Xc,fun h=>(hdf h).elim,fun _=>.inr rfl,fun hb=>by (rw [h2] at hb;cases hb),hno h1 (fun _=>rfl),fun hs=>((Zah hs).2.1 d' k h2).elim,hsm⟩
  ·exact ⟨fun _=>Xc,fun h=>(hdf h).elim,fun _=>.inr rfl,fun hb=>by (rw [h2] at hb;cases hb),hno h1 (fun _=>rfl),fun hs=>((Zah hs).2.2.1 g ds h2).elim,hsm⟩
  ·exact ⟨fun _=>Xc,fun h=>(hdf h).elim,fun _=>.inr rfl,fun hb=>by (rw [h2] at hb;cases hb),hno h1 (fun _=>rfl),fun hs=>((Zah hs).2.2.2 d' k o h2).elim,hsm⟩
 obtain ⟨X',hX⟩:=U7 key
 have hle:∀ d k b,X' d k=Xa b→X d k=Xa b:=by
  intro d k b hb;rcases (hX d).2.1 k with e | e
  ·rw [← e];exact hb
  ·rw [e] at hb;cases hb
 have hstW:∀ i,(σ' i).isSto=Xb→(σ i).isSto=Xb:=fun d hd=>by
  rcases hw d with hs | ⟨_,_,_,h2,_⟩ | ⟨_,_,_,h2,_⟩ | ⟨_,_,_,h2,_⟩ | ⟨_,_,_,_,h2,_⟩
  ·exact Zhj hs hd
  all_goals (rw [h2] at hd;cases hd)
 refine ⟨X',⟨fun d=>?_,h.size,hout,fun d hd=>h.ghost d (hG d hd),fun d k d' k' b h1 h2=>h.dist d k d' k' b (hle _ _ _ h1) (hle _ _ _ h2),fun d k b hb=>h.ours d k b (hle _ _ _ hb),h.frm,fun d v hv=>⟨(h.pin d v hv).1,hpin d v hv⟩,fun d e xs hdo=>?_,
  fun d b hb=>⟨((hX d).2.2.1 (Zb7 (hgpin d b hb))).trans (h.gpin d b hb).1,hgpin d b hb⟩,h.ntN,hfar,fun d k e xs b m1 m2 m3=>?_,fun b m b' hb=>h.yfr b m b' (hle _ _ _ hb),h.stfW hstW⟩⟩
 rotate_left
 ·have hs:YO c.P (σ d) (.own Xb e xs):=by
   rcases hw d with hs | ⟨_,_,_,h2,_⟩ | ⟨_,_,_,h2,_⟩ | ⟨_,_,_,h2,_⟩ | ⟨_,_,_,_,h2,_⟩
   ·rw [hdo] at hs;exact hs
   all_goals (rw [hdo] at h2;cases h2)
  rcases ZmP hs with h1 | rfl
  ·rw [(hX d).2.2.2.2.2 e xs h1 hdo];exact h.mp d e xs h1
  ·intro _ _ _ _ _ _ _ _ _ _ h3;cases h3
 ·rw [(hX (ngN+b)).1 (XX _ _)];refine h.nst d k e xs b ?_ m2 (hle _ _ _ m3);rcases hw d with hs | ⟨_,_,_,h2,_⟩ | ⟨_,_,_,h2,_⟩ | ⟨_,_,_,h2,_⟩ | ⟨_,_,_,_,h2,_⟩
  ·exact Zfv hs m1 m2
  all_goals (rw [h2] at m1;cases k<;>first | cases m1 | exact (Jb m1 rfl).elim)
 have hd:=h.rel d;rcases hw d with hs | ⟨d2,o2,h1,h2,cs',h3⟩ | ⟨d2,k2,h1,h2,p2,h3⟩ | ⟨g,ds,h1,h2,h3⟩ | ⟨d2,k2,o2,h1,h2,p2,h3⟩
 ·exact (hX d).2.2.2.2.1 hs X' rfl
 ·rw [h1] at hd;obtain ⟨b,cs,g1,g2,g3⟩:=hd;rw [h2];exact ⟨b,cs',by rw [(hX d2).2.2.1 (by rw [h3];rfl),g1],h3,g3⟩
 ·rw [h1] at hd;obtain ⟨e,xs,g1,g2⟩:=hd;rw [h2];refine ⟨e,xs,?_,by rw [(hX d2).2.2.2.1 k2 ⟨_,g1⟩ ⟨_,h3⟩];exact g2⟩;rcases hw d2 with hs | ⟨d3,o3,q1,q2,_⟩ | ⟨d3,k3,q1,q2,_⟩ | ⟨g,ds,q1,q2,_⟩ | ⟨_,_,_,q1,q2,_⟩
  ·obtain ⟨m1,m2⟩:=Zd2 hs g1 (e':=p2.1) (xs':=p2.2) h3;rw [h3,← m1,← m2]
  all_goals (rw [q1] at g1;cases g1)
 ·rw [h1] at hd;obtain ⟨bs,g1,g2,g3⟩:=hd;rw [h2];refine ⟨bs,g1,g2,fun i d' b hd' hb=>?_⟩;have hB:=h3 d' (Xm hd');exact ⟨((hX d').2.2.1 hB).trans (g3 i d' b hd' hb).1,hB⟩
 ·rw [h1] at hd;obtain ⟨b,e,xs,g1,g2,g3⟩:=hd;rw [h2];refine ⟨b,e,xs,?_,by rw [(hX d2).2.2.2.1 k2 ⟨_,g1⟩ ⟨_,h3⟩];exact g2,g3⟩;rcases hw d2 with hs | ⟨d3,o3,q1,q2,_⟩ | ⟨d3,k3,q1,q2,_⟩ | ⟨g,ds,q1,q2,_⟩ | ⟨_,_,_,q1,q2,_⟩
  ·obtain ⟨m1,m2⟩:=Zd2 hs g1 (e':=p2.1) (xs':=p2.2) h3;rw [h3,← m1,← m2]
  all_goals (rw [q1] at g1;cases g1)
theorem ZnY:∀ (hs:List (Nat×HP)) (d:Nat) (h h':HP),(hs.map (·.1)).Nodup→(d,h)∈hs→(d,h')∈hs→h=h'
 | [], _, _, _, _, h, _ => by simp at h
 | p :: r, d, h, h', hn, h1, h2 => by
  rw [Xh,Wa] at hn;rcases Xq.1 h1 with e1 | e1
  ·rcases Xq.1 h2 with e2 | e2
   ·rw [← e1] at e2;exact (Prod.mk.inj e2).2.symm
   ·exact (hn.1 (by rw [← e1];exact Xj.2 ⟨_,e2,rfl⟩)).elim
  ·rcases Xq.1 h2 with e2 | e2
   ·exact (hn.1 (by rw [← e2];exact Xj.2 ⟨_,e1,rfl⟩)).elim
   ·exact ZnY r d h h' hn.2 e1 e2
theorem Zdc:∀ (us:List (Nat×AV)) (d:Nat) (x:AV),Ww us d=Xa x→(d,x)∈us
 | [], d, x, h => by simp [Ww] at h
 | (e, y) :: us, d, x, h => by
  simp only [Ww] at h
  cases hl:Ww us d with
  | some z =>
   rw [hl] at h;simp only [Xf] at h;subst h;exact Ul _ (Zdc us d _ hl)
  | none =>
   rw [hl] at h;simp only at h;split at h
   ·rename_i hd;simp only [Xf] at h;subst h;subst hd;exact U8
   ·cases h
theorem ZlW {E:Env} {d:Nat} {h:HP} (hp:h.place E d=Xb):d < E.top∧(h.isG=Xb∨d < E.nt):=by
 cases h<;>simp only [HP.place,Xs,decide_eq_true_eq] at hp
 case gbox l=>exact ⟨hp.2,.inl rfl⟩
 case sto=>exact ⟨hp.1.2,.inl rfl⟩
 all_goals exact ⟨J0 hp,.inr hp⟩
theorem ZaT {E:Env} {hs:List (Nat×HP)} (h:Zie E hs=Xb):(hs.map (·.1)).Nodup∧(∀ p∈hs,p.1 < E.top∧(p.2.isG=Xb∨p.1 < E.nt))∧((∀ d d' o,(d,HP.ptr d' o)∈hs→∃ l:HP,l.isBox=Xb∧(d',l)∈hs)∧(∀ d d' k,(d,HP.mref d' k)∈hs→∃ l:HP,l.isPl k=Xb∧(d',l)∈hs)∧∀ d d' k s o,(d,HP.eref d' k s o)∈hs→∃ l:HP,l.isPl k=Xb∧(d',l)∈hs)∧
  (∀ d∈E.pins,∃ l:HP,l.isBox=Xb∧(d,l)∈hs)∧(∀ d g ds,(d,HP.clo g ds)∈hs→∀ d'∈ds,∃ l:HP,(l.isBox||l.isG)=Xb∧(d',l)∈hs)∧∀ d,E.nt≤d→d < E.top→∃ l:HP,l.isG=Xb∧(d,l)∈hs:=by
 have hany:∀ (f:HP→Bool) (d:Nat),(hs.any fun q=>decide (q.1=d)&&f q.2)=Xb→∃ l:HP,f l=Xb∧(d,l)∈hs:=by
  intro f d hd;rw [Ud] at hd;obtain ⟨q,hq,hd⟩:=hd;obtain ⟨q1,q2⟩:=q;simp only [Xs,decide_eq_true_eq] at hd;obtain ⟨rfl,hd⟩:=hd;exact ⟨_,hd,hq⟩
 simp only [Zie,Xs] at h;obtain ⟨⟨⟨h1,h2⟩,h3⟩,h4⟩:=h;rw [XD] at h2 h3 h4;refine ⟨ZbA _ h1,fun p hp=>?_,⟨fun d d' o hm=>?_,fun d d' k hm=>?_,fun d d' k s o hm=>?_⟩,fun d hd=>hany HP.isBox d (h3 d hd),fun d g ds hm d' hd'=>?_,fun d hd hd'=>?_⟩
 ·have:=h2 p hp;simp only [Xs] at this;exact ZlW this.1
 ·have:=h2 _ hm;simp only [Xs] at this;exact hany HP.isBox d' this.2
 ·have:=h2 _ hm;simp only [Xs] at this;exact hany (fun h=>h.isPl k) d' this.2
 ·have:=h2 _ hm;simp only [Xs] at this;exact hany (fun h=>h.isPl k) d' this.2
 ·have:=h2 _ hm;simp only [Xs] at this;have h5:=this.2;rw [XD] at h5;exact hany (fun h=>h.isBox||h.isG) d' (h5 d' hd')
 ·have:=h4 (d-E.nt) (List.mem_range.2 (by have:E.top=E.nt+E.ng:=rfl;omega));rw [show E.nt+(d-E.nt)=d by omega] at this;exact hany HP.isG d this
theorem head_at {P:Program} {E:Env} (hnt:E.top≤1024) {hs:List (Nat×HP)} (hok:Zie E hs=Xb) {s:Tr} {ρ ρ0:Nat→V} {ves:List VE} (hv:Kz P (gE E s) hs=Xa ves) :
  (∀ d,d∉hs.map (·.1)→Z2 E (JV (Z8 hs 0).1 (.leaf .dead)) (bind ρ0 0 (ves.map (VE.den ρ))) d = .dead)∧
  ∀ d h,(d,h)∈hs→∃ m,Z2 E (JV (Z8 hs 0).1 (.leaf .dead)) (bind ρ0 0 (ves.map (VE.den ρ))) d=KQ h (ves.map (VE.den ρ)) m∧
   (Zwy h (Z2 E s ρ d) (KQ h (ves.map (VE.den ρ)) m)∨YO P (Z2 E s ρ d) (KQ h (ves.map (VE.den ρ)) m)):=by
 obtain ⟨k1,k2,k3,k4,k5,k6⟩:=ZaT hok;obtain ⟨h1,h2,h3⟩:=V0 (P:=P) (g:=gE E s) (ρ:=ρ) hs 0 ves [] hv rfl
 have hl:Zb0 E (Z8 hs 0).1:=by
  unfold Zb0;rw [XD];intro u hu;have hm:u.1∈hs.map (·.1):=by rw [← h2];exact Xj.2 ⟨u,hu,rfl⟩
  obtain ⟨p,hp,he⟩:=Xj.1 hm;have:=(k2 p hp).1;rw [he] at this;simpa using this
 have hdead:∀ d,Z2 E (.leaf .dead) (bind ρ0 0 (ves.map (VE.den ρ))) d = .dead:=by
  intro d;simp only [Z2,gE];split<;>rfl
 have hfst:((Z8 hs 0).1.map fun u=>(u.1,u.2.den (bind ρ0 0 (ves.map (VE.den ρ))))).map (·.1)=hs.map (·.1):=by rw [Wf];exact h2
 rw [KK hnt _ _ _ hl];refine ⟨fun d hd=>?_,fun d h hm=>?_⟩
 ·rw [Jm,Y3 _ d (by rw [hfst];exact hd),hdead];rfl
 ·obtain ⟨x,hx⟩:=Vl ((Z8 hs 0).1.map fun u=>(u.1,u.2.den (bind ρ0 0 (ves.map (VE.den ρ))))) d (by rw [hfst];exact Xj.2 ⟨_,hm,rfl⟩);obtain ⟨u,hu,he⟩:=Xj.1 (Zdc _ _ _ hx);simp only [Xt] at he;obtain ⟨rfl,rfl⟩:=he;obtain ⟨h',g1,m,g2,g3,g4,g5⟩:=h3 u hu;have:h'=h:=ZnY hs u.1 h' h k1 g1 hm;subst this
  have hden:u.2.den (bind ρ0 0 (ves.map (VE.den ρ)))=KQ h' (ves.map (VE.den ρ)) m:=by
   rw [g2];refine ZnF g4 fun j hj=>?_;have hlt:m+j < (ves.map (VE.den ρ)).length:=by rw [Xr];omega
   have:=ZlG.bind ρ0 0 (ves.map (VE.den ρ)) (m+j) _ (Xp hlt);rw [XH] at this;rw [this,vAt,Xp hlt];rfl
  refine ⟨m,?_,?_⟩
  ·rw [Jm,hx,← hden];rfl
  ·have:=g5 [];simp only [XM,XN] at this;exact this
theorem ZdF:∀ (l:List Sh) (us:List V) (j k:Nat) (s:Sh),l[k]? = Xa s→(Z9 l us j)[k]? = Xa (Y9 s (vAt us (j+k)))
 | [], _, _, _, _, h => by simp at h
 | t :: ts, us, j, 0, s, h => by
  simp only [XB,Xf] at h;subst h;rfl
 | t :: ts, us, j, k + 1, s, h => by
  have:=ZdF ts us (j+1) k s (by simpa using h);rw [show j+1+k=j+(k+1) by omega] at this;simpa [Z9] using this
theorem ZfT {h:HP} {k:Nat} (hk:h.isPl k=Xb) (us:List V) (m:Nat):∃ p,Zy (KQ h us m) k=Xa p:=by
 unfold HP.isPl at hk;split at hk
 ·exact ⟨_,rfl⟩
 ·rename_i l k;split at hk
  ·rename_i e hl;have:=ZdF l us m k _ hl;refine ⟨(e,(vAt us (m+k)).list),?_⟩;simp only [KQ,Zy,this,Y9]
  ·cases hk
 ·rename_i l k;split at hk
  ·rename_i e hl;have:=ZdF l us m k _ hl;refine ⟨(e,(vAt us (m+k)).list),?_⟩;simp only [KQ,Zy,this,Y9]
  ·cases hk
 ·cases hk
theorem ZlT {P:Program} {E:Env} (hnt:E.top≤1024) {c:Ctx} (hcP:c.P=P) (hcn:c.nt=E.nt) (hpin:∀ d v,c.pin d=Xa v→d∈E.pins) (hgpin:∀ d b,c.gpin d=Xa b→E.nt≤d∧d < E.top) {hs:List (Nat×HP)} (hok:Zie E hs=Xb) {s:Tr} {ρ:Nat→V} (ρ0:Nat→V) {ves:List VE}
  (hv:Kz P (gE E s) hs=Xa ves) {tm:Array Value} {w:World} {lim:Lm} {X:Nat→Nat→Option Nat} (hsim:Sim c (Z2 E s ρ) tm w lim X) :
  ∃ X',Sim c (Z2 E (JV (Z8 hs 0).1 (.leaf .dead)) (bind ρ0 0 (ves.map (VE.den ρ)))) tm w lim X':=by
 obtain ⟨k1,k2,k3,k4,k5,k6⟩:=ZaT hok;obtain ⟨h1,h2⟩:=head_at (P:=P) hnt hok (ρ0:=ρ0) (ρ:=ρ) hv
 have hbox:∀ d (l:HP),l.isBox=Xb→(d,l)∈hs→∃ cs,Z2 E (JV (Z8 hs 0).1 (.leaf .dead)) (bind ρ0 0 (ves.map (VE.den ρ))) d = .box cs:=by
  intro d l hl hm;obtain ⟨m,g1,_⟩:=h2 d _ hm
  cases l<;>simp [HP.isBox] at hl<;>exact ⟨_,g1⟩
 have hgb:∀ d (l:HP),l.isG=Xb→(d,l)∈hs→(Z2 E (JV (Z8 hs 0).1 (.leaf .dead)) (bind ρ0 0 (ves.map (VE.den ρ))) d).isG=Xb:=by
  intro d l hl hm;obtain ⟨m,g1,_⟩:=h2 d _ hm;rw [g1]
  cases l<;>simp [HP.isG] at hl<;>rfl
 refine hsim.head (fun d=>?_) (fun d hd=>?_) (fun d v hp=>?_) fun d b hp=>?_
 ·by_cases hm:d∈hs.map (·.1)
  ·obtain ⟨p,hp,rfl⟩:=Xj.1 hm;obtain ⟨m,g1,g2⟩:=h2 p.1 p.2 hp;unfold Zs1;rw [g1,hcP];rcases g2 with (⟨d',o,g2,g3⟩ | ⟨d',k,g2,g3⟩ | ⟨g,ds,g2,g3⟩ | ⟨d',k,s',o,q,g2,g3,g4⟩) | g2
   ·obtain ⟨l,hl,hm⟩:=k3.1 p.1 d' o (by rw [← g2];exact hp);exact .inr (.inl ⟨d',o,g3,by rw [g2];rfl,hbox d' l hl hm⟩)
   ·obtain ⟨l,hl,hm⟩:=k3.2.1 p.1 d' k (by rw [← g2];exact hp);obtain ⟨m',q1,_⟩:=h2 d' l hm;exact .inr (.inr (.inl ⟨d',k,g3,by rw [g2];rfl,by rw [q1];exact ZfT hl _ _⟩))
   ·refine .inr (.inr (.inr (.inl ⟨g,ds,g3,by rw [g2];rfl,fun d' hd'=>?_⟩)));obtain ⟨l,hl,hm⟩:=k5 p.1 g ds (by rw [← g2];exact hp) d' hd';rw [Bool.or_eq_true] at hl;rcases hl with hl | hl
    ·obtain ⟨cs,hcs⟩:=hbox d' l hl hm;rw [hcs];rfl
    ·exact Zb7 (hgb d' l hl hm)
   ·obtain ⟨l,hl,hm⟩:=k3.2.2 p.1 d' k s' o (by rw [← g2];exact hp);obtain ⟨m',q1,_⟩:=h2 d' l hm;exact .inr (.inr (.inr (.inr ⟨d',k,q,g3,g4,by rw [q1];exact ZfT hl _ _⟩)))
   ·exact .inl g2
  ·unfold Zs1;rw [h1 d hm];exact .inl .dead
 ·by_cases hm:d∈hs.map (·.1)
  ·obtain ⟨p,hp,rfl⟩:=Xj.1 hm;rcases (k2 p hp).2 with h3 | h3
   ·exact .inr (hgb p.1 p.2 h3 hp)
   ·omega
  ·exact .inl (h1 d hm)
 ·obtain ⟨l,hl,hm⟩:=k4 d (hpin d v hp);exact hbox d l hl hm
 ·obtain ⟨m1,m2⟩:=hgpin d b hp;obtain ⟨l,hl,hm⟩:=k6 d m1 m2;exact hgb d l hl hm
theorem Zhn {ops:Array Oper} {x a d:Nat} {T:TypeId} {neg:Bool} (h:ZjS ops=Xa (x,a,d,T,neg)) :
  ∃ o p U,ops.toList = [o,p]∧o.guard=Xc∧p.guard=Xc∧o.op = .move (.tmp x)∧o.dst=Xa a∧p.op = .binOp (if neg=Xb then .neq else .eql) T (.tmp a) (.const (.slice Xc 0 0)) U∧p.dst=Xa d:=by
 unfold ZjS at h;split at h
 ·rename_i o p hops;split at h
  ·rename_i hg;simp only [Tv] at hg;split at h
   ·rename_i h1 h2 h3 h4;split at h
    ·rename_i hb;subst hb;simp only [Xf,Xt] at h;obtain ⟨rfl,rfl,rfl,rfl,rfl⟩:=h;exact ⟨o,p,_,hops,hg.1,hg.2,h1,h2,by simpa using h3,h4⟩
    ·cases h
   ·rename_i h1 h2 h3 h4;split at h
    ·rename_i hb;subst hb;simp only [Xf,Xt] at h;obtain ⟨rfl,rfl,rfl,rfl,rfl⟩:=h;exact ⟨o,p,_,hops,hg.1,hg.2,h1,h2,by simpa using h3,h4⟩
    ·cases h
   ·cases h
  ·cases h
 ·cases h
theorem Zav {ops:Array Oper} {x i a b c:Nat} {T:TypeId} (h:Zeb ops=Xa (x,i,a,b,c,T)) :
  ∃ o p q r,ops.toList = [o,p,q,r]∧o.guard=Xc∧p.guard=Xc∧q.guard=Xc∧r.guard=Xc∧o.op = .move (.tmp x)∧o.dst=Xa a∧p.op = .move (.tmp i)∧p.dst=Xa b∧
   q.op = .slice T (.tmp a) (Xa (.tmp b)) Xc Xc∧q.dst=Xa c∧(∃ cl,r.op = .call cl∧cl.callee = .builtin .clear∧cl.args = #[.tmp c]∧cl.argTypes = #[T])∧r.dst=Xc:=by
 unfold Zeb at h;split at h
 case h_2=>cases h
 rename_i o p q r hops;split at h
 case isFalse=>cases h
 rename_i hg;simp only [Tv] at hg;split at h
 case h_2=>cases h
 rename_i x' a' i' b' h1 h2 h3 h4;split at h
 case h_2=>cases h
 rename_i T' a'' b'' c' cl h5 h6 h7 h8;split at h
 case h_2=>cases h
 rename_i c'' T'' h9 h10 h11;split at h
 case isFalse=>cases h
 rename_i he;obtain ⟨e1,e2,e3,e4⟩:=he;subst e1 e2 e3 e4;simp only [Xf,Xt] at h;obtain ⟨rfl,rfl,rfl,rfl,rfl,rfl⟩:=h;exact ⟨o,p,q,r,hops,hg.1,hg.2.1,hg.2.2.1,hg.2.2.2,h1,h2,h3,h4,h5,h6,⟨cl,h7,h9,by rw [← h10,UA],by rw [← h11,UA]⟩,h8⟩
theorem Zl3 {P:Program} {w:World} {lim:Lm} {X:Nat→Nat→Option Nat} {g:Nat→SV} {d:Nat} {x:SV} {l:LE} {ρ:Nat→V} {v:Value} (hx:Zoh P g x=Xa l) (hq:∀ p,x = .c (.cel p)→(ptE .pisl p).den ρ≠[]) (h:ZS P w lim X (fun d=>(g d).den ρ) d (x.den ρ) v) :
  ∃ a k cap,v = .slice a k cap∧(a.isNone=Xb→l.den ρ = []):=by
 have hrep:∀ f s,Rep w lim (.slice f s (l.den ρ)) v→∃ a k cap,v = .slice a k cap∧(a.isNone=Xb→l.den ρ = []):=by
  intro f s hr
  have key:∀ y,Rep w lim y v→y = .slice f s (l.den ρ)→∃ a k cap,v = .slice a k cap∧(a.isNone=Xb→l.den ρ = []):=by
   intro y hy hye
   cases hy with
   | sliceN => injection hye with _ _ h3; exact ⟨Xc, 0, 0, rfl, fun _ => h3.symm⟩
   | sliceE _ => injection hye with _ _ h3; exact ⟨_, _, _, rfl, fun _ => h3.symm⟩
   | sliceC _ _ _ _ _ _ _ _ => exact ⟨_, _, _, rfl, fun h => by cases h⟩
   | val _ => cases hye
   | agg _ _ _ => cases hye
   | nest => cases hye
   | oref0 => cases hye
   | oref => cases hye
   | osl0 => cases hye
   | osl => cases hye
   | omap => cases hye
   | fnc => cases hye
   | omap0 => cases hye
   | fncN => cases hye
  exact key _ hr rfl
 unfold Zoh at hx;split at hx
 rotate_left
 ·rename_i p;simp only [Xf] at hx;subst hx;obtain ⟨e,j,m,hc⟩:=Zgw (hq p rfl)
  have h':Rep w lim (.osl e j m) v:=by
   have h0:ZS P w lim X (fun d=>(g d).den ρ) d (Zd (p.den ρ)) v:=h;rw [hc] at h0;exact h0
  obtain ⟨a,cap,hv,_⟩:=ZgN h';refine ⟨a,m,cap,hv,fun hn=>?_⟩;have hl:=Zaf hc
  have key:∀ y v,Rep w lim y v→y = .osl e j m→v = .slice a m cap→m=0:=by
   intro y v hy hye hv
   cases hy with
   | osl0 => cases hye; rfl
   | osl => injection hv with h1 _ _; subst h1; cases hn
   | _ => cases hye
  have hm:=key _ _ h' rfl hv;rw [hm] at hl;exact X7 hl
 rotate_right
 ·simp only [Xf] at hx;subst hx;exact hrep _ _ h
 ·split at hx
  case isFalse=>cases hx
  rename_i hnm;simp only [Xf] at hx;subst hx;rcases Jv.noMap (show Jv P w lim _ _ _ v (X d 0) from h) hnm with ⟨us,h1,_⟩ | ⟨h1,_,a,h2⟩
  ·rcases h1.2 with ⟨hv,hn⟩ | ⟨g,cap,cur,hv,_⟩
   ·exact ⟨Xc,0,0,hv,fun _=>X7 hn⟩
   ·exact ⟨_,_,_,hv,fun h=>by cases h⟩
  ·exact ⟨_,_,_,h2,fun h=>by cases h⟩
 ·rename_i d' q
  cases hp:Jy (g d') q with
  | none => rw [hp] at hx; cases hx
  | some p =>
   rw [hp] at hx;dsimp only at hx;split at hx
   case isFalse=>cases hx
   rename_i hnm;simp only [Xf] at hx;subst hx;obtain ⟨e,xs,h1,h2⟩:=h;have h3:Zy ((g d').den ρ) q=Xa (p.1,p.2.den ρ):=Jw ρ hp;have h1':Zy ((g d').den ρ) q=Xa (e,xs):=h1;rw [h3] at h1';simp only [Xf,Xt] at h1';obtain ⟨he,rfl⟩:=h1';rw [he] at hnm;rcases h2.noMap hnm with ⟨_,h1,h2 | ⟨a,h2⟩⟩ | ⟨b,arr,cap,_,_,_,h2⟩
   ·exact ⟨Xc,0,0,h2,fun _=>X7 h1⟩
   ·exact ⟨_,_,_,h2,fun h=>by cases h⟩
   ·exact ⟨_,_,_,h2,fun h=>by cases h⟩
 ·cases hx
theorem Sim.refit {c:Ctx} {σ σ':Nat→AV} {tm:Array Value} {w:World} {lim lim':Lm} {X:Nat→Nat→Option Nat} {S:Nat→Prop} (h:Sim c σ tm w lim X) (hw:Jh w lim w lim' S) (hS:∀ b,S b→c.A b∨c.w0.heap.size≤b)
  (hrel:∀ i,ZS c.P w lim' X σ' i (σ' i) (tm.getD i undef)) (hout:∀ i,c.nt≤i→σ' i = .dead∨(σ' i).isG=Xb) (hG:∀ i,(σ' i).isG=(σ i).isG) (hB:∀ i cs,σ i = .box cs→∃ cs',σ' i = .box cs') (hmp:∀ d e xs,σ' d = .own Xb e xs→ZhI c.P w lim' e xs (X d))
  (hns:∀ d k e xs b,Jg (σ' d) k=Xa (e,xs)→Zn c.P e=Xb→X d k=Xa b→ZaO c.P w lim' e xs b (X (ngN+b))) (hst:∀ i,(σ' i).isSto=Xb→(σ i).isSto=Xb):Sim c σ' tm w lim' X where
 mp:=hmp
 nst:=hns
 ntN:=h.ntN
 yfr:=h.yfr
 stf:=h.stfW hst
 far d hd:=by
  rcases hout d (XI h.ntN hd) with h1 | h1
  ·exact h1
  ·rw [hG,h.far d hd] at h1;cases h1
 rel:=hrel
 size:=h.size
 out:=hout
 ghost d hd:=h.ghost d (by rw [← hG];exact hd)
 dist:=h.dist
 ours:=h.ours
 frm:=h.frm.step hw hS
 pin d v hv:=by
  obtain ⟨h1,cs,h2⟩:=h.pin d v hv;exact ⟨h1,hB d cs h2⟩
 gpin d b hb:=by
  obtain ⟨h1,h2⟩:=h.gpin d b hb;exact ⟨h1,by rw [hG];exact h2⟩
theorem Sim.freeze {c:Ctx} {σ:Nat→AV} {tm:Array Value} {w:World} {lim:Lm} {X:Nat→Nat→Option Nat} (h:Sim c σ tm w lim X) {d q:Nat} {e:TypeId} {xs:List (List AV)} {us:List (Nat×AV)} (hdn:(σ d).isG=Xe) (hp:Zy (σ d) q=Xa (e,xs))
  (hs0:c.P.cellsOf e≠0) (hnm:Zm c.P e=Xe) (h1:∀ u∈us,u.1≠d∧((σ u.1 = .mref d q∧u.2 = .slice Xe (c.P.cellsOf e) xs)∨((∃ o,σ u.1 = .eref d q o)∧u.2 = .dead))) (h2:∀ i,JB (σ i) d q→i∈us.map (·.1)) :
  ∃ lim',Sim c (JG (upd σ d (ZM (σ d) q Xe e xs)) us) tm w lim' X:=by
 have hnG:∀ cs,σ d≠.gbox cs:=fun cs he=>by rw [he] at hdn;cases hdn
 obtain ⟨v0,ho⟩:=WY h hp;refine ⟨⟨fun b=>if X d q=Xa b then xs.length*c.P.cellsOf e else lim b,lim.t⟩,?_⟩
 have hlim0:∀ b,X d q=Xa b→lim b=0:=by
  intro b hb;rw [hb] at ho;obtain ⟨_,_,_,_,g,_⟩:=Va ho (.inl hnm);exact g
 have hw:Jh w lim w ⟨fun b=>if X d q=Xa b then xs.length*c.P.cellsOf e else lim b,lim.t⟩ (fun b=>X d q=Xa b):=by
  refine ⟨rfl,rfl,rfl,Xy _,fun _ _=>rfl,fun b _ hb=>⟨rfl,if_neg hb⟩,⟨fun b _=>⟨?_,fun _ _ _ hu=>hu⟩,fun _ _ h=>h⟩,rfl⟩;show lim b≤if X d q=Xa b then xs.length*c.P.cellsOf e else lim b;split
  ·rename_i hb;rw [hlim0 b hb];exact X5 _
  ·exact Xy _
 have hnew:∀ v,Jv c.P w lim Xb e xs v (X d q)→Jv c.P w ⟨fun b=>if X d q=Xa b then xs.length*c.P.cellsOf e else lim b,lim.t⟩ Xe e xs v (X d q):=by
  intro v hv;rcases hv.noMap hnm with ⟨ws,g1,g2,g3,g4,g5,g6⟩ | hv
  ·refine .inl ⟨ws,g1,g2,fun b hb=>?_,g4,g5,fun j z u hz hu=>(g6 j z u hz hu).mono hw.ext⟩;show (if X d q=Xa b then xs.length*c.P.cellsOf e else lim b)=_;rw [if_pos hb,if_neg (by simp),g1.1]
  ·exact .inr (.inl hv)
 have hkept:∀ i k b,(i≠d∨k≠q)→X i k=Xa b→Zha w lim w ⟨fun b=>if X d q=Xa b then xs.length*c.P.cellsOf e else lim b,lim.t⟩ b:=by
  intro i k b hik hb;refine ⟨rfl,if_neg fun hb'=>?_⟩;obtain ⟨e1,e2⟩:=h.dist i k d q b hb hb';exact hik.elim (fun h=>h e1) fun h=>h e2
 have hdu:d∉us.map (·.1):=by
  intro hm;obtain ⟨u,hu,rfl⟩:=Xj.1 hm;exact (h1 u hu).1 rfl
 -- what stands where
 have hat:∀ i,i≠d→(i∉us.map (·.1)∧JG (upd σ d (ZM (σ d) q Xe e xs)) us i=σ i)∨
   (σ i = .mref d q∧JG (upd σ d (ZM (σ d) q Xe e xs)) us i = .slice Xe (c.P.cellsOf e) xs)∨((∃ o,σ i = .eref d q o)∧JG (upd σ d (ZM (σ d) q Xe e xs)) us i = .dead):=by
  intro i hi;rw [Jm];by_cases hm:i∈us.map (·.1)
  ·obtain ⟨x,hx⟩:=Vl us i hm;rw [hx];rcases (h1 _ (Zdc us i x hx)).2 with ⟨g1,g2⟩ | ⟨g1,g2⟩
   ·exact .inr (.inl ⟨g1,g2⟩)
   ·exact .inr (.inr ⟨g1,g2⟩)
  ·rw [Y3 us i hm];exact .inl ⟨hm,Ze _ _ hi⟩
 have hatd:JG (upd σ d (ZM (σ d) q Xe e xs)) us d=ZM (σ d) q Xe e xs:=by
  rw [Jm,Y3 us d hdu];exact ZI _ _ _
 have hdG:(ZM (σ d) q Xe e xs).isG=Xe∧(σ d).isG=Xe:=by
  rcases ZK hp with ⟨g1,rfl⟩ | ⟨cs,k,g1,rfl,_⟩ | ⟨cs,k,g1,rfl,_⟩
  case inr.inr=>exact (hnG _ g1).elim
  all_goals rw [g1];exact ⟨rfl,rfl⟩
 have hdB:∀ cs,σ d = .box cs→∃ cs',ZM (σ d) q Xe e xs = .box cs':=by
  intro cs hcs;rcases ZK hp with ⟨g1,rfl⟩ | ⟨cs',k,g1,rfl,_⟩ | ⟨cs,k,g1,rfl,_⟩
  case inr.inr=>exact (hnG _ g1).elim
  ·rw [g1] at hcs;cases hcs
  ·rw [g1];exact ⟨_,rfl⟩
 have hGall:∀ i,(JG (upd σ d (ZM (σ d) q Xe e xs)) us i).isG=(σ i).isG:=by
  intro i;by_cases hi:i=d
  ·subst hi;rw [hatd,hdG.1,hdG.2]
  ·rcases hat i hi with ⟨_,g⟩ | ⟨g,g'⟩ | ⟨⟨o,g⟩,g'⟩
   ·rw [g]
   ·rw [g,g'];rfl
   ·rw [g,g'];rfl
 have hBall:∀ i cs,σ i = .box cs→∃ cs',JG (upd σ d (ZM (σ d) q Xe e xs)) us i = .box cs':=by
  intro i cs hcs;by_cases hi:i=d
  ·subst hi;rw [hatd];exact hdB cs hcs
  ·rcases hat i hi with ⟨_,g⟩ | ⟨g,g'⟩ | ⟨⟨o,g⟩,g'⟩
   ·exact ⟨cs,g.trans hcs⟩
   ·rw [g] at hcs;cases hcs
   ·rw [g] at hcs;cases hcs
 have hmp:∀ i e1 xs1,JG (upd σ d (ZM (σ d) q Xe e xs)) us i = .own Xb e1 xs1→ZhI c.P w ⟨fun b=>if X d q=Xa b then xs.length*c.P.cellsOf e else lim b,lim.t⟩ e1 xs1 (X i):=by
  intro i e1 xs1 he;by_cases hi:i=d
  ·subst hi;rw [hatd] at he;rcases ZK hp with ⟨g1,rfl⟩ | ⟨cs,k,g1,rfl,_⟩ | ⟨cs,k,g1,rfl,_⟩
   ·rw [g1] at he;simp [ZM] at he
   ·rw [g1] at he;simp [ZM] at he
   ·exact (hnG _ g1).elim
  ·rcases hat i hi with ⟨_,g⟩ | ⟨_,g'⟩ | ⟨_,g'⟩
   ·rw [g] at he;exact (h.mp i e1 xs1 he).mono hw.ext fun k b hb=>hkept i k b (.inl hi) hb
   ·rw [g'] at he;cases he
   ·rw [g'] at he;cases he
 have hdf:d < ngN:=by
  rcases XG d ngN with hlt | hge
  ·exact hlt
  ·rw [h.far d hge] at hp;cases hp
 have hns:∀ i k e1 xs1 b,Jg (JG (upd σ d (ZM (σ d) q Xe e xs)) us i) k=Xa (e1,xs1)→Zn c.P e1=Xb→X i k=Xa b→ZaO c.P w ⟨fun b=>if X d q=Xa b then xs.length*c.P.cellsOf e else lim b,lim.t⟩ e1 xs1 b (X (ngN+b)):=by
  intro i k e1 xs1 b m1 m2 m3
  have old:(i≠d∨k≠q)→Jg (σ i) k=Xa (e1,xs1)→ZaO c.P w ⟨fun b=>if X d q=Xa b then xs.length*c.P.cellsOf e else lim b,lim.t⟩ e1 xs1 b (X (ngN+b)):=fun hik ho=>
   (h.nst i k e1 xs1 b ho m2 m3).mono hw.ext (hkept i k b hik m3).1 fun j b' hb'=>hkept (ngN+b) j b' (.inl (by omega)) hb'
  by_cases hi:i=d
  ·subst hi;rw [hatd] at m1;rcases ZK hp with ⟨g1,rfl⟩ | ⟨cs,k',g1,rfl,g2⟩ | ⟨cs,k',g1,rfl,_⟩
   case inr.inr=>exact (hnG _ g1).elim
   ·rw [g1] at m1
    cases k with
    | zero => cases m1
    | succ k => cases m1
   ·rw [g1] at m1;rcases Ky m1 with ⟨_,m4⟩ | ⟨m4,m5⟩
    ·cases m4
    ·exact old (.inr m4) (by rw [g1];exact m5)
  ·rcases hat i hi with ⟨_,g⟩ | ⟨_,g'⟩ | ⟨_,g'⟩
   ·rw [g] at m1;exact old (.inl hi) m1
   ·rw [g'] at m1;cases k<;>first | cases m1 | exact (Jb m1 rfl).elim
   ·rw [g'] at m1;cases k<;>first | cases m1 | exact (Jb m1 rfl).elim
 have hstA:∀ i,(JG (upd σ d (ZM (σ d) q Xe e xs)) us i).isSto=Xb→(σ i).isSto=Xb:=fun i hi=>by
  by_cases hid:i=d
  ·subst hid;rw [hatd] at hi;rcases ZK hp with ⟨g1,rfl⟩ | ⟨cs,k',g1,rfl,g2⟩ | ⟨cs,k',g1,rfl,_⟩
   case inr.inr=>exact (hnG _ g1).elim
   ·rw [g1] at hi;cases hi
   ·rw [g1] at hi;cases hi
  ·rcases hat i hid with ⟨_,g⟩ | ⟨_,g'⟩ | ⟨_,g'⟩
   ·rw [g] at hi;exact hi
   ·rw [g'] at hi;cases hi
   ·rw [g'] at hi;cases hi
 refine h.refit hw (fun b hb=>(h.ours d q b hb).2) (fun i=>?_) (fun i hi=>?_) hGall hBall hmp hns hstA
 ·by_cases hi:i=d
  ·subst hi;rw [hatd];have hr:=h.rel i;rcases ZK hp with ⟨g1,rfl⟩ | ⟨cs,k,g1,rfl,g2⟩ | ⟨cs,k,g1,rfl,_⟩
   case inr.inr=>exact (hnG _ g1).elim
   ·rw [g1] at hr ⊢;exact hnew _ hr
   ·rw [g1] at hr ⊢;obtain ⟨b,arr,t,k1,k2,k3,k4,k5,k6,k7⟩:=(show Z0 c.P w lim (X i) cs _ from hr);refine ⟨b,arr,t,k1,k2,k3,by rw [List.length_set];exact k4,((hkept i 0 b (.inr (by omega)) k1).2).trans k5,fun x hx=>?_,fun j x u hx hu=>?_⟩
    ·rcases List.mem_or_eq_of_mem_set hx with hx | hx
     ·exact k6 x hx
     ·exact .inr (.inl ⟨_,_,_,hx⟩)
    ·by_cases hj:j=k
     ·subst hj;rw [Wi (Xk.1 g2).1] at hx;simp only [Xf] at hx;subst hx;exact hnew u (k7 j _ u g2 hu)
     ·rw [Wn (fun h=>hj h.symm)] at hx;exact (k7 j x u hx hu).mono hw.ext fun b' hb'=>hkept i (j+1) b' (.inr (by omega)) hb'
  ·rcases hat i hi with ⟨hm,g⟩ | ⟨g,g'⟩ | ⟨⟨o,g⟩,g'⟩
   ·rw [g];have hr:=(h.rel i).mono hw.ext (fun k b hb=>hkept i k b (.inl hi) hb) (fun d' k b _ _=>.of rfl) fun _ _=>rfl;refine hr.chg rfl (fun d' cs hd'=>⟨hBall d' cs hd',rfl⟩) (fun d' hd'=>⟨by rw [hGall];exact hd',rfl⟩) fun d' k hrf=>⟨?_,rfl⟩;by_cases hdd:d'=d
    ·subst hdd;rw [hatd];have hkq:k≠q:=fun he=>hm (h2 i (he ▸ hrf));intro e' ys hy;rcases ZK hy with ⟨m1,rfl⟩ | ⟨cs,k',m1,rfl,m2⟩ | ⟨_,_,m1,_⟩
     case inr.inr=>exact (hnG _ m1).elim
     ·rcases ZK hp with ⟨_,h0⟩ | ⟨_,_,h0,_⟩ | ⟨_,_,h0,_⟩
      case inr.inr=>exact (hnG _ h0).elim
      ·exact (hkq h0.symm).elim
      ·rw [m1] at h0;cases h0
     ·rcases ZK hp with ⟨h0,_⟩ | ⟨cs2,q',h0,rfl,_⟩ | ⟨_,_,h0,_⟩
      case inr.inr=>exact (hnG _ h0).elim
      ·rw [m1] at h0;cases h0
      ·refine ⟨ys,?_,rfl⟩;rw [m1];simp only [ZM,Zy];rw [Wn (by omega),m2]
    ·rcases hat d' hdd with ⟨_,m⟩ | ⟨m,m'⟩ | ⟨⟨o,m⟩,m'⟩
     ·rw [m];exact Vm.refl _ _
     ·intro e' ys hy;rw [m] at hy;cases hy
     ·intro e' ys hy;rw [m] at hy;cases hy
   ·rw [g'];have hr:=h.rel i;rw [g] at hr;obtain ⟨e',xs',k1,k2⟩:=hr;rw [hp] at k1;simp only [Xf,Xt] at k1;obtain ⟨rfl,rfl⟩:=k1;show Rep w _ _ _;rcases k2.noMap hnm with ⟨_,k2,k3 | ⟨a,k3⟩⟩ | ⟨b,arr,cap,k2,k3,k4,k5⟩
    ·have:xs = []:=X7 k2;subst this;rw [k3];exact .sliceN
    ·have:xs = []:=X7 k2;subst this;rw [k3];exact .sliceE fun h=>by cases h
    ·have ho':=ho;rw [k2] at ho';obtain ⟨arr0,cap0,m1,m2,_,_,_,m6,_⟩:=Va ho' (.inl hnm);rw [k3] at m2;simp only [Xf,Obj.cells.injEq,and_true] at m2;subst m2;have hcap:cap=cap0:=Nat.eq_of_mul_eq_mul_right (by omega) (k4.symm.trans m6);subst hcap;rw [k5,← m1];exact Jv.rep (hnew v0 ho) Xe rfl
   ·rw [g'];trivial
 ·by_cases hid:i=d
  ·subst hid;rcases h.out i hi with h0 | h0
   ·rw [h0] at hp;cases hp
   ·rw [hdG.2] at h0;cases h0
  ·rcases hat i hid with ⟨_,g⟩ | ⟨g,_⟩ | ⟨⟨o,g⟩,_⟩
   ·rw [g];exact h.out i hi
   ·rcases h.out i hi with h0 | h0<;>rw [g] at h0<;>cases h0
   ·rcases h.out i hi with h0 | h0<;>rw [g] at h0<;>cases h0
theorem ZgC {P:Program} {E:Env} (hnt:E.top≤1024) {c:Ctx} (hcP:c.P=P) {s:Tr} {n:Nat} {ρ:Nat→V} (p:Nat×Nat) {tm:Array Value} {w:World} (hs:Wx E s n) (h:∃ lim X,Sim c (Z2 E s ρ) tm w lim X) :
  Wx E (WA P E s p) n∧∃ lim X,Sim c (Z2 E (WA P E s p) ρ) tm w lim X:=⟨hs,h⟩
theorem ZiZ {E:Env} (hnt:E.top≤1024) {c:Ctx} {used:List Nat} {s:Tr} {n:Nat} {ρ:Nat→V} (d:Nat) {tm:Array Value} {w:World} (hs:Wx E s n) (h:∃ lim X,Sim c (Z2 E s ρ) tm w lim X) :
  Wx E (Zcg E used s d) n∧∃ lim X,Sim c (Z2 E (Zcg E used s d) ρ) tm w lim X:=by
 unfold Zcg;split
 ·rename_i e l hp;split
  ·rename_i hh
   have hlow:Zb0 E ((d,.dead)::Jz (gE E s) d E.top):=by
    unfold Zb0;rw [XD];intro u hu;rcases Xq.1 hu with rfl | hu
    ·simpa using J0 hh.1
    ·simpa using ((JS E.top u).1 hu).2.1
   refine ⟨Y7 hnt _ _ hlow hs fun u hu=>?_,?_⟩
   ·rcases Xq.1 hu with rfl | hu
    ·trivial
    ·rw [((JS E.top u).1 hu).1];trivial
   ·obtain ⟨lim,X,hsim⟩:=h;rw [KK hnt _ _ _ hlow];have hd:VM (Z2 E s ρ) d ((Jz (gE E s) d E.top).map fun u=>(u.1,u.2.den ρ)):=Yu (g:=gE E s) ρ (Zfz s);obtain ⟨X',h1,_⟩:=hsim.freeAll (t:=d) (x:=Xb) (e:=e) (xs:=l.den ρ) (by show (gE E s d).den ρ=_;rw [hp];rfl) (.inr hd);exact ⟨lim,X',h1⟩
  ·exact ⟨hs,h⟩
 ·exact ⟨hs,h⟩
theorem ZgB {P:Program} {E:Env} (hnt:E.top≤1024) {c:Ctx} (hcP:c.P=P) {id:Nat} {ops:Array Oper} {s:Tr} {n:Nat} {ρ:Nat→V} {tm:Array Value} {w:World} {lim:Lm} {X:Nat→Nat→Option Nat} (hs:Wx E s n) (h:Sim c (Z2 E s ρ) tm w lim X) :
  Wx E (ZuF P E id ops s) n∧∃ lim X,Sim c (Z2 E (ZuF P E id ops s) ρ) tm w lim X:=by
 have step1:∀ (l:List (Nat×Nat)) (s:Tr),Wx E s n→(∃ lim X,Sim c (Z2 E s ρ) tm w lim X)→Wx E (l.foldl (WA P E) s) n∧∃ lim X,Sim c (Z2 E (l.foldl (WA P E) s) ρ) tm w lim X:=by
  intro l
  induction l with
  | nil => exact fun s h1 h2 => ⟨h1, h2⟩
  | cons p l ih =>
   intro s h1 h2;obtain ⟨g1,g2⟩:=ZgC hnt hcP p h1 h2;exact ih _ g1 g2
 have step2:∀ (l:List Nat) (s:Tr),Wx E s n→(∃ lim X,Sim c (Z2 E s ρ) tm w lim X)→Wx E (l.foldl (Zcg E (Zjf ops)) s) n∧∃ lim X,Sim c (Z2 E (l.foldl (Zcg E (Zjf ops)) s) ρ) tm w lim X:=by
  intro l
  induction l with
  | nil => exact fun s h1 h2 => ⟨h1, h2⟩
  | cons p l ih =>
   intro s h1 h2;obtain ⟨g1,g2⟩:=ZiZ hnt p h1 h2;exact ih _ g1 g2
 obtain ⟨g1,g2⟩:=step1 (E.fz id) s hs ⟨lim,X,h⟩;exact step2 (Zxb ops) _ g1 g2
section
variable {P:Program} {E:Env} {R:AV→List AV→Prop}
def Zni (lv:Nat) (A A':Nat→List V→Prop):Prop:=∀ i,i < lv→A' i=A i
theorem Zq0 (hm:P.follows .mixedOrders=Xb) (hps:EnvSound P E) (hnt:E.top≤1024) {c:Ctx} (hcP:c.P=P) (hcn:c.nt=E.nt) (hpin:∀ d v,c.pin d=Xa v→d∈E.pins) (hgpin:∀ d b,c.gpin d=Xa b→E.nt≤d∧d < E.top) :
  ∀ (code:Code) (lv n:Nat) (s:Tr) (kn:Tr→Nat→STree) (kx:Nat→Tr→Nat→STree) (kr:Tr→Nat→STree) (A:Nat→List V→Prop) (ρ:Nat→V) (tm:Array Value) (w:World) (lim:Lm) (X:Nat→Nat→Option Nat)
   (Q:Exit→Act→World→Prop),Wx E s n→(ev P E lv code s n kn kx kr).wp P R A ρ→Sim c (Z2 E s ρ) tm w lim X→
   (∀ s' n' ρ' A',Zni lv A A'→Wx E s' n'→(kn s' n').wp P R A' ρ'→∀ tm' w' lim' X',Sim c (Z2 E s' ρ') tm' w' lim' X'→Q .normal ⟨tm',[]⟩ w')→
   (∀ id s' n' ρ' A',Zni lv A A'→Wx E s' n'→(kx id s' n').wp P R A' ρ'→∀ tm' w' lim' X',Sim c (Z2 E s' ρ') tm' w' lim' X'→Q (.exit id) ⟨tm',[]⟩ w')→
   (∀ s' n' ρ' A',Zni lv A A'→Wx E s' n'→(kr s' n').wp P R A' ρ'→∀ tm' w' lim' X',Sim c (Z2 E s' ρ') tm' w' lim' X'→Q .ret ⟨tm',[]⟩ w')→
   code.wp P Q ⟨tm,[]⟩ w:=by
 intro code
 induction code with
 | skip => intro lv n s kn kx kr A ρ tm w lim X Q hs h hsim hn hx hr; exact wp_skip (hn s n ρ A (fun _ _ => rfl) hs h tm w lim X hsim)
 | label l => intro lv n s kn kx kr A ρ tm w lim X Q hs h hsim hn hx hr; exact wp_label (hn s n ρ A (fun _ _ => rfl) hs h tm w lim X hsim)
 | exit id => intro lv n s kn kx kr A ρ tm w lim X Q hs h hsim hn hx hr; exact wp_exit (hx id s n ρ A (fun _ _ => rfl) hs h tm w lim X hsim)
 | ret => intro lv n s kn kx kr A ρ tm w lim X Q hs h hsim hn hx hr; exact wp_ret (hr s n ρ A (fun _ _ => rfl) hs h tm w lim X hsim)
 | seq a b iha ihb =>
  intro lv n s kn kx kr A ρ tm w lim X Q hs h hsim hn hx hr;refine wp_seq (iha lv n s _ kx kr A ρ tm w lim X _ hs h hsim ?_ hx hr);intro s' n' ρ' A' hA hs' h' tm' w' lim' X' hsim'
  exact ihb lv n' s' kn kx kr A' ρ' tm' w' lim' X' Q hs' h' hsim' (fun s2 n2 ρ2 A2 hA2=>hn s2 n2 ρ2 A2 fun i hi=>(hA2 i hi).trans (hA i hi))
   (fun id s2 n2 ρ2 A2 hA2=>hx id s2 n2 ρ2 A2 fun i hi=>(hA2 i hi).trans (hA i hi)) (fun s2 n2 ρ2 A2 hA2=>hr s2 n2 ρ2 A2 fun i hi=>(hA2 i hi).trans (hA i hi))
 | cond x a b iha ihb =>
  intro lv n s kn kx kr A ρ tm w lim X Q hs h hsim hn hx hr;simp only [ev] at h;split at h
  ·rename_i t ht;have hxt:x = .tmp t:=by cases x<;>simp [ZY] at ht;rw [ht]
   subst hxt
   have heval:∀ v:BE,gE E s t = .c (.bool v)→Act.eval ⟨tm,[]⟩ (.tmp t) = .bool (v.den ρ):=by
    intro v hv;have hrel:=hsim.rel t;have:Z2 E s ρ t = .val (.bool (v.den ρ)):=by simp only [Z2,hv,SV.den,SC.den]
    rw [this] at hrel;exact YU hrel
   split at h
   ·rename_i v hv;have he:=heval _ hv;simp only [BE.den] at he;split at h
    ·rename_i hvt;subst hvt;exact wp_cond_true he (iha lv n s kn kx kr A ρ tm w lim X Q hs h hsim hn hx hr)
    ·rename_i hvt;have:v=Xe:=by simpa using hvt
     subst this;exact wp_cond_false he (ihb lv n s kn kx kr A ρ tm w lim X Q hs h hsim hn hx hr)
   ·rename_i v _ hv;refine wp_cond_split (heval v hv) (fun hv'=>?_) fun hv'=>?_
    ·obtain ⟨hlt,hsame⟩:=ZaD hnt hv hv';exact iha lv n _ kn kx kr A ρ tm w lim X Q (JJ (x:=.c (.bool (.lit Xb))) hnt hlt hs trivial) (h.1 hv') (by rw [hsame];exact hsim) hn hx hr
    ·obtain ⟨hlt,hsame⟩:=ZaD hnt hv hv';exact ihb lv n _ kn kx kr A ρ tm w lim X Q (JJ (x:=.c (.bool (.lit Xe))) hnt hlt hs trivial) (h.2 hv') (by rw [hsame];exact hsim) hn hx hr
   ·exact h.elim
  ·exact h.elim
 | block id body ih =>
  intro lv n s kn kx kr A ρ tm w lim X Q hs h hsim hn hx hr;refine wp_block (ih lv n s kn _ kr A ρ tm w lim X _ hs h hsim hn ?_ hr);intro id' s' n' ρ' A' hA hs' h' tm' w' lim' X' hsim';unfold Exit.inBlock;by_cases hid:id'=id
  ·rw [if_pos hid] at h';simp only [hid,if_true];exact hn s' n' ρ' A' hA hs' h' tm' w' lim' X' hsim'
  ·rw [if_neg hid] at h';simp only [hid,if_false];exact hx id' s' n' ρ' A' hA hs' h' tm' w' lim' X' hsim'
 | scope body ih =>
  intro lv n s kn kx kr A ρ tm w lim X Q hs h hsim hn hx hr;exact wp_scope_straight (ih lv n s kn kx kr A ρ tm w lim X _ hs h hsim hn hx hr)
 | loop body ih =>
  intro lv n s kn kx kr A ρ tm w lim X Q hs h hsim hn hx hr;simp only [ev] at h;split at h
  case isFalse=>exact h.elim
  rename_i hok;split at h
  case h_2=>exact h.elim
  rename_i init hinit;obtain ⟨I,m,h0,hround⟩:=h
  have hlen:∀ {s':Tr} {ves:List VE},Kz P (gE E s') (E.keep (Jj body))=Xa ves→(Z8 (E.keep (Jj body)) 0).2=ves.length:=by
   intro s' ves hv;have:=(V0 (P:=P) (g:=gE E s') (ρ:=ρ) _ 0 ves [] hv rfl).1;omega
  have key:∀ (k:Nat) (vs:List V) (tm:Array Value) (w:World) (lim:Lm) (X:Nat→Nat→Option Nat),m vs < k→vs.length=init.length→I vs→
    Sim c (Z2 E (JV (Z8 (E.keep (Jj body)) 0).1 (.leaf .dead)) (bind Zhx 0 vs)) tm w lim X→Code.rounds P body Q k ⟨tm,[]⟩ w:=by
   intro k
   induction k with
   | zero => intro vs tm w lim X hlt; omega
   | succ k ihk =>
    intro vs tm w lim X hlt hlv hI hsim;rw [rounds_succ];obtain ⟨k1,k2,k3,k4,k5,k6⟩:=ZaT hok
    have hbd:Wx E (JV (Z8 (E.keep (Jj body)) 0).1 (.leaf .dead)) (Z8 (E.keep (Jj body)) 0).2:=by
     refine Y7 hnt _ _ ?_ (fun d=>?_) (ZeW _ 0).2
     ·unfold Zb0;rw [XD];intro u hu;have h2:=(V0 (P:=P) (g:=gE E s) (ρ:=ρ) _ 0 init [] hinit rfl).2.1;have hm:u.1∈(E.keep (Jj body)).map (·.1):=by rw [← h2];exact Xj.2 ⟨u,hu,rfl⟩
      obtain ⟨p,hp,he⟩:=Xj.1 hm;have:=(k2 p hp).1;rw [he] at this;simpa using this
     ·unfold gE;split<;>trivial
    refine ih (lv+1) _ _ _ kx kr _ (bind Zhx 0 vs) tm w lim X _ hbd (hround vs hlv hI) hsim ?_ ?_ ?_
    ·intro s' n' ρ' A' hA hs' h' tm' w' lim' X' hsim';split at h'
     ·rename_i vals hvals
      have hAl:A' lv=fun vs'=>I vs'∧m vs' < m vs:=by
       rw [hA lv (Uj _)];funext vs';simp only [ZvH,if_true]
      have h'':A' lv (vals.map (VE.den ρ')):=h';rw [hAl] at h'';obtain ⟨hI',hm'⟩:=h'';obtain ⟨X2,hs2⟩:=ZlT hnt hcP hcn hpin hgpin hok Zhx hvals hsim';exact ihk _ tm' w' lim' X2 (by omega) (by rw [Xr,← hlen hvals,hlen hinit]) hI' hs2
     ·exact h'.elim
    ·intro id s' n' ρ' A' hA hs' h' tm' w' lim' X' hsim';exact hx id s' n' ρ' A' (fun i hi=>by rw [hA i (by omega)];funext vs';simp only [ZvH,Nat.ne_of_lt hi,if_false]) hs' h' tm' w' lim' X' hsim'
    ·intro s' n' ρ' A' hA hs' h' tm' w' lim' X' hsim';exact hr s' n' ρ' A' (fun i hi=>by rw [hA i (by omega)];funext vs';simp only [ZvH,Nat.ne_of_lt hi,if_false]) hs' h' tm' w' lim' X' hsim'
  obtain ⟨X0,hs0⟩:=ZlT hnt hcP hcn hpin hgpin hok Zhx hinit hsim;exact wp_loop_rounds _ (key (m (init.map (VE.den ρ))+1) _ tm w lim X0 (Uj _) (by rw [Xr]) h0 hs0)
 | region id ops draw =>
  intro lv n s0 kn kx kr A ρ tm w lim0 X0 Q hs0 h hsim0 hn hx hr;simp only [ev] at h;obtain ⟨hs,lim,X,hsim⟩:=ZgB (P:=P) hnt hcP (id:=id) (ops:=ops) hs0 hsim0;generalize ZuF P E id ops s0=s at h hs hsim;split at h
  ·rename_i f hf;split at hf
   ·cases hf
   ·cases hf
  rename_i hpn;clear hpn;split at h
  ·rename_i x a d T neg htest;split at h
   case h_2=>exact h.elim
   rename_i e l hT hl;split at h
   case isFalse=>exact h.elim
   rename_i hh;obtain ⟨ha,hd,hma,hmd,had,hxa⟩:=hh;obtain ⟨o,p,U,hops,hgo,hgp,h1,h2,h3,h4⟩:=Zhn htest
   have hnq:(∀ p,gE E s x = .c (.cel p)→(ptE .pisl p).den ρ≠[])∧(STree.nilq l n (kn ((s.set depth a .dead).set depth d (.c (.bool (if neg=Xb then .not (.var n) else .var n)))) (n+1))).wp P R A ρ:=by
    unfold Zr4 at h;split at h
    ·rename_i p hgp;exact ⟨fun p' hp'=>by rw [hgp] at hp';cases hp';exact h.1,h.2⟩
    ·rename_i hno;exact ⟨fun p' hp'=>(hno p' hp').elim,h⟩
   obtain ⟨hnq,h⟩:=hnq;obtain ⟨va,k,cap,hv,hnil⟩:=Zl3 hl hnq (show ZS P w lim X (Z2 E s ρ) x (Z2 E s ρ x) (tm.getD x undef) from hcP ▸ hsim.rel x);have hsz:ops.size=2:=by rw [← UD,hops];rfl
   have ho0:ops[0]? = Xa o:=by rw [← Wg,hops];rfl
   have ho1:ops[1]? = Xa p:=by rw [← Wg,hops];rfl
   refine wp_region ?_;rw [hsz,show Ua 2 = [0,1] from rfl,wpOps_cons];unfold wpOp;simp only [ho0,Region.wanted,hgo];simp only [if_true];refine .inl (Zj (v:=.slice va k cap) (w':=w) ?_ ?_)
   ·have hev:Act.eval ⟨tm,[]⟩ (.tmp x)=tm.getD x undef:=rfl;simp only [execOp,h1,hev,hv,Sem.run_pure]
   ·rw [wpOps_cons];unfold wpOp;simp only [ho1,Region.wanted,hgp];simp only [if_true]
    have hea:Act.eval (Act.put ⟨tm,[]⟩ o.dst (.slice va k cap)) (.tmp a) = .slice va k cap:=by
     rw [h2];exact J2 tm a _ (by rw [hsim.size,hcn];exact ha)
    refine .inl (Zj (v:=.bool (if neg=Xb then !va.isNone else va.isNone)) (w':=w) ?_ ?_)
    ·have hec:Act.eval (Act.put ⟨tm,[]⟩ o.dst (.slice va k cap)) (.const (.slice Xc 0 0)) = .slice Xc 0 0:=rfl;have heq:=run_equal_slice_nil (P:=P) w T _ va k cap hT
     cases neg
     ·simp [execOp,h3,hea,hec,eqGuard,binOp,heq]
     ·simp [execOp,h3,hea,hec,eqGuard,binOp,heq]
    ·have hb:=h va.isNone hnil;have hna:V3 (Z2 E s ρ a):=ZW (JW (a:=gE E s a) (b:=.dead) ρ hma);have hnd:V3 (Z2 E s ρ d):=ZW (JW (a:=gE E s d) (b:=.dead) ρ hmd);have s1:=hsim.put (k:=0) (x:=.dead) (v:=.slice va k cap) (by rw [hcn];exact ha) hna rfl trivial;have s2:=s1.put (d:=d) (k:=0) (x:=.val (.bool (if neg=Xb then !va.isNone else va.isNone))) (v:=.bool (if neg=Xb then !va.isNone else va.isNone)) (by rw [hcn];exact hd) (by rw [Ze _ _ (Ne.symm had)];exact hnd) rfl (Rep.val rfl)
     have hbv:(BE.den (bind ρ n [.b va.isNone]) (if neg=Xb then .not (.var n) else .var n))=(if neg=Xb then !va.isNone else va.isNone):=by
      have hvar:bind ρ n [.b va.isNone] n = .b va.isNone:=by simp [bind]
      cases neg
      ·simp only [UF,if_false,BE.den,hvar,V.bool]
      ·simp only [if_true,BE.den,hvar,V.bool]
     have hσ:Z2 E ((s.set depth a .dead).set depth d (.c (.bool (if neg=Xb then .not (.var n) else .var n)))) (bind ρ n [.b va.isNone])=upd (upd (Z2 E s ρ) a .dead) d (.val (.bool (if neg=Xb then !va.isNone else va.isNone))):=by
      rw [J4 hnt (J0 hd),J4 hnt (J0 ha),Zfr hs (Zeq ρ n _)];simp only [SV.den,SC.den,hbv]
     have hs2:Wx E ((s.set depth a .dead).set depth d (.c (.bool (if neg=Xb then .not (.var n) else .var n)))) (n+1):=by
      refine JJ hnt (J0 hd) (JJ hnt (J0 ha) (Zit hs (Nat.le_succ n)) trivial) ?_
      cases neg
      ·exact Uj n
      ·exact Uj n
     rw [h2,h4];show Q .normal ⟨(tm.setIfInBounds a (.slice va k cap)).setIfInBounds d (.bool (if neg=Xb then !va.isNone else va.isNone)),[]⟩ w;exact hn _ _ _ A (fun _ _=>rfl) hs2 hb _ w lim _ (by rw [hσ];exact s2)
  ·split at h
   ·rename_i x i a b cc T htest _;split at h
    case h_3=>exact h.elim
    case h_2=>
     rename_i e p ie hT hgx hgi;split at h
     case h_2=>exact h.elim
     rename_i inf d l sh hinf hl hsh;split at h
     case h_2=>exact h.elim
     rename_i z hz;split at h
     case h_2=>exact h.elim
     rename_i zc hzc;split at h
     case h_2=>exact h.elim
     rename_i zc' hzc';split at h
     case isFalse=>exact h.elim
     rename_i hh;obtain ⟨hzs,h0,hok⟩:=hh;simp only [Zgu,Xs,decide_eq_true_eq] at hok;obtain ⟨⟨hxn,han,hbn,hcn',hxa,hxb,hxc,hia,hab,hac,hbc⟩,hma,hmb,hmc⟩:=hok;obtain ⟨r0,r1,r2,h⟩:=h;have hgd:=ZaE hl
     have hdt:d < E.top:=by
      rcases XG d E.top with h | h
      ·exact h
      ·have:gE E s d = .dead:=Zfz s d h;rw [hgd] at this;cases this
     have hda:d≠a:=fun e=>by rw [← e,hgd] at hma;cases hma
     have hdb:d≠b:=fun e=>by rw [← e,hgd] at hmb;cases hmb
     have hdc:d≠cc:=fun e=>by rw [← e,hgd] at hmc;cases hmc
     have hokv:=Zbg (show okL (Zex e inf.size (l.den ρ) (Zd (p.den ρ)))≠[] from r0);obtain ⟨e',j,m,hce⟩:=Zf5 hokv;have r1':(0:Int)≤ie.den ρ:=r1;have r2':ie.den ρ≤(((ptE .plen p).den ρ).length:Int):=r2;rw [Zaf hce] at r2';obtain ⟨o,p0,q,r,hops,hgo,hgp,hgq,hgr,h1,h2,h3,h4,h5,h6,⟨cl,h7,h9,h10,h11⟩,h8⟩:=Zav htest;have hσx:Z2 E s ρ x=Zd (p.den ρ):=by show (gE E s x).den ρ=_;rw [hgx];rfl
     have hσi:Z2 E s ρ i = .val (.int .i64 (ie.den ρ)):=by show (gE E s i).den ρ=_;rw [hgi];rfl
     have hσd:Z2 E s ρ d = .store (l.den ρ):=by show (gE E s d).den ρ=_;rw [hgd];rfl
     have hrx:Rep w lim (Zd (p.den ρ)) (tm.getD x undef):=by
      have:=hsim.rel x;rw [hσx] at this;exact K2 (Q:=fun z=>ZS c.P w lim X (Z2 E s ρ) x z (tm.getD x undef)→Rep w lim z (tm.getD x undef)) _ (fun _ _ h=>h) (fun _ _ _ h=>h) (fun _ h=>h) (fun _ _ h=>h) this
     have hzd:=YF ρ z.cells.toList;rw [hzc] at hzd;have hzr0:∀ (w:World) (lim:Lm),JI w lim (zc.map (SC.den ρ)) z.cells.toList:=fun w lim=>JX (h:=hzd.symm);have hzr:∀ (w:World) (lim:Lm),JI w lim (zc'.map (SC.den ρ)) z.cells.toList:=fun w lim=>Zel ρ _ _ _ hzc' w lim _ (hzr0 w lim)
     have h1z:∀ v∈z.cells.toList,v.oneCell'=Xb:=by
      intro v hv;obtain ⟨j,hj⟩:=XO.1 hv;have hjl:=(Xk.1 hj).1;have hr0:=hzr0 w lim;have hjz:j < (zc.map (SC.den ρ)).length:=by rw [hr0.1];exact hjl
      exact (hr0.2.2 j _ v (Xp hjz) hj).oneCell (hr0.2.1 _ (Uc hjz))
     obtain ⟨v2,w',X',hsl,hcl,hs'⟩:=Zl4 hsim (d:=d) (x:=x) (n:=(ie.den ρ).toNat) (T:=T) (zc:=zc'.map (SC.den ρ)) hσd hrx (JD _) hokv (by rw [hcP];exact hT) (by rw [hcP];exact hinf) hz hzs hzr h1z (by rw [hce];show (ie.den ρ).toNat≤m;omega);rw [hcP] at hsl hcl
     have hvi:tm.getD i undef = .int .i64 (ie.den ρ):=by
      have:=hsim.rel i;rw [hσi] at this;exact YU (show Rep w lim _ _ from this)
     have hin:((ie.den ρ).toNat:Int)=ie.den ρ:=by omega
     rw [hin] at hsl;have hsz:ops.size=4:=by rw [← UD,hops];rfl
     have ho0:ops[0]? = Xa o:=by rw [← Wg,hops];rfl
     have ho1:ops[1]? = Xa p0:=by rw [← Wg,hops];rfl
     have ho2:ops[2]? = Xa q:=by rw [← Wg,hops];rfl
     have ho3:ops[3]? = Xa r:=by rw [← Wg,hops];rfl
     have hts:tm.size=E.nt:=by rw [hsim.size,hcn]
     refine wp_region ?_;rw [hsz,show Ua 4 = [0,1,2,3] from rfl,wpOps_cons];unfold wpOp;simp only [ho0,Region.wanted,hgo];simp only [if_true];refine .inl (Zj (v:=tm.getD x undef) (w':=w) ?_ ?_)
     ·have hev:Act.eval ⟨tm,[]⟩ (.tmp x)=tm.getD x undef:=rfl;simp only [execOp,h1,hev,Sem.run_pure]
     rw [wpOps_cons];unfold wpOp;simp only [ho1,Region.wanted,hgp];simp only [if_true]
     have e1:Act.eval (Act.put ⟨tm,[]⟩ o.dst (tm.getD x undef)) (.tmp i) = .int .i64 (ie.den ρ):=by
      rw [h2];exact (Z3 tm a i _ hia).trans hvi
     refine .inl (Zj (v:=.int .i64 (ie.den ρ)) (w':=w) ?_ ?_)
     ·simp only [execOp,h3,e1,Sem.run_pure]
     rw [wpOps_cons];unfold wpOp;simp only [ho2,Region.wanted,hgq];simp only [if_true]
     have e2:Act.eval (Act.put (Act.put ⟨tm,[]⟩ o.dst (tm.getD x undef)) p0.dst (.int .i64 (ie.den ρ))) (.tmp a)=tm.getD x undef:=by
      rw [h2,h4];exact (Z3 _ b a _ hab).trans (J2 tm a _ (by rw [hts];exact han))
     have e3:Act.eval (Act.put (Act.put ⟨tm,[]⟩ o.dst (tm.getD x undef)) p0.dst (.int .i64 (ie.den ρ))) (.tmp b) = .int .i64 (ie.den ρ):=by
      rw [h2,h4];exact J2 _ b _ (by show b < (tm.setIfInBounds a _).size;rw [U0,hts];exact hbn)
     refine .inl (Zj (v:=v2) (w':=w) ?_ ?_)
     ·simp only [execOp,h5,Xw,Option.map_none,Sem.run_bind,e2,e3,hsl,Result.andThen_ok,Sem.run_pure]
     rw [wpOps_cons];unfold wpOp;simp only [ho3,Region.wanted,hgr];simp only [if_true]
     have e4:Act.eval (Act.put (Act.put (Act.put ⟨tm,[]⟩ o.dst (tm.getD x undef)) p0.dst (.int .i64 (ie.den ρ))) q.dst v2) (.tmp cc)=v2:=by
      rw [h2,h4,h6];exact J2 _ cc _ (by show cc < ((tm.setIfInBounds a _).setIfInBounds b _).size;rw [U0,U0,hts];exact hcn')
     refine .inl (Zj (v:=.tuple #[]) (w':=w') ?_ ?_)
     ·simp only [execOp,h7,h9,h10,h11,resolve,invoke,builtin,Sem.run_bind,Sem.run_pure,Result.andThen_ok,Ws,Xh,XF,e4,hcl]
     have hna:V3 (Z2 E s ρ a):=ZW (JW (a:=gE E s a) (b:=.dead) ρ hma);have hnb:V3 (Z2 E s ρ b):=ZW (JW (a:=gE E s b) (b:=.dead) ρ hmb);have hnc:V3 (Z2 E s ρ cc):=ZW (JW (a:=gE E s cc) (b:=.dead) ρ hmc);have s1:=hs'.put (d:=a) (k:=0) (x:=.dead) (v:=tm.getD x undef) (by rw [hcn];exact han) (by rw [Ze _ _ (Ne.symm hda)];exact hna) rfl trivial;have s2:=s1.put (d:=b) (k:=0) (x:=.dead) (v:=.int .i64 (ie.den ρ)) (by rw [hcn];exact hbn) (by rw [Ze _ _ (Ne.symm hab),Ze _ _ (Ne.symm hdb)];exact hnb) rfl trivial;have s3:=s2.put (d:=cc) (k:=0) (x:=.dead) (v:=v2) (by rw [hcn];exact hcn') (by rw [Ze _ _ (Ne.symm hbc),Ze _ _ (Ne.symm hac),Ze _ _ (Ne.symm hdc)];exact hnc) rfl trivial
     have hlist:(stE (.clr inf.size) l ie p (Zb5 zc')).den ρ=Zso inf.size (l.den ρ) (Zd (p.den ρ)) (ie.den ρ).toNat (zc'.map (SC.den ρ)):=by
      show Zso inf.size (l.den ρ) (Zd (p.den ρ)) (ie.den ρ).toNat ((Zb5 zc').den ρ)=_;rw [YI]
     have bx:(gE E s x).bd n:=hs x;have bi:(gE E s i).bd n:=hs i;have bd:(gE E s d).bd n:=hs d;rw [hgx] at bx;rw [hgi] at bi;rw [hgd] at bd
     have hσ:Z2 E ((((s.set depth d (.store (stE (.clr inf.size) l ie p (Zb5 zc')))).set depth a .dead).set depth b .dead).set depth cc .dead) ρ=upd (upd (upd (upd (Z2 E s ρ) d (.store (Zso inf.size (l.den ρ) (Zd (p.den ρ)) (ie.den ρ).toNat (zc'.map (SC.den ρ))))) a .dead) b .dead) cc .dead:=by
      rw [J4 hnt (J0 hcn'),J4 hnt (J0 hbn),J4 hnt (J0 han),J4 hnt hdt];simp only [SV.den,hlist]
     have hs2:Wx E ((((s.set depth d (.store (stE (.clr inf.size) l ie p (Zb5 zc')))).set depth a .dead).set depth b .dead).set depth cc .dead) n:=
      JJ hnt (J0 hcn') (JJ hnt (J0 hbn) (JJ hnt (J0 han) (JJ hnt hdt hs ⟨bd,bi,bx,KG _ (Zab _ _ _ hzc' (KO hzc))⟩) trivial) trivial) trivial
     rw [h2,h4,h6,h8];exact hn _ _ ρ A (fun _ _=>rfl) hs2 h _ w' lim _ (by rw [hσ];exact s3)
    rename_i e0 e l ie hT hgx hgi;split at h
    case h_2=>exact h.elim
    rename_i inf hinf;split at h
    case h_2=>exact h.elim
    rename_i z hz;split at h
    case h_2=>exact h.elim
    rename_i zc sh hzc hsh;split at h
    case h_2=>exact h.elim
    rename_i zc' hzc';split at h
    case isFalse=>exact h.elim
    rename_i hh;obtain ⟨rfl,hzs,⟨h0,hnm⟩,hok⟩:=hh;simp only [Zgu,Xs,decide_eq_true_eq] at hok;obtain ⟨⟨hxn,han,hbn,hcn',hxa,hxb,hxc,hia,hab,hac,hbc⟩,hma,hmb,hmc⟩:=hok;obtain ⟨r1,r2,h⟩:=h;have r1':(0:Int)≤ie.den ρ:=r1;have r2':ie.den ρ≤((l.den ρ).length:Int):=r2;obtain ⟨o,p,q,r,hops,hgo,hgp,hgq,hgr,h1,h2,h3,h4,h5,h6,⟨cl,h7,h9,h10,h11⟩,h8⟩:=Zav htest;have hσx:Z2 E s ρ x = .own Xb e (l.den ρ):=by show (gE E s x).den ρ=_;rw [hgx];rfl
    have hσi:Z2 E s ρ i = .val (.int .i64 (ie.den ρ)):=by show (gE E s i).den ρ=_;rw [hgi];rfl
    have hzd:=YF ρ z.cells.toList;rw [hzc] at hzd;have hzr0:∀ (w:World) (lim:Lm),JI w lim (zc.map (SC.den ρ)) z.cells.toList:=fun w lim=>JX (h:=hzd.symm);have hzr:∀ (w:World) (lim:Lm),JI w lim (zc'.map (SC.den ρ)) z.cells.toList:=fun w lim=>(Zbl ρ _ _ _ hzc').2 w lim _ (hzr0 w lim)
    have h1z:∀ v∈z.cells.toList,v.oneCell'=Xb:=by
     intro v hv;obtain ⟨j,hj⟩:=XO.1 hv;have hjl:=(Xk.1 hj).1;have hr0:=hzr0 w lim;have hjz:j < (zc.map (SC.den ρ)).length:=by rw [hr0.1];exact hjl
     exact (hr0.2.2 j _ v (Xp hjz) hj).oneCell (hr0.2.1 _ (Uc hjz))
    obtain ⟨v2,w',X',hsl,hcl,hs',hmx⟩:=hsim.clear (x:=x) (n:=(ie.den ρ).toNat) (T:=T) (zc:=zc'.map (SC.den ρ)) hσx (by rw [hcP];exact hT) (by rw [hcP];exact hinf) hz hzs h0 hzr h1z (by omega) (by rw [hcP];exact hnm);rw [hcP] at hsl hcl
    have hvi:tm.getD i undef = .int .i64 (ie.den ρ):=by
     have:=hsim.rel i;rw [hσi] at this;exact YU (show Rep w lim _ _ from this)
    have hin:((ie.den ρ).toNat:Int)=ie.den ρ:=by omega
    rw [hin] at hsl;have hsz:ops.size=4:=by rw [← UD,hops];rfl
    have ho0:ops[0]? = Xa o:=by rw [← Wg,hops];rfl
    have ho1:ops[1]? = Xa p:=by rw [← Wg,hops];rfl
    have ho2:ops[2]? = Xa q:=by rw [← Wg,hops];rfl
    have ho3:ops[3]? = Xa r:=by rw [← Wg,hops];rfl
    have hts:tm.size=E.nt:=by rw [hsim.size,hcn]
    refine wp_region ?_;rw [hsz,show Ua 4 = [0,1,2,3] from rfl,wpOps_cons];unfold wpOp;simp only [ho0,Region.wanted,hgo];simp only [if_true];refine .inl (Zj (v:=tm.getD x undef) (w':=w) ?_ ?_)
    ·have hev:Act.eval ⟨tm,[]⟩ (.tmp x)=tm.getD x undef:=rfl;simp only [execOp,h1,hev,Sem.run_pure]
    rw [wpOps_cons];unfold wpOp;simp only [ho1,Region.wanted,hgp];simp only [if_true]
    have e1:Act.eval (Act.put ⟨tm,[]⟩ o.dst (tm.getD x undef)) (.tmp i) = .int .i64 (ie.den ρ):=by
     rw [h2];exact (Z3 tm a i _ hia).trans hvi
    refine .inl (Zj (v:=.int .i64 (ie.den ρ)) (w':=w) ?_ ?_)
    ·simp only [execOp,h3,e1,Sem.run_pure]
    rw [wpOps_cons];unfold wpOp;simp only [ho2,Region.wanted,hgq];simp only [if_true]
    have e2:Act.eval (Act.put (Act.put ⟨tm,[]⟩ o.dst (tm.getD x undef)) p.dst (.int .i64 (ie.den ρ))) (.tmp a)=tm.getD x undef:=by
     rw [h2,h4];exact (Z3 _ b a _ hab).trans (J2 tm a _ (by rw [hts];exact han))
    have e3:Act.eval (Act.put (Act.put ⟨tm,[]⟩ o.dst (tm.getD x undef)) p.dst (.int .i64 (ie.den ρ))) (.tmp b) = .int .i64 (ie.den ρ):=by
     rw [h2,h4];exact J2 _ b _ (by show b < (tm.setIfInBounds a _).size;rw [U0,hts];exact hbn)
    refine .inl (Zj (v:=v2) (w':=w) ?_ ?_)
    ·simp only [execOp,h5,Xw,Option.map_none,Sem.run_bind,e2,e3,hsl,Result.andThen_ok,Sem.run_pure]
    rw [wpOps_cons];unfold wpOp;simp only [ho3,Region.wanted,hgr];simp only [if_true]
    have e4:Act.eval (Act.put (Act.put (Act.put ⟨tm,[]⟩ o.dst (tm.getD x undef)) p.dst (.int .i64 (ie.den ρ))) q.dst v2) (.tmp cc)=v2:=by
     rw [h2,h4,h6];exact J2 _ cc _ (by show cc < ((tm.setIfInBounds a _).setIfInBounds b _).size;rw [U0,U0,hts];exact hcn')
    refine .inl (Zj (v:=.tuple #[]) (w':=w') ?_ ?_)
    ·simp only [execOp,h7,h9,h10,h11,resolve,invoke,builtin,Sem.run_bind,Sem.run_pure,Result.andThen_ok,Ws,Xh,XF,e4,hcl]
    have hna:V3 (Z2 E s ρ a):=ZW (JW (a:=gE E s a) (b:=.dead) ρ hma);have hnb:V3 (Z2 E s ρ b):=ZW (JW (a:=gE E s b) (b:=.dead) ρ hmb);have hnc:V3 (Z2 E s ρ cc):=ZW (JW (a:=gE E s cc) (b:=.dead) ρ hmc);have s1:=hs'.put (d:=a) (k:=0) (x:=.dead) (v:=tm.getD x undef) (by rw [hcn];exact han) (by rw [Ze _ _ (Ne.symm hxa)];exact hna) rfl trivial;have s2:=s1.put (d:=b) (k:=0) (x:=.dead) (v:=.int .i64 (ie.den ρ)) (by rw [hcn];exact hbn) (by rw [Ze _ _ (Ne.symm hab),Ze _ _ (Ne.symm hxb)];exact hnb) rfl trivial;have s3:=s2.put (d:=cc) (k:=0) (x:=.dead) (v:=v2) (by rw [hcn];exact hcn') (by rw [Ze _ _ (Ne.symm hbc),Ze _ _ (Ne.symm hac),Ze _ _ (Ne.symm hxc)];exact hnc) rfl trivial
    have hwr:iop .sub .i64 ((l.den ρ).length:Int) (ie.den ρ)=((l.den ρ).length:Int)-ie.den ρ:=by
     show IntKind.i64.wrap _=_;rw [IntKind.wrap_i64];unfold maxLen at hmx;omega
    have hlist:(LE.app (.take l ie) (.rep (.bin .sub .i64 (.len l) ie) (Zb5 zc'))).den ρ=(l.den ρ).take (ie.den ρ).toNat++Xg ((l.den ρ).length-(ie.den ρ).toNat) (zc'.map (SC.den ρ)):=by
     show (l.den ρ).take (ie.den ρ).toNat++Xg (iop .sub .i64 ((l.den ρ).length:Int) (ie.den ρ)).toNat ((Zb5 zc').den ρ)=_;rw [hwr,YI];congr 2;omega
    have bx:(gE E s x).bd n:=hs x;have bi:(gE E s i).bd n:=hs i;rw [hgx] at bx;rw [hgi] at bi
    have hσ:Z2 E ((((s.set depth x (.own Xb e (.app (.take l ie) (.rep (.bin .sub .i64 (.len l) ie) (Zb5 zc'))))).set depth a .dead).set depth b .dead).set depth cc .dead) ρ=upd (upd (upd (upd (Z2 E s ρ) x (.own Xb e ((l.den ρ).take (ie.den ρ).toNat++Xg ((l.den ρ).length-(ie.den ρ).toNat) (zc'.map (SC.den ρ))))) a .dead) b .dead) cc .dead:=by
     rw [J4 hnt (J0 hcn'),J4 hnt (J0 hbn),J4 hnt (J0 han),J4 hnt (J0 hxn)];simp only [SV.den,hlist]
    have hs2:Wx E ((((s.set depth x (.own Xb e (.app (.take l ie) (.rep (.bin .sub .i64 (.len l) ie) (Zb5 zc'))))).set depth a .dead).set depth b .dead).set depth cc .dead) n:=
     JJ hnt (J0 hcn') (JJ hnt (J0 hbn) (JJ hnt (J0 han) (JJ hnt (J0 hxn) hs ⟨⟨bx,bi⟩,⟨bx,bi⟩,KG _ (WX _ _ _ hzc' (KO hzc))⟩) trivial) trivial) trivial
    rw [h2,h4,h6,h8];exact hn _ _ ρ A (fun _ _=>rfl) hs2 h _ w' lim _ (by rw [hσ];exact s3)
   ·exact Ziq hm hps hnt (fun d j=>Zvf) (fun d hd=>Zkg ρ hd) hs h hcP hcn hsim fun s' n' ρ' hs' h'=>hn s' n' ρ' A (fun _ _=>rfl) hs' h'
 | _ => intro lv n s kn kx kr A ρ tm w lim X Q hs h hsim hn hx hr; exact h.elim
end
def WP (tm:Array Value):ResultVar→Sem Value
 | .tmp t => pure (tm.getD t undef)
 | .cell a t => do loadVar t (← asAddr (tm.getD a undef))
def ZbM:ResultVar→Nat
 | .tmp _ => 0
 | .cell _ _ => 1
theorem Zme (fn:Func) (tm:Array Value):results fn tm=(do
  let vs ← fn.results.mapM (WP tm)
  pure (if h:vs.size=1 then vs[0] else .tuple vs)):=by
 unfold results;congr 1
theorem ZkY {P:Program} {w:World} {f:ResultVar→Sem Value} : ∀ (rs:List ResultVar) (vs:List Value),rs.length=vs.length→
  (∀ (i:Nat) (r:ResultVar) (v:Value),rs[i]? = Xa r→vs[i]? = Xa v→(f r).run P w = .ok v w)→(rs.mapM f).run P w = .ok vs w
 | [], [], _, _ => by simp
 | [], _ :: _, h, _ => by simp at h
 | _ :: _, [], h, _ => by simp at h
 | r :: rs, v :: vs, h, hf => by
  have h1:=hf 0 r v rfl rfl;have h2:=ZkY rs vs (by simpa using h) fun i r' v' hr hv=>hf (i+1) r' v' (by simpa using hr) (by simpa using hv);simp [List.mapM_cons,h1,h2]
theorem VH {P:Program} {w:World} {fn:Func} {tm:Array Value} {vs:List Value} (hl:fn.results.toList.length=vs.length)
  (hf:∀ (i:Nat) (r:ResultVar) (v:Value),fn.results.toList[i]? = Xa r→vs[i]? = Xa v→(WP tm r).run P w = .ok v w) :
  (results fn tm).run P w = .ok (match vs with | [v]=>v | vs=>.tuple vs.toArray) w:=by
 have h:=ZkY _ _ hl hf;rw [Zme,Array.mapM_eq_mapM_toList];simp only [Sem.run_bind,Sem.run_map,h,Result.andThen_ok];rcases vs with _ | ⟨v,_ | ⟨u,l⟩⟩ <;> simp
section
variable {P:Program} {E:Env}
theorem Zhw {c:Ctx} (hc:c.P=P) {s:Tr} {ρ:Nat→V} {tm:Array Value} {w:World} {lim:Lm} {X:Nat→Nat→Option Nat} (hs:Sim c (Z2 E s ρ) tm w lim X) {r:ResultVar} {x:TC}
  (h:Vu P (gE E s) r=Xa x):∃ v,(WP tm r).run P w = .ok v w∧Yq P w lim (X (Z7 r) (ZbM r)) (x.den ρ) v:=by
 cases r with
 | tmp t =>
  have hr:=hs.rel t;simp only [Vu] at h;split at h
  ·rename_i y hy;simp only [Xf] at h;subst h;have:Z2 E s ρ t=y.den ρ:=by simp only [Z2,hy,SV.den]
   rw [this] at hr;refine ⟨_,rfl,?_⟩
   cases y with
   | cel p => exact K2 (Q := fun z => ZS c.P w lim X (Z2 E s ρ) t z (tm.getD t undef) → Yq P w lim (X t 0) z (tm.getD t undef)) _ (fun _ _ h => h) (fun _ _ _ h => h) (fun _ h => h) (fun _ _ h => h) hr
   | _ => exact hr
  ·rename_i cs hy;simp only [Xf] at h;subst h;have:Z2 E s ρ t = .agg (cs.map (SC.den ρ)):=by simp only [Z2,hy,SV.den]
   rw [this] at hr;exact ⟨_,rfl,hr⟩
  ·rename_i b e xs hy;simp only [Xf] at h;subst h;have:Z2 E s ρ t = .own b e (xs.den ρ):=by simp only [Z2,hy,SV.den]
   rw [this,hc] at hr;exact ⟨_,rfl,hr⟩
  ·cases h
 | cell t T =>
  have hr:=hs.rel t;simp only [Vu] at h;split at h
  ·rename_i cs hT hy;split at h
   ·rename_i hl;simp only [Xf] at h;subst h;have:Z2 E s ρ t = .box (cs.map (BC.den ρ)):=by simp only [Z2,hy,SV.den]
    rw [this,hc] at hr;obtain ⟨b,us,g1,g2,g3,g4,g5,g6⟩:=Z0.part (show Z0 P w lim (X t) _ _ from hr) 0 (P.cellsOf T) (by simp [hl.1]) (by rw [UY,Uo (by simp [hl.1])];exact ZdZ hl.2.1 ρ) (by rw [UY,Uo (by simp [hl.1])];exact Zew hl.2.2 ρ);refine ⟨.agg us.toArray,?_,?_⟩
    ·obtain ⟨i,hi⟩:=ZbQ hT;have hl2:=run_loadCells_list (P:=P) w ⟨b,0,Xc⟩ us (fun j v hj=>by rw [Jr];exact g4 j v hj);rw [g3] at hl2;simp [WP,g2,asAddr,loadVar,Zan hT,Zs hi,hl2]
    ·have he:(TC.agg (cs.map (ZfK P))).den ρ = .agg ((((cs.map (BC.den ρ)).drop 0).take (P.cellsOf T)).map (YC P)):=by
      rw [UY,Uo (by simp [hl.1])];simp only [TC.den,Wf];congr 1;exact Wr fun b _=>Zfd P ρ b
     rw [he];exact .agg (by simp [g3,hl.1]) g5 g6
   ·cases h
  ·rename_i bx e xs hT hy;simp only [Xf] at h;subst h;have:Z2 E s ρ t = .box [.own bx e (xs.den ρ)]:=by simp only [Z2,hy,SV.den];rfl
   rw [this,hc] at hr;obtain ⟨b,arr,ty,h1,h2,h3,h4,h5,h6,h7⟩:=(show Z0 P w lim (X t) _ _ from hr);obtain ⟨u,hu⟩:∃ u,arr[0]? = Xa u:=⟨_,XV (by rw [h4];simp)⟩;refine ⟨u,?_,h7 0 _ u rfl hu⟩;have hcell:w.cell? ⟨b,0,Xc⟩=Xa u:=by rw [ZR h3];exact hu
   simp [WP,h2,asAddr,loadVar,VD hT,hcell]
  ·rename_i y hT hy;simp only [Xf] at h;subst h;have:Z2 E s ρ t = .box [y.den ρ]:=by simp only [Z2,hy,SV.den];rfl
   rw [this,hc] at hr;obtain ⟨b,arr,ty,h1,h2,h3,h4,h5,h6,h7⟩:=(show Z0 P w lim (X t) _ _ from hr);obtain ⟨u,hu⟩:∃ u,arr[0]? = Xa u:=⟨_,XV (by rw [h4];simp)⟩;have h70:=h7 0 _ u rfl hu;refine ⟨u,?_,by cases y<;>exact h70⟩;have hcell:w.cell? ⟨b,0,Xc⟩=Xa u:=by rw [ZR h3];exact hu
   simp [WP,h2,asAddr,loadVar,VD hT,hcell]
  ·cases h
theorem ZiK {c:Ctx} (hc:c.P=P) {s:Tr} {ρ:Nat→V} {tm:Array Value} {w:World} {lim:Lm} {X:Nat→Nat→Option Nat} (hs:Sim c (Z2 E s ρ) tm w lim X):∀ (rs:List ResultVar) (xs:List TC),
  Wm P (gE E s) rs=Xa xs→∃ vs:List Value,rs.length=vs.length∧xs.length=vs.length∧∀ (i:Nat) (r:ResultVar) (v:Value),rs[i]? = Xa r→vs[i]? = Xa v→
   (WP tm r).run P w = .ok v w∧∀ x,xs[i]? = Xa x→Yq P w lim (X (Z7 r) (ZbM r)) (x.den ρ) v
 | [], xs, h => by
  simp only [Wm,Xf] at h;subst h;exact ⟨[],rfl,rfl,by simp⟩
 | r :: rs, xs, h => by
  simp only [Wm] at h;split at h
  ·rename_i x xs' hx hxs;simp only [Xf] at h;subst h;obtain ⟨v,h1,h2⟩:=Zhw hc hs hx;obtain ⟨vs,g1,g2,g3⟩:=ZiK hc hs rs xs' hxs;refine ⟨v::vs,by simp [g1],by simp [g2],fun i r' v' hr hv=>?_⟩
   cases i with
   | zero =>
    simp only [XB,Xf] at hr hv;subst hr;subst hv;refine ⟨h1,fun y hy=>?_⟩;simp only [XB,Xf] at hy;subst hy;exact h2
   | succ i =>
    obtain ⟨k1,k2⟩:=g3 i r' v' (by simpa using hr) (by simpa using hv);exact ⟨k1,fun y hy=>k2 y (by simpa using hy)⟩
  ·cases h
theorem ZjN {w:World} {lim:Lm} {X:Nat→Nat→Option Nat} {σ:Nat→AV} {d:Nat} {x:TC} {ρ:Nat→V} {v:Value} (h:Yq P w lim (X d 0) (x.den ρ) v):ZS P w lim X σ d (x.den ρ) v:=by
 cases x with
 | c y =>
  cases y with
  | cel p => exact K2 (Q := fun z => Yq P w lim (X d 0) z v → ZS P w lim X σ d z v) _ (fun _ _ h => h) (fun _ _ _ h => h) (fun _ h => h) (fun _ _ h => h) h
  | _ => exact h
 | agg cs => exact h
 | own x e l => exact h
 | gone => trivial
theorem Zfb (ρ:Nat→V):∀ (aZ:List SV) (i:Nat) (σ:Nat→AV) (d:Nat),JG σ ((WL aZ i).map fun u=>(u.1,u.2.den ρ)) d=if i≤d∧d < i+aZ.length then ZB (aZ.map (SV.den ρ)) (d-i) else σ d
 | [], i, σ, d => by
  rw [if_neg (by simp)];rfl
 | a :: aZ, i, σ, d => by
  simp only [WL,Xh,JG];rw [Zfb ρ aZ (i+1)];by_cases h:i+1≤d∧d < i+1+aZ.length
  ·rw [if_pos h,if_pos (by simp only [XA];omega)];obtain ⟨k,hk⟩:∃ k,d-i=k+1:=⟨d-i-1,by omega⟩;rw [hk,show d-(i+1)=k by omega];simp [ZB]
  ·rw [if_neg h];by_cases hd:d=i
   ·subst hd;rw [ZI,if_pos (by simp)];simp [ZB]
   ·rw [Ze _ _ hd,if_neg (by simp only [XA];omega)]
theorem Zii {n:Nat} : ∀ (aZ:List SV) (i:Nat),(∀ a∈aZ,a.bd n)→∀ u∈WL aZ i,u.2.bd n
 | [], i, _, u, hu => by simp [WL] at hu
 | a :: aZ, i, h, u, hu => by
  rcases Xq.1 hu with rfl | hu
  ·exact h a (by simp)
  ·exact Zii aZ (i+1) (fun b hb=>h b (by simp [hb])) u hu
theorem Zfg:∀ (aZ:List SV) (i m:Nat),i+aZ.length≤m→∀ u∈WL aZ i,u.1 < m
 | [], i, m, _, u, hu => by simp [WL] at hu
 | a :: aZ, i, m, h, u, hu => by
  simp only [XA] at h;rcases Xq.1 hu with rfl | hu
  ·show i < m;omega
  ·exact Zfg aZ (i+1) m (by omega) u hu
def SV.isBx:SV→Bool
 | .box _ => Xb
 | .gbox _ => Xb
 | .store _ => Xb
 | _ => Xe
theorem Kt {a:SV} {aZ:List SV} {i:Nat} (h:Jq E (a::aZ) i=Xb):Jq E aZ (i+1)=Xb:=by
 cases a<;>simp only [Jq,Xs,UF] at h<;>exact h.2
theorem ZaU:∀ (aZ:List SV) (i:Nat),Jq E aZ i=Xb→∀ (j:Nat) (a:SV),aZ[j]? = Xa a→(∀ cs,a = .box cs→i+j∈E.pins)∧(a.isG=Xb↔E.nt≤i+j)
 | [], i, _, j, a, h => by simp at h
 | a :: aZ, i, hf, j, b, h => by
  cases j with
  | zero =>
   simp only [XB,Xf] at h;subst h;refine ⟨fun cs e=>?_,?_⟩
   ·subst e;simp only [Jq,Xs,List.contains_iff_mem] at hf;exact hf.1.2
   ·cases a<;>simp only [Jq,Xs,decide_eq_true_eq,UF] at hf<;>simp only [SV.isG,UF,false_iff,true_iff]<;>omega
  | succ j =>
   have:=ZaU aZ (i+1) (Kt hf) j b (by simpa using h);rw [show i+(j+1)=i+1+j by omega];exact this
theorem Zg6 (g:Nat→SV):∀ (aZ:List SV) (i j:Nat),(Yy g aZ i)[j]? = (aZ[j]?).map fun a=>if a.isBx=Xb then g (i+j) else .dead
 | [], i, j => by simp [Yy]
 | a :: aZ, i, 0 => by cases a <;> rfl
 | a :: aZ, i, j + 1 => by
  have:=Zg6 g aZ (i+1) j;rw [show i+1+j=i+(j+1) by omega] at this
  cases a<;>simpa [Yy] using this
theorem Zif (g:Nat→SV):∀ (aZ:List SV) (i:Nat),(Yy g aZ i).length=aZ.length
 | [], i => rfl
 | a :: aZ, i => by cases a <;> simp [Yy, Zif g aZ]
def Zg9 (args:List SV) (rs:List ResultVar) (i k:Nat):Option (Nat×Nat):=
 if i < args.length then (if (args[i]?).map SV.isBx=Xa Xb then Xa (i,k) else Xc)
 else if i=args.length then
  match rs with
  | [r] => if k = 0 then Xa (Z7 r, ZbM r) else Xc
  | rs => match k with | 0 => Xc | k + 1 => (rs[k]?).map fun r => (Z7 r, ZbM r)
 else Xc
theorem Zla:∀ (rs:List ResultVar),(rs.map Z7).Nodup→∀ (i j:Nat) (a b:ResultVar),rs[i]? = Xa a→rs[j]? = Xa b→Z7 a=Z7 b→i=j
 | [], _, i, j, a, b, h, _, _ => by simp at h
 | r :: rs, hn, i, j, a, b, ha, hb, he => by
  rw [Xh,Wa] at hn
  cases i with
  | zero =>
   cases j with
   | zero => rfl
   | succ j =>
    simp only [XB,Xf] at ha;subst ha;exact (hn.1 (Xj.2 ⟨b,Xm (by simpa using hb),he.symm⟩)).elim
  | succ i =>
   cases j with
   | zero =>
    simp only [XB,Xf] at hb;subst hb;exact (hn.1 (Xj.2 ⟨a,Xm (by simpa using ha),he⟩)).elim
   | succ j => rw [Zla rs hn.2 i j a b (by simpa using ha) (by simpa using hb) he]
theorem Zc5 {args:List SV} {rs:List ResultVar} {k:Nat} {p:Nat×Nat} (h:Zg9 args rs args.length k=Xa p) :
  ∃ j r,rs[j]? = Xa r∧p=(Z7 r,ZbM r)∧((rs.length=1∧j=0∧k=0)∨(rs.length≠1∧k=j+1)):=by
 unfold Zg9 at h;rw [if_neg (Uv _),if_pos rfl] at h;split at h
 ·rename_i r;split at h
  ·rename_i hk;simp only [Xf] at h;exact ⟨0,r,rfl,h.symm,.inl ⟨rfl,rfl,hk⟩⟩
  ·cases h
 ·rename_i hne;split at h
  ·cases h
  ·rename_i k
   cases hr:rs[k]? with
   | none => simp [hr] at h
   | some r =>
    simp only [hr,Xw,Xf] at h;refine ⟨k,r,hr,h.symm,.inr ⟨fun h1=>?_,rfl⟩⟩;obtain ⟨r',hr'⟩:=U3.1 h1;exact hne r' hr'
theorem ZqM {args:List SV} {rs:List ResultVar} (hf:Zcf args rs=Xb) {i k i' k':Nat} {p:Nat×Nat} (h:Zg9 args rs i k=Xa p) (h':Zg9 args rs i' k'=Xa p):i=i'∧k=k':=by
 simp only [Zcf,Xs] at hf;obtain ⟨hn,hb⟩:=hf;have hnd:=ZbA _ hn
 have hform:∀ i k p,Zg9 args rs i k=Xa p→(i < args.length∧p=(i,k)∧∃ a,args[i]? = Xa a∧a.isBx=Xb)∨i=args.length:=by
  intro i k p h;unfold Zg9 at h;split at h
  ·rename_i hi;split at h
   ·rename_i hbx;simp only [Xf] at h;obtain ⟨a,ha,hax⟩:=X6.1 hbx;exact .inl ⟨hi,h.symm,a,ha,hax⟩
   ·cases h
  ·split at h
   ·rename_i hi;exact .inr hi
   ·cases h
 have hno:∀ (j:Nat) (r:ResultVar),rs[j]? = Xa r→∀ a,args[Z7 r]? = Xa a→a.isBx=Xb→False:=by
  intro j r hr a ha hax;rw [XD] at hb;have:=hb r (Xm hr);rw [ha] at this
  cases a<;>simp [SV.isBx] at hax<;>cases this
 rcases hform i k p h with ⟨h1,h2,a,h3,h4⟩ | h1<;>rcases hform i' k' p h' with ⟨h1',h2',a',h3',h4'⟩ | h1'
 ·rw [h2] at h2';simp only [Xt] at h2';exact h2'
 ·subst h1';obtain ⟨j,r,g1,g2,_⟩:=Zc5 h';rw [h2] at g2;simp only [Xt] at g2;exact (hno j r g1 a (by rw [← g2.1];exact h3) h4).elim
 ·subst h1;obtain ⟨j,r,g1,g2,_⟩:=Zc5 h;rw [h2'] at g2;simp only [Xt] at g2;exact (hno j r g1 a' (by rw [← g2.1];exact h3') h4').elim
 ·subst h1;subst h1';obtain ⟨j,r,g1,g2,g3⟩:=Zc5 h;obtain ⟨j',r',g1',g2',g3'⟩:=Zc5 h';rw [g2] at g2';simp only [Xt] at g2';have:=Zla rs hnd j j' r r' g1 g1' g2'.1;refine ⟨rfl,?_⟩;omega
end
section
variable {P:Program} {E:Env}
def Zfe (P:Program) (g:Nat→SV) (rs:List ResultVar):Option SV:=
 match rs with
 | [r] => (Vu P g r).map ZvC
 | rs => (Wm P g rs).map .tuple
theorem ZiS {g:Nat→SV} {rs:List ResultVar} {r:SV} (h:Zre P g rs=Xa r) :
  (∃ t T cs,rs = [.cell t T]∧Ji P T=Xa Xb∧g t = .box cs∧cs.length=P.cellsOf T∧Zaw cs=Xb∧r = .aggo cs)∨Zfe P g rs=Xa r:=by
 unfold Zre at h;split at h
 ·rename_i r0;split at h
  ·rename_i cs hcs
   cases h
   unfold Zpv at hcs;split at hcs
   ·rename_i t T;split at hcs
    ·rename_i cs1 hT hg;split at hcs
     ·rename_i hh
      cases hcs
      exact .inl ⟨t,T,_,rfl,hT,hg,hh.1,hh.2.2,rfl⟩
     ·cases hcs
    ·cases hcs
   ·cases hcs
  ·exact .inr h
 ·rename_i hne;refine .inr ?_;unfold Zfe;split
  ·rename_i r1;exact (hne r1 rfl).elim
  ·exact h
theorem ZoR {a:SV} {ρ:Nat→V} (h:ZeL P a=Xb):∀ e xs,a.den ρ = .own Xb e xs→Zm P e=Xe:=by
 intro e xs he
 cases a with
 | own x e' l =>
  simp only [SV.den,AV.own.injEq] at he;obtain ⟨rfl,rfl,_⟩:=he;simpa [ZeL] using h
 | c y => cases y <;> first | cases he | exact (Jb he rfl).elim
 | _ => cases he
theorem Zcp {cs:List BC} {ρ:Nat→V} {k:Nat} {e:TypeId} {xs:List (List AV)} (h:(cs.all fun c=>match c with | .own Xb e _=>!Zn P e | _=>Xb)=Xb)
  (ho:(match (cs.map (BC.den ρ))[k]? with | some (.own Xb e xs)=>Xa (e,xs) | _=>Xc)=Xa (e,xs)):Zn P e=Xe:=by
 rw [Xl] at ho
 cases hc:cs[k]? with
 | none => rw [hc] at ho; cases ho
 | some c =>
  rw [hc] at ho;have h1:=XD.1 h c (Xm hc)
  cases c with
  | c y =>
   have hy:=Yd ρ y;have ho':(match Xa (y.den ρ) with | some (.own Xb e xs)=>Xa (e,xs) | _=>Xc)=Xa (e,xs):=ho;generalize y.den ρ=z at hy ho'
   cases z<;>first | cases ho' | cases hy
  | gone => cases ho
  | own x e' l =>
   cases x with
   | false => cases ho
   | true =>
    simp only [Xw,BC.den,Xf,Xt] at ho;rw [← ho.1];simpa using h1
theorem Ze8 {a:SV} {ρ:Nat→V} (h:ZeL P a=Xb) {k:Nat} {e:TypeId} {xs:List (List AV)} (ho:Jg (a.den ρ) k=Xa (e,xs)):Zn P e=Xe:=by
 cases a with
 | own x e' l =>
  cases x with
  | false => cases k <;> first | cases ho | exact (Jb ho rfl).elim
  | true =>
   cases k with
   | zero =>
    simp only [SV.den,Jg,Xf,Xt] at ho;rw [← ho.1];exact Jc (by simpa [ZeL] using h)
   | succ k => cases ho
 | box cs => cases k with | zero => cases ho | succ k => exact Zcp (ρ := ρ) h ho
 | gbox cs => cases k with | zero => cases ho | succ k => exact Zcp (ρ := ρ) h ho
 | tuple _ => cases h
 | aggo _ => cases h
 | c y =>
  have hy:=ZaS ρ y;have ho':Jg (y.den ρ) k=Xa (e,xs):=ho;rw [VC hy] at ho';cases ho'
 | _ => cases k <;> first | cases ho | exact (Jb ho rfl).elim
theorem Zey {s:Tr} {r:ResultVar} {x:TC} (h:Vu P (gE E s) r=Xa x):Z7 r < E.top:=by
 rcases XG (Z7 r) E.top with hlt | hge
 ·exact hlt
 ·have hd:gE E s (Z7 r) = .dead:=Zfz s _ hge
  cases r with
  | tmp t => simp only [Z7] at hd; simp only [Vu, hd] at h; cases h
  | cell t T =>
   simp only [Z7] at hd;simp only [Vu,hd] at h
   cases hT:Ji P T with
   | none => rw [hT] at h; cases h
   | some b => rw [hT] at h; cases b <;> first | cases h | exact (Jb h rfl).elim
theorem Zdm {s:Tr} : ∀ (rs:List ResultVar) (xs:List TC),Wm P (gE E s) rs=Xa xs→∀ r∈rs,Z7 r < E.top
 | [], _, _, r, hr => by cases hr
 | r0 :: rs, xs, h, r, hr => by
  simp only [Wm] at h;split at h
  ·rename_i x xs' hx hxs;rcases Xq.1 hr with rfl | hr
   ·exact Zey hx
   ·exact Zdm rs xs' hxs r hr
  ·cases h
theorem Ze9 {s:Tr} {ρ:Nat→V} {r:ResultVar} {x:TC} (h:Vu P (gE E s) r=Xa x) {e:TypeId} {xs:List (List AV)} (hx:x.den ρ = .own Xb e xs):Jg (Z2 E s ρ (Z7 r)) (ZbM r)=Xa (e,xs):=by
 cases r with
 | tmp t =>
  simp only [Vu] at h;split at h
  ·rename_i y hy
   cases h
   cases y<;>first | cases hx | exact (Jb hx rfl).elim
  ·cases h;cases hx
  ·rename_i b e' l hy
   cases h
   simp only [TC.den,AV.own.injEq] at hx;obtain ⟨rfl,rfl,rfl⟩:=hx;simp only [Z7,ZbM,Z2,hy];rfl
  ·cases h
 | cell t T =>
  simp only [Vu] at h;split at h
  ·split at h
   ·cases h;cases hx
   ·cases h
  ·rename_i bx e' l hT hy
   cases h
   simp only [TC.den,AV.own.injEq] at hx;obtain ⟨rfl,rfl,rfl⟩:=hx;simp only [Z7,ZbM,Z2,hy];rfl
  ·rename_i y hT hy
   cases h
   cases y<;>first | cases hx | exact (Jb hx rfl).elim
  ·cases h
theorem ZeZ {s:Tr} {ρ:Nat→V} : ∀ (rs:List ResultVar) (xs:List TC),Wm P (gE E s) rs=Xa xs→∀ (i:Nat) (x:TC) (e:TypeId) (ys:List (List AV)),xs[i]? = Xa x→x.den ρ = .own Xb e ys→∃ r,rs[i]? = Xa r∧Jg (Z2 E s ρ (Z7 r)) (ZbM r)=Xa (e,ys)
 | [], xs, h, i, x, e, ys, hx, _ => by
  simp only [Wm,Xf] at h;subst h;simp at hx
 | r0 :: rs, xs, h, i, x, e, ys, hx, ho => by
  simp only [Wm] at h;split at h
  ·rename_i x0 xs' h0 hxs
   cases h
   cases i with
   | zero =>
    simp only [XB,Xf] at hx;subst hx;exact ⟨r0,rfl,Ze9 h0 ho⟩
   | succ i =>
    obtain ⟨r,h1,h2⟩:=ZeZ rs xs' hxs i x e ys (by simpa using hx) ho;exact ⟨r,by simpa using h1,h2⟩
  ·cases h
theorem Zk9 (x:SV) (ρ:Nat→V):(x.den ρ).isG=x.isG:=by
 cases x with
 | c y => exact KD ρ y
 | _ => rfl
theorem ZfN {args:List SV} {ρ:Nat→V} {d:Nat} (h:(ZB (args.map (SV.den ρ)) d).isSto=Xb):∃ l,args[d]? = Xa (.store l):=by
 simp only [ZB,Xl] at h
 cases ha:args[d]? with
 | none => rw [ha] at h; cases h
 | some a =>
  rw [ha] at h;simp only [Xw,UZ,Km] at h
  cases a with
  | store l => exact ⟨l, rfl⟩
  | _ => cases h
theorem WI:∀ (aZ:List SV) (i:Nat),Jq E aZ i=Xb→∀ (j:Nat) (l:LE),aZ[j]? = Xa (.store l)→E.st=Xa (i+j)
 | [], i, _, j, l, h => by simp at h
 | a :: aZ, i, hf, j, l, h => by
  cases j with
  | zero =>
   simp only [XB,Xf] at h;subst h;simp only [Jq,Xs,decide_eq_true_eq] at hf;exact hf.1.2
  | succ j =>
   rw [show i+(j+1)=i+1+j by omega];exact WI aZ (i+1) (Kt hf) j l (by simpa using h)
theorem Ze4:∀ (aZ os:List SV),WM aZ os=Xb→∀ (i:Nat) (l:LE) (y:SV),aZ[i]? = Xa (.store l)→os[i]? = Xa y→∃ l',y = .store l'
 | [], _, _, i, l, y, h, _ => by simp at h
 | _ :: _, [], _, i, l, y, _, h => by simp at h
 | a :: aZ, o :: os, hf, i, l, y, h, h' => by
  cases i with
  | zero =>
   simp only [XB,Xf] at h h';subst h;subst h'
   cases o with
   | store l' => exact ⟨l', rfl⟩
   | _ => cases hf
  | succ i =>
   refine Ze4 aZ os ?_ i l y (by simpa using h) (by simpa using h')
   cases a<;>first | exact hf | (cases o<;>first | exact hf | cases hf)
theorem callOk_ofR {R : AV → List AV → Prop} (hm : P.follows .mixedOrders = Xb) (hps : EnvSound P E) {f : FuncId} {fn : Func} (hf : P.funcs[f]? = Xa fn) (hname : (fn.name == "runtime.NumGoroutine") = Xe) {args : List SV} {n : Nat} {ρ : Nat → V}
  (hargs:∀ a∈args,a.bd n) {res:AV} {outs:List AV} (hR:∀ r os,R r os→Vr P (os++[r]) (outs++[res])) (h:(Zwh P E fn args n).wp P R (fun _ _=>False) ρ):JN P f (args.map (SV.den ρ)) res outs:=by
 unfold Zwh at h;split at h
 case h_2=>exact h.elim
 rename_i code hbody;dsimp only at h;split at h
 case isFalse=>exact h.elim
 rename_i hh;obtain ⟨hnt,hnm,hal,hng,haf,hanm⟩:=hh;have hat:=ZaU args 0 haf;have hngb:args.length < ngN:=Nat.lt_of_le_of_lt (XI hal hnt) (by decide);refine ⟨⟨fn,hf,hname,by rw [hbody];rfl⟩,by rw [Xr];exact hngb,?_⟩;intro w lim X cargs hcl hrel hdist hsize hxfar;rw [Xr] at hxfar;rw [Xr] at hcl
 have hgl:∀ (aZ:List SV) (i:Nat),Jq E aZ i=Xb→i+aZ.length≤E.nt+((aZ.map (SV.den ρ)).countP AV.isG)∨aZ.length≤(aZ.map (SV.den ρ)).countP AV.isG:=by
  intro aZ
  induction aZ with
  | nil => intro i _; exact .inr (X5 _)
  | cons a aZ ih =>
   intro i hf;have h0:=ZaU (a::aZ) i hf 0 a rfl;have hd:(a.den ρ).isG=a.isG:=Zk9 a ρ;rw [Xh,UU,hd,XA];by_cases hg:a.isG=Xb
   ·rw [if_pos hg];rcases ih (i+1) (Kt hf) with h1 | h1
    ·left;omega
    ·right;omega
   ·rw [if_neg hg]
    have h2:i < E.nt:=by
     rcases XG i E.nt with h | h
     ·exact h
     ·exact (hg (h0.2.2 (by simpa using h))).elim
    rcases ih (i+1) (Kt hf) with h1 | h1
    ·left;omega
    ·left;omega
 have hcn:cargs.length≤E.nt:=by
  rcases hgl args 0 haf with h1 | h1<;>omega
 have hcd:∀ d,d < args.length→(∃ a,args[d]? = Xa a):=fun d hd=>⟨_,Xp hd⟩;refine calls_of_wp hf hbody ?_
 let c:Ctx:=⟨P,w,lim,fun b=>∃ i k,X i k=Xa b,E.nt,fun d=>match args[d]? with | some (.box _)=>Xa (cargs.getD d undef) | _=>Xc,fun d=>match args[d]? with | some (.gbox _)=>X d 0 | _=>Xc,((args.map (SV.den ρ)).any AV.isSto)⟩
 have hlow:Zb0 E (WL args 0):=by
  unfold Zb0;rw [XD];intro u hu;have:=Zfg args 0 E.top (by omega) u hu;simpa using this
 have hσ:Z2 E (JV (WL args 0) (.leaf .dead)) ρ=ZB (args.map (SV.den ρ)):=by
  rw [KK hnt ρ _ _ hlow];funext d;rw [Zfb,XH,Nat.sub_zero];split
  ·rfl
  ·rename_i hd
   have h1:Z2 E (.leaf .dead) ρ d = .dead:=by
    simp only [Z2,gE];split<;>rfl
   have h2:(args.map (SV.den ρ))[d]? = Xc:=Wl (by rw [Xr];omega);rw [h1];simp only [ZB,h2];rfl
 have htm:∀ d,(cargs.toArray++Array.replicate (fn.ntmps-cargs.toArray.size) undef).getD d undef=cargs.getD d undef:=by
  intro d;rw [List.getD_eq_getElem?_getD,Array.getD_eq_getD_getElem?,Array.getElem?_append];simp only [UB,List.getElem?_toArray];split
  ·rfl
  ·rename_i h1;rw [Wl (by omega),Array.getElem?_replicate];split<;>rfl
 have hpin:∀ d v,c.pin d=Xa v→(∃ cs,args[d]? = Xa (.box cs))∧v=cargs.getD d undef:=by
  intro d v hv;have hv':(match args[d]? with | some (.box _)=>Xa (cargs.getD d undef) | _=>Xc)=Xa v:=hv;split at hv'
  ·rename_i cs hcs;simp only [Xf] at hv';exact ⟨⟨cs,hcs⟩,hv'.symm⟩
  ·cases hv'
 have hsim:Sim c (Z2 E (JV (WL args 0) (.leaf .dead)) ρ) (cargs.toArray++Array.replicate (fn.ntmps-cargs.toArray.size) undef) w lim X:=by
  rw [hσ]
  have hG:∀ d,(ZB (args.map (SV.den ρ)) d).isG=Xb↔∃ a,args[d]? = Xa a∧a.isG=Xb:=by
   intro d
   cases ha:args[d]? with
   | none =>
    have h2:(args.map (SV.den ρ))[d]? = Xc:=by rw [Xl,ha];rfl
    simp only [ZB,h2];exact ⟨fun h=>(by cases h),fun ⟨_,h,_⟩=>(by cases h)⟩
   | some a =>
    have h2:ZB (args.map (SV.den ρ)) d=a.den ρ:=by simp only [ZB,Xl,ha];rfl
    rw [h2,Zk9];exact ⟨fun h=>⟨a,rfl,h⟩,fun ⟨_,h,h'⟩=>by cases h;exact h'⟩
  have hst1:∀ d d',(ZB (args.map (SV.den ρ)) d).isSto=Xb→(ZB (args.map (SV.den ρ)) d').isSto=Xb→d=d':=by
   intro d d' h1 h2;obtain ⟨l,h3⟩:=ZfN h1;obtain ⟨l',h4⟩:=ZfN h2;have h5:=WI args 0 haf d l h3;have h6:=WI args 0 haf d' l' h4;rw [h5,XH,XH] at h6;exact XT h6
  have hst0:((args.map (SV.den ρ)).any AV.isSto)=Xe→∀ d,(ZB (args.map (SV.den ρ)) d).isSto=Xe:=by
   intro h1 d
   cases h2:(ZB (args.map (SV.den ρ)) d).isSto with
   | false => rfl
   | true =>
    obtain ⟨l,h3⟩:=ZfN h2;have h4:(args.map (SV.den ρ)).any AV.isSto=Xb:=Ud.2 ⟨_,Xj.2 ⟨_,Xm h3,rfl⟩,rfl⟩;rw [h1] at h4;cases h4
  refine ⟨fun d=>by rw [htm d];exact hrel d,?_,fun d hd=>?_,fun d hd=>?_,hdist,fun d k b hb=>⟨hsize d k b hb,.inl ⟨d,k,hb⟩⟩,⟨rfl,rfl,rfl,Xy _,fun _ _=>rfl,fun _ _ _=>⟨rfl,rfl⟩,Ext.refl w lim,fun _=>rfl⟩,fun d v hv=>?_,fun d e xs hdo=>?_,fun d b hb=>?_,XI (XI (XX _ _) hnt) (by decide),fun d hd=>?_,fun d k e xs b m1 m2 _=>?_,fun b m b' hb=>?_,hst0,hst1⟩
  ·show _=E.nt;simp;omega
  ·cases ha:args[d]? with
   | none =>
    left;have h2:(args.map (SV.den ρ))[d]? = Xc:=by rw [Xl,ha];rfl
    simp only [ZB,h2];rfl
   | some a =>
    right;have h3:=(hat d a ha).2.2 (by rw [XH];exact hd);exact (hG d).2 ⟨a,ha,h3⟩
  ·obtain ⟨a,hcs,hga⟩:=(hG d).1 hd;have:=(hat d _ hcs).2.1 hga
   rwa [XH] at this
  ·obtain ⟨⟨cs,hcs⟩,rfl⟩:=hpin d v hv;refine ⟨htm d,cs.map (BC.den ρ),?_⟩;simp only [ZB,Xl,hcs];rfl
  ·cases ha:args[d]? with
   | none =>
    have h2:(args.map (SV.den ρ))[d]? = Xc:=by rw [Xl,ha];rfl
    simp only [ZB,h2] at hdo
    cases hdo
   | some a =>
    have h2:ZB (args.map (SV.den ρ)) d=a.den ρ:=by simp only [ZB,Xl,ha];rfl
    rw [h2] at hdo;rw [XD] at hanm;exact .noMap (ZoR (hanm a (Xm ha)) e xs hdo)
  ·have hb':(match args[d]? with | some (.gbox _)=>X d 0 | _=>Xc)=Xa b:=hb;split at hb'
   ·rename_i cs hcs;exact ⟨hb',(hG d).2 ⟨_,hcs,rfl⟩⟩
   ·cases hb'
  ·have h2:(args.map (SV.den ρ))[d]? = Xc:=Wl (by rw [Xr];omega);simp only [ZB,h2];rfl
  ·exfalso
   cases ha:args[d]? with
   | none =>
    have h2:(args.map (SV.den ρ))[d]? = Xc:=by rw [Xl,ha];rfl
    simp only [ZB,h2,Option.getD_none] at m1
    cases k<;>first | cases m1 | exact (Jb m1 rfl).elim
   | some a =>
    have h2:ZB (args.map (SV.den ρ)) d=a.den ρ:=by simp only [ZB,Xl,ha];rfl
    rw [h2] at m1;rw [XD] at hanm;have h3:=Ze8 (hanm a (Xm ha)) m1;have m2':Zn P e=Xb:=m2;rw [h3] at m2'
    cases m2'
  ·rw [hxfar _ (by omega)] at hb;cases hb
 have hfin:∀ s' n' ρ' (A':Nat→List V→Prop),Wx E s' n'→((match ZoX (gE E s') args fn.results.toList with
   | some (_, cs) => if (Yy (gE E s') args 0).all (ZeL P) = Xb ∧ WM args (Yy (gE E s') args 0) = Xb then .ret (.box cs) (Yy (gE E s') args 0) else .stuck 125
   | none =>
   match Zre P (gE E s') fn.results.toList with
   | some r => if Zcf args fn.results.toList = Xb ∧ (Yy (gE E s') args 0).all (ZeL P) = Xb ∧ WM args (Yy (gE E s') args 0) = Xb then STree.ret r (Yy (gE E s') args 0) else .stuck 124
   | none => .stuck 120) : STree).wp P R A' ρ' → ∀ tm' w' lim' X', Sim c (Z2 E s' ρ') tm' w' lim' X' → ∃ v, (results fn tm').run P w' = .ok v w' ∧
    ∃ v1 lim1 X1,Ending.returned v = .returned v1∧K7 w lim w' lim1 (fun b=>∃ i k,X i k=Xa b) ((args.map (SV.den ρ)).any AV.isSto)∧outs.length=(args.map (SV.den ρ)).length∧
     (∀ i,ZS P w' lim1 X1 (ZB (outs++[res])) i (ZB (outs++[res]) i) (Zaz (args.map (SV.den ρ)).length cargs v1 i))∧ZmH X1∧
     (∀ i k b,X1 i k=Xa b→b < w'.heap.size∧((∃ i k,X i k=Xa b)∨w.heap.size≤b))∧(∀ i,(ZB (outs++[res]) i).isG=Xb→(ZB (args.map (SV.den ρ)) i).isG=Xb∧X1 i 0=X i 0)∧VS P outs∧ZsC P w' lim1 X1 res (args.map (SV.den ρ)).length:=by
  intro s' n' ρ' A' _ h' tm' w' lim' X' hsim'
  obtain ⟨r,SRC,hA,hB,hval,hG0,h',hnd,hlo,hsf,hD⟩:∃ (r:SV) (SRC:Nat→Nat→Option (Nat×Nat)),(∀ i,i < args.length→∀ k,SRC i k=if (args[i]?).map SV.isBx=Xa Xb then Xa (i,k) else Xc)∧
    (∀ i k i' k' p,SRC i k=Xa p→SRC i' k'=Xa p→i=i'∧k=k')∧
    (∃ v,(results fn tm').run P w' = .ok v w'∧ZS P w' lim' (fun i k=>(SRC i k).bind fun p=>X' p.1 p.2) (ZB ((Yy (gE E s') args 0).map (SV.den ρ')++[r.den ρ'])) args.length (r.den ρ') v)∧
    (r.den ρ').isG=Xe∧(STree.ret r (Yy (gE E s') args 0)).wp P R A' ρ'∧(Yy (gE E s') args 0).all (ZeL P)=Xb∧(∀ i k p,SRC i k=Xa p→p.1 < ngN)∧WM args (Yy (gE E s') args 0)=Xb∧
    ∀ k e xs,Jg (r.den ρ') k=Xa (e,xs)→∀ p,SRC args.length k=Xa p→Jg (Z2 E s' ρ' p.1) p.2=Xa (e,xs):=by
   split at h'
   ·rename_i d0 cs hbr;unfold ZoX at hbr;split at hbr
    case h_2=>cases hbr
    rename_i t hrs;split at hbr
    case h_2=>cases hbr
    rename_i d1 hgt;split at hbr
    case h_2=>cases hbr
    rename_i cs1 hgd;split at hbr
    case isFalse=>cases hbr
    rename_i hna;simp only [Xf,Xt] at hbr;obtain ⟨rfl,rfl⟩:=hbr;split at h'
    case isFalse=>exact h'.elim
    rename_i hndl0;obtain ⟨hndl,hsf0⟩:=hndl0
    have hd1:d1 < ngN:=by
     rcases XG d1 E.top with hlt | hge
     ·exact XS hlt (XI hnt (by decide))
     ·rw [Zfz s' _ hge] at hgd;cases hgd
    have hnb:∀ a,args[d1]? = Xa a→a.isBx=Xb→False:=by
     intro a ha hax;rw [ha] at hna
     cases a<;>simp [SV.isBx] at hax<;>cases hna
    refine ⟨.box cs1,fun i k=>if i < args.length then (if (args[i]?).map SV.isBx=Xa Xb then Xa (i,k) else Xc) else if i=args.length then Xa (d1,k) else Xc,fun i hi k=>if_pos hi,?_,?_,rfl,h',hndl,fun i k p hp=>?_,hsf0,fun k e xs ho p hp=>?_⟩
    rotate_left 2
    ·dsimp only at hp;split at hp
     ·split at hp
      ·cases hp;dsimp only;omega
      ·cases hp
     ·split at hp
      ·cases hp;exact hd1
      ·cases hp
    ·dsimp only at hp;rw [if_neg (Uv _),if_pos rfl] at hp
     cases hp
     show Jg (Z2 E s' ρ' d1) k=_;have e2:Z2 E s' ρ' d1 = .box (cs1.map (BC.den ρ')):=by simp only [Z2,hgd];rfl
     rw [e2];exact ho
    ·intro i k i' k' p h1 h2;dsimp only at h1 h2;split at h1
     ·split at h1
      ·rename_i hi hb;simp only [Xf] at h1;subst h1;obtain ⟨a,ha,hax⟩:=X6.1 hb;split at h2
       ·split at h2
        ·simp only [Xf,Xt] at h2;exact ⟨h2.1.symm,h2.2.symm⟩
        ·cases h2
       ·split at h2
        ·simp only [Xf,Xt] at h2;exact (hnb a (by rw [h2.1];exact ha) hax).elim
        ·cases h2
      ·cases h1
     ·split at h1
      ·rename_i hi;simp only [Xf] at h1;subst h1;split at h2
       ·split at h2
        ·rename_i hi' hb;simp only [Xf,Xt] at h2;obtain ⟨a,ha,hax⟩:=X6.1 hb;exact (hnb a (by rw [← h2.1];exact ha) hax).elim
        ·cases h2
       ·split at h2
        ·rename_i hi';simp only [Xf,Xt] at h2;exact ⟨by rw [hi,hi'],h2.2.symm⟩
        ·cases h2
      ·cases h1
    ·have ht:=hsim'.rel t;have hd:=hsim'.rel d1;have e1:Z2 E s' ρ' t = .ptr d1 0:=by simp only [Z2,hgt];rfl
     have e2:Z2 E s' ρ' d1 = .box (cs1.map (BC.den ρ')):=by simp only [Z2,hgd];rfl
     rw [e1] at ht;rw [e2] at hd;obtain ⟨b,cs',hb,_,hv⟩:=ht;have hp:Z0 P w' lim' (X' d1) (cs1.map (BC.den ρ')) (tm'.getD d1 undef):=hd;obtain ⟨b',hb',hv'⟩:=KC hp;rw [hb] at hb';simp only [Xf] at hb';subst hb';refine ⟨tm'.getD t undef,?_,?_⟩
     ·exact VH (vs:=[tm'.getD t undef]) (by rw [hrs];rfl) fun i r' v' hr' hv2=>by
       rw [hrs] at hr'
       cases i with
       | zero =>
        simp only [XB,Xf] at hr' hv2;subst hr';subst hv2;rfl
       | succ i => simp at hr'
     ·show Z0 P w' lim' (fun k=>((if args.length < args.length then (if (args[args.length]?).map SV.isBx=Xa Xb then Xa (args.length,k) else Xc) else if args.length=args.length then Xa (d1,k) else Xc:Option (Nat×Nat)).bind fun p=>X' p.1 p.2)) (cs1.map (BC.den ρ')) (tm'.getD t undef)
      have e3:(fun k=>((if args.length < args.length then (if (args[args.length]?).map SV.isBx=Xa Xb then Xa (args.length,k) else Xc) else if args.length=args.length then Xa (d1,k) else Xc:Option (Nat×Nat)).bind fun p=>X' p.1 p.2))=X' d1:=by
       funext k;rw [if_neg (Uv _),if_pos rfl];rfl
      rw [e3,hv,← hv'];exact hp
   ·split at h'
    case h_2=>exact h'.elim
    rename_i r hr;split at h'
    case isFalse=>exact h'.elim
    rename_i hfine;obtain ⟨hfine,hndl,hsf0⟩:=hfine;rcases ZiS hr with ⟨t,T,cs,hrs,hT,hgt,hcl2,hwh,rfl⟩ | hr
    ·-- a struct that owns what its cells own
     have htn:t < ngN:=by
      rcases XG t E.top with hlt | hge
      ·exact XS hlt (XI hnt (by decide))
      ·rw [Zfz s' _ hge] at hgt;cases hgt
     have hna:∀ a,args[t]? = Xa a→a.isBx=Xb→False:=by
      intro a ha hax;have h1:Zcf args [.cell t T]=Xb:=by rw [← hrs];exact hfine
      simp only [Zcf,Xs,Uz,List.all_nil,Bool.and_true,Z7] at h1;have h2:=h1.2;rw [ha] at h2
      cases a<;>simp [SV.isBx] at hax<;>cases h2
     have e2:Z2 E s' ρ' t = .box (cs.map (BC.den ρ')):=by simp only [Z2,hgt];rfl
     refine ⟨.aggo cs,fun i k=>if i < args.length then (if (args[i]?).map SV.isBx=Xa Xb then Xa (i,k) else Xc) else if i=args.length then (if k=0 then Xc else Xa (t,k)) else Xc,fun i hi k=>if_pos hi,?_,?_,rfl,h',hndl,fun i k p hp=>?_,hsf0,fun k e xs ho p hp=>?_⟩
     ·intro i k i' k' p h1 h2;dsimp only at h1 h2;split at h1
      ·split at h1
       ·rename_i hi hb
        cases h1
        obtain ⟨a,ha,hax⟩:=X6.1 hb;split at h2
        ·split at h2
         ·cases h2;exact ⟨rfl,rfl⟩
         ·cases h2
        ·split at h2
         ·split at h2
          ·cases h2
          ·simp only [Xf,Xt] at h2;exact (hna a (by rw [h2.1];exact ha) hax).elim
         ·cases h2
       ·cases h1
      ·split at h1
       ·rename_i hi;split at h1
        ·cases h1
        ·cases h1
         split at h2
         ·split at h2
          ·rename_i hi' hb;simp only [Xf,Xt] at h2;obtain ⟨a,ha,hax⟩:=X6.1 hb;exact (hna a (by rw [← h2.1];exact ha) hax).elim
          ·cases h2
         ·split at h2
          ·rename_i hi';split at h2
           ·cases h2
           ·simp only [Xf,Xt] at h2;exact ⟨by rw [hi,hi'],h2.2.symm⟩
          ·cases h2
       ·cases h1
     ·have hd:=hsim'.rel t;rw [e2] at hd;obtain ⟨b,arr,ty,g1,g2,g3,g4,g5,g6,g7⟩:=(show Z0 P w' lim' (X' t) (cs.map (BC.den ρ')) (tm'.getD t undef) from hd);have hal:arr.toList.length=cs.length:=by simpa using g4
      refine ⟨.agg arr.toList.toArray,?_,?_⟩
      ·exact VH (vs:=[.agg arr.toList.toArray]) (by rw [hrs];rfl) fun i r' v' hr' hv'=>by
        rw [hrs] at hr'
        cases i with
        | zero =>
         simp only [XB,Xf] at hr' hv';subst hr';subst hv';obtain ⟨i,hi⟩:=ZbQ hT;have hl2:=run_loadCells_list (P:=P) w' ⟨b,0,Xc⟩ arr.toList (fun j v hj=>by rw [Jr,ZR g3,XH];simpa using hj);rw [hal,hcl2] at hl2;simp [WP,g2,asAddr,loadVar,Zan hT,Zs hi,hl2]
        | succ i => simp at hr'
      ·refine ⟨arr.toList,rfl,by rw [hal,Xr],⟨g6,fun u hu=>?_⟩,fun j x u hx hu=>?_⟩
       ·obtain ⟨j,hj⟩:=XO.1 hu;have hlt:j < (cs.map (BC.den ρ')).length:=by rw [Xr,← hal];exact (Xk.1 hj).1
        have hr:=g7 j _ u (Xp hlt) (by simpa using hj);rcases g6 _ (Uc hlt) with hx | ⟨x,e,xs,hx⟩ | hx
        ·generalize (cs.map (BC.den ρ'))[j]=y at hr hx
         cases y<;>simp [AV.isCell] at hx<;>exact Rep.oneCell hr rfl
        ·rw [hx] at hr;exact (Jv.cells1 (show Jv P w' lim' x e xs u _ from hr)).2
        ·exact (Zew hwh ρ' _ (Uc hlt) hx).elim
       ·show Yq P w' lim' ((if args.length < args.length then (if (args[args.length]?).map SV.isBx=Xa Xb then Xa (args.length,j+1) else Xc) else if args.length=args.length then (if j+1=0 then Xc else Xa (t,j+1)) else Xc:Option (Nat×Nat)).bind fun p=>X' p.1 p.2) x u;rw [if_neg (Uv _),if_pos rfl,if_neg (by omega)];exact g7 j x u hx (by simpa using hu)
     ·dsimp only at hp;split at hp
      ·split at hp
       ·cases hp;dsimp only;omega
       ·cases hp
      ·split at hp
       ·split at hp
        ·cases hp
        ·cases hp;exact htn
       ·cases hp
     ·dsimp only at hp;rw [if_neg (Uv _),if_pos rfl] at hp;split at hp
      ·cases hp
      ·cases hp
       show Jg (Z2 E s' ρ' t) k=_;rw [e2]
       cases k with
       | zero => cases ho
       | succ k => exact ho
    have hlo0:∀ i k p,Zg9 args fn.results.toList i k=Xa p→p.1 < ngN:=by
     intro i k p hp
     have hrs:∀ r∈fn.results.toList,Z7 r < ngN:=by
      intro r0 hr0
      have:Z7 r0 < E.top:=by
       unfold Zfe at hr;split at hr
       ·rename_i r1 hrs;rw [hrs,XE] at hr0;subst hr0;obtain ⟨x,hx,_⟩:=X6.1 hr;exact Zey hx
       ·obtain ⟨xs,hx,_⟩:=X6.1 hr;exact Zdm _ _ hx r0 hr0
      exact XS this (XI hnt (by decide))
     unfold Zg9 at hp;split at hp
     ·split at hp
      ·cases hp;dsimp only;omega
      ·cases hp
     ·split at hp
      ·split at hp
       ·rename_i r1 hr1;split at hp
        ·cases hp;exact hrs r1 (by rw [hr1];simp)
        ·cases hp
       ·split at hp
        ·cases hp
        ·obtain ⟨r1,hr1,rfl⟩:=X6.1 hp;exact hrs r1 (Xm hr1)
      ·cases hp
    have hD0:∀ k e xs,Jg (r.den ρ') k=Xa (e,xs)→∀ p,Zg9 args fn.results.toList args.length k=Xa p→Jg (Z2 E s' ρ' p.1) p.2=Xa (e,xs):=by
     intro k e xs ho p hp
     have hrow:∀ k,Zg9 args fn.results.toList args.length k=match fn.results.toList with
       | [r] => if k = 0 then Xa (Z7 r, ZbM r) else Xc
       | rs => match k with | 0 => Xc | k + 1 => (rs[k]?).map fun r => (Z7 r, ZbM r) := by
      intro k;unfold Zg9;rw [if_neg (Uv _),if_pos rfl]
      all_goals rfl
     rw [hrow] at hp;unfold Zfe at hr;split at hr
     ·rename_i r1 hrs;obtain ⟨x,hx,rfl⟩:=X6.1 hr;rw [hrs] at hp;dsimp only at hp;split at hp
      ·rename_i hk;subst hk
       cases hp
       rw [ZcY] at ho;refine Ze9 hx ?_
       cases x with
       | c y =>
        have hy:=ZaS ρ' y;have ho':Jg (y.den ρ') 0=Xa (e,xs):=ho;rw [VC hy] at ho';cases ho'
       | agg cs => cases ho
       | gone => cases ho
       | own b e' l =>
        cases b with
        | false => cases ho
        | true =>
         simp only [TC.den,Jg,Xf,Xt] at ho ⊢;obtain ⟨rfl,rfl⟩:=ho;rfl
      ·cases hp
     ·rename_i hne;obtain ⟨xs1,hx,rfl⟩:=X6.1 hr;split at hp
      ·rename_i r1 hr1;exact (hne r1 hr1).elim
      ·cases k with
       | zero => cases hp
       | succ k =>
        obtain ⟨r1,hr1,rfl⟩:=X6.1 hp;simp only [SV.den,Jg] at ho;split at ho
        ·rename_i e1 ys1 hk;simp only [Xf,Xt] at ho;obtain ⟨rfl,rfl⟩:=ho;rw [Xl] at hk;obtain ⟨x,hxk,hxd⟩:=X6.1 hk;obtain ⟨r2,h1,h2⟩:=ZeZ (ρ:=ρ') _ _ hx k x e1 ys1 hxk hxd;rw [hr1] at h1
         cases h1
         exact h2
        ·cases ho
    refine ⟨r,Zg9 args fn.results.toList,fun i hi k=>?_,fun i k i' k' p h1 h2=>ZqM hfine h1 h2,?_,?_,h',hndl,hlo0,hsf0,hD0⟩
    ·unfold Zg9;rw [if_pos hi]
    ·generalize (Yy (gE E s') args 0).map (SV.den ρ')=outs0
     have hrow:∀ k,Zg9 args fn.results.toList args.length k=match fn.results.toList with
       | [r] => if k = 0 then Xa (Z7 r, ZbM r) else Xc
       | rs => match k with | 0 => Xc | k + 1 => (rs[k]?).map fun r => (Z7 r, ZbM r) := by
      intro k;unfold Zg9;rw [if_neg (Uv _),if_pos rfl]
      all_goals rfl
     unfold Zfe at hr;split at hr
     ·rename_i r0 hrs
      cases hx:Vu P (gE E s') r0 with
      | none => simp [hx] at hr
      | some x =>
       simp only [hx,Xw,Xf] at hr;subst hr;rw [ZcY];obtain ⟨v,h1,h2⟩:=Zhw (c:=c) rfl hsim' hx;refine ⟨v,?_,ZjN ?_⟩
       ·exact VH (vs:=[v]) (by rw [hrs];rfl) fun i r' v' hr' hv'=>by
         rw [hrs] at hr'
         cases i with
         | zero =>
          simp only [XB,Xf] at hr' hv';subst hr';subst hv';exact h1
         | succ i => simp at hr'
       ·show Yq P w' lim' ((Zg9 args fn.results.toList args.length 0).bind fun p=>X' p.1 p.2) _ v;rw [hrow,hrs];exact h2
     ·rename_i hne
      cases hx:Wm P (gE E s') fn.results.toList with
      | none => simp [hx] at hr
      | some xs =>
       simp only [hx,Xw,Xf] at hr;subst hr;obtain ⟨vs,g1,g2,g3⟩:=ZiK (c:=c) rfl hsim' _ _ hx
       have hne1:∀ v,vs≠[v]:=by
        intro v hv;rw [hv] at g1;obtain ⟨r',hr'⟩:=U3.1 g1;exact hne r' hr'
       refine ⟨.tuple vs.toArray,?_,?_⟩
       ·have:=VH g1 fun i r' v' hr' hv'=>(g3 i r' v' hr' hv').1;rw [this];rcases vs with _ | ⟨v,_ | ⟨u,l⟩⟩
        ·rfl
        ·exact (hne1 v rfl).elim
        ·rfl
       ·refine ⟨vs,rfl,by simp [g2],fun i y u hy hu=>?_⟩;rw [Xl] at hy
        cases hxi:xs[i]? with
        | none => simp [hxi] at hy
        | some x =>
         simp only [hxi,Xw,Xf] at hy;subst hy;obtain ⟨r',hr'⟩:∃ r',fn.results.toList[i]? = Xa r':=⟨_,Xp (by rw [g1];exact (Xk.1 hu).1)⟩;have h3:=(g3 i r' u hr' hu).2 x hxi
         have hsrc:Zg9 args fn.results.toList args.length (i+1)=Xa (Z7 r',ZbM r'):=by
          rw [hrow];split
          ·rename_i r1 hr1;exact (hne r1 hr1).elim
          ·simp [hr']
         show Yq P w' lim' ((Zg9 args fn.results.toList args.length (i+1)).bind fun p=>X' p.1 p.2) _ u;rw [hsrc];exact h3
    ·unfold Zfe at hr;split at hr
     ·obtain ⟨x,_,rfl⟩:=X6.1 hr;rw [ZcY]
      cases x with
      | c y => exact KD ρ' y
      | _ => rfl
     ·obtain ⟨x,_,rfl⟩:=X6.1 hr;rfl
  obtain ⟨res0,hres⟩:∃ y,SV.den ρ' r=y:=⟨_,rfl⟩;obtain ⟨outs0,houts⟩:∃ y,(Yy (gE E s') args 0).map (SV.den ρ')=y:=⟨_,rfl⟩;have hww:=hR _ _ h';rw [hres,houts] at hww
  suffices hz:∃ v,(results fn tm').run P w' = .ok v w'∧
    ∃ v1 lim1 X1,Ending.returned v = .returned v1∧K7 w lim w' lim1 (fun b=>∃ i k,X i k=Xa b) ((args.map (SV.den ρ)).any AV.isSto)∧outs0.length=(args.map (SV.den ρ)).length∧
     (∀ i,ZS P w' lim1 X1 (ZB (outs0++[res0])) i (ZB (outs0++[res0]) i) (Zaz (args.map (SV.den ρ)).length cargs v1 i))∧ZmH X1∧
     (∀ i k b,X1 i k=Xa b→b < w'.heap.size∧((∃ i k,X i k=Xa b)∨w.heap.size≤b))∧(∀ i,(ZB (outs0++[res0]) i).isG=Xb→(ZB (args.map (SV.den ρ)) i).isG=Xb∧X1 i 0=X i 0)∧VS P outs0∧ZsC P w' lim1 X1 res0 (args.map (SV.den ρ)).length by
   obtain ⟨v,hrun,v1,lim1,X1,he,hst,hol,hr,hd,hin,hgh,hnl,hnr⟩:=hz;obtain ⟨X3,k1,k3,k2,k4⟩:=ZfD hr hww
   have hX3:∀ i k b,X3 i k=Xa b→X1 i k=Xa b:=by
    intro i k b hb;rcases k1 i k with e | e
    ·rw [← e];exact hb
    ·rw [e] at hb;cases hb
   have hll:outs0.length=outs.length:=by have:=hww.1;simpa using this
   refine ⟨v,hrun,v1,lim1,X3,he,hst,by rw [← hll,hol],k2,Zia hd k1,fun i k b hb=>hin i k b (hX3 i k b hb),fun i hi=>?_,Zjj hww hnl,fun k e xs b m1 m2 m3=>?_⟩
   ·obtain ⟨m1,m2⟩:=hgh i (ZgP hww hi);exact ⟨m1,by rw [k3 i (Zb7 hi),m2]⟩
   ·have hal2:outs0.length=args.length:=by rw [hol,Xr]
    rw [← ZhZ (aZ:=outs) (x:=res)] at m1;have h1:=Zee hww m1 m2;rw [← hll,ZhZ] at h1;rw [k4 _ (by simp;omega)];exact hnr k e xs b h1 m2 (hX3 _ _ _ m3)
  rw [hres,houts] at hval;obtain ⟨v,hv1,hv2⟩:=hval;have hol:outs0.length=args.length:=by rw [← houts,Xr,Zif]
  have hrt:∀ i,Zaz (args.map (SV.den ρ)).length cargs v i=if i=args.length then v else cargs.getD i undef:=by
   intro i;unfold Zaz;rw [Xr]
  have hout:∀ i,i < args.length→ZB (outs0++[res0]) i=match args[i]? with | some a=>if a.isBx=Xb then Z2 E s' ρ' i else .dead | none=>.dead:=by
   intro i hi;simp only [ZB];rw [Xx (by omega),← houts,Xl,Zg6,XH];have:=Xp hi;rw [this];simp only [Xw,UZ];split<;>rfl
  have hgpn:∀ i cs,args[i]? = Xa (.gbox cs)→X' i 0=X i 0∧(Z2 E s' ρ' i).isG=Xb∧∃ b,X i 0=Xa b:=by
   intro i cs hcs;have hri:=hrel i;have h2:ZB (args.map (SV.den ρ)) i = .gbox (cs.map (BC.den ρ)):=by simp only [ZB,Xl,hcs];rfl
   rw [h2] at hri;obtain ⟨v',hp⟩:=hri;obtain ⟨b,hb,_⟩:=KC hp;obtain ⟨g1,g2⟩:=hsim'.gpin i b (by show (match args[i]? with | some (.gbox _)=>X i 0 | _=>Xc)=_;rw [hcs];exact hb);exact ⟨by rw [g1,hb],g2,b,hb⟩
  have hstoO:∀ i l,args[i]? = Xa (.store l)→∃ rows,Z2 E s' ρ' i = .store rows:=by
   intro i l hl
   have h9:(Yy (gE E s') args 0)[i]? = Xa (gE E s' i):=by
    rw [Zg6,hl,XH];rfl
   obtain ⟨l',hl'⟩:=Ze4 _ _ hsf i l _ hl h9;exact ⟨l'.den ρ',by simp only [Z2,hl',SV.den]⟩
  obtain ⟨SRC2,hS2⟩:∃ SRC2:Nat→Nat→Option (Nat×Nat),SRC2=fun i k=>if ngN≤i then Xa (i,k) else SRC i k:=⟨_,rfl⟩;have hSlo:∀ i,i < ngN→∀ k,SRC2 i k=SRC i k:=fun i hi k=>by rw [hS2];exact if_neg (by omega)
  have hShi:∀ i,ngN≤i→∀ k,SRC2 i k=Xa (i,k):=fun i hi k=>by rw [hS2];exact if_pos hi
  have hA:∀ i,i < args.length→∀ k,SRC2 i k=if (args[i]?).map SV.isBx=Xa Xb then Xa (i,k) else Xc:=fun i hi k=>(hSlo i (by omega) k).trans (hA i hi k)
  have hB2:∀ i k i' k' p,SRC2 i k=Xa p→SRC2 i' k'=Xa p→i=i'∧k=k':=fun i k i' k' p h1 h2=>by
   rcases XG i ngN with hi | hi<;>rcases XG i' ngN with hi' | hi'
   ·rw [hSlo i hi] at h1;rw [hSlo i' hi'] at h2;exact hB i k i' k' p h1 h2
   ·rw [hSlo i hi] at h1;rw [hShi i' hi'] at h2;cases h2;have:=hlo i k _ h1;dsimp only at this;omega
   ·rw [hShi i hi] at h1;rw [hSlo i' hi'] at h2;cases h1;have:=hlo i' k' _ h2;dsimp only at this;omega
   ·rw [hShi i hi] at h1;rw [hShi i' hi'] at h2;cases h1;cases h2;exact ⟨rfl,rfl⟩
  have hdlt:∀ d,ZB (outs0++[res0]) d≠.dead→d < ngN:=fun d hd=>by
   rcases XG d ngN with h | h
   ·exact h
   ·refine (hd ?_).elim;have:(outs0++[res0])[d]? = Xc:=Wl (by simp;omega);simp only [ZB,this];rfl
  have hv2:ZS P w' lim' (fun i k=>(SRC2 i k).bind fun p=>X' p.1 p.2) (ZB (outs0++[res0])) args.length res0 v:=by
   have hrow:∀ i,i < ngN→(fun k=>(SRC2 i k).bind fun p=>X' p.1 p.2)=fun k=>(SRC i k).bind fun p=>X' p.1 p.2:=fun i hi=>by
    funext k;rw [hSlo i hi]
   have hat:∀ i,i < ngN→∀ k,(SRC2 i k).bind (fun p=>X' p.1 p.2)=(SRC i k).bind fun p=>X' p.1 p.2:=fun i hi k=>by rw [hSlo i hi]
   refine hv2.chg (hrow _ (by omega)) (fun d' cs hd'=>⟨⟨cs,hd'⟩,hat d' (hdlt d' (by rw [hd'];exact fun h=>by cases h)) 0⟩) (fun d' hd'=>⟨hd',hat d' (hdlt d' (by intro h;rw [h] at hd';cases hd')) 0⟩) fun d' k hr=>⟨Vm.refl _ _,?_⟩;obtain ⟨p,hp⟩:=ZiJ hv2 hr;exact hat d' (hdlt d' (by intro h;rw [h] at hp;cases hp)) k
  have hlow2:∀ k p,SRC2 args.length k=Xa p→SRC args.length k=Xa p:=fun k p hp=>by rw [← hSlo _ hngb];exact hp
  refine ⟨v,hv1,v,lim',fun i k=>(SRC2 i k).bind fun p=>X' p.1 p.2,rfl,⟨hsim'.frm.os,hsim'.frm.tape,hsim'.frm.output,hsim'.frm.size,hsim'.frm.frz,hsim'.frm.blk,hsim'.frm.ext,hsim'.frm.t⟩,by rw [hol,Xr],fun i=>?_,fun d k d' k' b hb hb'=>?_,fun i k b hb=>?_,fun i hi=>?_,fun i k e xs hi=>?_,fun k e xs b m1 m2 m3=>?_⟩
  ·rw [hrt];rcases Tn i args.length with hi | hi | hi
   ·rw [if_neg (by omega),hout i hi];obtain ⟨a,ha⟩:=hcd i hi;rw [ha];dsimp only
    have hrow:a.isBx=Xb→(fun k=>(SRC2 i k).bind fun p=>X' p.1 p.2)=X' i:=by
     intro hbx;funext k;rw [hA i hi k,ha,if_pos (by simp [hbx])];rfl
    cases a with
    | box cs =>
     rw [if_pos (show (SV.box cs).isBx=Xb from rfl)];obtain ⟨p1,cs',p2⟩:=hsim'.pin i (cargs.getD i undef) (by show (match args[i]? with | some (.box _)=>Xa (cargs.getD i undef) | _=>Xc)=_;rw [ha]);have hrl:=hsim'.rel i;rw [p2,p1] at hrl;rw [p2];show Z0 P w' lim' (fun k=>(SRC2 i k).bind fun p=>X' p.1 p.2) cs' _;rw [hrow rfl];exact hrl
    | gbox cs =>
     rw [if_pos (show (SV.gbox cs).isBx=Xb from rfl)];obtain ⟨g1,g2,g3⟩:=hgpn i cs ha;have hrl:=hsim'.rel i;generalize Z2 E s' ρ' i=x at g2 hrl
     cases x<;>simp [AV.isG] at g2
     rotate_left
     ·obtain ⟨b,hb⟩:=g3;rw [hrl.2.1,hb] at g1;cases g1
     obtain ⟨v',hrl⟩:=hrl;refine ⟨v',?_⟩;show Z0 P w' lim' (fun k=>(SRC2 i k).bind fun p=>X' p.1 p.2) _ v';rw [hrow rfl];exact hrl
    | store l =>
     rw [if_pos (show (SV.store l).isBx=Xb from rfl)];obtain ⟨rows,hrw⟩:=hstoO i l ha;have hrl:=hsim'.rel i;rw [hrw] at hrl;rw [hrw];show JC P w' lim' (fun k=>(SRC2 i k).bind fun p=>X' p.1 p.2) rows;rw [hrow rfl];exact hrl
    | _ => exact trivial
   ·subst hi
    have hout:ZB (outs0++[res0]) args.length=res0:=by
     simp only [ZB];rw [Xz (by omega),hol];simp
    rw [if_pos rfl,hout];exact hv2
   ·have hout:ZB (outs0++[res0]) i = .dead:=by
     simp only [ZB];rw [Wl (by simp;omega)];rfl
    rw [hout];trivial
  ·cases hp:SRC2 d k with
   | none => simp [hp] at hb
   | some p =>
    cases hp':SRC2 d' k' with
    | none => simp [hp'] at hb'
    | some p' =>
     simp only [hp,hp',Xi] at hb hb';obtain ⟨e1,e2⟩:=hsim'.dist _ _ _ _ b hb hb';have:p=p':=Prod.ext e1 e2;subst this;exact hB2 _ _ _ _ _ hp hp'
  ·cases hp:SRC2 i k with
   | none => simp [hp] at hb
   | some p =>
    simp only [hp,Xi] at hb;exact hsim'.ours _ _ b hb
  ·rcases Tn i args.length with hl | hl | hl
   ·rw [hout i hl] at hi;obtain ⟨a,ha⟩:=hcd i hl;rw [ha] at hi;dsimp only at hi
    cases a with
    | gbox cs =>
     obtain ⟨g1,g2,g3⟩:=hgpn i cs ha;refine ⟨by simp only [ZB,Xl,ha];rfl,?_⟩;show (SRC2 i 0).bind (fun p=>X' p.1 p.2)=X i 0;rw [hA i hl 0,ha,if_pos (show (Xa (SV.gbox cs)).map SV.isBx=Xa Xb from rfl)];exact g1
    | box cs =>
     obtain ⟨p1,cs',p2⟩:=hsim'.pin i (cargs.getD i undef) (by show (match args[i]? with | some (.box _)=>Xa (cargs.getD i undef) | _=>Xc)=_;rw [ha]);rw [if_pos (show (SV.box cs).isBx=Xb from rfl),p2] at hi
     cases hi
    | store l =>
     obtain ⟨rows,hrw⟩:=hstoO i l ha;have hrl:=hsim'.rel i;rw [hrw] at hrl;have hri:=hrel i;rw [show ZB (args.map (SV.den ρ)) i = .store (l.den ρ) by simp only [ZB,Xl,ha];rfl] at hri;refine ⟨by simp only [ZB,Xl,ha];rfl,?_⟩;show (SRC2 i 0).bind (fun p=>X' p.1 p.2)=X i 0;rw [hA i hl 0,ha,if_pos (show (Xa (SV.store l)).map SV.isBx=Xa Xb from rfl)];exact hrl.2.1.trans hri.2.1.symm
    | _ => cases hi
   ·subst hl
    have hres0:ZB (outs0++[res0]) args.length=res0:=by
     simp only [ZB];rw [Xz (by omega),hol];simp
    rw [hres0,← hres,hG0] at hi
    cases hi
   ·have:ZB (outs0++[res0]) i = .dead:=by
     simp only [ZB];rw [Wl (by simp;omega)];rfl
    rw [this] at hi
    cases hi
  ·cases hd:Zn P e with
   | false => rfl
   | true =>
    exfalso;rw [← houts] at hi
    cases hg:(Yy (gE E s') args 0)[i]? with
    | none =>
     have h2:((Yy (gE E s') args 0).map (SV.den ρ'))[i]? = Xc:=by rw [Xl,hg];rfl
     simp only [ZB,h2,Option.getD_none] at hi
     cases k<;>first | cases hi | exact (Jb hi rfl).elim
    | some a =>
     have h2:ZB ((Yy (gE E s') args 0).map (SV.den ρ')) i=a.den ρ':=by simp only [ZB,Xl,hg];rfl
     rw [h2] at hi;rw [Ze8 (XD.1 hnd a (Xm hg)) hi] at hd
     cases hd
  ·rw [Xr] at m3;have m3':(SRC2 args.length k).bind (fun p=>X' p.1 p.2)=Xa b:=m3
   cases hp:SRC2 args.length k with
   | none => rw [hp] at m3'; cases m3'
   | some p =>
    rw [hp] at m3';rw [← hres] at m1;have h1:=hD k e xs m1 p (hlow2 k p hp);have h2:=hsim'.nst p.1 p.2 e xs b h1 m2 m3'
    have h3:(fun k=>(SRC2 (ngN+b) k).bind fun p=>X' p.1 p.2)=X' (ngN+b):=by
     funext k;rw [hShi _ (XX _ _)];rfl
    show ZaO P w' lim' e xs b (fun k=>(SRC2 (ngN+b) k).bind fun p=>X' p.1 p.2);rw [h3];exact h2
 refine Zq0 hm hps hnt (c:=c) rfl rfl (fun d v hv=>?_) (fun d b hb=>?_) code 0 n _ _ _ _ _ ρ _ w lim X _ ?_ h hsim ?_ ?_ ?_
 ·obtain ⟨⟨cs,hcs⟩,_⟩:=hpin d v hv;have:=(hat d _ hcs).1 cs rfl
  rwa [XH] at this
 ·have hb':(match args[d]? with | some (.gbox _)=>X d 0 | _=>Xc)=Xa b:=hb;split at hb'
  ·rename_i cs hcs;have h1:=(hat d _ hcs).2.1 rfl;have h2:=(Xk.1 hcs).1;exact ⟨by omega,by omega⟩
  ·cases hb'
 ·refine Y7 hnt _ _ hlow (fun d=>?_) (Zii args 0 hargs);unfold gE;split<;>trivial
 ·intro s' n' ρ' A' _ hs' h' tm' w' lim' X' hsim';obtain ⟨g1,lim2,X2,g2⟩:=ZgB (P:=P) (E:=E) hnt rfl (id:=1000000) (ops:=#[]) hs' hsim';obtain ⟨v,h1,h2⟩:=hfin _ n' ρ' A' g1 h' tm' w' lim2 X2 g2;exact ⟨rfl,v,h1,h2⟩
 ·intro id s' n' ρ' A' _ hs' h';exact h'.elim
 ·intro s' n' ρ' A' _ hs' h' tm' w' lim' X' hsim';obtain ⟨g1,lim2,X2,g2⟩:=ZgB (P:=P) (E:=E) hnt rfl (id:=1000000) (ops:=#[]) hs' hsim';obtain ⟨v,h1,h2⟩:=hfin _ n' ρ' A' g1 h' tm' w' lim2 X2 g2;exact ⟨rfl,v,h1,h2⟩
end
def ZrC (P:Program) (rec:TypeId→Bool) (e:Nat):List Field→Nat→Bool
 | [], _ => Xb
 | f :: fs, off => (f.name != "_") && (f.offset == off) &&
  (match P.underlying f.type with
   | some (.int _) => Xb
   | some .bool => Xb
   | some (.struct _) => rec f.type && (P.info? f.type).isSome
   | _ => Xe) &&
  (match Kx P e f.type with | some l=>(P.cellsOf f.type == l.length)&&ZrC P rec e fs (off+l.length) | none=>Xe)
def Zmk (P:Program):Nat→TypeId→Bool
 | 0, _ => Xe
 | e + 1, T =>
  match P.underlying T with
  | some (.struct fs) => ZrC P (Zmk P e) e fs.toList 0 && !P.stoodInHeld T
  | _ => Xe
def Zvw (P:Program) (T:TypeId):Bool:=Zmk P 8 T&&!P.eqGuardType P.depth T
theorem W8:∀ (L1 L2:List Sh) (us:List Value),Kl (L1++L2) us→Kl L1 (us.take L1.length)∧Kl L2 (us.drop L1.length)∧(us.take L1.length).length=L1.length
 | [], L2, us, h => ⟨by simp [Kl], by simpa using h, by simp⟩
 | s :: L1, L2, [], h => by cases s <;> exact h.elim
 | s :: L1, L2, u :: us, h => by
  cases s<;>cases u<;>try exact h.elim
  ·obtain ⟨h1,h2,h3⟩:=W8 L1 L2 us h.2;exact ⟨⟨h.1,h1⟩,h2,by simpa using h3⟩
  ·obtain ⟨h1,h2,h3⟩:=W8 L1 L2 us h;exact ⟨h1,h2,by simpa using h3⟩
theorem Zj4:∀ (L:List Sh) (a c b d:List Value),Kl L a→Kl L c→eqV (a++b) (c++d)=(eqV a c&&eqV b d)
 | [], [], [], b, d, _, _ => by simp [eqV]
 | [], _ :: _, _, _, _, h, _ => h.elim
 | [], [], _ :: _, _, _, _, h => h.elim
 | s :: L, [], _, _, _, h, _ => by cases s <;> exact h.elim
 | s :: L, _ :: _, [], _, _, _, h => by cases s <;> exact h.elim
 | s :: L, x :: a, y :: c, b, d, h, h' => by
  cases s<;>cases x<;>(try exact h.elim)<;>cases y<;>try exact h'.elim
  ·simp only [XJ,eqV,Zj4 L a c b d h.2 h'.2,Bool.and_assoc]
  ·simp only [XJ,eqV,Zj4 L a c b d h h',Bool.and_assoc]
section
variable {P:Program}
def ZrR (P:Program) (e k:Nat) (T:TypeId):Prop:=∀ (L:List Sh) (us vs:List Value) (w:World),Kx P e T=Xa L→Kl L us→Kl L vs→
 (Op.equalIn (k+e) T (.agg us.toArray) (.agg vs.toArray)).run P w = .ok (eqV us vs) w
theorem Zei (e k:Nat) (rec:TypeId→Bool) (hrec:∀ T,rec T=Xb→ZrR P e k T) (w:World) (us vs:List Value):∀ (fs:List Field) (n:Nat) (L:List Sh),ZrC P rec e fs n=Xb→
  fs.foldr (fun f acc=>match Kx P e f.type,acc with | some a,Xa b=>Xa (a++b) | _,_=>Xc) (Xa [])=Xa L→Kl L (us.drop n)→Kl L (vs.drop n)→
  (Op.eqFields (k+e) us.toArray vs.toArray fs).run P w = .ok (eqV (us.drop n) (vs.drop n)) w
 | [], n, L, _, hL, hu, hv => by
  simp only [List.foldr_nil,Xf] at hL;subst hL
  cases h:us.drop n with
  | nil => simp [Op.eqFields, eqV]
  | cons x l => rw [h] at hu; exact hu.elim
 | f :: fs, n, L, hf, hL, hu, hv => by
  simp only [ZrC,Xs,bne_iff_ne,ne_eq,beq_iff_eq] at hf;obtain ⟨⟨⟨hname,hoff⟩,hty⟩,hrest⟩:=hf;simp only [List.foldr_cons] at hL;split at hL
  case h_2=>cases hL
  rename_i a L' ha hL';simp only [Xf] at hL;subst hL;rw [ha] at hrest;simp only [Xs,beq_iff_eq] at hrest;obtain ⟨hcells,hrest⟩:=hrest;obtain ⟨u1,u2,u3⟩:=W8 a L' _ hu;obtain ⟨v1,v2,v3⟩:=W8 a L' _ hv;rw [List.drop_drop] at u2 v2;have ih:=Zei e k rec hrec w us vs fs (n+a.length) L' hrest hL' u2 v2
  have hus:us.drop n=(us.drop n).take a.length++us.drop (n+a.length):=by
   rw [← List.drop_drop,UR]
  have hvs:vs.drop n=(vs.drop n).take a.length++vs.drop (n+a.length):=by
   rw [← List.drop_drop,UR]
  have hev:eqV (us.drop n) (vs.drop n)=(eqV ((us.drop n).take a.length) ((vs.drop n).take a.length)&&eqV (us.drop (n+a.length)) (vs.drop (n+a.length))):=by
   rw [hus,hvs];have:=Zj4 a ((us.drop n).take a.length) ((vs.drop n).take a.length) (us.drop (n+a.length)) (vs.drop (n+a.length)) u1 v1;rw [← hus,← hvs] at this ⊢;exact this
  rw [hev]
  -- the field's value
  suffices hx:∃ x y,(part f.type us.toArray f.offset).run P w = .ok x w∧(part f.type vs.toArray f.offset).run P w = .ok y w∧(Op.equalIn (k+e) f.type x y).run P w = .ok (eqV ((us.drop n).take a.length) ((vs.drop n).take a.length)) w by
   obtain ⟨x,y,p1,p2,p3⟩:=hx;simp only [Op.eqFields,hname,ne_eq,not_false_eq_true,if_true,Sem.run_bind,p1,p2,p3,Result.andThen_ok,Sem.run_ite]
   cases h:eqV ((us.drop n).take a.length) ((vs.drop n).take a.length)
   ·simp
   ·simpa using ih
  have he:∃ e',e=e'+1:=by
   cases e with
   | zero => simp [Kx] at ha
   | succ e' => exact ⟨e', rfl⟩
  obtain ⟨e',rfl⟩:=he
  have one:∀ (l:List Value),((l.drop n).take 1).length=1→∃ x,(l.drop n).take 1 = [x]∧l[n]? = Xa x:=by
   intro l hl
   cases h:l.drop n with
   | nil => rw [h] at hl; simp at hl
   | cons x r =>
    refine ⟨x,rfl,?_⟩;have:=congrArg (fun l=>l[0]?) h;simpa using this
  split at hty
  ·rename_i kk hk
   have ha':a = [.int kk]:=by
    simp only [Kx,hk,Xf] at ha;exact ha.symm
   subst ha';obtain ⟨x,x1,x2⟩:=one us u3;obtain ⟨y,y1,y2⟩:=one vs v3;simp only [XA,XW,XH] at u1 v1 ⊢;rw [x1] at u1 ⊢;rw [y1] at v1 ⊢
   cases x<;>try exact u1.elim
   cases y<;>try exact v1.elim
   obtain ⟨rfl,_⟩:=u1;obtain ⟨rfl,_⟩:=v1
   have p1:∀ (l:List Value) (x:Value),l[n]? = Xa x→(part f.type l.toArray f.offset).run P w = .ok x w:=by
    intro l x h;rw [hoff];have:l.toArray[n]? = Xa x:=by simpa using h
    simp [part,isAgg,run_underlying hk,this]
   refine ⟨_,_,p1 us _ x2,p1 vs _ y2,?_⟩;rw [show k+(e'+1)=(k+e')+1 from rfl,run_equalIn_int w (k+e') f.type _ _ _ _ hk];simp [eqV]
  ·rename_i hk
   have ha':a = [.bool]:=by
    simp only [Kx,hk,Xf] at ha;exact ha.symm
   subst ha';obtain ⟨x,x1,x2⟩:=one us u3;obtain ⟨y,y1,y2⟩:=one vs v3;simp only [XA,XW,XH] at u1 v1 ⊢;rw [x1] at u1 ⊢;rw [y1] at v1 ⊢
   cases x<;>try exact u1.elim
   cases y<;>try exact v1.elim
   have p1:∀ (l:List Value) (x:Value),l[n]? = Xa x→(part f.type l.toArray f.offset).run P w = .ok x w:=by
    intro l x h;rw [hoff];have:l.toArray[n]? = Xa x:=by simpa using h
    simp [part,isAgg,run_underlying hk,this]
   refine ⟨_,_,p1 us _ x2,p1 vs _ y2,?_⟩;rw [show k+(e'+1)=(k+e')+1 from rfl,run_equalIn_bool' w (k+e') f.type _ _ hk];simp [eqV]
  ·rename_i gs hk;rw [Xs] at hty;obtain ⟨inf,hinf⟩:=Option.isSome_iff_exists.1 hty.2;have hsz:P.cellsOf f.type=inf.size:=ZO hinf
   have p1:∀ (l:List Value),(part f.type l.toArray f.offset).run P w = .ok (.agg ((l.drop n).take a.length).toArray) w:=by
    intro l;rw [hoff];have hag:(isAgg f.type).run P w = .ok Xb w:=by simp [isAgg,run_underlying hk]
    have:l.toArray.extract n (n+inf.size)=((l.drop n).take a.length).toArray:=by
     apply Array.toList_inj.1;rw [Array.toList_extract];simp [List.extract_eq_take_drop,← hcells,hsz]
    rw [← hsz,hcells] at this;simp [part,hag,Zs hinf,← hsz,hcells]
   exact ⟨_,_,p1 us,p1 vs,hrec f.type hty.1 a _ _ w ha u1 v1⟩
  ·cases hty
theorem Zm1:∀ (e k:Nat) (T:TypeId),Zmk P e T=Xb→ZrR P e k T
 | 0, _, _, h => by simp [Zmk] at h
 | e + 1, k, T, h => by
  intro L us vs w hL hu hv;unfold Zmk at h;split at h
  ·rename_i fs hfs;simp only [Xs,UM] at h;have hfo:P.fieldsOf T=fs:=by simp only [Program.fieldsOf,hfs]
   rw [show k+(e+1)=(k+e)+1 from rfl,run_equalIn_struct w (k+e) T _ _ (by rw [hfo];exact hfs) h.2,hfo]
   have:=Zei e k (Zmk P e) (fun T' h'=>Zm1 e k T' h') w us vs fs.toList 0 L h.1 (by
    rw [Kx] at hL;simp only [hfs] at hL;exact hL) (by simpa using hu) (by simpa using hv)
   simpa using this
  ·cases h
theorem Zqz {plain:List TypeId} (h:plain.all (Zvw P)=Xb):Zai P plain:=by
 intro T hT;rw [XD] at h;have hf:=h T hT;unfold Zvw at hf;simp only [Xs,UM] at hf;exact ⟨hf.2,fun L hL us vs hu hv w=>Zm1 8 9992 T hf.1 L us vs w hL hu hv⟩
end
def Zv2 (l:List V):Nat→V:=fun n=>(l[n]?).getD (.i 0)
abbrev I (z:Int):AV:=.val (.int .i64 z)
abbrev B (b:Bool):AV:=.val (.bool b)
theorem ZnA {z:Int} (h1 : -(2^63:Int)≤z) (h2:z < 2^63):IntKind.i64.wrap z=z:=by
 have e:(2:Int)^63=9223372036854775808:=by decide
 rw [e] at h1 h2;simp only [IntKind.wrap];have:IntKind.i64.signed=Xb:=rfl;simp [this,IntKind.bits];omega
theorem Zoa {a b:Int} (h1 : -(2^63:Int)≤a+b) (h2:a+b < 2^63):iop .add .i64 a b=a+b:=ZnA h1 h2
theorem ZwH {a b:Int} (h1 : -(2^63:Int)≤a-b) (h2:a-b < 2^63):iop .sub .i64 a b=a-b:=ZnA h1 h2
@[reducible] def Sh.T:Sh→Type
 | .int _ => Int
 | .bool => Bool
 | .str => ByteArray
 | .slice _ => List (List AV)
 | .own _ _ => List (List AV)
 | .cel => List (List AV)
@[reducible] def ShsT:List Sh→Type
 | [] => Unit
 | [s] => s.T
 | s :: t :: r => s.T × ShsT (t :: r)
def Sh.toV:(s:Sh)→s.T→V
 | .int _, z => .i z
 | .bool, z => .b z
 | .str, z => .s z
 | .slice _, z => .l z
 | .own _ _, z => .l z
 | .cel, z => .l z
def Sh.ofV:(s:Sh)→V→Option s.T
 | .int _, .i z => Xa z
 | .bool, .b z => Xa z
 | .str, .s z => Xa z
 | .slice _, .l z => Xa z
 | .own _ _, .l z => Xa z
 | .cel, .l z => Xa z
 | _, _ => Xc
def ZeB:(l:List Sh)→ShsT l→List V
 | [], _ => []
 | [s], x => [s.toV x]
 | s :: t :: r, x => s.toV x.1 :: ZeB (t :: r) x.2
def Zr5:(l:List Sh)→List V→Option (ShsT l)
 | [], [] => Xa ()
 | [], _ :: _ => Xc
 | [s], [v] => s.ofV v
 | [_], [] => Xc
 | [_], _ :: _ :: _ => Xc
 | _ :: _ :: _, [] => Xc
 | s :: t :: r, v :: vs => match s.ofV v, Zr5 (t :: r) vs with | some a, Xa b => Xa (a, b) | _, _ => Xc
theorem Znr {s:Sh} {v:V} {x:s.T} (h:s.ofV v=Xa x):s.toV x=v:=by
 cases s<;>cases v<;>simp [Sh.ofV] at h<;>subst h<;>rfl
theorem ZiC:∀ (l:List Sh) (vs:List V) (x:ShsT l),Zr5 l vs=Xa x→ZeB l x=vs
 | [], [], _, _ => rfl
 | [], _ :: _, _, h => by simp [Zr5] at h
 | [s], [v], x, h => by simp only [ZeB, Znr (show s.ofV v = Xa x from h)]
 | [_], [], _, h => by simp [Zr5] at h
 | [_], _ :: _ :: _, _, h => by simp [Zr5] at h
 | _ :: _ :: _, [], _, h => by simp [Zr5] at h
 | s :: t :: r, v :: vs, x, h => by
  simp only [Zr5] at h;split at h
  ·rename_i a b ha hb;simp only [Xf] at h;subst h;simp only [ZeB,Znr ha,ZiC (t::r) vs b hb]
  ·cases h
def Sh.ofE:(s:Sh)→AV→Option s.T
 | .int k, .val (.int k' z) => if k' = k then Xa z else Xc
 | .bool, .val (.bool b) => Xa b
 | .str, .val (.string b) => Xa b
 | .slice s, .slice Xe s' xs => if s' = s then Xa xs else Xc
 | .cel, c => if ZP c = Xb then Xa [[c]] else Xc
 | _, _ => Xc
def Zp0:(l:List Sh)→List AV→Option (ShsT l)
 | [], [] => Xa ()
 | [], _ :: _ => Xc
 | [s], [c] => s.ofE c
 | [_], [] => Xc
 | [_], _ :: _ :: _ => Xc
 | _ :: _ :: _, [] => Xc
 | s :: t :: r, c :: cs => match s.ofE c, Zp0 (t :: r) cs with | some a, Xa b => Xa (a, b) | _, _ => Xc
theorem Zpl {s:Sh} {c:AV} {x:s.T} {n:Nat} {ρ:Nat→V} (h:s.ofE c=Xa x) (hρ:ρ n=s.toV x):(Yw s n).den ρ=c:=by
 unfold Sh.ofE at h;split at h
 ·split at h
  ·simp only [Xf] at h;subst h;rename_i hk;subst hk;simp only [Yw,SC.den,IE.den,hρ,Sh.toV,V.int]
  ·cases h
 ·simp only [Xf] at h;subst h;simp only [Yw,SC.den,BE.den,hρ,Sh.toV,V.bool]
 ·simp only [Xf] at h;subst h;simp only [Yw,SC.den,SE.den,hρ,Sh.toV,V.str]
 ·split at h
  ·simp only [Xf] at h;subst h;rename_i hk;subst hk;simp only [Yw,SC.den,LE.den,hρ,Sh.toV,V.list]
  ·cases h
 ·split at h
  ·rename_i hc;simp only [Xf] at h;subst h;simp only [Yw,SC.den,LE.den,hρ,Sh.toV,V.list,Zdy hc]
  ·cases h
 ·cases h
theorem Zk1:∀ (l:List Sh) (cs:List AV) (x:ShsT l) (n:Nat) (ρ:Nat→V),Zp0 l cs=Xa x→ZlG ρ n (ZeB l x)→(ZH l n).map (SC.den ρ)=cs
 | [], [], _, _, _, _, _ => rfl
 | [], _ :: _, _, _, _, h, _ => by simp [Zp0] at h
 | [s], [c], x, n, ρ, h, hf => by
  have h0:=hf 0 _ (show (ZeB [s] x)[0]? = Xa (s.toV x) from rfl);rw [Uh] at h0;simp only [ZH,Xh,XF,Zpl (show s.ofE c=Xa x from h) h0]
 | [_], [], _, _, _, h, _ => by simp [Zp0] at h
 | [_], _ :: _ :: _, _, _, _, h, _ => by simp [Zp0] at h
 | _ :: _ :: _, [], _, _, _, h, _ => by simp [Zp0] at h
 | s :: t :: r, c :: cs, x, n, ρ, h, hf => by
  simp only [Zp0] at h;split at h
  ·rename_i a b ha hb;simp only [Xf] at h;subst h;obtain ⟨h0,h1⟩:=ZlG.tail (show ZlG ρ n (s.toV a::ZeB (t::r) b) from hf);have h2:=Zk1 (t::r) cs b (n+1) ρ hb h1;rw [ZH,Xh,Zpl ha h0,h2]
  ·cases h
def Zf {γ:Type} (p:Prop) [Decidable p] (x:Option γ):Option γ:=if p then x else Xc
theorem Zb {γ:Type} {p:Prop} {_:Decidable p} (h:p) (x:Option γ):Zf p x=x:=if_pos h
theorem ZbH {γ:Type} {p:Prop} {_:Decidable p} {x:Option γ} {r:γ} (h:Zf p x=Xa r):p∧x=Xa r:=by
 unfold Zf at h;split at h
 ·exact ⟨‹_›,h⟩
 ·cases h
def ZtX:Value→Value→Bool
 | .int k z, .int k' z' => decide (k = k') && decide (z = z')
 | .bool b, .bool b' => b == b'
 | .string s, .string s' => decide (s = s')
 | _, _ => Xe
theorem ZdL {a b:Value} (h:ZtX a b=Xb):a=b:=by
 unfold ZtX at h;split at h
 ·simp only [Xs,decide_eq_true_eq] at h;rw [h.1,h.2]
 ·rw [beq_iff_eq] at h;rw [h]
 ·rw [decide_eq_true_eq] at h;rw [h]
 ·cases h
def ZsH {α:Type} (q:α→α→Bool):List α→List α→Bool
 | [], [] => Xb
 | a :: aZ, b :: bs => q a b && ZsH q aZ bs
 | _, _ => Xe
theorem Vh {α:Type} {q:α→α→Bool} (hq:∀ a b,q a b=Xb→a=b):∀ (aZ bs:List α),ZsH q aZ bs=Xb→aZ=bs
 | [], [], _ => rfl
 | [], _ :: _, h => by cases h
 | _ :: _, [], h => by cases h
 | a :: aZ, b :: bs, h => by
  simp only [ZsH,Xs] at h;rw [hq a b h.1,Vh hq aZ bs h.2]
def ZuU:Nat→AV→AV→Bool
 | _, .val a, .val b => ZtX a b
 | n + 1, .slice f s xs, .slice f' s' ys => f == f' && (decide (s = s') && ZsH (ZsH (ZuU n)) xs ys)
 | _ + 1, .oref j o, .oref j' o' => decide (j = j') && decide (o = o')
 | _ + 1, .osl e j o, .osl e' j' o' => decide (j = j') && (decide (o = o') && decide (e = e'))
 | _ + 1, .omap j, .omap j' => decide (j = j')
 | _, _, _ => Xe
theorem ZmN:∀ (n:Nat) (a b:AV),ZuU n a b=Xb→a=b:=by
 intro n
 induction n with
 | zero =>
  intro a b h;unfold ZuU at h;split at h
  ·rw [ZdL h]
  ·rename_i hn;cases hn
  ·rename_i hn;cases hn
  ·rename_i hn;cases hn
  ·rename_i hn;cases hn
  ·cases h
 | succ n ih =>
  intro a b h;unfold ZuU at h;split at h
  ·rw [ZdL h]
  ·rename_i hn
   cases hn
   simp only [Xs,beq_iff_eq,decide_eq_true_eq] at h;rw [h.1,h.2.1,Vh (fun x y hxy=>Vh ih x y hxy) _ _ h.2.2]
  ·simp only [Xs,decide_eq_true_eq] at h;rw [h.1,h.2]
  ·simp only [Xs,decide_eq_true_eq] at h;rw [h.1,h.2.1,h.2.2]
  ·rw [of_decide_eq_true h]
  ·cases h
open Classical in
noncomputable instance decLL:DecidableEq (List (List AV)):=fun a b=>if h:ZsH (ZsH (ZuU 8)) a b=Xb then isTrue (Vh (fun x y hxy=>Vh (ZmN 8) x y hxy) _ _ h) else propDecidable _
@[reducible] noncomputable def Sh.dec:(s:Sh)→DecidableEq s.T
 | .int _ => inferInstanceAs (DecidableEq Int)
 | .bool => inferInstanceAs (DecidableEq Bool)
 | .str => inferInstanceAs (DecidableEq ByteArray)
 | .slice _ => decLL
 | .own _ _ => decLL
 | .cel => decLL
@[reducible] noncomputable def decS:(l:List Sh)→DecidableEq (ShsT l)
 | [] => inferInstanceAs (DecidableEq Unit)
 | [s] => s.dec
 | s :: t :: r => @instDecidableEqProd _ _ s.dec (decS (t :: r))
def Zs4 {γ:Type} [d:DecidableEq γ] (l:List (List AV)) (k:Bool→Option γ):Option γ:=
 match l with
 | [] => if k Xb = k Xe then k Xb else Xc
 | _ :: _ => k Xe
theorem ZoY {γ:Type} {d:DecidableEq γ} {l:List (List AV)} {k:Bool→Option γ} {r:γ} (h:Zs4 l k=Xa r) (b:Bool) (hb:b=Xb→l = []):k b=Xa r:=by
 unfold Zs4 at h;split at h
 ·split at h
  ·rename_i he
   cases b
   ·rw [← he];exact h
   ·exact h
  ·cases h
 ·cases b
  ·exact h
  ·cases hb rfl
theorem ZsE {γ:Type} {d:DecidableEq γ} {l:List (List AV)} {k:Bool→Option γ} {r:Option γ} (h1:l = []→k Xb=r) (h2:k Xe=r):Zs4 l k=r:=by
 unfold Zs4;split
 ·rw [h1 rfl,h2,if_pos rfl]
 ·exact h2
def Zk {γ:Type} (l:List (List AV)) (i:Int) (sh:List Sh) (k:ShsT sh→Option γ):Option γ:=
 if 0≤i then match l[i.toNat]? with | some cs=>(match Zp0 sh cs with | some r=>k r | none=>Xc) | none=>Xc else Xc
theorem YM {γ:Type} {l:List (List AV)} {i:Int} {sh:List Sh} {cs:List AV} {r:ShsT sh} (k:ShsT sh→Option γ) (h0:0≤i) (h1:l[i.toNat]? = Xa cs) (h2:Zp0 sh cs=Xa r):Zk l i sh k=k r:=by
 simp only [Zk,h0,if_true,h1,h2]
theorem ZmL {γ:Type} {l:List (List AV)} {i:Int} {sh:List Sh} {k:ShsT sh→Option γ} {x:γ} (h:Zk l i sh k=Xa x):0≤i∧∃ cs r,l[i.toNat]? = Xa cs∧Zp0 sh cs=Xa r∧k r=Xa x:=by
 unfold Zk at h;split at h
 ·refine ⟨‹_›,?_⟩;split at h
  ·split at h
   ·exact ⟨_,_,‹_›,‹_›,h⟩
   ·cases h
  ·cases h
 ·cases h
def ZeE {γ:Type} (F:(List V→Option γ)→List V→Option γ):Nat→List V→Option γ
 | 0 => fun _ => Xc
 | k + 1 => F (ZeE F k)
def Jl:Nat:=1208925819614629174706176
inductive AP where
 | c (s : Sh)
 | agg (l : List Sh)
 | box (l : List Sh)
 | gbox (l : List Sh)
 | clo (g : FuncId) (ds : List Nat)
 | ref (j q : Nat)
 | dead
 | sto
def RSh.sh:RSh→List Sh
 | .c s => [s]
 | .agg l => l
 | .box l => l
 | .aggo l => l
def J9:List AP→List Sh
 | [] => []
 | .box l :: r => l ++ J9 r
 | .gbox l :: r => l ++ J9 r
 | .sto :: r => .cel :: J9 r
 | _ :: r => J9 r
def ZcJ (rs:List RSh) (aps:List AP):List Sh:=rs.flatMap RSh.sh++J9 aps
structure Fun where
 args:List AP
 res:List RSh
 g:List V→Option (ShsT (ZcJ res args))
def Kp (r:RSh) (us:List V) (j:Nat):AV:=
 match r with
 | .c s => Y9 s (vAt us j)
 | .agg l => .agg (Z9 l us j)
 | .box l => .box (Z9 l us j)
 | .aggo l => .aggo (Z9 l us j)
def YN:List RSh→List V→Nat→List AV
 | [], _, _ => []
 | r :: rs, us, j => Kp r us j :: YN rs us (j + r.sh.length)
def KN (rs:List RSh) (us:List V) (j:Nat):AV:=
 match rs with
 | [r] => Kp r us j
 | rs => .tuple (YN rs us j)
def Z5:List AP→List V→Nat→List AV
 | [], _, _ => []
 | .box l :: r, us, j => .box (Z9 l us j) :: Z5 r us (j + l.length)
 | .gbox l :: r, us, j => .gbox (Z9 l us j) :: Z5 r us (j + l.length)
 | .sto :: r, us, j => .store (vAt us j).list :: Z5 r us (j + 1)
 | _ :: r, us, j => .dead :: Z5 r us j
def AP.n:AP→Nat
 | .c _ => 1
 | .agg l => l.length
 | .box l => l.length
 | .gbox l => l.length
 | .clo _ _ => 0
 | .ref _ _ => 0
 | .dead => 0
 | .sto => 1
def Zh7 (a:AP) (us:List V) (j:Nat):AV:=
 match a with
 | .c s => Y9 s (vAt us j)
 | .agg l => .agg (Z9 l us j)
 | .box l => .box (Z9 l us j)
 | .gbox l => .gbox (Z9 l us j)
 | .clo g ds => .clo g ds
 | .ref j q => .mref j q
 | .dead => .dead
 | .sto => .store (vAt us j).list
def V9:List AP→List V→Nat→List AV
 | [], _, _ => []
 | a :: r, us, j => Zh7 a us j :: V9 r us (j + a.n)
def Zhb (rs:List RSh):Nat:=(rs.flatMap RSh.sh).length
def Fun.Ok (P:Program) (f:FuncId) (S:Fun):Prop:=
 ∀ vs r,S.g vs=Xa r→JN P f (V9 S.args vs 0) (KN S.res (ZeB _ r) 0) (Z5 S.args (ZeB _ r) (Zhb S.res))
theorem ZrM {P:Program} {f:FuncId} {A:List AP} {R:List RSh} : (Fun.mk A R fun _=>Xc).Ok P f:=fun _ _ h=>by cases h
def ZnW (P:Program):List (FuncId×Fun)→Prop
 | [] => True
 | p :: r => p.2.Ok P p.1 ∧ ZnW P r
def AP.sig:AP→Option (FuncId×List Nat)
 | .clo g ds => Xa (g, ds)
 | .ref j q => Xa (1000000, [j, q])
 | _ => Xc
def SV.sig:SV→Option (FuncId×List Nat)
 | .clo g ds => Xa (g, ds)
 | .mref j q => Xa (1000000, [j, q])
 | _ => Xc
def ZoA:List (FuncId×Fun)→FuncId→List (FuncId×List Nat)→Option Fun
 | [], _, _ => Xc
 | p :: r, f, sg => if p.1 = f ∧ p.2.args.filterMap AP.sig = sg then Xa p.2 else ZoA r f sg
theorem Zlj {P:Program} : ∀ {Φ:List (FuncId×Fun)} {f:FuncId} {sg:List (FuncId×List Nat)} {S:Fun},ZnW P Φ→ZoA Φ f sg=Xa S→S.Ok P f
 | [], _, _, _, _, h => by simp [ZoA] at h
 | p :: r, f, sg, S, ho, h => by
  simp only [ZoA] at h;split at h
  ·rename_i hp;simp only [Xf] at h;obtain ⟨hp,_⟩:=hp;subst hp;subst h;exact ho.1
  ·exact Zlj ho.2 h
def ZtN (P:Program):Sh→AV→Option V
 | .int k, .val (.int k' z) => if k' = k then Xa (.i z) else Xc
 | .bool, .val (.bool b) => Xa (.b b)
 | .str, .val (.string s) => Xa (.s s)
 | .slice s, .slice _ s' xs => if s' = s then Xa (.l xs) else (match xs with | [] => Xa (.l []) | _ :: _ => Xc)
 | .slice s, .own x e xs => if P.cellsOf e = s then (match x, xs with | false, xs => Xa (.l xs) | true, [] => Xa (.l []) | true, _ :: _ => Xc) else Xc
 | .own x e, .own x' e' xs => if e' = e then (match x, x', xs with | false, Xe, xs => Xa (.l xs) | true, Xb, xs => Xa (.l xs) | _, _, [] => if e < 2097152 then Xa (.l []) else Xc | _, _, _ :: _ => Xc) else Xc
 | .own _ e, .slice Xb _ xs => (match xs with | [] => if e < 2097152 then Xa (.l []) else Xc | _ :: _ => Xc)
 | .cel, c => if ZP c = Xb then Xa (.l [[c]]) else Xc
 | _, _ => Xc
def ZfQ (P:Program):List Sh→List AV→Option (List V)
 | [], [] => Xa []
 | s :: ss, c :: cs => match ZtN P s c, ZfQ P ss cs with | some v, Xa vs => Xa (v :: vs) | _, _ => Xc
 | _, _ => Xc
def Zuf (P:Program):AP→AV→Option (List V)
 | .c s, x => (ZtN P s x).map fun v => [v]
 | .agg l, .agg cs => if l.all Sh.imm = Xb then ZfQ P l cs else Xc
 | .box l, .box cs => ZfQ P l cs
 | .gbox l, .gbox cs => ZfQ P l cs
 | .clo g ds, .clo g' ds' => if g' = g ∧ ds' = ds then Xa [] else Xc
 | .ref j q, .mref j' q' => if j' = j ∧ q' = q ∧ q ≠ 0 then Xa [] else Xc
 | .dead, .dead => Xa []
 | .sto, .store rows => Xa [.l rows]
 | _, _ => Xc
def ZvE (P:Program) (a:AP) (h:Option (List (List AV))) (x:AV):Option (List V):=
 match a,h with
 | .c .cel, Xa l => Xa [.l l]
 | a, _ => Zuf P a x
def ZaH (P:Program):List AP→List (Option (List (List AV)))→List AV→Option (List V)
 | [], [], [] => Xa []
 | a :: aZ, h :: hs, x :: xs => match ZvE P a h x, ZaH P aZ hs xs with | some vs, Xa us => Xa (vs ++ us) | _, _ => Xc
 | _, _, _ => Xc
def KL (hs:List (Option (List (List AV)))) (xs:List AV):Prop:=∀ (i:Nat) (l:List (List AV)) (y:AV),hs[i]? = Xa (Xa l)→xs[i]? = Xa y→y=Zd l
theorem KL.head {h:Option (List (List AV))} {hs:List (Option (List (List AV)))} {x:AV} {xs:List AV} (k:KL (h::hs) (x::xs)):∀ l,h=Xa l→x=Zd l:=fun l hl=>k 0 l x (by rw [hl];rfl) rfl
theorem KL.tail {h:Option (List (List AV))} {hs:List (Option (List (List AV)))} {x:AV} {xs:List AV} (k:KL (h::hs) (x::xs)):KL hs xs:=fun i l y h1 h2=>k (i+1) l y (by simpa using h1) (by simpa using h2)
theorem ZoS {P:Program} {s:Sh} {c:AV} {v:V} (h:ZtN P s c=Xa v):Y0 P c (Y9 s v):=by
 unfold ZtN at h;split at h
 ·split at h
  ·simp only [Xf] at h;subst h;rename_i hk;subst hk;exact .same (.inl rfl)
  ·cases h
 ·simp only [Xf] at h;subst h;exact .same (.inl rfl)
 ·simp only [Xf] at h;subst h;exact .same (.inl rfl)
 ·split at h
  ·simp only [Xf] at h;subst h;rename_i hk;subst hk;exact .imm
  ·split at h
   ·simp only [Xf] at h;subst h;exact .immN
   ·cases h
 ·split at h
  ·rename_i hk;subst hk;split at h
   ·simp only [Xf] at h;subst h;exact .own
   ·simp only [Xf] at h;subst h;exact .ownZ
   ·cases h
  ·cases h
 ·split at h
  ·rename_i hk;subst hk;split at h
   ·simp only [Xf] at h;subst h;exact .same (.inr ⟨_,_,_,rfl⟩)
   ·simp only [Xf] at h;subst h;exact .same (.inr ⟨_,_,_,rfl⟩)
   ·split at h
    ·rename_i hlt;simp only [Xf] at h;subst h;exact .ownN hlt
    ·cases h
   ·cases h
  ·cases h
 ·split at h
  ·split at h
   ·rename_i hlt;simp only [Xf] at h;subst h;exact .give hlt
   ·cases h
  ·cases h
 ·split at h
  ·rename_i hc;simp only [Xf] at h;subst h;have:Y9 .cel (.l [[c]])=c:=Zdy hc;rw [this];exact .same (.inl (J8 hc))
  ·cases h
 ·cases h
theorem ZcS {P:Program} : ∀ (l:List Sh) (cs:List AV) (vs:List V),ZfQ P l cs=Xa vs→vs.length=l.length∧cs.length=l.length∧∀ pre post:List V,
  ∀ (i:Nat) (c c':AV),cs[i]? = Xa c→(Z9 l (pre++vs++post) pre.length)[i]? = Xa c'→Y0 P c c'
 | [], [], vs, h => by
  simp only [ZfQ,Xf] at h;subst h;exact ⟨rfl,rfl,fun _ _ i c c' h=>by simp at h⟩
 | [], _ :: _, _, h => by simp [ZfQ] at h
 | _ :: _, [], _, h => by simp [ZfQ] at h
 | s :: ss, c :: cs, us, h => by
  simp only [ZfQ] at h;split at h
  ·rename_i v vs hv hvs;simp only [Xf] at h;subst h;obtain ⟨h1,h2,h3⟩:=ZcS (P:=P) ss cs vs hvs;refine ⟨by simp [h1],by simp [h2],fun pre post i c1 c2 hc1 hc2=>?_⟩
   cases i with
   | zero =>
    simp only [Z9,XB,Xf] at hc1 hc2;subst hc1;subst hc2;rw [Xo,XJ,Y4];exact ZoS hv
   | succ i =>
    have:=h3 (pre++[v]) post i c1 c2 (by simpa using hc1);simp only [Xo,XJ,XM,Xu,XA,XW] at this;simp only [Z9,XQ,Xo,XJ] at hc2;exact this hc2
  ·cases h
theorem ZtA {P:Program} {a:AP} {x:AV} {vs:List V} (h:Zuf P a x=Xa vs):vs.length=a.n∧((∃ g ds,a = .clo g ds∧x = .clo g ds)∨(∃ j q,a = .ref j q∧x = .mref j q)∨∀ pre post:List V,YO P x (Zh7 a (pre++vs++post) pre.length)):=by
 unfold Zuf at h;split at h
 ·cases hd:ZtN P _ x with
  | none => rw [hd] at h; cases h
  | some v =>
   rw [hd] at h;simp only [Xw,Xf] at h;subst h;refine ⟨rfl,.inr<|.inr fun pre post=>?_⟩;simp only [Zh7,Xo,XJ,XM,Y4];exact .comp (.cell (ZoS hd))
 ·rename_i l cs;split at h
  ·rename_i hi;obtain ⟨h1,h2,h3⟩:=ZcS (P:=P) _ _ _ h;exact ⟨h1,.inr<|.inr fun pre post=>.comp (.agg (by rw [h2,JA]) (VK _ _ _ hi) (h3 pre post))⟩
  ·cases h
 ·obtain ⟨h1,h2,h3⟩:=ZcS (P:=P) _ _ _ h;exact ⟨h1,.inr<|.inr fun pre post=>.box (by rw [h2,JA]) (h3 pre post)⟩
 ·obtain ⟨h1,h2,h3⟩:=ZcS (P:=P) _ _ _ h;exact ⟨h1,.inr<|.inr fun pre post=>.gbox (by rw [h2,JA]) (h3 pre post)⟩
 ·split at h
  ·rename_i hh;simp only [Xf] at h;subst h;obtain ⟨rfl,rfl⟩:=hh;exact ⟨rfl,.inl ⟨_,_,rfl,rfl⟩⟩
  ·cases h
 ·split at h
  ·rename_i hh;simp only [Xf] at h;subst h;obtain ⟨rfl,rfl,_⟩:=hh;exact ⟨rfl,.inr (.inl ⟨_,_,rfl,rfl⟩)⟩
  ·cases h
 ·simp only [Xf] at h;subst h;exact ⟨rfl,.inr<|.inr fun _ _=>.dead⟩
 ·simp only [Xf] at h;subst h;refine ⟨rfl,.inr<|.inr fun pre post=>?_⟩;simp only [Zh7,Xo,XJ,XM,Y4];exact .store
 ·cases h
theorem ZfJ:∀ (l:List AP) (us:List V) (j:Nat),(V9 l us j).length=l.length
 | [], _, _ => rfl
 | _ :: ss, us, j => by simp [V9, ZfJ ss us]
theorem Ztc {P:Program} {a:AP} {h:Option (List (List AV))} {x:AV} {vs:List V} (hh:∀ l,h=Xa l→x=Zd l) (hd:ZvE P a h x=Xa vs):vs.length=a.n∧((∃ g ds,a = .clo g ds∧x = .clo g ds)∨(∃ j q,a = .ref j q∧x = .mref j q)∨∀ pre post:List V,YO P x (Zh7 a (pre++vs++post) pre.length)):=by
 unfold ZvE at hd;split at hd
 ·rename_i l;simp only [Xf] at hd;subst hd;refine ⟨rfl,.inr<|.inr fun pre post=>?_⟩;rw [hh l rfl];simp only [Zh7,Xo,XJ,XM,Y4];exact .comp (.cell (.same (.inl (J8 (JD l)))))
 ·exact ZtA hd
theorem Zku {P:Program} : ∀ (aZ:List AP) (hs:List (Option (List (List AV)))) (xs:List AV) (vs:List V),KL hs xs→ZaH P aZ hs xs=Xa vs→xs.length=aZ.length∧∀ pre post:List V,
  ∀ (i:Nat) (c c':AV),xs[i]? = Xa c→(V9 aZ (pre++vs++post) pre.length)[i]? = Xa c'→(∃ g ds,aZ[i]? = Xa (.clo g ds)∧c = .clo g ds∧c' = .clo g ds)∨(∃ j q,aZ[i]? = Xa (.ref j q)∧c = .mref j q∧c' = .mref j q)∨YO P c c'
 | [], [], [], _, _, _ => ⟨rfl, fun _ _ i c c' h => by simp at h⟩
 | [], [], _ :: _, _, _, h => by simp [ZaH] at h
 | [], _ :: _, _, _, _, h => by simp [ZaH] at h
 | _ :: _, [], _, _, _, h => by simp [ZaH] at h
 | _ :: _, _ :: _, [], _, _, h => by simp [ZaH] at h
 | a :: aZ, hh :: hs, x :: xs, ws, hk, h => by
  simp only [ZaH] at h;split at h
  ·rename_i vs us hv hus;simp only [Xf] at h;subst h;obtain ⟨h1,h2⟩:=Ztc (P:=P) hk.head hv;obtain ⟨h3,h4⟩:=Zku (P:=P) aZ hs xs us hk.tail hus;refine ⟨by simp [h3],fun pre post i c1 c2 hc1 hc2=>?_⟩
   cases i with
   | zero =>
    simp only [V9,XB,Xf] at hc1 hc2;subst hc1;subst hc2;rcases h2 with ⟨g,ds,rfl,rfl⟩ | ⟨j,q,rfl,rfl⟩ | h2
    ·exact .inl ⟨g,ds,rfl,rfl,rfl⟩
    ·exact .inr (.inl ⟨j,q,rfl,rfl,rfl⟩)
    ·have:=h2 pre (us++post);exact .inr (.inr (by simpa [Xo] using this))
   | succ i =>
    have:=h4 (pre++vs) post i c1 c2 (by simpa using hc1);rw [Xu,h1] at this;simp only [V9,XQ] at hc2;refine this ?_;simpa [Xo] using hc2
  ·cases h
def Zba (aZ:List AP):Bool:=aZ.all fun a=>match a with | .clo _ ds=>ds.all (fun d=>match aZ[d]? with | some (.gbox _)=>Xb | _=>Xe) | .ref j q=>(match aZ[j]? with | some (.gbox l)=>(HP.gbox l).isPl q | _=>Xe) | _=>Xb
theorem Zdv:∀ (aZ:List AP) (us:List V) (j i:Nat) (a:AP),aZ[i]? = Xa a→∃ k,(V9 aZ us j)[i]? = Xa (Zh7 a us k)
 | [], _, _, _, _, h => by simp at h
 | b :: aZ, us, j, 0, a, h => by
  simp only [XB,Xf] at h;subst h;exact ⟨j,rfl⟩
 | b :: aZ, us, j, i + 1, a, h => by
  obtain ⟨k,hk⟩:=Zdv aZ us (j+b.n) i a (by simpa using h);exact ⟨k,by simpa [V9] using hk⟩
theorem ZjR {P:Program} {aZ:List AP} {hs:List (Option (List (List AV)))} {xs:List AV} {vs:List V} (hk:KL hs xs) (hc:Zba aZ=Xb) (h:ZaH P aZ hs xs=Xa vs):Vr P xs (V9 aZ vs 0):=by
 obtain ⟨h1,h2⟩:=Zku (P:=P) aZ hs xs vs hk h;refine ⟨by rw [h1,ZfJ],fun i c c' hx hc'=>?_⟩;rcases h2 [] [] i c c' hx (by simpa using hc') with ⟨g,ds,k1,rfl,rfl⟩ | ⟨j,q,k1,rfl,rfl⟩ | hw
 case inr.inl=>
  refine .inr (.inr ⟨j,q,rfl,rfl,?_⟩);unfold Zba at hc;rw [XD] at hc;have h3:=hc _ (Xm k1);simp only at h3;split at h3
  ·rename_i l hl;obtain ⟨k,hk⟩:=Zdv aZ vs 0 j _ hl;simp only [ZB,hk];exact ZfT h3 vs k
  ·cases h3
 ·refine .inr (.inl ⟨g,ds,rfl,rfl,fun d hd=>?_⟩);unfold Zba at hc;rw [XD] at hc;have h3:=hc _ (Xm k1);simp only at h3;rw [XD] at h3;have h4:=h3 d hd;split at h4
  ·rename_i l hl;obtain ⟨k,hk⟩:=Zdv aZ vs 0 d _ hl;simp only [ZB,hk];rfl
  ·cases h4
 ·exact .inl hw
def Zmh (P:Program) (a:AP) (x:AV):AV:=
 match a,x with
 | .c (.slice _), .own Xb e xs => .own (Zm P e) e xs
 | .c (.own Xe _), .own Xb e xs => .own (Zm P e) e xs
 | _, x => x
def ZdT (P:Program):List AP→List AV→List AV
 | a :: aZ, x :: xs => Zmh P a x :: ZdT P aZ xs
 | _, xs => xs
theorem ZaV (P:Program) (a:AP) (x:AV):Zmh P a x=x∨∃ e xs,x = .own Xb e xs∧Zmh P a x = .own Xe e xs∧Zm P e=Xe:=by
 unfold Zmh;split
 ·rename_i e xs
  cases h:Zm P e with
  | true => exact .inl rfl
  | false => exact .inr ⟨e, xs, rfl, rfl, h⟩
 ·rename_i e xs
  cases h:Zm P e with
  | true => exact .inl rfl
  | false => exact .inr ⟨e, xs, rfl, rfl, h⟩
 ·exact .inl rfl
theorem Zi5 (pre post:List AV) (x:AV) (i:Nat):ZB (pre++x::post) i=if i=pre.length then x else ZB (pre++.dead::post) i:=by
 unfold ZB;by_cases hi:i=pre.length
 ·subst hi;rw [if_pos rfl,Xz (Xy _),UE];rfl
 ·rw [if_neg hi];by_cases hlt:i < pre.length
  ·rw [Xx hlt,Xx hlt]
  ·rw [Xz (by omega),Xz (by omega)];obtain ⟨j,hj⟩:∃ j,i-pre.length=j+1:=⟨i-pre.length-1,by omega⟩;rw [hj,XQ,XQ]
theorem Zob {P:Program} {w:World} {lim:Lm} {e:TypeId} {xs:List (List AV)} {v:Value} (hnm:Zm P e=Xe) (h:Jv P w lim Xb e xs v Xc):Jv P w lim Xe e xs v Xc:=by
 rcases h.noMap hnm with ⟨us,h1,h2,h3,h4,h5,h6⟩ | h
 ·exact .inl ⟨us,h1,h2,fun b hb=>(by cases hb),h4,h5,h6⟩
 ·exact .inr (.inl h)
theorem JN.freeze1 {P:Program} {f:FuncId} {pre post:List AV} {e:TypeId} {xs:List (List AV)} {res:AV} {outs:List AV} (h:JN P f (pre++.own Xe e xs::post) res outs)
  (hn:∀ x∈pre++post,∀ d,¬ JB x d 0) (hnm:Zm P e=Xe):JN P f (pre++.own Xb e xs::post) res outs:=by
 have hll:(pre++AV.own Xb e xs::post).length=(pre++AV.own Xe e xs::post).length:=by simp
 refine ⟨h.1,by rw [hll];exact h.2.1,fun w lim X cargs hcl hrel hdist hsize hfar=>?_⟩;have hat:∀ (b:Bool) (i:Nat),ZB (pre++.own b e xs::post) i=if i=pre.length then .own b e xs else ZB (pre++.dead::post) i:=fun b i=>Zi5 pre post _ i
 have hnr:∀ i d,i≠pre.length→¬ JB (ZB (pre++.dead::post) i) d 0:=by
  intro i d hi hr
  have hx:ZB (pre++.dead::post) i = .dead∨ZB (pre++.dead::post) i∈pre++post:=by
   unfold ZB
   cases hx:(pre++AV.dead::post)[i]? with
   | none => exact .inl rfl
   | some x =>
    have hm:=Xm hx;rw [Xv,Xq] at hm;rcases hm with hm | rfl | hm
    ·exact .inr (UG _ hm)
    ·exact .inl rfl
    ·exact .inr (Td _ hm)
  rcases hx with hx | hx
  ·rw [hx] at hr;rcases hr with hr | ⟨_,hr⟩ <;> cases hr
  ·exact hn _ hx d hr
 have h0:=hrel pre.length;rw [hat,if_pos rfl] at h0;have h0':Jv P w lim Xb e xs (cargs.getD pre.length undef) (X pre.length 0):=h0
 obtain ⟨lim1,he,hk,hown,hlt⟩:∃ lim1:Lm,Ext w lim w lim1∧(∀ b,X pre.length 0≠Xa b→lim1 b=lim b)∧Jv P w lim1 Xe e xs (cargs.getD pre.length undef) (X pre.length 0)∧lim1.t=lim.t:=by
  cases hb:X pre.length 0 with
  | none => rw [hb] at h0'; exact ⟨lim, Ext.refl _ _, fun _ _ => rfl, Zob hnm h0', rfl⟩
  | some b0 =>
   rw [hb] at h0'
   have hl0:lim b0=0:=by
    rcases h0'.noMap hnm with ⟨us,_,_,h3,_⟩ | ⟨_,h,_⟩
    ·rw [h3 b0 rfl];rfl
    ·cases h
   have hext:Ext w lim w (Za9 lim b0 (xs.length*P.cellsOf e)):=by
    refine ⟨fun b _=>?_,fun _ _ h=>h⟩;refine ⟨?_,fun o u _ hu=>hu⟩;unfold Za9;dsimp only;split
    ·rename_i h;rw [h,hl0];exact X5 _
    ·exact Xy _
   exact ⟨_,hext,fun b hne=>if_neg fun e=>hne (by rw [e]),Zin h0' hnm hext,rfl⟩
 have hrel1:∀ i,ZS P w lim1 X (ZB (pre++.own Xe e xs::post)) i (ZB (pre++.own Xe e xs::post) i) (cargs.getD i undef):=by
  intro i;by_cases hi:i=pre.length
  ·subst hi;rw [hat,if_pos rfl];exact hown
  ·have h1:=hrel i;have hne:ZB (pre++.own Xe e xs::post) i=ZB (pre++.own Xb e xs::post) i:=by rw [hat,hat,if_neg hi,if_neg hi]
   rw [hne];refine ZS.chg (h1.mono he (fun k b hb=>⟨rfl,hk b fun e=>hi (hdist i k pre.length 0 b hb e).1⟩) (fun d' k b hr _=>.of rfl) fun _ _=>hlt) rfl (fun d' cs hd=>⟨⟨cs,?_⟩,rfl⟩) (fun d' hg=>⟨?_,rfl⟩) fun d' k hr=>?_
   ·rw [hat] at hd ⊢;split at hd
    ·cases hd
    ·rename_i hd';rw [if_neg hd'];exact hd
   ·rw [hat] at hg ⊢;split at hg
    ·cases hg
    ·rename_i hd';rw [if_neg hd'];exact hg
   ·rw [hat,if_neg hi] at hr;refine ⟨?_,rfl⟩;rw [hat,hat];by_cases hd:d'=pre.length
    ·rw [if_pos hd,if_pos hd]
     cases k with
     | zero => exact (hnr i d' hi hr).elim
     | succ k => intro _ _ h; cases h
    ·rw [if_neg hd,if_neg hd];exact Vm.refl _ _
 have hcnt:(pre++AV.own Xb e xs::post).countP AV.isG=(pre++AV.own Xe e xs::post).countP AV.isG:=by
  simp [List.countP_append,UU,AV.isG]
 refine (h.2.2 w lim1 X cargs (by rw [← hcnt,← hll];exact hcl) hrel1 hdist hsize (by rw [← hll];exact hfar)).mono ?_;rintro e' w' ⟨v,lim',X',he',hst,hol,hr,hd,hin,hgh,hnl,hnr⟩;refine ⟨v,lim',X',he',⟨hst.os,hst.tape,hst.output,hst.size,hst.frz,fun b hb hn'=>?_,he.trans hst.ext (Xy _),fun hh=>(hst.t (by rw [List.any_append,List.any_cons] at hh ⊢; exact hh)).trans hlt⟩,by rw [hol,hll],fun i=>by rw [hll];exact hr i,hd,hin,fun i hi=>?_,hnl,by rw [hll];exact hnr⟩
 ·obtain ⟨k1,k2⟩:=hst.blk b hb hn';exact ⟨k1,k2.trans (hk b fun e=>hn' ⟨_,_,e⟩)⟩
 ·obtain ⟨m1,m2⟩:=hgh i hi;refine ⟨?_,m2⟩;rw [hat] at m1 ⊢;split at m1
  ·cases m1
  ·rename_i hi';rw [if_neg hi'];exact m1
theorem Zft {P:Program} {d k:Nat} : ∀ (aZ:List AP) (xs:List AV),(∀ x∈ZdT P aZ xs,¬ JB x d k)→∀ x∈xs,¬ JB x d k
 | [], xs, h => fun x hx => h x (by cases xs <;> exact hx)
 | _ :: _, [], _ => fun _ hx => by cases hx
 | a :: aZ, y :: ys, h => fun x hx => by
  rcases Xq.1 hx with rfl | hx
  ·rcases ZaV P a x with e | ⟨_,_,rfl,_⟩
   ·have:=h (Zmh P a x) (U8 ..)
    rwa [e] at this
   ·rintro (h | ⟨_,h⟩)<;>cases h
  ·exact Zft aZ ys (fun z hz=>h z (Ul _ hz)) x hx
theorem JN.freeze {P:Program} {f:FuncId} {res:AV} {outs:List AV} : ∀ (aZ:List AP) (xs pre:List AV),JN P f (pre++ZdT P aZ xs) res outs→(∀ x∈pre++ZdT P aZ xs,∀ d,¬ JB x d 0)→JN P f (pre++xs) res outs
 | [], xs, pre, h, _ => by cases xs <;> exact h
 | _ :: _, [], pre, h, _ => h
 | a :: aZ, x :: xs, pre, h, hn => by
  have h1:=JN.freeze aZ xs (pre++[Zmh P a x]) (by simpa [ZdT] using h) (by simpa [ZdT] using hn);rw [Xo,List.singleton_append] at h1;rcases ZaV P a x with e | ⟨e,ys,rfl,e',hnm⟩
  ·rwa [e] at h1
  ·rw [e'] at h1;refine h1.freeze1 (fun y hy d=>?_) hnm;rcases Xv.1 hy with hy | hy
   ·exact hn y (UG _ hy) d
   ·exact Zft aZ xs (fun z hz=>hn z (Td _ (Ul _ hz)) d) y hy
theorem ZnS {P:Program} {a:AP} {x:AV} {vs:List V} (h:Zuf P a x=Xa vs) (d:Nat):¬ JB x d 0:=by
 rintro (rfl | ⟨_,rfl⟩)<;>cases a
 case inl.ref j q=>
  simp only [Zuf] at h;split at h
  ·rename_i hh;exact hh.2.2 hh.2.1.symm
  ·cases h
 all_goals simp [Zuf,ZtN] at h
 all_goals (rename_i s;cases s<;>simp [ZtN,ZP] at h)
theorem Zn4 {P:Program} {a:AP} {h:Option (List (List AV))} {x:AV} {vs:List V} (hh:∀ l,h=Xa l→x=Zd l) (hd:ZvE P a h x=Xa vs) (d:Nat):¬ JB x d 0:=by
 unfold ZvE at hd;split at hd
 ·rename_i l;rw [hh l rfl];rintro (h | ⟨_,h⟩)<;>exact Jb h rfl
 ·exact ZnS hd d
theorem ZfE {P:Program} : ∀ (aZ:List AP) (hs:List (Option (List (List AV)))) (xs:List AV) (vs:List V),KL hs xs→ZaH P aZ hs xs=Xa vs→∀ x∈xs,∀ d,¬ JB x d 0
 | _, _, [], _, _, _ => fun _ hx => by cases hx
 | [], [], _ :: _, _, _, h => by simp [ZaH] at h
 | [], _ :: _, _ :: _, _, _, h => by simp [ZaH] at h
 | _ :: _, [], _ :: _, _, _, h => by simp [ZaH] at h
 | a :: aZ, hh :: hs, x :: xs, ws, hk, h => by
  simp only [ZaH] at h;split at h
  ·rename_i vs us hv hus;intro y hy d;rcases Xq.1 hy with rfl | hy
   ·exact Zn4 hk.head hv d
   ·exact ZfE aZ hs xs us hk.tail hus y hy d
  ·cases h
theorem Zd9 {P:Program} : ∀ (aZ:List AP) (hs:List (Option (List (List AV)))) (xs:List AV),KL hs xs→KL hs (ZdT P aZ xs)
 | [], _, xs, h => by cases xs <;> exact h
 | _ :: _, _, [], h => h
 | a :: aZ, [], x :: xs, _ => fun i l y h1 _ => by simp at h1
 | a :: aZ, hh :: hs, x :: xs, h => by
  intro i l y h1 h2
  cases i with
  | zero =>
   simp only [ZdT,XB,Xf] at h1 h2;have hx:=h.head l h1;rcases ZaV P a x with e | ⟨e,ys,hx',_⟩
   ·rw [← h2,e,hx]
   ·rw [hx] at hx';exact (Jb hx' rfl).elim
  | succ i => exact Zd9 aZ hs xs h.tail i l y (by simpa using h1) (by simpa [ZdT] using h2)
def Ztm {γ:Type} (P:Program) (S:Fun) (hs:List (Option (List (List AV)))) (aZ:List AV) (k:List V→Option γ):Option γ:=
 match ZaH P S.args hs (ZdT P S.args aZ) with
 | some vs => (S.g vs).bind fun r => k (ZeB _ r)
 | none => Xc
theorem ZmM {γ:Type} {S:Fun} {hs:List (Option (List (List AV)))} {aZ:List AV} {k:List V→Option γ} {x:γ} {P:Program} (h:Ztm P S hs aZ k=Xa x):∃ vs r,ZaH P S.args hs (ZdT P S.args aZ)=Xa vs∧S.g vs=Xa r∧k (ZeB _ r)=Xa x:=by
 unfold Ztm at h;split at h
 ·rename_i vs hvs;rw [Option.bind_eq_some_iff] at h;obtain ⟨r,h1,h2⟩:=h;exact ⟨vs,r,hvs,h1,h2⟩
 ·cases h
def ZuZ (s:Sh) (x:SC) (m:Nat):Bool:=
 match s,x with
 | .int k, .int k' (.var a) => decide (k' = k) && decide (a = m)
 | .bool, .bool (.var a) => decide (a = m)
 | .str, .str (.var a) => decide (a = m)
 | .slice s, .slice Xe s' (.var a) => decide (s' = s) && decide (a = m)
 | .cel, .cel (.var a) => decide (a = m)
 | _, _ => Xe
def Zmf:List Sh→List SC→Nat→Bool
 | [], [], _ => Xb
 | s :: ss, c :: cs, m => ZuZ s c m && Zmf ss cs (m + 1)
 | _, _, _ => Xe
def Zwe (r:RSh) (x:TC) (m:Nat):Bool:=
 match r,x with
 | .c s, .c x => ZuZ s x m
 | .c (.own x e), .own x' e' (.var a) => (decide (e' = e) && decide (a = m)) && (x' == x)
 | .agg l, .agg cs => Zmf l cs m
 | _, _ => Xe
def ZmI:List RSh→List TC→Nat→Bool
 | [], [], _ => Xb
 | r :: rs, x :: xs, m => Zwe r x m && ZmI rs xs (m + r.sh.length)
 | _, _, _ => Xe
def Zv6:SV→Option TC
 | .c x => Xa (.c x)
 | .agg cs => Xa (.agg cs)
 | .own x e l => Xa (.own x e l)
 | _ => Xc
def Zwn (s:Sh) (x:BC) (m:Nat):Bool:=
 match s,x with
 | s, .c x => ZuZ s x m
 | .own x e, .own x' e' (.var a) => (decide (e' = e) && decide (a = m)) && (x' == x)
 | _, _ => Xe
def Zgc:List Sh→List BC→Nat→Bool
 | [], [], _ => Xb
 | s :: ss, c :: cs, m => Zwn s c m && Zgc ss cs (m + 1)
 | _, _, _ => Xe
def ZwO (rs:List RSh) (x:SV) (m:Nat):Bool:=
 match rs with
 | [r] => match r, x with | .box l, .box cs => Zgc l cs m | .aggo l, .aggo cs => Zgc l cs m | _, _ => match Zv6 x with | some y => Zwe r y m | none => Xe
 | rs => match x with | .tuple vs => ZmI rs vs m | _ => Xe
def K3:List AP→List SV→Nat→Bool
 | [], [], _ => Xb
 | .box l :: r, .box cs :: xs, m => Zgc l cs m && K3 r xs (m + l.length)
 | .gbox l :: r, .gbox cs :: xs, m => Zgc l cs m && K3 r xs (m + l.length)
 | .c _ :: r, .dead :: xs, m => K3 r xs m
 | .agg _ :: r, .dead :: xs, m => K3 r xs m
 | .clo _ _ :: r, .dead :: xs, m => K3 r xs m
 | .ref _ _ :: r, .dead :: xs, m => K3 r xs m
 | .dead :: r, .dead :: xs, m => K3 r xs m
 | .sto :: r, .store (.var a) :: xs, m => decide (a = m) && K3 r xs (m + 1)
 | _, _, _ => Xe
section
variable {ρ:Nat→V} {n:Nat} {us:List V}
theorem WF (j:Nat) (h:j < us.length):bind ρ n us (n+j)=vAt us j:=by
 unfold bind vAt;rw [if_neg (by omega),show n+j-n=j by omega,Xp h];rfl
theorem Zgr {s:Sh} {x:SC} {j:Nat} (h:ZuZ s x (n+j)=Xb) (hj:j < us.length):x.den (bind ρ n us)=Y9 s (vAt us j):=by
 unfold ZuZ at h;split at h
 ·simp only [Xs,decide_eq_true_eq] at h;obtain ⟨rfl,rfl⟩:=h;simp only [SC.den,IE.den,WF j hj,Y9]
 ·simp only [decide_eq_true_eq] at h;subst h;simp only [SC.den,BE.den,WF j hj,Y9]
 ·simp only [decide_eq_true_eq] at h;subst h;simp only [SC.den,SE.den,WF j hj,Y9]
 ·simp only [Xs,decide_eq_true_eq] at h;obtain ⟨rfl,rfl⟩:=h;simp only [SC.den,LE.den,WF j hj,Y9]
 ·simp only [decide_eq_true_eq] at h;subst h;simp only [SC.den,LE.den,WF j hj,Y9]
 ·cases h
theorem Ziy:∀ (l:List Sh) (cs:List SC) (j:Nat),Zmf l cs (n+j)=Xb→j+l.length≤us.length→cs.map (SC.den (bind ρ n us))=Z9 l us j
 | [], [], _, _, _ => rfl
 | [], _ :: _, _, h, _ => by simp [Zmf] at h
 | _ :: _, [], _, h, _ => by simp [Zmf] at h
 | s :: ss, c :: cs, j, h, hl => by
  simp only [Zmf,Xs] at h;simp only [XA] at hl;rw [Xh,Z9,Zgr h.1 (by omega),Ziy ss cs (j+1) (by rw [← Wu];exact h.2) (by omega)]
theorem Zk0 {r:RSh} {x:TC} {j:Nat} (h:Zwe r x (n+j)=Xb) (hj:j+r.sh.length≤us.length):x.den (bind ρ n us)=Kp r us j:=by
 unfold Zwe at h;split at h
 ·exact Zgr h (by simp [RSh.sh] at hj;omega)
 ·simp only [Xs,decide_eq_true_eq,beq_iff_eq] at h;obtain ⟨⟨rfl,rfl⟩,rfl⟩:=h;have hj':j < us.length:=by simp [RSh.sh] at hj;omega
  simp only [TC.den,LE.den,WF j hj',Kp,Y9]
 ·simp only [TC.den,Kp,Ziy _ _ j h hj]
 ·cases h
theorem Zh2:∀ (rs:List RSh) (xs:List TC) (j:Nat),ZmI rs xs (n+j)=Xb→j+(rs.flatMap RSh.sh).length≤us.length→xs.map (TC.den (bind ρ n us))=YN rs us j
 | [], [], _, _, _ => rfl
 | [], _ :: _, _, h, _ => by simp [ZmI] at h
 | _ :: _, [], _, h, _ => by simp [ZmI] at h
 | r :: rs, x :: xs, j, h, hl => by
  simp only [ZmI,Xs] at h;simp only [List.flatMap_cons,Xu] at hl;rw [Xh,YN,Zk0 h.1 (by omega),Zh2 rs xs (j+r.sh.length) (by rw [← Wu];exact h.2) (by omega)]
theorem ZkR {x:SV} {y:TC} (h:Zv6 x=Xa y) (ρ:Nat→V):x.den ρ=y.den ρ:=by
 unfold Zv6 at h;split at h<;>simp at h<;>subst h<;>rfl
theorem ZqP {s:Sh} {x:BC} {j:Nat} (h:Zwn s x (n+j)=Xb) (hj:j < us.length):x.den (bind ρ n us)=Y9 s (vAt us j):=by
 unfold Zwn at h;split at h
 ·exact Zgr h hj
 ·simp only [Xs,decide_eq_true_eq,beq_iff_eq] at h;obtain ⟨⟨rfl,rfl⟩,rfl⟩:=h;simp only [BC.den,LE.den,WF j hj,Y9]
 ·cases h
theorem WT:∀ (l:List Sh) (cs:List BC) (j:Nat),Zgc l cs (n+j)=Xb→j+l.length≤us.length→cs.map (BC.den (bind ρ n us))=Z9 l us j
 | [], [], _, _, _ => rfl
 | [], _ :: _, _, h, _ => by simp [Zgc] at h
 | _ :: _, [], _, h, _ => by simp [Zgc] at h
 | s :: ss, c :: cs, j, h, hl => by
  simp only [Zgc,Xs] at h;simp only [XA] at hl;rw [Xh,Z9,ZqP h.1 (by omega),WT ss cs (j+1) (by rw [← Wu];exact h.2) (by omega)]
theorem Zp8 {rs:List RSh} {x:SV} (h:ZwO rs x n=Xb) (hl:Zhb rs≤us.length):x.den (bind ρ n us)=KN rs us 0:=by
 unfold ZwO at h;split at h
 ·split at h
  ·rename_i l cs;have h1:cs.map (BC.den (bind ρ n us))=Z9 l us 0:=WT l cs 0 h (by simpa [Zhb,RSh.sh] using hl);simp only [SV.den,KN,Kp,h1]
  ·rename_i l cs;have h1:cs.map (BC.den (bind ρ n us))=Z9 l us 0:=WT l cs 0 h (by simpa [Zhb,RSh.sh] using hl);simp only [SV.den,KN,Kp,h1]
  ·split at h
   ·rename_i y hy;rw [ZkR hy];exact Zk0 (j:=0) h (by simpa [Zhb] using hl)
   ·cases h
 ·rename_i hne;split at h
  ·rename_i vs
   have:KN rs us 0 = .tuple (YN rs us 0):=by
    unfold KN;split
    ·exact (hne _ rfl).elim
    ·rfl
   rw [this];simp only [SV.den,Zh2 rs vs 0 h (by simpa [Zhb] using hl)]
  ·cases h
theorem YH:∀ (aps:List AP) (xs:List SV) (j:Nat),K3 aps xs (n+j)=Xb→j+(J9 aps).length≤us.length→xs.map (SV.den (bind ρ n us))=Z5 aps us j
 | [], [], _, _, _ => rfl
 | [], _ :: _, _, h, _ => by simp [K3] at h
 | .box l :: r, x :: xs, j, h, hl => by
  cases x<;>simp [K3] at h
  rename_i cs;simp only [J9,Xu] at hl;have h1:cs.map (BC.den (bind ρ n us))=Z9 l us j:=WT l cs j h.1 (by omega);simp only [Xh,Z5,SV.den,h1,YH r xs (j+l.length) (by rw [← Wu];exact h.2) (by omega)]
 | .gbox l :: r, x :: xs, j, h, hl => by
  cases x<;>simp [K3] at h
  rename_i cs;simp only [J9,Xu] at hl;have h1:cs.map (BC.den (bind ρ n us))=Z9 l us j:=WT l cs j h.1 (by omega);simp only [Xh,Z5,SV.den,h1,YH r xs (j+l.length) (by rw [← Wu];exact h.2) (by omega)]
 | .c _ :: r, x :: xs, j, h, hl => by
  cases x<;>simp [K3] at h
  simp only [J9] at hl;simp only [Xh,Z5,SV.den,YH r xs j h hl]
 | .agg _ :: r, x :: xs, j, h, hl => by
  cases x<;>simp [K3] at h
  simp only [J9] at hl;simp only [Xh,Z5,SV.den,YH r xs j h hl]
 | .clo _ _ :: r, x :: xs, j, h, hl => by
  cases x<;>simp [K3] at h
  simp only [J9] at hl;simp only [Xh,Z5,SV.den,YH r xs j h hl]
 | .ref _ _ :: r, x :: xs, j, h, hl => by
  cases x<;>simp [K3] at h
  simp only [J9] at hl;simp only [Xh,Z5,SV.den,YH r xs j h hl]
 | .dead :: r, x :: xs, j, h, hl => by
  cases x<;>simp [K3] at h
  simp only [J9] at hl;simp only [Xh,Z5,SV.den,YH r xs j h hl]
 | .sto :: r, x :: xs, j, h, hl => by
  cases x<;>try (simp [K3] at h;done)
  rename_i l
  cases l<;>simp [K3] at h
  obtain ⟨rfl,h2⟩:=h;simp only [J9,XA] at hl;have hjl:j < us.length:=by omega
  simp only [Xh,Z5,SV.den,LE.den,WF j hjl,YH r xs (j+1) (by rw [← Wu];exact h2) (by omega)]
 | a :: _, [], _, h, _ => by cases a <;> simp [K3] at h
end
theorem ZlS:∀ (l:List Sh) (x:ShsT l),(ZeB l x).length=l.length
 | [], _ => rfl
 | [_], _ => rfl
 | _ :: t :: r, x => by simp [ZeB, ZlS (t :: r) x.2]
def Zwa (P:Program) (r:RSh) (x:TC):Option (List VE):=
 match r,x with
 | .c s, .c x => (ZrU s x).map fun v => [v]
 | .c s, .own x e l => (Zdh P s x e l).map fun v => [v]
 | .agg l, .agg cs => if l.all Sh.imm = Xb then ZiE l cs else Xc
 | _, _ => Xc
def Zjo (P:Program):List RSh→List TC→Option (List VE)
 | [], [] => Xa []
 | r :: rs, x :: xs => match Zwa P r x, Zjo P rs xs with | some v, Xa vs => Xa (v ++ vs) | _, _ => Xc
 | _, _ => Xc
def Zwx (P:Program) (rs:List RSh) (x:SV):Option (List VE):=
 match rs with
 | [r] => match r, x with | .box l, .box cs => ZcC P l cs | .aggo l, .aggo cs => ZcC P l cs | _, _ => match Zv6 x with | some y => Zwa P r y | none => Xc
 | rs => match x with | .tuple vs => Zjo P rs vs | _ => Xc
def K5 (P:Program):List AP→List SV→Option (List VE)
 | [], [] => Xa []
 | .box l :: r, .box cs :: xs => match ZcC P l cs, K5 P r xs with | some v, Xa vs => Xa (v ++ vs) | _, _ => Xc
 | .gbox l :: r, .gbox cs :: xs => match ZcC P l cs, K5 P r xs with | some v, Xa vs => Xa (v ++ vs) | _, _ => Xc
 | .c _ :: r, .dead :: xs => K5 P r xs
 | .agg _ :: r, .dead :: xs => K5 P r xs
 | .clo _ _ :: r, .dead :: xs => K5 P r xs
 | .ref _ _ :: r, .dead :: xs => K5 P r xs
 | .dead :: r, .dead :: xs => K5 P r xs
 | .sto :: r, .store l :: xs => (K5 P r xs).map fun vs => .l l :: vs
 | _, _ => Xc
def Zjp (P:Program) (aps:List AP) (rs:List RSh) (x:SV) (os:List SV):Option (List VE):=
 match Zwx P rs x,K5 P aps os with
 | some vs, Xa us => Xa (vs ++ us)
 | _, _ => Xc
section
variable {P:Program} {ρ:Nat→V}
theorem Zo0 {r:RSh} {x:TC} {vs:List VE} (h:Zwa P r x=Xa vs):vs.length=r.sh.length∧∀ pre post:List V,ZcI P (x.den ρ) (Kp r (pre++vs.map (VE.den ρ)++post) pre.length):=by
 unfold Zwa at h;split at h
 ·cases hd:ZrU _ _ with
  | none => rw [hd] at h; cases h
  | some v =>
   rw [hd] at h;simp only [Xw,Xf] at h;subst h;refine ⟨rfl,fun pre post=>?_⟩;simp only [Kp,Xh,XF,Xo,XJ,XM,Y4];exact .cell (ZfZ hd)
 ·cases hd:Zdh P _ _ _ _ with
  | none => rw [hd] at h; cases h
  | some v =>
   rw [hd] at h;simp only [Xw,Xf] at h;subst h;refine ⟨rfl,fun pre post=>?_⟩;simp only [Kp,Xh,XF,Xo,XJ,XM,Y4];exact .cell (ZdV hd)
 ·split at h
  ·rename_i hi;obtain ⟨h1,h2,h3⟩:=Zgh (P:=P) (ρ:=ρ) _ _ _ h;exact ⟨h1,fun pre post=>.agg (by rw [Xr,h2,JA]) (VK _ _ _ hi) (h3 pre post)⟩
  ·cases h
 ·cases h
theorem Zcq:∀ (rs:List RSh) (us:List V) (j:Nat),(YN rs us j).length=rs.length
 | [], _, _ => rfl
 | _ :: ss, us, j => by simp [YN, Zcq ss us]
theorem Zlu:∀ (rs:List RSh) (xs:List TC) (vs:List VE),Zjo P rs xs=Xa vs→vs.length=(rs.flatMap RSh.sh).length∧xs.length=rs.length∧∀ pre post:List V,
  ∀ (i:Nat) (c c':AV),(xs.map (TC.den ρ))[i]? = Xa c→(YN rs (pre++vs.map (VE.den ρ)++post) pre.length)[i]? = Xa c'→ZcI P c c'
 | [], [], vs, h => by
  simp only [Zjo,Xf] at h;subst h;exact ⟨rfl,rfl,fun _ _ i c c' h=>by simp at h⟩
 | [], _ :: _, _, h => by simp [Zjo] at h
 | _ :: _, [], _, h => by simp [Zjo] at h
 | r :: rs, x :: xs, us, h => by
  simp only [Zjo] at h;split at h
  ·rename_i v vs hv hvs;simp only [Xf] at h;subst h;obtain ⟨h1,h2⟩:=Zo0 (P:=P) (ρ:=ρ) hv;obtain ⟨h3,h4,h5⟩:=Zlu rs xs vs hvs;refine ⟨by simp [h1,h3],by simp [h4],fun pre post i c1 c2 hc1 hc2=>?_⟩
   cases i with
   | zero =>
    simp only [YN,Xh,XB,Xf] at hc1 hc2;subst hc1;subst hc2;have:=h2 pre (vs.map (VE.den ρ)++post);simpa [Xo] using this
   | succ i =>
    have:=h5 (pre++v.map (VE.den ρ)) post i c1 c2 (by simpa using hc1);rw [Xu,Xr,h1] at this;simp only [YN,XQ] at hc2;refine this ?_;simpa [Xo] using hc2
  ·cases h
theorem Zt4 {rs:List RSh} {x:SV} {vs:List VE} (h:Zwx P rs x=Xa vs):vs.length=Zhb rs∧∀ post:List V,YO P (x.den ρ) (KN rs (vs.map (VE.den ρ)++post) 0):=by
 unfold Zwx at h;split at h
 ·split at h
  ·rename_i l cs;obtain ⟨h1,h2,h3⟩:=VG (P:=P) (ρ:=ρ) _ _ _ h;refine ⟨by simpa [Zhb,RSh.sh] using h1,fun post=>?_⟩;have:=h3 [] post;exact .box (by rw [Xr,h2,JA]) (by simpa [KN,Kp] using this)
  ·rename_i l cs;obtain ⟨h1,h2,h3⟩:=VG (P:=P) (ρ:=ρ) _ _ _ h;refine ⟨by simpa [Zhb,RSh.sh] using h1,fun post=>?_⟩;have:=h3 [] post;exact .aggo (by rw [Xr,h2,JA]) (by simpa [KN,Kp] using this)
  ·split at h
   ·rename_i y hy;obtain ⟨h1,h2⟩:=Zo0 (P:=P) (ρ:=ρ) h;refine ⟨by simpa [Zhb] using h1,fun post=>?_⟩;rw [ZkR hy];have:=h2 [] post;exact .comp (by simpa [KN] using this)
   ·cases h
 ·rename_i hne;split at h
  ·rename_i ys;obtain ⟨h1,h2,h3⟩:=Zlu (P:=P) (ρ:=ρ) _ _ _ h;refine ⟨h1,fun post=>?_⟩
   have:∀ us,KN rs us 0 = .tuple (YN rs us 0):=by
    intro us;unfold KN;split
    ·exact (hne _ rfl).elim
    ·rfl
   rw [this];refine .tuple (by rw [Xr,h2,Zcq]) fun i c c' hc hc'=>h3 [] post i c c' hc ?_;simpa using hc'
  ·cases h
theorem ZdW:∀ (aps:List AP) (us:List V) (j:Nat),(Z5 aps us j).length=aps.length
 | [], _, _ => rfl
 | a :: r, us, j => by cases a <;> simp [Z5, ZdW r us]
theorem Kw:∀ (aps:List AP) (xs:List SV) (vs:List VE),K5 P aps xs=Xa vs→vs.length=(J9 aps).length∧xs.length=aps.length∧∀ pre post:List V,
  ∀ (i:Nat) (c c':AV),(xs.map (SV.den ρ))[i]? = Xa c→(Z5 aps (pre++vs.map (VE.den ρ)++post) pre.length)[i]? = Xa c'→YO P c c'
 | [], [], vs, h => by
  simp only [K5,Xf] at h;subst h;exact ⟨rfl,rfl,fun _ _ i c c' h=>by simp at h⟩
 | [], _ :: _, _, h => by simp [K5] at h
 | a :: _, [], _, h => by cases a <;> simp [K5] at h
 | .box l :: r, x :: xs, us, h => by
  cases x<;>simp only [K5,reduceCtorEq] at h
  split at h
  ·rename_i cs v vs hv hvs;simp only [Xf] at h;subst h;obtain ⟨h1,h2,h3⟩:=VG (P:=P) (ρ:=ρ) _ _ _ hv;obtain ⟨h4,h5,h6⟩:=Kw r xs vs hvs;refine ⟨by simp [h1,h4,J9],by simp [h5],fun pre post i c1 c2 hc1 hc2=>?_⟩
   cases i with
   | zero =>
    simp only [Z5,Xh,XB,Xf,SV.den] at hc1 hc2;subst hc1;subst hc2;have:=h3 pre (vs.map (VE.den ρ)++post);exact .box (by rw [Xr,h2,JA]) (by simpa [Xo] using this)
   | succ i =>
    have:=h6 (pre++v.map (VE.den ρ)) post i c1 c2 (by simpa using hc1);rw [Xu,Xr,h1] at this;simp only [Z5,XQ] at hc2;refine this ?_;simpa [Xo] using hc2
  ·cases h
 | .gbox l :: r, x :: xs, us, h => by
  cases x<;>simp only [K5,reduceCtorEq] at h
  split at h
  ·rename_i cs v vs hv hvs;simp only [Xf] at h;subst h;obtain ⟨h1,h2,h3⟩:=VG (P:=P) (ρ:=ρ) _ _ _ hv;obtain ⟨h4,h5,h6⟩:=Kw r xs vs hvs;refine ⟨by simp [h1,h4,J9],by simp [h5],fun pre post i c1 c2 hc1 hc2=>?_⟩
   cases i with
   | zero =>
    simp only [Z5,Xh,XB,Xf,SV.den] at hc1 hc2;subst hc1;subst hc2;have:=h3 pre (vs.map (VE.den ρ)++post);exact .gbox (by rw [Xr,h2,JA]) (by simpa [Xo] using this)
   | succ i =>
    have:=h6 (pre++v.map (VE.den ρ)) post i c1 c2 (by simpa using hc1);rw [Xu,Xr,h1] at this;simp only [Z5,XQ] at hc2;refine this ?_;simpa [Xo] using hc2
  ·cases h
 | .c s :: r, x :: xs, us, h => by
  cases x<;>simp only [K5,reduceCtorEq] at h
  exact retOs_dead (a:=.c s) r xs us (Kw r xs us h) (fun _ _=>rfl) rfl
 | .agg l :: r, x :: xs, us, h => by
  cases x<;>simp only [K5,reduceCtorEq] at h
  exact retOs_dead (a:=.agg l) r xs us (Kw r xs us h) (fun _ _=>rfl) rfl
 | .clo g ds :: r, x :: xs, us, h => by
  cases x<;>simp only [K5,reduceCtorEq] at h
  exact retOs_dead (a:=.clo g ds) r xs us (Kw r xs us h) (fun _ _=>rfl) rfl
 | .ref g ds :: r, x :: xs, us, h => by
  cases x<;>simp only [K5,reduceCtorEq] at h
  exact retOs_dead (a:=.ref g ds) r xs us (Kw r xs us h) (fun _ _=>rfl) rfl
 | .sto :: r, x :: xs, us, h => by
  cases x<;>simp only [K5,reduceCtorEq] at h
  rename_i l;obtain ⟨vs,hvs,rfl⟩:=X6.1 h;obtain ⟨h4,h5,h6⟩:=Kw r xs vs hvs;refine ⟨by simp [h4,J9],by simp [h5],fun pre post i c1 c2 hc1 hc2=>?_⟩
  cases i with
  | zero =>
   simp only [Z5,Xh,XB,Xf,SV.den] at hc1 hc2;subst hc1;subst hc2;rw [Xo,XJ,Y4];exact .store
  | succ i =>
   have:=h6 (pre++[.l (l.den ρ)]) post i c1 c2 (by simpa using hc1);rw [Xu] at this;simp only [Z5,XQ] at hc2;refine this ?_;simpa [Xo,VE.den] using hc2
 | .dead :: r, x :: xs, us, h => by
  cases x<;>simp only [K5,reduceCtorEq] at h
  exact retOs_dead (a:=.dead) r xs us (Kw r xs us h) (fun _ _=>rfl) rfl
where
 retOs_dead {a:AP} (r:List AP) (xs:List SV) (us:List VE) (h:us.length=(J9 r).length∧xs.length=r.length∧∀ pre post:List V,
   ∀ (i:Nat) (c c':AV),(xs.map (SV.den ρ))[i]? = Xa c→(Z5 r (pre++us.map (VE.den ρ)++post) pre.length)[i]? = Xa c'→YO P c c')
   (ha:∀ vs j,Z5 (a::r) vs j = .dead::Z5 r vs j) (hs:J9 (a::r)=J9 r):us.length=(J9 (a::r)).length∧(SV.dead::xs).length=(a::r).length∧∀ pre post:List V,
   ∀ (i:Nat) (c c':AV),((SV.dead::xs).map (SV.den ρ))[i]? = Xa c→(Z5 (a::r) (pre++us.map (VE.den ρ)++post) pre.length)[i]? = Xa c'→YO P c c':=by
  obtain ⟨h4,h5,h6⟩:=h;refine ⟨by rw [hs];exact h4,by simp [h5],fun pre post i c1 c2 hc1 hc2=>?_⟩;rw [ha] at hc2
  cases i with
  | zero =>
   simp only [Xh,XB,Xf] at hc1 hc2;subst hc2;exact .dead
  | succ i => exact h6 pre post i c1 c2 (by simpa using hc1) (by simpa using hc2)
theorem Zmr {aps:List AP} {rs:List RSh} {x:SV} {os:List SV} {vs:List VE} (h:Zjp P aps rs x os=Xa vs) :
  Vr P (os.map (SV.den ρ)++[x.den ρ]) (Z5 aps (vs.map (VE.den ρ)) (Zhb rs)++[KN rs (vs.map (VE.den ρ)) 0]):=by
 unfold Zjp at h;split at h
 ·rename_i a b ha hb;simp only [Xf] at h;subst h;obtain ⟨h1,h2⟩:=Zt4 (ρ:=ρ) ha;obtain ⟨h3,h4,h5⟩:=Kw (P:=P) (ρ:=ρ) _ _ _ hb;have hlo:(os.map (SV.den ρ)).length=(Z5 aps ((a++b).map (VE.den ρ)) (Zhb rs)).length:=by rw [Xr,h4,ZdW]
  refine ⟨by simp only [Xu,hlo,XA,XW],fun i c c' hc hc'=>?_⟩;by_cases hi:i < (os.map (SV.den ρ)).length
  ·rw [Xx hi] at hc;rw [Xx (by rw [← hlo];exact hi)] at hc';have:=h5 (a.map (VE.den ρ)) [] i c c' hc;rw [Xr,h1] at this;exact .inl (this (by simpa using hc'))
  ·rw [Xz (by omega)] at hc;rw [Xz (by rw [← hlo];omega),← hlo] at hc'
   have h0:i-(os.map (SV.den ρ)).length=0:=by
    have:=(Xk.1 hc).1;simp only [XA,XW] at this;omega
   rw [h0] at hc hc';simp only [XB,Xf] at hc hc';subst hc;subst hc';rw [List.map_append];exact .inl (h2 _)
 ·cases h
end
def ZtK {γ:Type} (A:Nat→List V→Option γ) (n:Nat) (B:List V→Option γ):Nat→List V→Option γ:=fun i vs=>if i=n then B vs else A i vs
def ZmZ (ρ:Nat→V):SV→Option (List (List AV))
 | .c (.cel p) => Xa (p.den ρ)
 | _ => Xc
theorem ZlV (ρ:Nat→V) (args:List SV):KL (args.map (ZmZ ρ)) (args.map (SV.den ρ)):=by
 intro i l y h1 h2;rw [Xl] at h1 h2
 cases ha:args[i]? with
 | none => rw [ha] at h1; cases h1
 | some a =>
  rw [ha] at h1 h2;simp only [Xw,Xf] at h1 h2;unfold ZmZ at h1;split at h1
  ·cases h1
   exact h2.symm
  ·cases h1
noncomputable def STree.run (P:Program) (Φ:List (FuncId×Fun)) (aps:List AP) (rs:List RSh):STree→(Nat→List V→Option (ShsT (ZcJ rs aps)))→(Nat→V)→Option (ShsT (ZcJ rs aps))
 | .stuck _, _, _ => Xc
 | .branch b t e, A, ρ => if b.den ρ = Xb then t.run P Φ aps rs A ρ else e.run P Φ aps rs A ρ
 | .req p t, A, ρ => @Zf _ (p.den ρ) (p.decDen ρ) (t.run P Φ aps rs A ρ)
 | .elem l i sh n t, A, ρ => Zk (l.den ρ) (i.den ρ) sh fun r => t.run P Φ aps rs A (bind ρ n (ZeB sh r))
 | .nilq l n t, A, ρ => @Zs4 _ (decS _) (l.den ρ) fun b => t.run P Φ aps rs A (bind ρ n [.b b])
 | .call f args res outs n _ t, A, ρ =>
  match ZoA Φ f (args.filterMap SV.sig) with
  | some S => if ZwO S.res res n = Xb ∧ K3 S.args outs (n + Zhb S.res) = Xb ∧ Zba S.args = Xb then Ztm P S (args.map (ZmZ ρ)) (args.map (SV.den ρ)) fun us => t.run P Φ aps rs A (bind ρ n us) else Xc
  | none => Xc
 | .loop lv init n t, A, ρ => ZeE (fun rec vs => t.run P Φ aps rs (ZtK A lv rec) (bind Zhx n vs)) Jl (init.map (VE.den ρ))
 | .again lv vals, A, ρ => A lv (vals.map (VE.den ρ))
 | .ret res outs, _, ρ => match Zjp P aps rs res outs with | some vs => Zr5 _ (vs.map (VE.den ρ)) | none => Xc
theorem Zwp {p:Nat→Prop} (h:∃ k,p k):∃ k,p k∧∀ j,j < k→¬ p j:=by
 obtain ⟨k,hk⟩:=h
 induction k using Nat.strongRecOn with
 | _ k ih =>
  by_cases hj:∃ j,j < k∧p j
  ·obtain ⟨j,h1,h2⟩:=hj;exact ih j h1 h2
  ·exact ⟨k,hk,fun j h1 h2=>hj ⟨j,h1,h2⟩⟩
section
variable {P:Program} {Φ:List (FuncId×Fun)} {aps:List AP} {rs:List RSh}
theorem Zcz (hΦ:ZnW P Φ) {r:ShsT (ZcJ rs aps)} {R:AV→List AV→Prop} (hR:∀ x os,Vr P (os++[x]) (Z5 aps (ZeB _ r) (Zhb rs)++[KN rs (ZeB _ r) 0])→R x os) :
  ∀ (t:STree) (A':Nat→List V→Option (ShsT (ZcJ rs aps))) (A:Nat→List V→Prop) (ρ:Nat→V),(∀ lv vs,A' lv vs=Xa r→A lv vs)→t.run P Φ aps rs A' ρ=Xa r→t.wp P R A ρ
 | .stuck _, _, _, _, _, h => by simp [STree.run] at h
 | .branch b t e, A', A, ρ, hA, h => by
  simp only [STree.run] at h;refine ⟨fun hb=>?_,fun hb=>?_⟩
  ·rw [if_pos hb] at h;exact Zcz hΦ hR t A' A ρ hA h
  ·rw [if_neg (by rw [hb];exact Bool.false_ne_true)] at h;exact Zcz hΦ hR e A' A ρ hA h
 | .req p t, A', A, ρ, hA, h => by
  obtain ⟨h1,h2⟩:=ZbH (show @Zf _ (p.den ρ) (p.decDen ρ) (t.run P Φ aps rs A' ρ)=Xa r from h);exact ⟨h1,Zcz hΦ hR t A' A ρ hA h2⟩
 | .elem l i sh n t, A', A, ρ, hA, h => by
  obtain ⟨h0,cs,x,h1,h2,h3⟩:=ZmL (show Zk (l.den ρ) (i.den ρ) sh (fun r=>t.run P Φ aps rs A' (bind ρ n (ZeB sh r)))=Xa r from h);refine ⟨ZeB sh x,h0,?_,Zcz hΦ hR t A' A _ hA h3⟩;rw [h1,Zk1 sh cs x n _ h2 (ZlG.bind ρ n _)]
 | .nilq l n t, A', A, ρ, hA, h => fun b hb => Zcz hΦ hR t A' A _ hA (ZoY (show @Zs4 _ (decS _) (l.den ρ) (fun b => t.run P Φ aps rs A' (bind ρ n [.b b])) = Xa r from h) b hb)
 | .call f args res outs n sh t, A', A, ρ, hA, h => by
  simp only [STree.run] at h;split at h
  ·rename_i S hS;split at h
   ·rename_i hfit;obtain ⟨vs,x,h1,h2,h3⟩:=ZmM h;have hlen:=ZlS _ x;have hl2:(ZcJ S.res S.args).length=Zhb S.res+(J9 S.args).length:=by simp [ZcJ,Zhb]
    refine ⟨ZeB _ x,?_,Zcz hΦ hR t A' A _ hA h3⟩;rw [Zp8 hfit.1 (by omega),YH S.args outs (Zhb S.res) hfit.2.1 (by omega)];exact JN.freeze S.args _ [] ((Zlj hΦ hS vs x h2).stronger (ZjR (Zd9 _ _ _ (ZlV ρ args)) hfit.2.2 h1)) (ZfE _ _ _ _ (Zd9 _ _ _ (ZlV ρ args)) h1)
   ·cases h
  ·cases h
 | .loop lv init n t, A', A, ρ, hA, h => by
  let F:=fun (rec:List V→Option (ShsT (ZcJ rs aps))) vs=>t.run P Φ aps rs (ZtK A' lv rec) (bind Zhx n vs)
  have hF:ZeE F Jl (init.map (VE.den ρ))=Xa r:=h
  have hm:∀ vs,∃ m:Nat,(∃ k,ZeE F k vs=Xa r)→ZeE F m vs=Xa r∧∀ j,ZeE F j vs=Xa r→m≤j:=by
   intro vs;by_cases hk:∃ k,ZeE F k vs=Xa r
   ·obtain ⟨m,h1,h2⟩:=Zwp hk;exact ⟨m,fun _=>⟨h1,fun j hj=>Nat.le_of_not_lt fun hlt=>h2 j hlt hj⟩⟩
   ·exact ⟨0,fun h=>(hk h).elim⟩
  obtain ⟨m,hm⟩:=U7 hm;refine ⟨fun vs=>∃ k,ZeE F k vs=Xa r,m,⟨Jl,hF⟩,fun vs _ hk=>?_⟩;obtain ⟨h1,h2⟩:=hm vs hk
  cases hmv:m vs with
  | zero => rw [hmv] at h1; cases h1
  | succ j =>
   rw [hmv] at h1;refine Zcz hΦ hR t (ZtK A' lv (ZeE F j)) _ _ (fun lv' vs' hv=>?_) h1;unfold ZtK at hv;unfold ZvH;split at hv
   ·rename_i he;rw [if_pos he];refine ⟨⟨j,hv⟩,?_⟩;have:=(hm vs' ⟨j,hv⟩).2 j hv;omega
   ·rename_i he;rw [if_neg he];exact hA lv' vs' hv
 | .again lv vals, A', A, ρ, hA, h => hA lv _ h
 | .ret res outs, A', A, ρ, hA, h => by
  simp only [STree.run] at h;split at h
  ·rename_i vs hvs;refine hR _ _ ?_;rw [ZiC _ _ _ h];exact Zmr hvs
  ·cases h
end
abbrev LL:Type:=List (List AV)
abbrev E0:LL:=[]
def ZvP (l:List (List AV)):Prop:=∀ e∈l,∃ n:Int,0≤n∧n≤255∧e = [.val (.int .u8 n)]
def Jp (a b:List (List AV)) (k:Nat):Prop:=(a.length+b.length)*(k+1)≤ZF
def ZwM (a:Int) (k:Nat):Prop:=0≤a∧a.toNat*(k+1)≤ZF
instance (l:List (List AV)):Decidable (ZvP l):=Zlk l
instance (a b:List (List AV)) (k:Nat):Decidable (Jp a b k):=inferInstanceAs (Decidable ((a.length+b.length)*(k+1)≤ZF))
instance (a:Int) (k:Nat):Decidable (ZwM a k):=inferInstanceAs (Decidable (0≤a∧a.toNat*(k+1)≤ZF))
instance (l:List (List AV)):Decidable (l≠[]):=ZpW l
def STree.next:STree→STree
 | .branch _ t _ => t
 | .req _ t => t
 | .elem _ _ _ _ t => t
 | .nilq _ _ t => t
 | .call _ _ _ _ _ _ t => t
 | .loop _ _ _ t => t
 | t => t
def STree.other:STree→STree
 | .branch _ _ e => e
 | t => t
def STree.nexts:Nat→STree→STree
 | 0, t => t
 | k + 1, t => STree.nexts k t.next
def STree.go:STree→List Nat→STree
 | t, [] => t
 | t, 0 :: p => t.next.go p
 | t, 1 :: p => t.other.go p
 | t, k :: p => (STree.nexts k t).go p
@[reducible] def d2 {α β γ:Type} (r:α×β×γ):γ:=r.2.2
@[reducible] def d4 {α β γ δ ε:Type} (r:α×β×γ×δ×ε):ε:=r.2.2.2.2
def AP.hp:AP→HP
 | .c s => .c s
 | .agg l => .agg l
 | .box l => .box l
 | .gbox l => .gbox l
 | .clo g ds => .clo g ds
 | .ref j q => .mref j q
 | .dead => .dead
 | .sto => .sto
def Za4:List AP→Nat→List SV
 | [], _ => []
 | a :: r, n => ZmV a.hp n :: Za4 r (n + a.n)
def Zue:List AP→Nat
 | [] => 0
 | a :: r => a.n + Zue r
def apsFine (l:List AP):Bool:=l.all fun a=>a.hp.fine
theorem Zqu (a:AP) (us:List V) (j:Nat):Zh7 a us j=KQ a.hp us j:=by cases a<;>rfl
theorem Zfm:∀ (l:List AP) (n:Nat) (us:List V),apsFine l=Xb→(Za4 l n).map (SV.den (Zv2 us))=V9 l us n
 | [], _, _, _ => rfl
 | a :: r, n, us, h => by
  simp only [apsFine,Uz,Xs] at h;rw [Za4,Xh,V9,Zqu,ZnF (m:=n) h.1 (ρ:=Zv2 us) (us:=us) (fun j _=>rfl),Zfm r (n+a.n) us h.2]
theorem Zic:∀ (l:List AP) (n:Nat),∀ x∈Za4 l n,x.bd (n+Zue l)
 | [], _ => by simp [Za4]
 | a :: r, n => by
  intro x hx;simp only [Za4,Xq] at hx;rcases hx with rfl | hx
  ·have hb:(ZmV a.hp n).bd (n+a.n):=by
    cases a with
    | c s => cases s <;> exact Uj n
    | agg l => exact JQ l n
    | box l => exact Ya l n
    | gbox l => exact Ya l n
    | clo g ds => trivial
    | ref j q => trivial
    | dead => trivial
    | sto => exact Uj n
   exact SV.bd_mono (by simp only [Zue];omega) _ hb
  ·have:=Zic r (n+a.n) x hx;rw [Zue,← Wu];exact this
section
variable {P:Program}
theorem fun_ok {Φ : List (FuncId × Fun)} {E : Env} (hm : P.follows .mixedOrders = Xb) (hps : EnvSound P E) {f : FuncId} {fn : Func} {S : Fun} {n : Nat} {T : STree} (hf : P.funcs[f]? = Xa fn) (hname : (fn.name == "runtime.NumGoroutine") = Xe)
  (hfine:apsFine S.args=Xb) (hn:Zue S.args=n) (eq:Zwh P E fn (Za4 S.args 0) n=T) (hΦ:ZnW P Φ) (hg:∀ vs,S.g vs=T.run P Φ S.args S.res (fun _ _=>Xc) (Zv2 vs)):S.Ok P f:=by
 intro vs r h;rw [hg] at h
 have:=callOk_ofR (R:=fun x os=>Vr P (os++[x]) (Z5 S.args (ZeB _ r) (Zhb S.res)++[KN S.res (ZeB _ r) 0])) hm hps hf hname (args:=Za4 S.args 0) (n:=n) (ρ:=Zv2 vs)
  (fun a ha=>by have:=Zic S.args 0 a ha;rwa [XH,hn] at this) (fun _ _ h=>h) (by rw [eq];exact Zcz hΦ (fun _ _ h=>h) T _ _ _ (fun _ _ h=>by cases h) h)
 rw [Zfm S.args 0 vs hfine] at this;exact this
end
section
open Go.Shelf Go.RowKit Go.Lib
variable {P:Program}
structure Zty (P:Program) (T B I e:TypeId) (inf:TypeInfo) (z:Value) (k:Nat):Prop where
 mixed:P.follows .mixedOrders=Xb
 tT:P.underlying T=Xa (.slice e)
 tI:P.underlying I=Xa (.int .i64)
 tB:P.underlying B=Xa .bool
 ie:P.info? e=Xa inf
 zero:inf.zero=Xa z
 zsz:z.cells.size=k
 sz:inf.size=k
 pos:0 < k
 nm:Zm P e=Xe
theorem Zqv {w:World} {b:Nat} {cur:Array Value} {e:TypeId} {fr:Nat×Nat} (h:w.heap[b]? = Xa (.cells cur e fr)) {l:List Value} {q:Nat} (hl:∀ j v,l[j]? = Xa v→cur[q+j]? = Xa v) :
  ∀ j v,l[j]? = Xa v→w.cell? ((⟨b,q,Xc⟩:Addr).add j)=Xa v:=fun j v hj=>by
 rw [Jr,ZR h];exact hl j v hj
theorem Zqt {w:World} {b:Nat} {cur cur':Array Value} {t:TypeId} (h:w.heap[b]? = Xa (.cells cur t (0,0))):(w.setRow b cur').heap[b]? = Xa (.cells cur' t (0,0)):=setRow_heap w b cur cur' t (0,0) h
def Zpa (T B I U:TypeId):Code:=
  (.seq (.region 0 #[
    ⟨Xa 6, .assign (.const (.slice Xc 0 0)), T, "slices.go:224", #[], Xc⟩] Xe)
  (.seq (.region 1 #[
    ⟨Xa 8, .move (.tmp 0), T, "slices.go:225", #[], Xc⟩,
    ⟨Xa 9, .move (.tmp 1), I, "slices.go:225", #[], Xc⟩,
    ⟨Xa 10, .move (.tmp 2), I, "slices.go:225", #[], Xc⟩,
    ⟨Xa 11, .move (.tmp 0), T, "slices.go:225", #[], Xc⟩,
    ⟨Xa 12, .call ⟨.builtin .len, #[(.tmp 11)], #[T]⟩, I, "slices.go:225", #[⟨3, .data⟩], Xc⟩,
    ⟨Xa 13, .slice T (.tmp 8) (Xa (.tmp 9)) (Xa (.tmp 10)) (Xa (.tmp 12)), T, "slices.go:225", #[⟨0, .data⟩, ⟨1, .data⟩, ⟨2, .data⟩, ⟨4, .data⟩], Xc⟩] Xe)
  (.seq (.seq (.region 2 #[
    ⟨Xa 14, .move (.tmp 1), I, "slices.go:227", #[], Xc⟩,
    ⟨Xa 15, .move (.tmp 2), I, "slices.go:227", #[], Xc⟩,
    ⟨Xa 16, .binOp .eql I (.tmp 14) (.tmp 15) I, B, "slices.go:227", #[⟨0, .data⟩, ⟨1, .data⟩], Xc⟩] Xe)
  (.cond (.tmp 16)
   (.seq (.region 3 #[
     ⟨Xa 17, .move (.tmp 0), T, "slices.go:228", #[], Xc⟩,
     ⟨Xa 6, .assign (.tmp 17), T, "slices.go:228", #[⟨0, .data⟩, ⟨0, .phase⟩], Xc⟩] Xe)
   .ret)
   .skip))
  (.seq (.region 4 #[
    ⟨Xa 18, .move (.tmp 0), T, "slices.go:231", #[], Xc⟩,
    ⟨Xa 19, .call ⟨.builtin .len, #[(.tmp 18)], #[T]⟩, I, "slices.go:231", #[⟨0, .data⟩], Xc⟩,
    ⟨Xa 7, .assign (.tmp 19), I, "slices.go:231", #[⟨1, .data⟩, ⟨0, .phase⟩, ⟨1, .phase⟩], Xc⟩] Xe)
  (.seq (.region 5 #[
    ⟨Xa 20, .move (.tmp 0), T, "slices.go:232", #[], Xc⟩,
    ⟨Xa 21, .move (.tmp 1), I, "slices.go:232", #[], Xc⟩,
    ⟨Xa 22, .slice T (.tmp 20) Xc (Xa (.tmp 21)) Xc, T, "slices.go:232", #[⟨0, .data⟩, ⟨1, .data⟩], Xc⟩,
    ⟨Xa 23, .move (.tmp 0), T, "slices.go:232", #[], Xc⟩,
    ⟨Xa 24, .move (.tmp 2), I, "slices.go:232", #[], Xc⟩,
    ⟨Xa 25, .slice T (.tmp 23) (Xa (.tmp 24)) Xc Xc, T, "slices.go:232", #[⟨3, .data⟩, ⟨4, .data⟩], Xc⟩,
    ⟨Xa 26, .call ⟨.builtin .append, #[(.tmp 22), (.tmp 25)], #[T, T]⟩, T, "slices.go:232", #[⟨2, .data⟩, ⟨5, .data⟩], Xc⟩,
    ⟨Xa 0, .assign (.tmp 26), T, "slices.go:232", #[⟨6, .data⟩, ⟨6, .chain⟩, ⟨0, .phase⟩, ⟨1, .phase⟩, ⟨2, .phase⟩, ⟨3, .phase⟩, ⟨4, .phase⟩, ⟨5, .phase⟩, ⟨6, .phase⟩], Xc⟩] Xb)
  (.seq (.region 6 #[
    ⟨Xa 27, .move (.tmp 0), T, "slices.go:233", #[], Xc⟩,
    ⟨Xa 28, .move (.tmp 0), T, "slices.go:233", #[], Xc⟩,
    ⟨Xa 29, .call ⟨.builtin .len, #[(.tmp 28)], #[T]⟩, I, "slices.go:233", #[⟨1, .data⟩], Xc⟩,
    ⟨Xa 30, .move (.tmp 7), I, "slices.go:233", #[], Xc⟩,
    ⟨Xa 31, .slice T (.tmp 27) (Xa (.tmp 29)) (Xa (.tmp 30)) Xc, T, "slices.go:233", #[⟨0, .data⟩, ⟨2, .data⟩, ⟨3, .data⟩], Xc⟩,
    ⟨Xc, .call ⟨.builtin .clear, #[(.tmp 31)], #[T]⟩, U, "slices.go:233", #[⟨4, .data⟩], Xc⟩] Xe)
  (.seq (.region 7 #[
    ⟨Xa 32, .move (.tmp 0), T, "slices.go:234", #[], Xc⟩,
    ⟨Xa 6, .assign (.tmp 32), T, "slices.go:234", #[⟨0, .data⟩, ⟨0, .phase⟩], Xc⟩] Xe)
  .ret)))))))
theorem Vy (w:World) {ops:Array Oper} {rest:List Oper} {o:Oper} {a:Act} {Q:Exit→Act→World→Prop} (hgd:o.guard=Xc) (d:Operand) (t:TypeId)
  (ho:o.op = .call { callee:=.builtin .clear,args:=#[d],argTypes:=#[t] }) (v:Value) (hd:a.eval d=v) {v':Value} {w':World}
  (hr:(Builtin.clear_ #[t] o.type #[v]).run P w = .ok v' w') (h:wpList P ops Q rest (a.put o.dst v') w'):wpList P ops Q (o::rest) a w:=
 wpList_plain hgd fun _ hK=>by
  unfold Oper.wp execOp;simp only [ho,resolve,invoke,builtin,Sem.run_bind,Sem.run_pure,Result.andThen_ok,Ws,Xh,XF,hd,hr];exact hK _ _ h
theorem V7 {ops:Array Oper} {o:Oper} {a:Act} {w:World} {K:Act→World→Prop} {Q:Exit→Act→World→Prop} {E:Prop}
  (hg:o.guard=Xc) (d x:Operand) (dT sT:TypeId) (hop:o.op=Op.call { callee:=Callee.builtin Builtin.append,args:=#[d,x],argTypes:=#[dT,sT] })
  (v u:Value) (hd:a.eval d=v) (hx:a.eval x=u) {v':Value} {w':World} (hr:(Builtin.append_ #[dT,sT] o.type #[v,u]).run P w = .ok v' w') (hK:K (a.put o.dst v') w') :
  if Region.wanted o (yielded ops a.tmps)=Xb then Oper.wp P o a w K Q else E:=by
 have hw:Region.wanted o (yielded ops a.tmps)=Xb:=by simp [Region.wanted,hg]
 rw [if_pos hw];unfold Oper.wp;simp [execOp,hop,resolve,invoke,builtin,hd,hx,hr,Result.andThen];exact hK
def K6 (U:List Value) (k n i j:Nat):List Value:=U.take (i*k)++(U.drop (j*k)).take ((n-j)*k)++U.drop (i*k+(n-j)*k)
def Zpu (R:List Value) (zc:List Value) (k n q:Nat):List Value:=R.take (q*k)++(Xg (n-q) zc).flatten++R.drop (q*k+(n-q)*k)
set_option maxHeartbeats 4000000 in
set_option maxRecDepth 100000 in
theorem del_run {T B I U e:TypeId} {inf:TypeInfo} {z:Value} {k:Nat} (L:Zty P T B I e inf z k) {f:FuncId} {fn:Func} (hf:P.funcs[f]? = Xa fn) (hb:fn.body=Xa (Zpa T B I U)) (hnt:fn.ntmps=33) (hrs:fn.results = #[.tmp 6])
  (b n c i j:Nat) (cur:Array Value) (w:World) (hij:i < j) (hjn:j≤n) (hnc:n≤c) (hc63:c≤9223372036854775807) (hg:w.heap[b]? = Xa (.cells cur e (0,0))) (hcs:cur.size=c*k)
  (h1c:∀ v∈cur.toList.take (n*k),v.oneCell'=Xb) (h1z:∀ v∈z.cells.toList,v.oneCell'=Xb) :
  Calls P f #[.slice (Xa ⟨b,0,Xc⟩) n c,.int .i64 i,.int .i64 j] w fun e' w'=>
   e' = .returned (.slice (Xa ⟨b,0,Xc⟩) (i+(n-j)) c)∧w'=(w.drew.setRow b (K6 cur.toList k n i j).toArray).setRow b (Zpu (K6 cur.toList k n i j) z.cells.toList k n (i+(n-j))).toArray:=by
 have mixed:=L.mixed;have t0:=L.tT;have t1:=L.tI;have t2:=L.tB;have u0:=run_underlying L.tT;have u1:=run_underlying L.tI;have u2:=run_underlying L.tB;have zsE:∀ w,(Go.sizeOf e).run P w = .ok k w:=fun w=>by rw [Zs L.ie];rw [ZO L.ie,L.sz]
 have hk:=L.pos;have hn3:(n-j)*k=n*k-j*k:=Nat.sub_mul _ _ _;have hn4:i*k≤j*k:=XZ _ (by omega);have hn5:n*k≤c*k:=XZ _ hnc;have hn6:j*k≤n*k:=XZ _ hjn;have hn7:(i+(n-j))*k=i*k+(n-j)*k:=Nat.add_mul _ _ _;have hn8:(n-(i+(n-j)))*k=n*k-(i+(n-j))*k:=Nat.sub_mul _ _ _;have hcl:cur.toList.length=c*k:=by simpa using hcs
 have hR1l:(K6 cur.toList k n i j).length=c*k:=by simp only [K6,Xu,XU,Ui,hcl];omega
 have hlen:((cur.toList.drop (j*k)).take ((n-j)*k)).length=(n-j)*k:=by rw [XU,Ui,hcl];omega
 have h1n:∀ v∈(cur.toList.drop (j*k)).take ((n-j)*k),v.oneCell'=Xb:=fun v hv=>h1c v (by
    rw [hn3,← List.drop_take] at hv;exact List.mem_of_mem_drop hv)
 have hap:∀ (A:Addr) sc ty,(n-j≠0→A=⟨b,j*k,Xc⟩)→(Builtin.append_ #[T,T] ty #[.slice (Xa ⟨b,0,Xc⟩) i c,.slice (Xa A) (n-j) sc]).run P w.drew = .ok (.slice (Xa ⟨b,0,Xc⟩) (i+(n-j)) c) (w.drew.setRow b (K6 cur.toList k n i j).toArray):=fun A sc ty hA=>by
  have:=run_append_room (P:=P) w.drew T ty e inf L.tT L.ie b i c cur hg A (n-j) sc ((cur.toList.drop (j*k)).take ((n-j)*k)) (by rw [hlen,L.sz]) (fun t u ht=>by
    have hlt:=(Xk.1 ht).1;rw [hlen] at hlt
    have hne:n-j≠0:=by
     intro h;rw [h] at hlt;omega
    rw [hA hne];refine Zqv (w:=w.drew) hg (l:=(cur.toList.drop (j*k)).take ((n-j)*k)) (fun t u ht=>?_) t u ht;rw [XC] at ht;split at ht
    ·rw [XP] at ht;simpa using ht
    ·cases ht) h1n (by omega) (by rw [hlen,hcs,L.sz];omega)
  rw [hlen,L.sz] at this;exact this
 obtain ⟨p,hp⟩:∃ p,n-(i+(n-j))=p+1:=⟨n-(i+(n-j))-1,by omega⟩
 have hclr:∀ ty cc,(Builtin.clear_ #[T] ty #[.slice (Xa ⟨b,(i+(n-j))*k,Xc⟩) (n-(i+(n-j))) cc]).run P (w.drew.setRow b (K6 cur.toList k n i j).toArray) = .ok (.tuple #[]) ((w.drew.setRow b (K6 cur.toList k n i j).toArray).setRow b (Zpu (K6 cur.toList k n i j) z.cells.toList k n (i+(n-j))).toArray):=fun ty cc=>by
  have:=VW (P:=P) (w:=w.drew.setRow b (K6 cur.toList k n i j).toArray) (ty:=ty) (o:=i*k+(n-j)*k) (n:=p) (c:=cc) L.tT L.ie L.zero (Zqt (w:=w.drew) hg) (by
   have hs:(K6 cur.toList k n i j).toArray.size=c*k:=by simpa using hR1l
   rw [hs,← hp,L.zsz,hn8,hn7];omega) h1z
  rw [← hp,L.zsz,← hn7] at this;exact this
 have hb0:(i:Int)≤(j:Int):=by omega
 have hb1:(j:Int)≤(n:Int):=by omega
 have hb2:¬ ((i:Int)=(j:Int)):=by omega
 have hb3:(i:Int)≤(n:Int):=by omega
 have hb4:(i:Int)+((n:Int)-(j:Int))≤(n:Int):=by omega
 have hb5:((i+(n-j):Nat):Int)≤(n:Int):=by omega
 have hb6:¬ (c=i+(n-j)):=by omega
 have hic:(i:Int)≤(c:Int):=by omega
 have hjc:(j:Int)≤(c:Int):=by omega
 have hnc':(n:Int)≤(c:Int):=by omega
 obtain ⟨zc,hzc⟩:∃ zc,zc=z.cells.toList:=⟨_,rfl⟩;rw [← hzc] at hclr ⊢;clear hg hcs hcl h1c h1z hR1l hlen h1n hn8 hp hn3 hn4 hn5 hn6 hn7 hzc;refine calls_of_wp hf hb ?_;rw [hnt];simp only [UB,XA,XW,Nat.reduceAdd,Nat.reduceSub,Array.replicate_succ,Array.replicate_zero,List.push_toArray,List.append_toArray,XM,XJ];unfold Zpa;by_cases hcj:c=j
 ·have hnn:n=c:=by omega
  subst hnn;subst hcj;have hap':=fun ty=>hap ⟨b,0,Xc⟩ (n-n) ty (by omega);simp only [UE,Uh] at hap' hclr hb6 hb5 ⊢
  go_wp2
  go_region_law_o (refine V7 rfl _ _ T T rfl _ _ (by simp [Act.eval,Act.put]) (by simp [Act.eval,Act.put]) (hap' _) ?_)
  go_wp2_with (at_builtin;refine Vy _ rfl _ T rfl _ rfl (hclr _ _) ?_)
  refine bodyPost_ret (results_tmp hrs _ _ _) rfl ?_;exact ⟨rfl,rfl⟩
 ·have hap':=fun ty=>hap ⟨b,j*k,Xc⟩ (c-j) ty (fun _=>rfl)
  go_wp2
  go_region_law_o (refine V7 rfl _ _ T T rfl _ _ (by simp [Act.eval,Act.put]) (by simp [Act.eval,Act.put]) (hap' _) ?_)
  go_wp2_with (at_builtin;refine Vy _ rfl _ T rfl _ rfl (hclr _ _) ?_)
  refine bodyPost_ret (results_tmp hrs _ _ _) rfl ?_;exact ⟨rfl,rfl⟩
def ZiN {α β:Type} (R:α→β→Prop) (A:List α) (B:List β):Prop:=∀ (j:Nat) (z:α) (u:β),A[j]? = Xa z→B[j]? = Xa u→R z u
theorem ZiN.app {α β:Type} {R:α→β→Prop} {A A':List α} {B B':List β} (hl:A.length=B.length) (h:ZiN R A B) (h':ZiN R A' B'):ZiN R (A++A') (B++B'):=by
 intro j z u hz hu;by_cases hj:j < A.length
 ·rw [Xx hj] at hz;rw [Xx (by omega)] at hu;exact h j z u hz hu
 ·rw [Xz (by omega)] at hz;rw [Xz (by omega),← hl] at hu;exact h' _ z u hz hu
theorem ZiN.take {α β:Type} {R:α→β→Prop} {A:List α} {B:List β} (h:ZiN R A B) (n:Nat):ZiN R (A.take n) (B.take n):=by
 intro j z u hz hu;rw [XC] at hz hu;split at hz
 ·rename_i hj;rw [if_pos hj] at hu;exact h j z u hz hu
 ·cases hz
theorem ZiN.drop {α β:Type} {R:α→β→Prop} {A:List α} {B:List β} (h:ZiN R A B) (n:Nat):ZiN R (A.drop n) (B.drop n):=by
 intro j z u hz hu;rw [XP] at hz hu;exact h _ z u hz hu
theorem ZiN.cut {α β:Type} {R:α→β→Prop} {A:List α} {B:List β} (h:ZiN R A B) (n:Nat):ZiN R A (B.take n):=by
 intro j z u hz hu;rw [XC] at hu;split at hu
 ·exact h j z u hz hu
 ·cases hu
theorem ZiN.ext {α β:Type} {R:α→β→Prop} {A:List α} {B C:List β} (h:ZiN R A B) (hl:A.length≤B.length):ZiN R A (B++C):=by
 intro j z u hz hu;have:=(Xk.1 hz).1;rw [Xx (by omega)] at hu;exact h j z u hz hu
theorem Jh.trans {w w1 w2:World} {l l1 l2:Lm} {S S1 S2:Nat→Prop} (h:Jh w l w1 l1 S1) (h':Jh w1 l1 w2 l2 S2) (h1:∀ b,S1 b→S b) (h2:∀ b,S2 b→S b∨w.heap.size≤b):Jh w l w2 l2 S where
 os:=h'.os.trans h.os
 tape:=h'.tape.trans h.tape
 output:=h'.output.trans h.output
 size:=XI h.size h'.size
 frz a ha:=(h'.frz a (XS ha h.size)).trans (h.frz a ha)
 blk b hb hn:=by
  have k1:=h.blk b hb fun hs=>hn (h1 b hs);have k2:=h'.blk b (XS hb h.size) fun hs=>(h2 b hs).elim hn (fun h=>by omega);exact ⟨k2.1.trans k1.1,k2.2.trans k1.2⟩
 ext:=h.ext.trans h'.ext h.size
 t:=h'.t.trans h.t
theorem arg_int {w:World} {lim:Lm} {X:Nat→Nat→Option Nat} {σ:Nat→AV} {d:Nat} {k:IntKind} {z:Int} {v:Value} (h:ZS P w lim X σ d (.val (.int k z)) v):v = .int k z:=YU (show Rep w lim _ v from h)
end
end Go.AM
namespace Go.Proofs.Ytpjnmgjphfnmmaa
open Go Go.AM Go.RowKit Go.Maps Go.Sort Go.Shelf Go.Proofs
def Zdf:Go.Shelf.Ren:=⟨fun | 7=>51 | 10=>69 | n=>n,fun | 23=>69 | 26=>3 | 3=>68 | 28=>90 | 0=>0 | 27=>89 | 33=>67 | 4=>4 | n=>n,fun | n=>n⟩
theorem Zpo:Go.Proofs.SlLaysZI.n7 Try.prog Zdf:={
 mixed:=by kernel_rfl
 f7:=⟨Try.f51.name,by decide,Try.func51.trans (congrArg Xa (by kernel_rfl))⟩
 f10:=⟨Try.f69.name,by decide,Try.func69.trans (congrArg Xa (by kernel_rfl))⟩
 t0:=Try.underlying0
 a0:=Try.isAgg0
 z0:=Try.sizeOf0
 v0:=Try.zeroValue0
 t4:=Try.underlying4
 a4:=Try.isAgg4
 z4:=Try.sizeOf4
 v4:=Try.zeroValue4
 t23:=Try.underlying69
 a23:=Try.isAgg69
 z23:=Try.sizeOf69
 v23:=Try.zeroValue69
 t26:=Try.underlying3
 a26:=Try.isAgg3
 z26:=Try.sizeOf3
 v26:=Try.zeroValue3
 t27:=Try.underlying89
 a27:=Try.isAgg89
 z27:=Try.sizeOf89
 v27:=Try.zeroValue89
 t28:=Try.underlying90
 a28:=Try.isAgg90
 z28:=Try.sizeOf90
 v28:=Try.zeroValue90
 t33:=Try.underlying67
 a33:=Try.isAgg67
 z33:=Try.sizeOf67
 v33:=Try.zeroValue67 }
def Zbi:Go.Shelf.Ren:=⟨fun | 6=>50 | 8=>68 | 9=>43 | 11=>85 | 12=>62 | 13=>63 | 14=>73 | 15=>74 | 16=>75 | 17=>76 | 18=>77 | 19=>78 | 20=>79 | 21=>80 | 22=>81 | 23=>82 | 24=>83 | 25=>88 | 26=>89 | 27=>90 | 28=>91 | 29=>92 | 30=>93 | 31=>94 | n=>n,fun | 0=>0 | 3=>3 | 4=>4 | 5=>5 | 9=>9 | 24=>22 | 26=>3 | 28=>90 | 33=>67 | 37=>99 | 39=>106 | 40=>107 | 45=>112 | 48=>115 | 50=>117 | 51=>119 | 55=>123 | 57=>125 | 58=>126 | n=>n,fun | n=>n⟩
theorem ZoM:Go.Proofs.SlLaysZI.n6 Try.prog Zbi:={
 mixed:=by kernel_rfl
 f6:=⟨Try.f50.name,by decide,Try.func50.trans (congrArg Xa (by kernel_rfl))⟩
 f8:=⟨Try.f68.name,by decide,Try.func68.trans (congrArg Xa (by kernel_rfl))⟩
 f11:=⟨Try.f85.name,by decide,Try.func85.trans (congrArg Xa (by kernel_rfl))⟩
 t0:=Try.underlying0
 a0:=Try.isAgg0
 z0:=Try.sizeOf0
 v0:=Try.zeroValue0
 t24:=Try.underlying22
 a24:=Try.isAgg22
 z24:=Try.sizeOf22
 v24:=Try.zeroValue22
 t26:=Try.underlying3
 a26:=Try.isAgg3
 z26:=Try.sizeOf3
 v26:=Try.zeroValue3
 t28:=Try.underlying90
 a28:=Try.isAgg90
 z28:=Try.sizeOf90
 v28:=Try.zeroValue90
 i26:=by kernel_rfl }
def Zjg:Go.Shelf.Ren:=⟨fun | 5=>43 | 8=>63 | 7=>62 | 19=>82 | 20=>83 | 10=>73 | 11=>74 | 12=>75 | 13=>76 | 14=>77 | 15=>78 | 16=>79 | 17=>80 | 18=>81 | 30=>88 | 31=>89 | 32=>90 | 33=>91 | 34=>92 | 35=>93 | 40=>94 | n=>n,fun | 23=>22 | 25=>3 | 3=>3 | 32=>99 | 22=>22 | 0=>0 | 44=>115 | 46=>117 | 4=>4 | 36=>107 | 35=>106 | 41=>112 | 5=>5 | 9=>9 | 53=>119 | 57=>123 | 63=>125 | 64=>126 | n=>n,fun | n=>n⟩
theorem Zg5:Go.Proofs.SlLaysM.n5 Try.prog Zjg:={
 mixed:=by kernel_rfl
 f5:=⟨Try.f43.name,by decide,Try.func43.trans (congrArg Xa (by kernel_rfl))⟩
 f7:=⟨Try.f62.name,by decide,Try.func62.trans (congrArg Xa (by kernel_rfl))⟩
 f8:=Try.func63.trans (congrArg Xa (by kernel_rfl))
 f10:=⟨Try.f73.name,by decide,Try.func73.trans (congrArg Xa (by kernel_rfl))⟩
 f11:=⟨Try.f74.name,by decide,Try.func74.trans (congrArg Xa (by kernel_rfl))⟩
 f12:=⟨Try.f75.name,by decide,Try.func75.trans (congrArg Xa (by kernel_rfl))⟩
 f13:=⟨Try.f76.name,by decide,Try.func76.trans (congrArg Xa (by kernel_rfl))⟩
 f14:=⟨Try.f77.name,by decide,Try.func77.trans (congrArg Xa (by kernel_rfl))⟩
 f15:=⟨Try.f78.name,by decide,Try.func78.trans (congrArg Xa (by kernel_rfl))⟩
 f16:=⟨Try.f79.name,by decide,Try.func79.trans (congrArg Xa (by kernel_rfl))⟩
 f17:=⟨Try.f80.name,by decide,Try.func80.trans (congrArg Xa (by kernel_rfl))⟩
 f18:=⟨Try.f81.name,by decide,Try.func81.trans (congrArg Xa (by kernel_rfl))⟩
 f19:=Try.func82.trans (congrArg Xa (by kernel_rfl))
 f20:=Try.func83.trans (congrArg Xa (by kernel_rfl))
 f30:=⟨Try.f88.name,by decide,Try.func88.trans (congrArg Xa (by kernel_rfl))⟩
 f31:=Try.func89.trans (congrArg Xa (by kernel_rfl))
 f32:=Try.func90.trans (congrArg Xa (by kernel_rfl))
 f33:=⟨Try.f91.name,by decide,Try.func91.trans (congrArg Xa (by kernel_rfl))⟩
 f34:=⟨Try.f92.name,by decide,Try.func92.trans (congrArg Xa (by kernel_rfl))⟩
 f35:=⟨Try.f93.name,by decide,Try.func93.trans (congrArg Xa (by kernel_rfl))⟩
 f40:=⟨Try.f94.name,by decide,Try.func94.trans (congrArg Xa (by kernel_rfl))⟩
 t0:=Try.underlying0
 a0:=Try.isAgg0
 z0:=Try.sizeOf0
 v0:=Try.zeroValue0
 t3:=Try.underlying3
 a3:=Try.isAgg3
 z3:=Try.sizeOf3
 v3:=Try.zeroValue3
 t4:=Try.underlying4
 a4:=Try.isAgg4
 z4:=Try.sizeOf4
 v4:=Try.zeroValue4
 t5:=Try.underlying5
 a5:=Try.isAgg5
 z5:=Try.sizeOf5
 v5:=Try.zeroValue5
 t9:=Try.underlying9
 a9:=Try.isAgg9
 z9:=Try.sizeOf9
 v9:=Try.zeroValue9
 t22:=Try.underlying22
 a22:=Try.isAgg22
 z22:=Try.sizeOf22
 v22:=Try.zeroValue22
 t23:=Try.underlying22
 a23:=Try.isAgg22
 z23:=Try.sizeOf22
 v23:=Try.zeroValue22
 t25:=Try.underlying3
 a25:=Try.isAgg3
 z25:=Try.sizeOf3
 v25:=Try.zeroValue3
 t32:=Try.underlying99
 a32:=Try.isAgg99
 z32:=Try.sizeOf99
 v32:=Try.zeroValue99
 t35:=Try.underlying106
 a35:=Try.isAgg106
 z35:=Try.sizeOf106
 v35:=Try.zeroValue106
 t36:=Try.underlying107
 a36:=Try.isAgg107
 z36:=Try.sizeOf107
 v36:=Try.zeroValue107
 t41:=Try.underlying112
 a41:=Try.isAgg112
 z41:=Try.sizeOf112
 v41:=Try.zeroValue112
 t44:=Try.underlying115
 a44:=Try.isAgg115
 z44:=Try.sizeOf115
 v44:=Try.zeroValue115
 t46:=Try.underlying117
 a46:=Try.isAgg117
 z46:=Try.sizeOf117
 v46:=Try.zeroValue117
 t53:=Try.underlying119
 a53:=Try.isAgg119
 z53:=Try.sizeOf119
 v53:=Try.zeroValue119
 t57:=Try.underlying123
 a57:=Try.isAgg123
 z57:=Try.sizeOf123
 v57:=Try.zeroValue123
 t63:=Try.underlying125
 a63:=Try.isAgg125
 z63:=Try.sizeOf125
 v63:=Try.zeroValue125
 t64:=Try.underlying126
 a64:=Try.isAgg126
 z64:=Try.sizeOf126
 v64:=Try.zeroValue126 }
open Go.Sort Go.RowKit in
theorem ZqY (m:Nat):AnyZI.SortsIn Try.prog Zbi Fence.wide m:=
  ⟨fun blk off cap ss W hH hblk hsz=>callsIn_wide.2 (AnyM.slices_Sort_int Zg5 blk off cap ss W hH hblk hsz),
   fun p cap W=>callsIn_wide.2 (AnyM.slices_Sort_int_none Zg5 p cap W)⟩
theorem Zov:Za8 Try.prog [(51,50,69)]:=by
 intro p hp;obtain rfl:=XE.1 hp;refine ⟨⟨_,Try.func51,by kernel_rfl,by kernel_rfl⟩,⟨_,Try.func50,by kernel_rfl,by kernel_rfl⟩,fun b w=>?_,fun w B b es clock hB hb hs hsz hk=>?_⟩
 ·have cK:CallsIn Fence.wide 5 Try.prog 51 #[.map (Xa b)] w fun e w'=>e = .returned (.func (.func 69) #[] #[.pointer (Xa ⟨w.heap.size,0,Xc⟩)])∧w'=w.alloc (.cells #[.map (Xa b)] 69):=AnyZI.keys_in Zpo Fence.wide 5 trivial rfl (Xa b) w;exact (callsIn_wide.1 cK).mono (by rintro e w' ⟨rfl,rfl⟩;exact ⟨rfl,69,rfl⟩)
 ·have hml:(1048576:Nat)≤maxLen:=by decide
  let R:Value→Option (DataW Unit×List MemPlace):=fun _=>Xa (.nil,[])
  have hrd:∀ x∈es.toList,∃ z:Int,x.key = .int .i64 z∧WideElems.rd Try.prog 3 R x=Xa (.int .i64 z,.nil):=fun x hx=>by
   obtain ⟨z,h1,h2,h3⟩:=hk x hx;refine ⟨z,h1,?_⟩
   have hkey:keyOf Try.prog 3 x.key=Xa (.int .i64 z):=by
    rw [h1];have e1:IntKind.i64.min = -9223372036854775808:=by decide
    have e2:IntKind.i64.max=9223372036854775807:=by decide
    exact keyOf_int_mk Try.underlying3 (by simp [Lit.wf,e1,e2];omega)
   simp [WideElems.rd,hkey,R]
  obtain ⟨D0,hD⟩:∃ D0:DataW Unit,D0 = .map ((es.toList.map (WideElems.rg Try.prog 3 R)).foldr DataW.insert []):=⟨_,rfl⟩;have hown:w.ownsMap Try.prog 3 R b es.size D0:=⟨es,clock,hb,⟨XI hsz hml,hs,fun x hx=>by obtain ⟨z,_,h⟩:=hrd x hx;exact ⟨_,h⟩⟩,Xy _,hD⟩
  have hperm:(intKeys D0).Perm (es.toList.map VU):=by
   have h1:intKeys D0=((es.toList.map (WideElems.rg Try.prog 3 R)).foldr DataW.insert []).map fun p=>Go.intOf p.1:=by rw [hD];rfl
   rw [h1];refine ((WideShapes.sorted_perm _).map _).trans ?_;rw [Wf]
   have:es.toList.map ((fun p:Lit×DataW Unit=>Go.intOf p.1) ∘ WideElems.rg Try.prog 3 R)=es.toList.map VU:=Wr fun x hx=>by
    obtain ⟨z,h1,h2⟩:=hrd x hx;simp only [Function.comp];rw [WideElems.rg_of h2];simp [Go.intOf,VU,h1]
   rw [this]
  have hsize:Maps.size D0=es.size:=by
   rw [hD,Maps.size_eq,(WideShapes.sorted_perm _).length_eq];simp
  have hseq:SeqGives Fence.wide 2 Try.prog 69 #[.pointer (Xa ⟨B,0,Xc⟩)] encZ (fun ss=>ss.Perm (intKeys D0)) (Maps.size D0) w:=
   AnyZI.keys_gives (ρ:=Zdf) { Zpo with } Fence.wide _ trivial rfl (by omega) B b es.size D0 w (World.block_lt_of_cell? w ⟨B,0,Xc⟩ hB) hB hown
  have cS:=AnyZI.sorted_in ZoM Fence.wide 5 trivial trivial trivial trivial rfl (by omega) (ZqY _) (enters_of Try.func43 (by kernel_rfl) rfl) 69 #[.pointer (Xa ⟨B,0,Xc⟩)] trivial (enters_of Try.func69 (by kernel_rfl) rfl) _ _ (by rw [hsize];exact XI hsz hml) (by rw [hsize];omega) _ hseq;change CallsIn _ _ Try.prog 50 _ _ _ at cS;refine (callsIn_wide.1 cS).mono ?_;rintro e w' ⟨v,ss,rfl,hS,hrow,_,hbel⟩;have hp2:=hS.trans hperm;have hlen:ss.length=es.size:=by rw [hp2.length_eq];simp
  rw [hlen,mergeSort_of_perm_i hp2] at hrow;exact ⟨v,3,rfl,hrow,hbel⟩
theorem Zmp (p:Option Addr) (cap:Nat) (w:World):Calls Try.prog 43 #[.slice p 0 cap] w fun e w'=>e = .returned (.tuple #[])∧w'=w:=AnyM.slices_Sort_int_none Zg5 p cap w
theorem ZpL:Zby Try.prog [43]:=by
 intro f hf;obtain rfl:=XE.1 hf;refine ⟨⟨Try.f43,Try.func43,by kernel_rfl,by kernel_rfl⟩,Zmp,?_⟩;intro w lim b cap arr e zs hne hlen hcap hcm hsz hb hlb htake;have hH:Holds (Value.int .i64) w b 0 zs.toArray:=holds_of_blockI hb htake;have hbl:b < w.heap.size:=(Array.getElem?_eq_some_iff.1 hb).1
 have hs:Calls Try.prog 43 #[.slice (Xa ⟨b,0,Xc⟩) zs.length cap] w fun e w'=>e = .returned (.tuple #[])∧∃ n os,w'=grow (putRow (Value.int .i64) (Sort.ahead w n) b 0 (zs.mergeSort fun x y=>decide (x≤y)).toArray) os:=
  AnyM.slices_Sort_int Zg5 b 0 cap zs w hH hbl (by omega)
 refine hs.mono ?_;rintro e' w' ⟨rfl,q,os,rfl⟩;have hml:(zs.mergeSort fun x y=>decide (x≤y)).length=zs.length:=List.length_mergeSort zs;have hg:=grownBy_sortedI (w:=w) (g:=b) (n:=q) (os:=os) (zs.mergeSort fun x y=>decide (x≤y)).toArray;have hh:=heap_sortedI (n:=q) (os:=os) (zs.mergeSort fun x y=>decide (x≤y)).toArray hb;refine ⟨rfl,_,hh,by simp [putCells],?_,?_⟩
 ·have:=take_putCellsI arr (zs.mergeSort fun x y=>decide (x≤y)) (by rw [hml];omega);rw [hml] at this;exact this
 ·obtain ⟨g1,g2,g3,g4,g5⟩:=hg;have hcell:∀ i,i < w.heap.size→i≠b→(grow (putRow (Value.int .i64) (Sort.ahead w q) b 0 (zs.mergeSort fun x y=>decide (x≤y)).toArray) os).heap[i]? = w.heap[i]?:=fun i hi hib=>g5 i hi fun h=>hib (XT h);refine ⟨rfl,rfl,rfl,g4,fun a ha=>?_,fun i hi hib=>⟨hcell i hi hib,rfl⟩,⟨fun i hi=>⟨Xy _,fun o u ho hu=>?_⟩,fun _ _ h=>h⟩,rfl⟩
  ·unfold World.frozen?;by_cases hab:a.block=b
   ·rw [hab,hh,hb]
   ·rw [hcell _ ha hab]
  ·by_cases hib:i=b
   ·subst hib;rw [hlb] at ho;omega
   ·unfold World.cell? at hu ⊢;dsimp only at hu ⊢;rw [hcell i hi hib];exact hu
end Go.Proofs.Ytpjnmgjphfnmmaa
namespace Go.AM
section
variable {P:Program}
def Znx (c:AV):Bool:=match c with | .val (.int .i64 _)=>Xb | _=>Xe
noncomputable def Zlc (c rows:LL):Option LL:=
 match Zd c with
 | .osl e (j + 1) m => Zf ((ZU (ZG rows (j + 1)) && decide (m = (ZG rows (j + 1)).length) && decide (m ≤ 1048576) && decide (e = 3) && (ZG rows (j + 1)).all Znx) = Xb) <| some (Zc .sort rows 0 c [])
 | .osl _ 0 0 => Xa rows
 | _ => Xc
noncomputable def Zpe:List V→Option LL
 | [.l c, .l rows] => Zlc c rows
 | _ => Xc
noncomputable def Zpf:Fun where
 args:=[.c .cel,.sto]
 res:=[]
 g:=Zpe
noncomputable def Zc6 (h:FuncId) (c rows:LL):Option (LL×LL):=
 match Zd c with
 | .fnc h' [jb + 1] =>
  match ZG rows (jb+1) with
  | [.omap (q + 1)] => Zf (h' = h ∧ JR (ZG rows (q + 1)) = Xb ∧ (J5 (ZG rows (q + 1))).length ≤ 1048576 ∧ (J5 (ZG rows (q + 1))).all Znq = Xb) <| some (Zay (J5 (ZG rows (q + 1))), rows)
  | _ => Xc
 | _ => Xc
noncomputable def Zgz (h:FuncId):List V→Option (LL×LL)
 | [.l c, .l rows] => Zc6 h c rows
 | _ => Xc
noncomputable def ZfL (h:FuncId):Fun where
 args:=[.c .cel,.sto]
 res:=[.c (.slice 1)]
 g:=Zgz h
theorem Ki {w:World} {lim:Lm} {Xd:Nat→Option Nat} {rows:List (List AV)} {j:Nat} (h:JC P w lim Xd rows) (hc:ZU (ZG rows (j+1))=Xb) :
  ∃ (b cap:Nat) (arr:Array Value) (t:TypeId),Xd (j+1)=Xa b∧lim.t (j+1)=Xa (b,cap,t)∧w.heap[b]? = Xa (.cells arr t (0,0))∧lim b=0∧cap≤maxLen∧arr.size=cap*P.cellsOf t∧(ZG rows (j+1)).length≤arr.size∧
   (∀ x∈ZG rows (j+1),x.isCell=Xb)∧∀ (i:Nat) (x:AV) (u:Value),(ZG rows (j+1))[i]? = Xa x→arr[i]? = Xa u→Rep w lim x u:=by
 have hr:=ZaJ hc;generalize ZG rows (j+1)=row at hc hr;rcases h.2.2 j row hr with rfl | ⟨b,cap,ty,h1,h2,h3,h4⟩
 ·cases hc
 ·rcases h4 with ⟨arr,g0,g1,g2,g3,g4,g5⟩ | ⟨_,_,_,_,_,rfl,_⟩
  ·exact ⟨b,cap,arr,ty,h2,h1,g1,h3,g0,g2,g3,g4,g5⟩
  ·cases hc
theorem Zmo {w w':World} {lim:Lm} {Xd:Nat→Option Nat} {rows:List (List AV)} {j b cap:Nat} {ty:TypeId} {row':List AV} (h:JC P w lim Xd rows) (hs:Jh w lim w' lim (fun b'=>b'=b)) (hX:Xd (j+1)=Xa b) (ht:lim.t (j+1)=Xa (b,cap,ty))
  (hd:∀ k k' b,Xd k=Xa b→Xd k'=Xa b→k=k') (hz:∀ k b,Xd k=Xa b→b < w.heap.size) (ho:Zoc P w' lim row' b cap ty):JC P w' lim Xd (rows.set j row'):=by
 refine ⟨fun i hi=>h.1 i (by simpa using hi),h.2.1,fun i row1 hr1=>?_⟩;rw [UH] at hr1;split at hr1
 ·rename_i hij;subst hij;split at hr1
  ·cases hr1
   exact .inr ⟨b,cap,ty,ht,hX,ho⟩
  ·cases hr1
 ·rename_i hij;rcases h.2.2 i row1 hr1 with h0 | ⟨b1,cap1,t1,m1,m2,m3⟩
  ·exact .inl h0
  ·have hbb:b1≠b:=fun e=>by
    subst e;have:=hd _ _ _ m2 hX;omega
   exact .inr ⟨b1,cap1,t1,m1,m2,m3.mono hs.ext (hs.blk b1 (hz _ _ m2) hbb)⟩
theorem ZnP {cs:List AV} (h:cs.all Znx=Xb):∃ zs:List Int,cs=zs.map fun z=>AV.val (.int .i64 z):=by
 induction cs with
 | nil => exact ⟨[], rfl⟩
 | cons c cs ih =>
  rw [Uz,Xs] at h;obtain ⟨zs,rfl⟩:=ih h.2;have h1:=h.1;unfold Znx at h1;split at h1
  ·rename_i z;exact ⟨z::zs,rfl⟩
  ·cases h1
theorem ZgR (zs:List Int):KH (zs.map fun z=>AV.val (.int .i64 z))=(zs.mergeSort fun x y=>decide (x≤y)).map fun z=>AV.val (.int .i64 z):=by
 have:(zs.map fun z=>AV.val (.int .i64 z)).filterMap (fun c=>Zl [c])=zs:=by
  induction zs with
  | nil => rfl
  | cons z zs ih => rw [Xh, Th (f := fun c => Zl [c]) (a := AV.val (.int .i64 z)) (b := z) rfl, ih]
 unfold KH;rw [this]
theorem ZgZ {w w':World} {lim lim':Lm} {X:Nat→Nat→Option Nat} {cargs:List Value} {rows rows':List (List AV)} {c res:AV} {v:Value} (hc:ZP c=Xb) (hs:Jh w lim w' lim' (fun b=>∃ i k,X i k=Xa b)) (hr:JC P w' lim' (X 1) rows') (hd:ZmH X) (hz:∀ i k b,X i k=Xa b→b < w.heap.size)
  (hv:Rep w' lim' res v∨(res = .tuple []∧v = .tuple #[])) (hp:res.isCell=Xb∨res = .tuple []) :
  ∃ v' lim'' X',Ending.returned v = .returned v'∧K7 w lim w' lim'' (fun b=>∃ i k,X i k=Xa b) ([c,AV.store rows].any AV.isSto)∧[AV.dead,AV.store rows'].length = [c,AV.store rows].length∧
   (∀ i,ZS P w' lim'' X' (ZB ([AV.dead,AV.store rows']++[res])) i (ZB ([AV.dead,AV.store rows']++[res]) i) (Zaz [c,AV.store rows].length cargs v' i))∧ZmH X'∧
   (∀ i k b,X' i k=Xa b→b < w'.heap.size∧((∃ i k,X i k=Xa b)∨w.heap.size≤b))∧(∀ i,(ZB ([AV.dead,AV.store rows']++[res]) i).isG=Xb→(ZB [c,AV.store rows] i).isG=Xb∧X' i 0=X i 0)∧VS P [AV.dead,AV.store rows']∧ZsC P w' lim'' X' res [c,AV.store rows].length:=by
 have hX:∀ i k b,(if i=1 then X 1 k else Xc)=Xa b→i=1∧X 1 k=Xa b:=fun i k b h=>by
  split at h
  ·exact ⟨by assumption,h⟩
  ·cases h
 have hat:∀ i,ZB ([AV.dead,AV.store rows']++[res]) i=if i=1 then .store rows' else if i=2 then res else .dead:=fun i=>by
  match i with
  | 0 => rfl
  | 1 => rfl
  | 2 => rfl
  | i + 3 => simp [ZB]
 have hnown:∀ k e xs,Jg res k=Xa (e,xs)→False:=fun k e xs h=>by
  rcases hp with hp | rfl
  ·cases res<;>first | (cases k<;>cases h;done) | cases hp
  ·cases k with
   | zero => cases h
   | succ k => simp [Jg] at h
 refine ⟨v,lim',fun i k=>if i=1 then X 1 k else Xc,rfl,hs.c _,rfl,fun i=>?_,fun d k d' k' b h1 h2=>?_,fun i k b h=>?_,fun i h=>?_,fun i k e xs h=>?_,fun k e xs b h1 _ _=>(hnown k e xs h1).elim⟩
 ·rw [hat];by_cases h1:i=1
  ·subst h1;rw [if_pos rfl];show JC P w' lim' (fun k=>if 1=1 then X 1 k else Xc) rows';simpa using hr
  ·rw [if_neg h1];by_cases h2:i=2
   ·subst h2;rw [if_pos rfl];show ZS P w' lim' _ _ 2 res (if 2=2 then v else cargs.getD 2 undef);rw [if_pos rfl];rcases hv with hv | ⟨rfl,rfl⟩
    ·rcases hp with hp | rfl
     ·exact (YT (k:=2) hp hv).2
     ·cases hv
    ·exact ⟨[],rfl,rfl,fun j c u hj _=>by simp at hj⟩
   ·rw [if_neg h2];trivial
 ·obtain ⟨rfl,g1⟩:=hX _ _ _ h1;obtain ⟨rfl,g2⟩:=hX _ _ _ h2;exact ⟨rfl,(hd _ _ _ _ _ g1 g2).2⟩
 ·obtain ⟨rfl,g1⟩:=hX _ _ _ h;exact ⟨XS (hz _ _ _ g1) hs.size,.inl ⟨1,k,g1⟩⟩
 ·rw [hat] at h;by_cases h1:i=1
  ·subst h1;exact ⟨rfl,if_pos rfl⟩
  ·rw [if_neg h1] at h;split at h
   ·rcases hp with hp | rfl
    ·cases res<;>first | (cases h;done) | cases hp
    ·cases h
   ·cases h
 ·exfalso
  have:ZB [AV.dead,AV.store rows'] i = .dead∨ZB [AV.dead,AV.store rows'] i = .store rows':=by
   match i with
   | 0 => exact .inl rfl
   | 1 => exact .inr rfl
   | i + 2 => exact .inl rfl
  rcases this with e1 | e1<;>rw [e1] at h<;>cases k<;>cases h
theorem ZfX {c:AV} {rows:List (List AV)} {cargs:List Value} {v:Value} (hl:cargs.length + [c,AV.store rows].countP AV.isG≤[c,AV.store rows].length) (hc:ZP c=Xb) (hv:cargs.getD 0 undef=v) (hne:v≠undef):cargs.toArray = #[v]:=by
 have hcc : [c,AV.store rows].countP AV.isG=1:=by
  rcases YB hc with ⟨_,_,rfl⟩ | ⟨_,_,_,rfl⟩ | ⟨_,rfl⟩ | ⟨_,_,rfl⟩ <;> rfl
 rw [hcc] at hl;simp only [XA,XW] at hl
 match cargs,hl,hv with
 | [], _, hv => exact (hne (by rw [← hv]; rfl)).elim
 | [x], _, hv => rw [show x = v from hv]
 | _ :: _ :: _, hl, _ => simp at hl
theorem ZqR {f:FuncId} (hsrt:Zby P [f]) (h3:P.cellsOf 3=1):Zpf.Ok P f:=by
 intro vs r hg;have hg:Zpe vs=Xa r:=hg;unfold Zpe at hg;split at hg
 case h_2=>cases hg
 rename_i c rows _;obtain ⟨hf,hnone,hrow⟩:=hsrt f (by simp);show JN P f [Zd c,.store rows] (.tuple []) [.dead,.store r];refine ⟨hf,show (2:Nat) < ngN by decide,fun w lim X cargs hl hrel hd hs hX=>?_⟩;have hr0:ZS P w lim X (ZB [Zd c,.store rows]) 0 (Zd c) (cargs.getD 0 undef):=hrel 0;have hr1:JC P w lim (X 1) rows:=hrel 1;have hrep:Rep w lim (Zd c) (cargs.getD 0 undef):=K2 (Q:=fun z=>ZS P w lim X (ZB [Zd c,.store rows]) 0 z (cargs.getD 0 undef)→Rep w lim z (cargs.getD 0 undef)) _ (fun _ _ h=>h) (fun _ _ _ h=>h) (fun _ h=>h) (fun _ _ h=>h) hr0;unfold Zlc at hg;split at hg
 ·rename_i e j m hce;obtain ⟨hq,hg2⟩:=ZbH hg;simp only [Xs,decide_eq_true_eq] at hq;obtain ⟨⟨⟨⟨hc,hm⟩,hmx⟩,rfl⟩,hall⟩:=hq;rw [hce] at hrep;obtain ⟨b,cap,arr,t,g1,g2,g4,g5,g0,g6,g7,g8,g9⟩:=Ki hr1 hc;obtain ⟨b2,cap2,k1,k2,k3⟩:=Zdl hrep;rw [g2] at k1;obtain ⟨rfl,rfl,rfl⟩:b=b2∧cap=cap2∧t=3:=by cases k1;exact ⟨rfl,rfl,rfl⟩
  rw [h3,Wj] at g6;obtain ⟨zs,hz⟩:=ZnP hall;have hzl:zs.length=m:=by rw [hm,hz];simp
  have hne:zs≠[]:=by
   rintro rfl;rw [hz] at hc
   cases hc
  have htake:arr.toList.take zs.length=zs.map (Value.int .i64):=by
   apply Wo;intro i;rw [XC];split
   ·rename_i hi;have hza:(ZG rows (j+1))[i]? = Xa (AV.val (.int .i64 zs[i])):=by rw [hz,Xl,Xp hi];rfl
    have hai:arr[i]? = Xa arr[i]:=XV (by omega);have:=YU (g9 i _ _ hza hai);rw [Wg,hai,this,Xl,Xp hi];rfl
   ·rename_i hi;rw [Wl (by simp;omega)]
  rw [ZfX hl (JD c) k2 (by intro h;cases h),← hzl];refine (hrow w lim b cap arr 3 zs hne (by omega) (by omega) g0 g6 g4 g5 htake).mono ?_;rintro e' w' ⟨rfl,arr',q1,q2,q3,q4⟩;have hml:(zs.mergeSort fun x y=>decide (x≤y)).length=zs.length:=List.length_mergeSort zs
  have hrr:r=rows.set j ((zs.mergeSort fun x y=>decide (x≤y)).map fun z=>AV.val (.int .i64 z)):=by
   have:Xa r=Xa (ZjV rows (Zd c) KH):=hg2.symm;rw [hce] at this;injection this with this;rw [this];show rows.modify j (fun row=>KH (row.take m)++row.drop m)=_;rw [modify_set _ (ZaJ hc)];congr 1;rw [hm,List.take_length,List.drop_length,XN,hz,ZgR]
  subst hrr;refine ZgZ (c:=Zd c) (JD c) (q4.sub fun b' hb'=>⟨1,j+1,by rw [hb'];exact g1⟩) (Zmo hr1 q4 g1 g2 (fun k k' b h1 h2=>(hd _ _ _ _ _ h1 h2).2) (fun k b h=>hs _ _ _ h) ⟨g5,.inl ⟨arr',g0,q1,by rw [q2,g6,h3,Wj],by simp [hml];omega,fun x hx=>?_,fun i x u hx hu=>?_⟩⟩) hd hs (.inr ⟨rfl,rfl⟩) (.inr rfl)
  ·obtain ⟨z,_,rfl⟩:=Xj.1 hx;rfl
  ·rw [Xl] at hx
   cases hzi:(zs.mergeSort fun x y=>decide (x≤y))[i]? with
   | none => rw [hzi] at hx; cases hx
   | some z =>
    rw [hzi] at hx
    cases hx
    have hi:i < zs.length:=by rw [← hml];exact (Xk.1 hzi).1
    have h1:(arr'.toList.take zs.length)[i]? = Xa u:=by rw [XC,if_pos hi,Wg];exact hu
    rw [q3,Xl,hzi] at h1
    cases h1
    exact .val rfl
 ·rename_i e hce
  cases hg
  rw [hce] at hrep
  obtain ⟨a,hv⟩:∃ a,cargs.getD 0 undef = .slice a 0 0:=by
   generalize cargs.getD 0 undef=v at hrep
   cases hrep with
   | osl0 => exact ⟨_, rfl⟩
   | osl h => exact (Uv 0 h).elim
  rw [ZfX hl (JD c) hv (by intro h;cases h)];refine (hnone a 0 w).mono ?_;rintro e' w' ⟨rfl,rfl⟩;exact ZgZ (c:=Zd c) (JD c) (Jh.refl _ _ _) hr1 hd hs (.inr ⟨rfl,rfl⟩) (.inr rfl)
 ·cases hg
theorem ZiT:∀ (es:List MapEntry) (kvs:List (List AV)),es.length=kvs.length→(∀ (i:Nat) (en:MapEntry) (kv:List AV),es[i]? = Xa en→kvs[i]? = Xa kv→∃ (k:Int) (q:Nat),kv = [.val (.int .i64 k),.oref q 0]∧en.key = .int .i64 k)→kvs.filterMap Zl=es.map VU
 | [], [], _, _ => rfl
 | [], _ :: _, h, _ => by cases h
 | _ :: _, [], h, _ => by cases h
 | en :: es, row :: kvs, hl, h => by
  obtain ⟨k,q,h1,h2⟩:=h 0 en row rfl rfl;have hk:VU en=k:=by simp [VU,h2]
  have ih:=ZiT es kvs (by simpa using hl) fun i en row g1 g2=>h (i+1) en row (by simpa using g1) (by simpa using g2);rw [h1,Th (f:=Zl) (b:=k) rfl,ih,Xh,hk]
theorem Znm {a b:List Int} (h:a.Perm b):a.mergeSort (fun x y=>decide (x≤y))=b.mergeSort (fun x y=>decide (x≤y)):=by
 have hs:∀ l:List Int,(l.mergeSort fun x y=>decide (x≤y)).Pairwise fun x y=>x≤y:=fun l=>(List.pairwise_mergeSort (le:=fun a b:Int=>decide (a≤b)) (fun a b c h1 h2=>by simp at *; omega) (fun a b=>by simp;omega) l).imp fun h=>by simpa using h
 exact List.Perm.eq_of_pairwise (fun x y _ _ h1 h2=>by omega) (hs a) (hs b) ((List.mergeSort_perm a _).trans (h.trans (List.mergeSort_perm b _).symm))
theorem ZjT {a b:List (List AV)} (h:a.Perm b):Zay a=Zay b:=by
 unfold Zay;rw [Znm (h.filterMap _)]
theorem ZmB {ks:List (FuncId×FuncId×FuncId)} {p:FuncId×FuncId×FuncId} (hks:Za8 P ks) (hp:p∈ks):(ZfL p.2.2).Ok P p.2.1:=by
 intro vs r hg;have hg:Zgz p.2.2 vs=Xa r:=hg;unfold Zgz at hg;split at hg
 case h_2=>cases hg
 rename_i c rows _;obtain ⟨_,hf,_,k4⟩:=hks p hp;obtain ⟨r1,r2⟩:=r;show JN P p.2.1 [Zd c,.store rows] (.slice Xe 1 r1) [.dead,.store r2];refine ⟨hf,show (2:Nat) < ngN by decide,fun w lim X cargs hl hrel hd hs hX=>?_⟩;have hr0:ZS P w lim X (ZB [Zd c,.store rows]) 0 (Zd c) (cargs.getD 0 undef):=hrel 0;have hr1:JC P w lim (X 1) rows:=hrel 1;have hrep:Rep w lim (Zd c) (cargs.getD 0 undef):=K2 (Q:=fun z=>ZS P w lim X (ZB [Zd c,.store rows]) 0 z (cargs.getD 0 undef)→Rep w lim z (cargs.getD 0 undef)) _ (fun _ _ h=>h) (fun _ _ _ h=>h) (fun _ h=>h) (fun _ _ h=>h) hr0;unfold Zc6 at hg;split at hg
 case h_2=>cases hg
 rename_i h' jb hce;split at hg
 case h_2=>cases hg
 rename_i q hrow;obtain ⟨⟨rfl,hmap,hlen,hfine⟩,hg2⟩:=ZbH hg;have hg3:(Zay (J5 (ZG rows (q+1))),rows)=(r1,r2):=XT hg2;have e1:=congrArg Prod.fst hg3;have e2:=congrArg Prod.snd hg3;dsimp only at e1 e2;subst e1;subst e2;rw [hce] at hrep
 obtain ⟨B,capB,tB,hlB,hval⟩:∃ B cap ty,lim.t (jb+1)=Xa (B,cap,ty)∧cargs.getD 0 undef = .func (.func p.2.2) #[] #[.pointer (Xa ⟨B,0,Xc⟩)]:=by
  generalize cargs.getD 0 undef=v at hrep
  cases hrep with
  | @fnc _ _ bs hbl h =>
   match bs,hbl,h with
   | [b], _, h =>
    obtain ⟨_,cap,ty,ht⟩:=h 0 (jb+1) b rfl rfl;exact ⟨b,cap,ty,ht,rfl⟩
 obtain ⟨b0,cap0,arr0,t0,g1,g2,g4,g5,g0,g6,g7,g8,g9⟩:=Ki hr1 (j:=jb) (by rw [hrow];rfl);rw [g2] at hlB;obtain ⟨rfl,rfl,rfl⟩:b0=B∧cap0=capB∧t0=tB:=by cases hlB;exact ⟨rfl,rfl,rfl⟩
 have hlt:0 < arr0.size:=by rw [hrow] at g7;simp at g7;omega
 have hu:arr0[0]? = Xa arr0[0]:=XV hlt;obtain ⟨b,cap,ty,m1,m2⟩:=Zaa (g9 0 (.omap (q+1)) _ (by rw [hrow];rfl) hu)
 have hcell:w.cell? ⟨b0,0,Xc⟩=Xa (.map (Xa b)):=by
  rw [ZR g4];simp [← m2]
 -- the map
 have hq:rows[q]? = Xa (ZG rows (q+1)):=by
  simp only [ZG] at hmap ⊢
  cases hr:rows[q]? with
  | none => rw [hr] at hmap; cases hmap
  | some row => rfl
 obtain ⟨es,clock,kvs,n1,n2,n3,n4,hpm⟩:∃ (es:Array MapEntry) (clock:Nat) (kvs1:List (List AV)),w.heap[b]? = Xa (.map es clock)∧es.size=kvs1.length∧MapKept.Stamped es clock∧
   (∀ (i:Nat) (en:MapEntry) (kv:List AV),es[i]? = Xa en→kvs1[i]? = Xa kv→∃ (k:Int) (q:Nat),kv = [.val (.int .i64 k),.oref q 0]∧en.key = .int .i64 k)∧kvs1.Perm (J5 (ZG rows (q+1))):=by
  generalize ZG rows (q+1)=row at hq hmap;rcases hr1.2.2 q row hq with rfl | ⟨b1,cap1,t1,z1,z2,z3,z4⟩
  ·cases hmap
  ·rw [m1] at z1
   cases z1
   rcases z4 with ⟨arr,_,_,_,_,z5,_⟩ | ⟨es,clock,kvs0,kvs,z5,rfl,zp,z6,z7,z8⟩
   ·unfold JR at hmap;split at hmap
    ·have:=z5 .dead (by simp)
     cases this
    ·cases hmap
   ·exact ⟨es,clock,kvs,z5,z6,z7,fun i en kv a1 a2=>(by obtain ⟨k,q,y1,y2,_⟩:=z8 i en kv a1 a2;exact ⟨k,q,y1,y2⟩),zp⟩
 have hpl:=hpm.length_eq;rw [ZfX hl (JD c) hval (by intro h;cases h)]
 have hkeys:kvs.filterMap Zl=es.toList.map VU:=ZiT es.toList kvs (by simpa using n2) fun i en row g1 g2=>by
  obtain ⟨k,q,y1,y2⟩:=n4 i en row (by simpa using g1) g2;exact ⟨k,q,y1,y2⟩
 refine (k4 w b0 b es clock hcell n1 n3 (by omega) fun x hx=>?_).mono ?_
 ·obtain ⟨i,hi,rfl⟩:=List.mem_iff_getElem.1 hx;have hi':i < es.size:=by simpa using hi
  obtain ⟨k,q',h2,h3⟩:=n4 i es[i] (kvs[i]'(by omega)) (XV hi') (Xp _);have hf:=XD.1 hfine (kvs[i]'(by omega)) (hpm.mem_iff.1 (Uc _));rw [h2] at hf;have hf:(decide (-9223372036854775808≤k)&&decide (k≤9223372036854775807))=Xb:=hf;simp only [Xs,decide_eq_true_eq] at hf;have:es.toList[i]=es[i]:=by simp
  exact ⟨k,by rw [this];exact h3,hf.1,hf.2⟩
 ·rintro e1 w' ⟨v,et,rfl,hown,hbel⟩;have hstep:Jh w lim w' ⟨fun b'=>if b' < w.heap.size then lim b' else es.size,lim.t⟩ (fun _=>False):=Zjm hbel _;refine ZgZ (c:=Zd c) (JD c) (hstep.sub fun _ h=>h.elim) (hr1.mono hstep.ext (fun k b hb=>hstep.blk b (hs _ _ _ hb) fun h=>h.elim) rfl) hd hs (.inl ?_) (.inl rfl);have hmk:Zay (J5 (ZG rows (q+1)))=((es.toList.map VU).mergeSort fun x y=>decide (x≤y)).map fun z=>[.val (.int .i64 z)]:=by rw [ZjT hpm.symm];simp only [Zay,hkeys]
  rw [hmk];generalize hz:(es.toList.map VU).mergeSort (fun x y=>decide (x≤y))=zs at hown;have hzl:zs.length=es.size:=by rw [← hz];simp
  rcases hown.2 with ⟨rfl,hn0⟩ | ⟨g,cap,cur,rfl,hbg,hg,hnc,hcm,hcs,htake⟩
  ·have:zs = []:=X7 (by omega);subst this;exact .sliceN
  ·rw [← hzl] at hnc ⊢;have hl2:(zs.map fun z=>[AV.val (.int .i64 z)]).length=zs.length:=by simp
   have hfl:(zs.map fun z=>[AV.val (.int .i64 z)]).flatten=zs.map fun z=>AV.val (.int .i64 z):=Zh4 zs
   have key:=Rep.sliceC (w:=w') (lim:=(⟨fun b'=>if b' < w.heap.size then lim b' else zs.length,lim.t⟩:Lm)) (full:=Xe) (s:=1) (xs:=zs.map fun z=>[AV.val (.int .i64 z)]) (b:=g) (o:=0) (cap:=cap) (us:=zs.map (Value.int .i64))
    (fun x hx=>by obtain ⟨z,_,rfl⟩:=Xj.1 hx;rfl) (fun x hx y hy=>by obtain ⟨z,_,rfl⟩:=Xj.1 hx;rw [XE.1 hy];rfl) (fun h=>by cases h) (by rw [hl2];exact hnc)
    (fun _=>by dsimp only;rw [if_neg (by omega)];simp) (by simp) (fun j u hj=>?_) (fun j y u hy hu=>?_)
   ·rw [hl2] at key;exact key
   ·have hcell:=hown.cells (g:=g) rfl j u hj;have hadd:(⟨g,0,Xc⟩:Addr).add j=⟨g,0+j,Xc⟩:=by unfold Addr.add;split<;>simp_all
    rw [hadd] at hcell;exact hcell
   ·rw [hfl,Xl] at hy;rw [Xl] at hu
    cases hzj:zs[j]? with
    | none => rw [hzj] at hy; cases hy
    | some z =>
     rw [hzj] at hy hu
     cases hy
     cases hu
     exact .val rfl
end
def Zg7 (rows:LL) (row:List AV):Bool:=match row with
 | [.val (.int .i64 _), .val (.int .i64 _), .val (.string _), c, .val (.bool _), .val (.int .i64 _), .val (.bool _)] =>
  (match c with
  | .osl 0 0 0 => Xb
  | .osl 3 (j + 1) (n + 1) => ZU (ZG rows (j + 1)) && decide (n + 1 ≤ (ZG rows (j + 1)).length) && decide (n ≤ 100000) && ((ZG rows (j + 1)).take (n + 1)).all Znx
  | _ => Xe)
 | _ => Xe
def Kb (rows:LL) (a:Nat) (row:List AV):List AV×List AV:=match row.getD 3 .dead with
 | .osl _ (j + 1) n => (row.set 3 (.osl 3 a n), (ZG rows (j + 1)).take n)
 | _ => (row, [])
def kvJ (kv:List AV):Nat:=pJ (kv.getD 1 .dead)
def JE (L:Nat):Nat→LL→LL
 | _, [] => []
 | i, kv :: r => [kv.getD 0 .dead, .oref (L + 3 + 2 * i) 0] :: JE L (i + 1) r
def Z4 (rows:LL) (L:Nat):Nat→LL→LL
 | _, [] => []
 | i, kv :: r => (Kb rows (L + 4 + 2 * i) (ZG rows (kvJ kv))).1 :: (Kb rows (L + 4 + 2 * i) (ZG rows (kvJ kv))).2 :: Z4 rows L (i + 1) r
def kvB (rows:LL) (kv:List AV):Bool:=match kv with | [.val (.int .i64 _),.oref (j+1) 0]=>Zg7 rows (ZG rows (j+1)) | _=>Xe
noncomputable def Zgq (x rows:LL):Option (LL×LL):=
 match Zd x with
 | .oref (jm + 1) 0 =>
  match ZG rows (jm+1) with
  | [.omap (jq + 1), .val (.int .i64 last)] =>
   Zf (JR (ZG rows (jq+1))=Xb∧(J5 (ZG rows (jq+1))).length≤1000∧(J5 (ZG rows (jq+1))).all (kvB rows)=Xb)<|
    Xa ([[.oref (rows.length+2) 0]],rows++(ZD (JE rows.length 0 (J5 (ZG rows (jq+1))))::[.omap (rows.length+1),.val (.int .i64 last)]::Z4 rows rows.length 0 (J5 (ZG rows (jq+1)))))
  | _ => Xc
 | _ => Xc
noncomputable def ZjO:List V→Option (LL×LL)
 | [.l c, .l rows] => Zgq c rows
 | _ => Xc
noncomputable def Znv:Fun where
 args:=[.c .cel,.sto]
 res:=[.c .cel]
 g:=ZjO
end Go.AM
namespace Go.W
open Go Go.AM
abbrev JZ:=List (Nat×List AV)
def ZC (rows:LL) (H:JZ):Prop:=(H.map (·.1)).Nodup∧∀ p∈H,rows[p.1]? = Xa p.2
theorem ZC.perm {rows:LL} {H H':JZ} (h:ZC rows H) (hp:H.Perm H'):ZC rows H':=
 ⟨(hp.map _).nodup_iff.1 h.1,fun p hm=>h.2 p (hp.mem_iff.2 hm)⟩
theorem ZC.get {rows:LL} {H:JZ} (h:ZC rows H) {j:Nat} {row:List AV} (hm:(j,row)∈H):rows[j]? = Xa row:=h.2 _ hm
theorem ZC.lt {rows:LL} {H:JZ} (h:ZC rows H) {p:Nat×List AV} (hm:p∈H):p.1 < rows.length:=(Xk.1 (h.2 p hm)).1
theorem ZC.push {rows:LL} {H:JZ} (h:ZC rows H) (x:List AV):ZC (rows++[x]) ((rows.length,x)::H):=by
 refine ⟨?_,fun p hm=>?_⟩
 ·rw [Xh,Wa];refine ⟨fun hm=>?_,h.1⟩;obtain ⟨p,hp,he⟩:=Xj.1 hm;have:=h.lt hp;omega
 ·rcases Xq.1 hm with rfl | hm
  ·simp
  ·rw [Xx (h.lt hm)];exact h.2 p hm
theorem ZC.set {rows:LL} {H:JZ} {j:Nat} {row:List AV} (h:ZC rows ((j,row)::H)) (row':List AV):ZC (rows.set j row') ((j,row')::H):=by
 have h0:=h.lt (U8 ..);have hn:=h.1;rw [Xh,Wa] at hn;refine ⟨by rw [Xh,Wa];exact hn,fun p hm=>?_⟩;rcases Xq.1 hm with rfl | hm
 ·rw [Wi h0]
 ·have hne:j≠p.1:=fun e=>hn.1 (Xj.2 ⟨p,hm,e.symm⟩);rw [Wn hne];exact h.2 p (Ul _ hm)
theorem ZC.tail {rows:LL} {p:Nat×List AV} {H:JZ} (h:ZC rows (p::H)):ZC rows H:=by
 have hn:=h.1;rw [Xh,Wa] at hn;exact ⟨hn.2,fun q hm=>h.2 q (Ul _ hm)⟩
theorem ZC.right {rows:LL} {A H:JZ} (h:ZC rows (A++H)):ZC rows H:=by
 induction A with
 | nil => exact h
 | cons a A ih => exact ih h.tail
theorem ZC.left {rows:LL} {A H:JZ} (h:ZC rows (A++H)):ZC rows A:=(h.perm List.perm_append_comm).right
theorem ZpX {c:AV} (h:ZP c=Xb):Zd [[c]]=c:=Zdy h
theorem ZZ {rows:LL} {j:Nat} {row:List AV} (h:rows[j]? = Xa row):ZG rows (j+1)=row:=by simp only [ZG,h,UZ]
theorem ZE {x:LL} {j o:Nat} (h:Zd x = .oref (j+1) o):Zc .pnn x 0 E0 [] = [[]]:=by simp only [Zc,h,okL]
theorem Zsy {x:LL} {o:Nat} (h:Zd x = .oref 0 o):Zc .pnn x 0 E0 [] = []:=by simp only [Zc,h,okL]
theorem YS {x:LL} {j o k:Nat} (h:Zd x = .oref j o):Zc (.padd k) x 0 E0 [] = [[.oref j (o+k)]]:=by simp only [Zc,h,pJ,pO]
theorem Zpt {x:LL} {j o:Nat} (h:Zd x = .oref (j+1) o):Zc .pisr x 0 E0 [] = [[]]:=by simp only [Zc,h,okL]
theorem Zpp {x:LL} (h:Zd x = .oref 0 0):Zc .pisr x 0 E0 [] = [[]]:=by simp only [Zc,h,okL]
theorem JH {rows:LL} {x:LL} {j o:Nat} {row:List AV} {c:AV} (h:Zd x = .oref (j+1) o) (hr:rows[j]? = Xa row) (h0:ZU row=Xb) (hc:row[o]? = Xa c):Zc (.get 1) rows 0 x [] = [[c]]:=by
 have hlt:=(Xk.1 hc).1
 have hd:(row.drop o).take 1 = [c]:=by
  apply Wo;intro i;rw [XC]
  cases i with
  | zero => simpa using hc
  | succ i => simp
 simp only [Zc,Zol,h,ZZ hr,h0,Wc,show decide (o+1≤row.length)=Xb from decide_eq_true (by omega),hd]
theorem ZvX {rows:LL} {x:LL} {j n:Nat} {row:List AV} (h:Zd x = .oref (j+1) 0) (hr:rows[j]? = Xa row) (h0:ZU row=Xb) (hn:row.length=n):Zc (.get n) rows 0 x [] = [row]:=by
 simp only [Zc,Zol,h,ZZ hr,h0,Wc,UY,show decide (0+n≤row.length)=Xb from decide_eq_true (by omega),show row.take n=row from Uo (by omega)]
theorem Zas {rows:LL} {x:LL} {j o:Nat} {row:List AV} {c:AV} (h:Zd x = .oref (j+1) o) (hr:rows[j]? = Xa row) (ho:o < row.length):Zc .set rows 0 x [c]=rows.set j (row.set o c):=by
 simp only [Zc,Zv8,h,Jf];apply Wo;intro i;rw [List.getElem?_modify,UH];have hlt:=(Xk.1 hr).1;by_cases hij:j=i
 ·subst hij;rw [if_pos rfl,if_pos hlt,hr];show Xa (if j=j then setCells row o [c] else row)=Xa (row.set o c);rw [if_pos rfl];congr 1;unfold setCells;apply Wo;intro k;rw [VJ row [c] o (by simp;omega),UH];by_cases hk:o=k
  ·subst hk;rw [if_pos ⟨Xy _,by simp⟩,if_pos rfl,if_pos ho,UE];rfl
  ·rw [if_neg (by simp only [List.length_singleton];omega),if_neg hk]
 ·rw [if_neg hij];simp [hij]
end Go.W
namespace Go.Proofs.Ytpjnmgjphfnmmaa
open Go Go.AM
theorem ZoD:Zpf.Ok Try.prog 43:=ZqR ZpL (by kernel_rfl)
theorem ZjU:(ZfL 69).Ok Try.prog 50:=ZmB Zov (p:=(51,50,69)) (by simp)
end Go.Proofs.Ytpjnmgjphfnmmaa
