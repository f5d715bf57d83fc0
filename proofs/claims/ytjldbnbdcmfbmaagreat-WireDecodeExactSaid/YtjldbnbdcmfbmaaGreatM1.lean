import Derived.WalkKit
import Derived.Laws.AppendOwnNone
import Derived.CheckFast
open Option renaming some→Xa,none→Xe,map_some→XC
open Bool renaming true→Xb,false→Xc
open List renaming length_append→Xf,length_map→Xk,append_assoc→Xl,length_nil→Xm,map_cons→Xn,all_eq_true→Xo,getElem?_eq_getElem→Xp,getElem_mem→Xq,mem_cons→Xs,mem_of_getElem?→Xt,length_cons→Xv,replicate→Xx,getElem?_map→Xy,mem_append→Xz,getElem?_eq_some_iff→XA,mem_map→XB,flatten_cons→XD,getElem?_append_right→XH,map_nil→XI,getElem?_append_left→XL,getElem?_cons_zero→XQ,mem_of_mem_take→XS,append_nil→XY,getElem?_take→XZ,mem_of_mem_drop→X4,length_take→X5,range→Ue,flatten_nil→Uf,getElem?_drop→Ug,mem_iff_getElem?→Uj,eq_nil_of_length_eq_zero→Um,length_drop→Un,mem_range→UC,getElem?_eq_none→UH,getElem?_set_ne→UN,getElem?_set_self→UR,filterMap_cons→UX,nodup_cons→UY,flatten_append→U2,mem_flatten→U4,map_toArray→U5,length_set→U6,mem_filterMap→Tb,ext_getElem?→Tc,size_toArray→Td,take_left→Tf,foldl_cons→Tt,length_pos_iff→TF,getD_eq_getElem?_getD→TH,set_eq_take_append_cons_drop→T6
open Option.some renaming injEq→Xg,inj→Ua
open Nat renaming le_refl→Xr,zero_le→XT,le_trans→XX,zero_add→X9,lt_or_ge→Ub,add_assoc→Ui,add_mul→Ul,mul_le_mul_right→Uu,lt_of_lt_of_le→UG,succ_mul→UP,add_zero→U1,mul_le_mul_left→U3
open Prod.mk renaming injEq→XG
open Array renaming toList_inj→Ud,getD→Ux,getElem?_eq_getElem→UO,toArray_toList→UW
set_option linter.unusedVariables false
set_option linter.unusedSimpArgs false
set_option linter.defProp false
namespace Go.AM
def P3.{u} {c:Prop} {i:Decidable c} (h:¬c) {α:Sort u} {a b:α}:(if c then a else b)=b:=if_neg h
def P4.{u} {c:Prop} {i:Decidable c} (h:c) {α:Sort u} {a b:α}:(if c then a else b)=a:=if_pos h
def P5 {p:Prop} [Decidable p]:(decide p=Xb)=p:=decide_eq_true_eq
inductive AV where
 | dead
 | gone
 | val (v : Value)
 | agg (cs : List AV)
 | tuple (vs : List AV)
 | aggo (cs : List AV)
 | slice (full : Bool) (s : Nat) (xs : List (List AV))
 | own (x : Bool) (e : TypeId) (xs : List (List AV))
 | box (cs : List AV)
 | ptr (d off : Nat)
 | eptr (cs : List AV)
 | mref (d k : Nat)
 | eref (d k o : Nat)
 | gbox (cs : List AV)
 | clo (g : FuncId) (ds : List Nat)
def AV.isG:AV→Bool
 | .gbox _ => Xb
 | _ => Xc
def AV.isB:AV→Bool
 | .box _ => Xb
 | .gbox _ => Xb
 | _ => Xc
def Zgg:Value→Bool
 | .bool _ => Xb
 | .int _ _ => Xb
 | .string _ => Xb
 | _ => Xc
def AV.isCell:AV→Bool
 | .val _ => Xb
 | .slice _ _ _ => Xb
 | _ => Xc
def AV.cells:AV→List AV
 | .agg cs => cs
 | x => [x]
inductive Rep (w:World) (lim:Nat→Nat):AV→Value→Prop
 | val {v : Value} (h : Zgg v = Xb) : Rep w lim (.val v) v
 | agg {cs : List AV} {vs : List Value} (hl : cs.length = vs.length) (hc : ∀ c ∈ cs, c.isCell = Xb)
   (h:∀ (i:Nat) (c:AV) (v:Value),cs[i]? = Xa c→vs[i]? = Xa v→Rep w lim c v):Rep w lim (.agg cs) (.agg vs.toArray)
 | sliceN {full : Bool} {s : Nat} : Rep w lim (.slice full s []) (.slice Xe 0 0)
 | sliceE {full : Bool} {s : Nat} {a : Addr} {cap : Nat} (hf : full = Xb → cap = 0) : Rep w lim (.slice full s []) (.slice (Xa a) 0 cap)
 | sliceC {full : Bool} {s : Nat} {xs : List (List AV)} {b o cap : Nat} {us : List Value} (hs : ∀ e ∈ xs, e.length = s)
   (hc:∀ e∈xs,∀ c∈e,c.isCell=Xb) (hf:full=Xb→cap=xs.length) (hle:xs.length≤cap) (hlim:us≠[]→o+us.length≤lim b)
   (hus:us.length=xs.length*s) (hcell:∀ (j:Nat) (u:Value),us[j]? = Xa u→w.cell? ⟨b,o+j,Xe⟩=Xa u)
   (h:∀ (j:Nat) (c:AV) (v:Value),xs.flatten[j]? = Xa c→us[j]? = Xa v→Rep w lim c v):Rep w lim (.slice full s xs) (.slice (Xa ⟨b,o,Xe⟩) xs.length cap)
def Ze8 {v:Value} (h:Zgg v=Xb):v.oneCell'=Xb:=by cases v<;>simp_all [Zgg,Value.oneCell']
def Rep.oneCell {w:World} {lim:Nat→Nat} {x:AV} {v:Value} (h:Rep w lim x v) (a:x.isCell=Xb):v.oneCell'=Xb:=by
 cases h with
 | val h => exact Ze8 h
 | agg => simp [AV.isCell] at a
 | sliceN => rfl
 | sliceE _ => rfl
 | sliceC => rfl
def Ext (w:World) (lim:Nat→Nat) (w':World) (a:Nat→Nat):Prop:=
 ∀ (b:Nat),b < w.heap.size→lim b≤a b∧∀ (o:Nat) (u:Value),o < lim b→w.cell? ⟨b,o,Xe⟩=Xa u→w'.cell? ⟨b,o,Xe⟩=Xa u
def Ext.refl (w:World) (lim:Nat→Nat):Ext w lim w lim:=fun _ _=>⟨Xr _,fun _ _ _ h=>h⟩
def Ext.trans {a c e:World} {f g i:Nat→Nat} (h:Ext a f c g) (k:Ext c g e i) (m:a.heap.size≤c.heap.size):Ext a f e i:=
 fun b d=>⟨XX (h b d).1 (k b (by omega)).1,fun o u j l=>(k b (by omega)).2 o u (UG j (h b d).1) ((h b d).2 o u j l)⟩
def Zf1 {w:World} {b o:Nat} {u:Value} (h:w.cell? ⟨b,o,Xe⟩=Xa u):b < w.heap.size:=World.block_lt_of_cell? w ⟨b,o,Xe⟩ h
def Rep.mono {w w':World} {lim a:Nat→Nat} (d:Ext w lim w' a) {x:AV} {v:Value} (h:Rep w lim x v):Rep w' a x v:=by
 induction h with
 | val h => exact .val h
 | agg c hc _ ih => exact .agg c hc ih
 | sliceN => exact .sliceN
 | sliceE hf => exact .sliceE hf
 | @sliceC full s xs b o cap us hs hc hf hle hlim hus hcell _ ih =>
  by_cases hne:us = []
  ·subst hne;exact .sliceC (us:=[]) hs hc hf hle (fun h=>(h rfl).elim) hus (by simp) (by simp)
  ·have c:=hlim hne;obtain ⟨u,rest,rfl⟩:∃ u rest,us=u::rest:=by cases us with | nil=>exact (hne rfl).elim | cons u rest=>exact ⟨u,rest,rfl⟩
   have e:=Zf1 (hcell 0 u rfl)
   exact .sliceC hs hc hf hle (fun _=>XX c (d b e).1) hus
    (fun j g f=>(d b e).2 _ _ (by have:=(XA.1 f).1;omega) (hcell j g f)) ih
def YF (P:Program) (w:World) (lim:Nat→Nat) (x:Bool) (e:TypeId) (xs:List (List AV)) (v:Value) (ob:Option Nat):Prop:=
 (∃ us:List Value,w.ownsRow 0 e (P.cellsOf e) v xs.length us∧v.ownBlock=ob∧(∀ b,ob=Xa b→lim b=if x=Xb then 0 else us.length)∧
  (∀ x∈xs,x.length=P.cellsOf e)∧(∀ x∈xs,∀ c∈x,c.isCell=Xb)∧
  ∀ (j:Nat) (c:AV) (u:Value),xs.flatten[j]? = Xa c→us[j]? = Xa u→Rep w lim c u)∨
 (xs = []∧ob=Xe∧∃ a,v = .slice (Xa a) 0 0)
def KI (P:Program) (w:World) (lim:Nat→Nat) (ob:Option Nat) (x:AV) (v:Value):Prop:=
 match x with
 | .own x e xs => YF P w lim x e xs v ob
 | .gone => True
 | x => Rep w lim x v
def Jt (P:Program) (w:World) (lim:Nat→Nat) (X:Nat→Option Nat) (cs:List AV) (v:Value):Prop:=
 ∃ (b:Nat) (arr:Array Value) (t:TypeId),X 0=Xa b∧v = .pointer (Xa ⟨b,0,Xe⟩)∧w.heap[b]? = Xa (.cells arr t (0,0))∧
  arr.size=cs.length∧lim b=0∧(∀ c∈cs,c.isCell=Xb∨∃ x e xs,c = .own x e xs)∧
  ∀ (i:Nat) (c:AV) (u:Value),cs[i]? = Xa c→arr[i]? = Xa u→KI P w lim (X (i+1)) c u
def W5 (cs:List AV):Prop:=∀ c∈cs,∀ e xs,c≠.own Xb e xs
def Je (y:AV) (k:Nat):Option (TypeId×List (List AV)):=
 match y,k with
 | .own Xb e xs, 0 => Xa (e, xs)
 | .box cs, k + 1 => match cs[k]? with | some (.own Xb e xs) => Xa (e, xs) | _ => Xe
 | _, _ => Xe
def Zgf (P:Program) (w:World) (ob:Option Nat) (e:TypeId) (n:Nat) (v:Value):Prop:=
 (ob=Xe∧n=0∧(v = .slice Xe 0 0∨∃ a,v = .slice (Xa a) 0 0))∨
  ∃ b arr cap,ob=Xa b∧w.heap[b]? = Xa (.cells arr e (0,0))∧arr.size=cap*P.cellsOf e∧v = .slice (Xa ⟨b,0,Xe⟩) n cap
def Jx (P:Program) (w:World) (lim:Nat→Nat) (X:Nat→Nat→Option Nat) (σ:Nat→AV) (d:Nat) (x:AV) (v:Value):Prop:=
 match x with
 | .dead => True
 | .gone => True
 | .own x e xs => YF P w lim x e xs v (X d 0)
 | .box cs => Jt P w lim (X d) cs v
 | .ptr a off => ∃ b cs, X a 0 = Xa b ∧ σ a = .box cs ∧ v = .pointer (Xa ⟨b, off, Xe⟩)
 | .mref a k => ∃ e xs, Je (σ a) k = Xa (e, xs) ∧ Zgf P w (X a k) e xs.length v
 | .eref a k o => ∃ b e xs, Je (σ a) k = Xa (e, xs) ∧ X a k = Xa b ∧ v = .pointer (Xa ⟨b, o, Xe⟩)
 | .eptr cs => ∃ (b o : Nat) (us : List Value), v = .pointer (Xa ⟨b, o, Xe⟩) ∧ us.length = cs.length ∧ (us ≠ [] → o + us.length ≤ lim b) ∧
   (∀ (j:Nat) (u:Value),us[j]? = Xa u→w.cell? ⟨b,o+j,Xe⟩=Xa u)∧(∀ c∈cs,c.isCell=Xb)∧
   ∀ (j:Nat) (c:AV) (u:Value),cs[j]? = Xa c→us[j]? = Xa u→Rep w lim c u
 | .tuple vs => ∃ us : List Value, v = .tuple us.toArray ∧ us.length = vs.length ∧
   ∀ (i:Nat) (c:AV) (u:Value),vs[i]? = Xa c→us[i]? = Xa u→KI P w lim (X d (i+1)) c u
 | .aggo cs => ∃ us : List Value, v = .agg us.toArray ∧ us.length = cs.length ∧ (∀ c ∈ cs, c.isCell = Xb ∨ ∃ x e xs, c = .own x e xs) ∧
   ∀ (i:Nat) (c:AV) (u:Value),cs[i]? = Xa c→us[i]? = Xa u→KI P w lim (X d (i+1)) c u
 | .gbox cs => ∃ h, Jt P w lim (X d) cs h
 | .clo g ds => ∃ f : List Nat, v = .func (.func g) #[] (f.map fun b => Value.pointer (Xa ⟨b, 0, Xe⟩)).toArray ∧ f.length = ds.length ∧
   ∀ (i a b:Nat),ds[i]? = Xa a→f[i]? = Xa b→X a 0=Xa b∧(σ a).isB=Xb
 | x => Rep w lim x v
def Yr (x:AV) (d k:Nat):Prop:=x = .mref d k∨∃ o,x = .eref d k o
inductive Odr where
 | text
 | any (N : Nat → Bool)
def Odr.rel (T:Odr) (σ a:Nat→AV):Prop:=
 match T with
 | .text => a = σ
 | .any N => ∀ d, N d = Xb → ∀ i k, ¬ Yr (a i) d k
def Zbp (y a:AV) (k:Nat):Prop:=∀ e xs,Je y k=Xa (e,xs)→∃ xs',Je a k=Xa (e,xs')∧xs'.length=xs.length
def Zbp.refl (y:AV) (k:Nat):Zbp y y k:=fun _ xs h=>⟨xs,h,rfl⟩
def ZxK (w:World) (lim:Nat→Nat) (w':World) (a:Nat→Nat) (b:Nat):Prop:=w'.heap[b]? = w.heap[b]?∧a b=lim b
def YF.lt {P:Program} {w:World} {lim:Nat→Nat} {x:Bool} {e:TypeId} {xs:List (List AV)} {v:Value} {b:Nat} (h:YF P w lim x e xs v (Xa b)):b < w.heap.size:=by
 rcases h with ⟨us,h1,h2,_⟩ | ⟨_,h,_⟩
 ·exact (h1.lt b h2).2
 ·cases h
def YF.mono {P:Program} {w w':World} {lim a:Nat→Nat} {x:Bool} {e:TypeId} {xs:List (List AV)} {v:Value} {ob:Option Nat}
  (h:YF P w lim x e xs v ob) (i:Ext w lim w' a) (f:∀ b,ob=Xa b→ZxK w lim w' a b):YF P w' a x e xs v ob:=by
 rcases h with ⟨us,h1,h2,h3,h4,h5,h6⟩ | h
 case inr=>exact .inr h
 refine .inl ⟨us,⟨h1.1,?_⟩,h2,fun b d=>((f b d).2.trans (h3 b d)),h4,h5,fun j c u k l=>(h6 j c u k l).mono i⟩;rcases h1.2 with h | ⟨g,cap,cur,rfl,d,hg,rest⟩
 ·exact .inl h
 ·refine .inr ⟨g,cap,cur,rfl,d,?_,rest⟩;rw [(f g (by rw [← h2];rfl)).1];exact hg
def KI.mono {P:Program} {w w':World} {lim a:Nat→Nat} {ob:Option Nat} {x:AV} {v:Value}
  (h:KI P w lim ob x v) (c:Ext w lim w' a) (d:∀ b,ob=Xa b→ZxK w lim w' a b):KI P w' a ob x v:=by
 cases x<;>first | exact YF.mono h c d | trivial | exact Rep.mono c h
def Jt.mono {P:Program} {w w':World} {lim a:Nat→Nat} {X:Nat→Option Nat} {cs:List AV} {v:Value}
  (h:Jt P w lim X cs v) (f:Ext w lim w' a) (d:∀ k b,X k=Xa b→ZxK w lim w' a b):Jt P w' a X cs v:=by
 obtain ⟨b,arr,t,e,g,j,l,m,n,o⟩:=h;exact ⟨b,arr,t,e,g,(d 0 b e).1.trans j,l,(d 0 b e).2.trans m,n,fun i c u p q=>(o i c u p q).mono f (d (i+1))⟩
def Zcp (w w':World) (b:Nat):Prop:=∀ arr e,w.heap[b]? = Xa (.cells arr e (0,0))→∃ arr',w'.heap[b]? = Xa (.cells arr' e (0,0))∧arr'.size=arr.size
def Zcp.of {w w':World} {b:Nat} (h:w'.heap[b]? = w.heap[b]?):Zcp w w' b:=fun arr _ a=>⟨arr,h.trans a,rfl⟩
def Zgf.mono {P:Program} {w w':World} {ob:Option Nat} {e:TypeId} {n:Nat} {v:Value} (h:Zgf P w ob e n v) (a:∀ b,ob=Xa b→Zcp w w' b):Zgf P w' ob e n v:=by
 rcases h with h | ⟨b,arr,cap,h1,h2,h3,h4⟩
 ·exact .inl h
 ·obtain ⟨arr',c,d⟩:=a b h1 arr e h2;exact .inr ⟨b,arr',cap,h1,c,by rw [d,h3],h4⟩
def Jx.mono {P:Program} {w w':World} {lim a:Nat→Nat} {X:Nat→Nat→Option Nat} {σ:Nat→AV} {d:Nat} {x:AV} {v:Value}
  (h:Jx P w lim X σ d x v) (l:Ext w lim w' a) (q:∀ k b,X d k=Xa b→ZxK w lim w' a b)
  (E:∀ p k b,x = .mref p k→X p k=Xa b→Zcp w w' b):Jx P w' a X σ d x v:=by
 cases x with
 | dead => trivial
 | gone => trivial
 | own x e xs => exact YF.mono h l (q 0)
 | box cs => exact Jt.mono h l q
 | ptr p off => exact h
 | mref p k =>
  obtain ⟨e,xs,m,n⟩:=h;exact ⟨e,xs,m,n.mono fun b z=>E p k b rfl z⟩
 | eref p k o => exact h
 | eptr cs =>
  obtain ⟨b,o,us,m,n,r,A,C,G⟩:=h;by_cases hne:us = []
  ·subst hne;exact ⟨b,o,[],m,n,fun h=>(h rfl).elim,by simp,C,by simp⟩
  ·have H:=r hne;obtain ⟨u,rest,rfl⟩:∃ u rest,us=u::rest:=by cases us with | nil=>exact (hne rfl).elim | cons u rest=>exact ⟨u,rest,rfl⟩
   have z:=Zf1 (A 0 u rfl);exact ⟨b,o,_,m,n,fun _=>XX H (l b z).1,fun j J D=>(l b z).2 _ _ (by have:=(XA.1 D).1;omega) (A j J D),C,fun j c u t y=>(G j c u t y).mono l⟩
 | tuple vs =>
  obtain ⟨us,m,n,r⟩:=h;exact ⟨us,m,n,fun i c u t y=>(r i c u t y).mono l (q (i+1))⟩
 | aggo cs =>
  obtain ⟨us,m,n,A,r⟩:=h;exact ⟨us,m,n,A,fun i c u t y=>(r i c u t y).mono l (q (i+1))⟩
 | gbox cs =>
  obtain ⟨L,h⟩:=h;exact ⟨L,Jt.mono h l q⟩
 | clo g ds => exact h
 | val v => exact Rep.mono l h
 | agg cs => exact Rep.mono l h
 | slice f s xs => exact Rep.mono l h
structure Ctx where
 P:Program
 w0:World
 lim0:Nat→Nat
 A:Nat→Prop
 nt:Nat
 /-- The slots of the callers' boxes. -/
 pin:Nat→Option Value
 /-- The blocks of the boxes that stand behind the activation's own slots. -/
 gpin:Nat→Option Nat
structure Frm (c:Ctx) (w:World) (lim:Nat→Nat):Prop where
 os:w.os=c.w0.os
 tape:w.tape=c.w0.tape
 output:w.output=c.w0.output
 size:c.w0.heap.size≤w.heap.size
 frz:∀ a:Addr,a.block < c.w0.heap.size→w.frozen? a=c.w0.frozen? a
 blk:∀ b,b < c.w0.heap.size→¬ c.A b→ZxK c.w0 c.lim0 w lim b
 ext:Ext c.w0 c.lim0 w lim
structure Sim (c:Ctx) (σ:Nat→AV) (tm:Array Value) (w:World) (lim:Nat→Nat) (X:Nat→Nat→Option Nat):Prop where
 rel:∀ d,Jx c.P w lim X σ d (σ d) (tm.getD d undef)
 size:tm.size=c.nt
 out:∀ d,c.nt≤d→σ d = .dead∨(σ d).isG=Xb
 ghost:∀ d,(σ d).isG=Xb→c.nt≤d
 dist:∀ d k d' k' b,X d k=Xa b→X d' k'=Xa b→d=d'∧k=k'
 ours:∀ d k b,X d k=Xa b→b < w.heap.size∧(c.A b∨c.w0.heap.size≤b)
 frm:Frm c w lim
 pin:∀ d v,c.pin d=Xa v→tm.getD d undef=v∧∃ cs,σ d = .box cs
 gpin:∀ d b,c.gpin d=Xa b→X d 0=Xa b∧(σ d).isG=Xb
def upd (σ:Nat→AV) (d:Nat) (x:AV):Nat→AV:=fun i=>if i=d then x else σ i
def Kb:(Nat→AV)→List (Nat×AV)→(Nat→AV)
 | σ, [] => σ
 | σ, (d, x) :: us => Kb (upd σ d x) us
def J9 (σ:Nat→AV) (d:Nat) (x:AV):upd σ d x d=x:=by simp [upd]
def ZQ (σ:Nat→AV) {d i:Nat} (x:AV) (h:i≠d):upd σ d x i=σ i:=by simp [upd,h]
def Zhm (X:Nat→Nat→Option Nat) (d:Nat) (r:Nat→Option Nat):Nat→Nat→Option Nat:=fun i=>if i=d then r else X i
def Jd (X:Nat→Nat→Option Nat) (d:Nat) (r:Nat→Option Nat):Zhm X d r d=r:=by simp [Zhm]
def Z9 (X:Nat→Nat→Option Nat) {d i:Nat} (r:Nat→Option Nat) (h:i≠d):Zhm X d r i=X i:=by simp [Zhm,h]
def KU:Nat→Option Nat:=fun _=>Xe
def Zav (ob:Option Nat):Nat→Option Nat:=fun k=>if k=0 then ob else Xe
structure Yv (w:World) (lim:Nat→Nat) (w':World) (lim':Nat→Nat) (S:Nat→Prop):Prop where
 os:w'.os=w.os
 tape:w'.tape=w.tape
 output:w'.output=w.output
 size:w.heap.size≤w'.heap.size
 frz:∀ a:Addr,a.block < w.heap.size→w'.frozen? a=w.frozen? a
 blk:∀ b,b < w.heap.size→¬ S b→ZxK w lim w' lim' b
 ext:Ext w lim w' lim'
def Yv.refl (w:World) (lim:Nat→Nat) (S:Nat→Prop):Yv w lim w lim S:=
 ⟨rfl,rfl,rfl,Xr _,fun _ _=>rfl,fun _ _ _=>⟨rfl,rfl⟩,Ext.refl w lim⟩
def Yv.drew {w:World} {lim:Nat→Nat} {w':World} {a:Nat→Nat} {S:Nat→Prop} (h:Yv w lim w' a S):Yv w lim w'.drew a S:=
 ⟨h.os,h.tape,h.output,h.size,h.frz,h.blk,h.ext⟩
def Frm.step {c:Ctx} {w:World} {lim:Nat→Nat} {w':World} {d:Nat→Nat} {S:Nat→Prop} (h:Frm c w lim) (e:Yv w lim w' d S)
  (j:∀ b,S b→c.A b∨c.w0.heap.size≤b):Frm c w' d where
 os:=e.os.trans h.os
 tape:=e.tape.trans h.tape
 output:=e.output.trans h.output
 size:=XX h.size e.size
 frz a ha:=(e.frz a (UG ha h.size)).trans (h.frz a ha)
 blk b hb hA:=by
  have f:¬ S b:=fun k=>(j b k).elim hA (fun h=>by omega);have g:=h.blk b hb hA;have i:=e.blk b (by have:=h.size;omega) f;exact ⟨i.1.trans g.1,i.2.trans g.2⟩
 ext:=h.ext.trans e.ext h.size
def Zrb {x:AV} (h:x.isB=Xb):(∃ cs,x = .box cs)∨x.isG=Xb:=by
 cases x<;>simp [AV.isB] at h
 ·exact .inl ⟨_,rfl⟩
 ·exact .inr rfl
def Zcg {x:AV} (h:x.isG=Xb):x.isB=Xb:=by
 cases x<;>simp [AV.isG] at h
 rfl
def Zm3 {X X':Nat→Nat→Option Nat} {σ c:Nat→AV} {d b:Nat} (i:∀ a cs,σ a = .box cs→(∃ e,c a = .box e)∧X' a 0=X a 0)
  (j:∀ a,(σ a).isG=Xb→(c a).isG=Xb∧X' a 0=X a 0) (h:X d 0=Xa b∧(σ d).isB=Xb):X' d 0=Xa b∧(c d).isB=Xb:=by
 rcases Zrb h.2 with ⟨cs,hcs⟩ | hcs
 ·obtain ⟨⟨e,f⟩,g⟩:=i d cs hcs;exact ⟨g.trans h.1,by rw [f];rfl⟩
 ·obtain ⟨f,g⟩:=j d hcs;exact ⟨g.trans h.1,Zcg f⟩
def Jx.chg {P:Program} {w:World} {lim:Nat→Nat} {X X':Nat→Nat→Option Nat} {σ m:Nat→AV} {d:Nat} {x:AV} {v:Value}
  (h:Jx P w lim X σ d x v) (q:X' d=X d) (u:∀ a cs,σ a = .box cs→(∃ n,m a = .box n)∧X' a 0=X a 0)
  (z:∀ a,(σ a).isG=Xb→(m a).isG=Xb∧X' a 0=X a 0) (y:∀ a k,Yr x a k→Zbp (σ a) (m a) k∧X' a k=X a k):Jx P w lim X' m d x v:=by
 cases x with
 | gbox cs =>
  obtain ⟨A,h⟩:=h;exact ⟨A,by rw [q];exact h⟩
 | clo g ds =>
  obtain ⟨C,c,j,l⟩:=h;exact ⟨C,c,j,fun i a b D E=>Zm3 u z (l i a b D E)⟩
 | ptr a off =>
  obtain ⟨b,cs,c,j,l⟩:=h;obtain ⟨⟨n,p⟩,r⟩:=u a cs j;exact ⟨b,n,r.trans c,p,l⟩
 | mref a k =>
  obtain ⟨e,xs,c,j⟩:=h;obtain ⟨l,p⟩:=y a k (.inl rfl);obtain ⟨xs',r,t⟩:=l e xs c;exact ⟨e,xs',r,by rw [p,t];exact j⟩
 | eref a k o =>
  obtain ⟨b,e,xs,c,j,l⟩:=h;obtain ⟨p,r⟩:=y a k (.inr ⟨o,rfl⟩);obtain ⟨xs',t,_⟩:=p e xs c;exact ⟨b,e,xs',t,r.trans j,l⟩
 | own x e xs => show YF P w lim x e xs v (X' d 0); rw [q]; exact h
 | box cs => show Jt P w lim (X' d) cs v; rw [q]; exact h
 | aggo cs =>
  obtain ⟨us,c,j,p,l⟩:=h;refine ⟨us,c,j,p,?_⟩;rw [q];exact l
 | tuple vs => 
  obtain ⟨us,c,j,l⟩:=h;refine ⟨us,c,j,?_⟩;rw [q];exact l
 | dead => trivial
 | gone => trivial
 | eptr cs => exact h
 | val v => exact h
 | agg cs => exact h
 | slice f s xs => exact h
def Zp2 (σ:Nat→AV) (d:Nat):Prop:=∀ i k,i≠d→¬ Yr (σ i) d k
def ZcD {c:Ctx} {σ:Nat→AV} {f:Array Value} {w:World} {lim:Nat→Nat} {X:Nat→Nat→Option Nat} (h:Sim c σ f w lim X) {i d k:Nat} (g:Yr (σ i) d k):∃ p,Je (σ d) k=Xa p:=by
 have a:=h.rel i;rcases g with e | ⟨o,e⟩
 ·rw [e] at a;obtain ⟨t,xs,b,_⟩:=a;exact ⟨_,b⟩
 ·rw [e] at a;obtain ⟨_,t,xs,b,_⟩:=a;exact ⟨_,b⟩
def Sim.noRefs {c:Ctx} {σ:Nat→AV} {b:Array Value} {w:World} {lim:Nat→Nat} {X:Nat→Nat→Option Nat} (h:Sim c σ b w lim X) {d:Nat} (e:∀ k,Je (σ d) k=Xe):Zp2 σ d:=by
 intro i k _ f;obtain ⟨p,a⟩:=ZcD h f;rw [e k] at a
 cases a
def Zar (y:AV):Prop:=(∀ cs,y≠.box cs)∧∀ e xs,y≠.own Xb e xs
def Zar.none {y:AV} (h:Zar y) (k:Nat):Je y k=Xe:=by
 unfold Je;split
 ·exact (h.2 _ _ rfl).elim
 ·exact (h.1 _ rfl).elim
 ·rfl
def Sim.world {c:Ctx} {σ:Nat→AV} {m:Array Value} {w:World} {lim:Nat→Nat} {X:Nat→Nat→Option Nat} (h:Sim c σ m w lim X)
  {w':World} {a:Nat→Nat} {S:Nat→Prop} (f:Yv w lim w' a S) (l:∀ b,S b→(c.A b∨c.w0.heap.size≤b)∧∀ i j,X i j≠Xa b):Sim c σ m w' a X where
 rel d:=(h.rel d).mono f.ext (fun k b e=>f.blk b (h.ours d k b e).1 fun g=>(l b g).2 d k e) fun n k b _ e=>.of (f.blk b (h.ours n k b e).1 fun g=>(l b g).2 n k e).1
 size:=h.size
 out:=h.out
 ghost:=h.ghost
 dist:=h.dist
 ours d k b e:=⟨UG (h.ours d k b e).1 f.size,(h.ours d k b e).2⟩
 frm:=h.frm.step f fun b g=>(l b g).1
 pin:=h.pin
 gpin:=h.gpin
def Sim.putRow {c:Ctx} {σ:Nat→AV} {G:Array Value} {w:World} {lim:Nat→Nat} {X:Nat→Nat→Option Nat} (h:Sim c σ G w lim X)
  {w':World} {m:Nat→Nat} {S:Nat→Prop} {d:Nat} {x:AV} {tm':Array Value} (r:Nat→Option Nat) (y:Yv w lim w' m S) (H:∀ b,S b→∃ k,X d k=Xa b)
  (W:d < c.nt) (J:tm'.size=G.size) (s:∀ i,i≠d→tm'.getD i undef=G.getD i undef)
  (p:(∀ cs,σ d≠.box cs)∨((∃ cs,x = .box cs)∧r 0=X d 0∧tm'.getD d undef=G.getD d undef))
  (z:∀ i k,i≠d→Yr (σ i) d k→Zbp (σ d) x k∧r k=X d k∧∀ b,X d k=Xa b→Zcp w w' b)
  (O:Jx c.P w' m (Zhm X d r) (upd σ d x) d x (tm'.getD d undef))
  (q:∀ k b,r k=Xa b→b < w'.heap.size∧(c.A b∨c.w0.heap.size≤b)∧∀ i j,i≠d→X i j≠Xa b)
  (L:∀ k n b,r k=Xa b→r n=Xa b→k=n) (M:x.isG=Xc:=by rfl):Sim c (upd σ d x) tm' w' m (Zhm X d r) where
 rel i:=by
  by_cases a:i=d
  ·subst a;rw [J9];exact O
  ·rw [ZQ σ x a,s i a]
   have f:=(h.rel i).mono y.ext (fun k b p=>y.blk b (h.ours i k b p).1 fun C=>by
    obtain ⟨n,t⟩:=H b C
    exact a (h.dist i k d n b p t).1) fun g k b Q u=>by
    by_cases hdd:g=d
    ·subst hdd;exact (z i k a (.inl Q)).2.2 b u
    ·exact .of (y.blk b (h.ours g k b u).1 fun C=>by
      obtain ⟨n,t⟩:=H b C;exact hdd (h.dist g k d n b u t).1).1
   have D:∀ g,(σ g).isG=Xb→g≠d:=fun g E e=>by have:=h.ghost g E;omega
   refine f.chg (Z9 X r a) (fun g cs o=>?_) (fun g E=>⟨by rw [ZQ σ x (D g E)];exact E,by rw [Z9 X r (D g E)]⟩) fun g k N=>?_
   ·by_cases hdd:g=d
    ·subst hdd;rcases p with p | ⟨⟨cs',hx'⟩,N,_⟩
     ·exact (p cs o).elim
     ·exact ⟨⟨cs',by rw [J9,hx']⟩,by rw [Jd,N]⟩
    ·exact ⟨⟨cs,by rw [ZQ σ x hdd,o]⟩,by rw [Z9 X r hdd]⟩
   ·by_cases hdd:g=d
    ·subst hdd;obtain ⟨R,T,_⟩:=z i k a N;exact ⟨by rw [J9];exact R,by rw [Jd];exact T⟩
    ·exact ⟨by rw [ZQ σ x hdd];exact Zbp.refl _ _,by rw [Z9 X r hdd]⟩
 size:=J.trans h.size
 out i a:=by rw [ZQ σ x (by omega)];exact h.out i a
 ghost i a:=by
  by_cases o:i=d
  ·subst o;rw [J9,M] at a
   cases a
  ·rw [ZQ σ x o] at a;exact h.ghost i a
 dist i k i' n b f l:=by
  by_cases a:i=d<;>by_cases hi':i'=d
  ·subst a;subst hi';rw [Jd] at f l;exact ⟨rfl,L k n b f l⟩
  ·subst a;rw [Jd] at f;rw [Z9 X r hi'] at l;exact ((q k b f).2.2 i' n hi' l).elim
  ·subst hi';rw [Jd] at l;rw [Z9 X r a] at f;exact ((q n b l).2.2 i k a f).elim
  ·rw [Z9 X r a] at f;rw [Z9 X r hi'] at l;exact h.dist i k i' n b f l
 ours i k b f:=by
  by_cases a:i=d
  ·subst a;rw [Jd] at f;exact ⟨(q k b f).1,(q k b f).2.1⟩
  ·rw [Z9 X r a] at f;exact ⟨UG (h.ours i k b f).1 y.size,(h.ours i k b f).2⟩
 frm:=h.frm.step y fun b C=>by
  obtain ⟨k,U⟩:=H b C;exact (h.ours d k b U).2
 pin i v hv:=by
  obtain ⟨f,cs,l⟩:=h.pin i v hv;by_cases a:i=d
  ·subst a;rcases p with p | ⟨⟨cs',rfl⟩,_,hv2⟩
   ·exact (p cs l).elim
   ·exact ⟨hv2.trans f,cs',J9 _ _ _⟩
  ·exact ⟨(s i a).trans f,cs,by rw [ZQ σ x a,l]⟩
 gpin i b hb':=by
  obtain ⟨f,l⟩:=h.gpin i b hb';have a:i≠d:=fun e=>by have:=h.ghost i l;omega
  exact ⟨by rw [Z9 X r a];exact f,by rw [ZQ σ x a];exact l⟩
def AV.plain:AV→Bool
 | .own _ _ _ => Xc
 | .box _ => Xc
 | .tuple _ => Xc
 | .aggo _ => Xc
 | .gbox _ => Xc
 | _ => Xb
def Zgi {x:AV} (h:x.plain=Xb):x.isG=Xc:=by
 cases x<;>first | rfl | simp [AV.plain] at h
def Jx.plain {P:Program} {w:World} {lim:Nat→Nat} {X X':Nat→Nat→Option Nat} {σ c:Nat→AV} {d a:Nat} {x:AV} {v:Value}
  (h:Jx P w lim X σ d x v) (p:x.plain=Xb) (u:∀ i cs,σ i = .box cs→(∃ j,c i = .box j)∧X' i 0=X i 0)
  (z:∀ a,(σ a).isG=Xb→(c a).isG=Xb∧X' a 0=X a 0) (y:∀ a k,Yr x a k→Zbp (σ a) (c a) k∧X' a k=X a k):Jx P w lim X' c a x v:=by
 cases x with
 | gbox cs => simp [AV.plain] at p
 | clo g ds =>
  obtain ⟨A,l,m,n⟩:=h;exact ⟨A,l,m,fun i a b C D=>Zm3 u z (n i a b C D)⟩
 | ptr i off =>
  obtain ⟨b,cs,l,m,n⟩:=h;obtain ⟨⟨j,q⟩,r⟩:=u i cs m;exact ⟨b,j,r.trans l,q,n⟩
 | mref i k =>
  obtain ⟨e,xs,l,m⟩:=h;obtain ⟨n,q⟩:=y i k (.inl rfl);obtain ⟨xs',r,t⟩:=n e xs l;exact ⟨e,xs',r,by rw [q,t];exact m⟩
 | eref i k o =>
  obtain ⟨b,e,xs,l,m,n⟩:=h;obtain ⟨q,r⟩:=y i k (.inr ⟨o,rfl⟩);obtain ⟨xs',t,_⟩:=q e xs l;exact ⟨b,e,xs',t,r.trans m,n⟩
 | own x e xs => simp [AV.plain] at p
 | box cs => simp [AV.plain] at p
 | tuple vs => simp [AV.plain] at p
 | aggo cs => simp [AV.plain] at p
 | dead => trivial
 | gone => trivial
 | eptr cs => exact h
 | val v => exact h
 | agg cs => exact h
 | slice f s xs => exact h
def Ki (a:Array Value) (d:Nat) (v:Value) (h:d < a.size):(a.setIfInBounds d v).getD d undef=v:=by
 simp [Ux,h]
def JJ (a:Array Value) (d i:Nat) (v:Value) (h:i≠d):(a.setIfInBounds d v).getD i undef=a.getD i undef:=by
 by_cases hi:i < a.size
 ·simp [Ux,hi,Ne.symm h]
 ·simp [Ux,hi]
def Zpj {P:Program} {w:World} {lim:Nat→Nat} {X:Nat→Nat→Option Nat} {σ:Nat→AV} {k d q:Nat} {x:AV} {v:Value} (h:Jx P w lim X σ k x v) (b:Yr x d q):∃ p,Je (σ d) q=Xa p:=by
 rcases b with rfl | ⟨o,rfl⟩
 ·obtain ⟨e,xs,a,_⟩:=h;exact ⟨_,a⟩
 ·obtain ⟨_,e,xs,a,_⟩:=h;exact ⟨_,a⟩
def Sim.put {c:Ctx} {σ:Nat→AV} {n:Array Value} {w:World} {lim:Nat→Nat} {X:Nat→Nat→Option Nat} (h:Sim c σ n w lim X)
  {d k:Nat} {x:AV} {v:Value} (t:d < c.nt) (o:Zar (σ d)) (j:x.plain=Xb) (u:Jx c.P w lim X σ k x v) :
  Sim c (upd σ d x) (n.setIfInBounds d v) w lim (Zhm X d KU):=by
 refine h.putRow KU (Yv.refl w lim (fun _=>False)) (fun _ y=>y.elim) t (by simp) (fun i g=>JJ n d i v g) (.inl o.1) (fun i q g r=>(h.noRefs o.none i q g r).elim) ?_
  (fun k b s=>by simp [KU] at s) (fun k z b s=>by simp [KU] at s) (Zgi j)
 rw [Ki n d v (by rw [h.size];exact t)];have l:∀ f,(σ f).isG=Xb→f≠d:=fun f m e=>by have:=h.ghost f m;omega
 refine u.plain j (fun i cs g=>?_) (fun f m=>⟨by rw [ZQ σ x (l f m)];exact m,by rw [Z9 X KU (l f m)]⟩) fun f q r=>?_
 ·have a:i≠d:=fun e=>o.1 cs (e ▸ g);exact ⟨⟨cs,by rw [ZQ σ x a,g]⟩,by rw [Z9 X KU a]⟩
 ·have a:f≠d:=by
   intro e;subst e;obtain ⟨p,j⟩:=Zpj u r;rw [o.none] at j
   cases j
  exact ⟨by rw [ZQ σ x a];exact Zbp.refl _ _,by rw [Z9 X KU a]⟩
def Sim.weaken {c:Ctx} {σ:Nat→AV} {m:Array Value} {w:World} {lim:Nat→Nat} {X:Nat→Nat→Option Nat} (h:Sim c σ m w lim X)
  {d k:Nat} {x:AV} (u:d < c.nt) (s:∀ cs,σ d≠.box cs) (n:Zp2 σ d) (t:x.plain=Xb) (o:∀ i q,¬ Yr x i q) (v:Jx c.P w lim X σ k x (m.getD d undef)) :
  Sim c (upd σ d x) m w lim (Zhm X d KU):=by
 refine h.putRow KU (Yv.refl w lim (fun _=>False)) (fun _ y=>y.elim) u rfl (fun i f=>rfl) (.inl s) (fun i q f p=>(n i q f p).elim) ?_
  (fun k b r=>by simp [KU] at r) (fun k z b r=>by simp [KU] at r) (Zgi t)
 have g:∀ a,(σ a).isG=Xb→a≠d:=fun a j e=>by have:=h.ghost a j;omega
 refine v.plain t (fun i cs f=>?_) (fun a j=>⟨by rw [ZQ σ x (g a j)];exact j,by rw [Z9 X KU (g a j)]⟩) fun a q p=>(o a q p).elim;have l:i≠d:=fun e=>s cs (e ▸ f);exact ⟨⟨cs,by rw [ZQ σ x l,f]⟩,by rw [Z9 X KU l]⟩
def Sim.putOwn {c:Ctx} {σ:Nat→AV} {g:Array Value} {w:World} {lim:Nat→Nat} {X:Nat→Nat→Option Nat} (h:Sim c σ g w lim X)
  {d:Nat} {x:Bool} {e:TypeId} {xs:List (List AV)} {v:Value} {ob:Option Nat} (m:d < c.nt) (n:Zar (σ d)) (o:YF c.P w lim x e xs v ob)
  (p:∀ b,ob=Xa b→(c.A b∨c.w0.heap.size≤b)∧∀ i j,i≠d→X i j≠Xa b) :
  Sim c (upd σ d (.own x e xs)) (g.setIfInBounds d v) w lim (Zhm X d (Zav ob)):=by
 refine h.putRow (Zav ob) (Yv.refl w lim (fun _=>False)) (fun _ r=>r.elim) m (by simp) (fun i l=>JJ g d i v l) (.inl n.1) (fun i q l s=>(h.noRefs n.none i q l s).elim) ?_
  (fun k b a=>?_) (fun k t b a f=>?_)
 ·rw [Ki g d v (by rw [h.size];exact m)];show YF c.P w lim x e xs v (Zhm X d (Zav ob) d 0);rw [Jd];exact o
 ·unfold Zav at a;split at a
  ·subst a;exact ⟨o.lt,(p b rfl).1,(p b rfl).2⟩
  ·simp at a
 ·unfold Zav at a f;split at a<;>split at f
  ·omega
  ·simp at f
  ·simp at a
  ·simp at a
def Ja (xs:List (List AV)) (s:Nat) (h:∀ x∈xs,x.length=s):xs.flatten.length=xs.length*s:=by
 induction xs with
 | nil => simp
 | cons x xs ih =>
  simp only [XD,Xf,Xv];rw [h x (by simp),ih fun y a=>h y (by simp [a]),Ul];omega
def YF.rep {P:Program} {w:World} {lim:Nat→Nat} {e:TypeId} {xs:List (List AV)} {v:Value} {ob:Option Nat} (h:YF P w lim Xc e xs v ob) (f:Bool) (i:f=Xc) :
  Rep w lim (.slice f (P.cellsOf e) xs) v:=by
 subst i;rcases h with ⟨us,h1,h2,h3,h4,h5,h6⟩ | ⟨rfl,_,a,rfl⟩
 case inr=>exact .sliceE (fun h=>by simp at h)
 rcases h1.2 with ⟨hv,hn⟩ | ⟨g,cap,cur,hv,hbg,hg,hnc,hcm,hcs,htake⟩
 ·have:xs = []:=Um hn;subst this;rw [hv];exact .sliceN
 ·rw [hv];have d:ob=Xa g:=by rw [← h2,hv];rfl
  refine .sliceC h4 h5 (fun h=>by simp at h) hnc (fun _=>?_) h1.1 (fun j u k=>?_) h6
  ·rw [h3 g d,P3 (by simp)];omega
  ·have b:=h1.cells (g:=g) (by rw [hv];rfl) j u k;have c:(⟨g,0,Xe⟩:Addr).add j=⟨g,0+j,Xe⟩:=by unfold Addr.add;split<;>simp_all
   rw [c] at b;exact b
inductive IOp where
 | add | sub | mul | quo | rem | and | or | xor | andNot | shl | shr | min | max
 deriving DecidableEq,Repr
inductive COp where
 | eql | neq | lss | leq | gtr | geq
 deriving DecidableEq,Repr
mutual
inductive IE where
 | var (n : Nat)
 | lit (z : Int)
 | bin (op : IOp) (k : IntKind) (a b : IE)
 | conv (k : IntKind) (a : IE)
 | len (l : LE)
 | slen (s : SE)
 | getc (s : SE) (i : IE)
inductive BE where
 | var (n : Nat)
 | lit (b : Bool)
 | cmp (op : COp) (a b : IE)
 | beq (a b : BE)
 | seq (a b : SE)
 | and (a b : BE)
 | not (a : BE)
inductive SE where
 | var (n : Nat)
 | lit (s : ByteArray)
 | bytes (l : LE)
inductive LE where
 | var (n : Nat)
 | nil
 | snoc (l : LE) (e : CE)
 | app (a b : LE)
 | take (l : LE) (i : IE)
 | drop (l : LE) (i : IE)
 | rep (i : IE) (e : CE)
 | setAt (l : LE) (i : IE) (o : Nat) (e : CE)
 | spl (l a : LE)
inductive CE where
 | nil
 | cons (c : SC) (r : CE)
inductive SC where
 | int (k : IntKind) (e : IE)
 | bool (b : BE)
 | str (s : SE)
 | slice (full : Bool) (s : Nat) (l : LE)
end
inductive TC where
 | c (x : SC)
 | agg (cs : List SC)
 | own (x : Bool) (e : TypeId) (l : LE)
 | gone
inductive BC where
 | c (x : SC)
 | own (x : Bool) (e : TypeId) (l : LE)
inductive SV where
 | dead
 | gone
 | c (x : SC)
 | agg (cs : List SC)
 | tuple (vs : List TC)
 | aggo (cs : List BC)
 | own (x : Bool) (e : TypeId) (l : LE)
 | box (cs : List BC)
 | ptr (d off : Nat)
 | eptr (cs : List SC)
 | mref (d k : Nat)
 | eref (d k : Nat) (i : IE) (s o : Nat)
 | gbox (cs : List BC)
 | clo (g : FuncId) (ds : List Nat)
inductive Tr where
 | leaf (v : SV)
 | node (l r : Tr)
def Tr.get:Tr→Nat→SV
 | .leaf v, _ => v
 | .node l r, n => match n % 2 with | 0 => l.get (n / 2) | _ => r.get (n / 2)
def Tr.set:Nat→Tr→Nat→SV→Tr
 | 0, _, _, v => .leaf v
 | d + 1, .node l r, n, v => match n % 2 with | 0 => .node (Tr.set d l (n / 2) v) r | _ => .node l (Tr.set d r (n / 2) v)
 | d + 1, .leaf x, n, v => match n % 2 with | 0 => .node (Tr.set d (.leaf x) (n / 2) v) (.leaf x) | _ => .node (.leaf x) (Tr.set d (.leaf x) (n / 2) v)
def depth:Nat:=10
inductive Sh where
 | int (k : IntKind)
 | bool
 | str
 | slice (s : Nat)
 | own (x : Bool) (e : TypeId)
inductive RSh where
 | c (s : Sh)
 | agg (l : List Sh)
inductive PE where
 | le (a b : IE)
 | lt (a b : IE)
 | make (a : IE) (bytes : Nat)
 | ne0 (a : IE)
 | bytes (l : LE)
 | room (a b : LE) (bytes : Nat)
 | cons (l : LE)
inductive VE where
 | i (e : IE)
 | b (e : BE)
 | s (e : SE)
 | l (e : LE)
inductive STree where
 | stuck (why : Nat)
 | branch (b : BE) (t e : STree)
 | req (p : PE) (t : STree)
 | elem (l : LE) (i : IE) (sh : List Sh) (n : Nat) (t : STree)
 | nilq (l : LE) (n : Nat) (t : STree)
 | call (f : FuncId) (args : List SV) (res : SV) (outs : List SV) (n : Nat) (sh : List Sh) (t : STree)
 | loop (lv : Nat) (init : List VE) (n : Nat) (t : STree)
 | again (lv : Nat) (vals : List VE)
 | ret (res : SV) (outs : List SV)
def ZgQ (b:BE) (t e:STree):STree:=
 match b with
 | .lit Xb => t
 | .lit Xc => e
 | b => .branch b t e
def Zrr:BE→BE
 | .lit b => .lit (!b)
 | b => .not b
def ofC:Value→Option SC
 | .slice Xe 0 0 => Xa (.slice Xb 0 .nil)
 | .bool b => Xa (.bool (.lit b))
 | .int k n => Xa (.int k (.lit n))
 | .string s => Xa (.str (.lit s))
 | _ => Xe
def Ziu:List Value→Option (List SC)
 | [] => Xa []
 | v :: vs =>
  match ofC v,Ziu vs with
  | some c, Xa cs => Xa (c :: cs)
  | _, _ => Xe
def ofV:Value→SV
 | .agg cs => match Ziu cs.toList with | some l => .agg l | none => .dead
 | v => match ofC v with | some c => .c c | none => .dead
def YQ (P:Program) (g:Nat→SV):Operand→SV
 | .tmp t =>
  match g t with
  | .box _ => .ptr t 0
  | .own x e xs => match x with | true => .mref t 0 | false => .c (.slice Xc (P.cellsOf e) xs)
  | .tuple _ => .dead
  | .aggo _ => .dead
  | .gbox _ => .dead
  | x => x
 | .const v => ofV v
 | .func f => .clo f []
 | _ => .dead
def SV.cells:SV→Option (List SC)
 | .c x => Xa [x]
 | .agg cs => Xa cs
 | _ => Xe
abbrev Ups:=List (Nat×SV)
abbrev K:=SV→Ups→List Nat→Nat→STree
def YT (P:Program) (T:TypeId):Option Bool:=
 match P.underlying T with
 | some (.struct _) => Xa Xb
 | some (.array _ _) => Xa Xb
 | some _ => Xa Xc
 | none => Xe
def KC (P:Program) (T:TypeId) (f:Nat):Option Nat:=
 match P.underlying T with
 | some (.struct fs) =>
  match fs[f]? with
  | some fd => if P.cellsOf fd.type = 0 then Xe else Xa fd.offset
  | none => Xe
 | _ => Xe
def Zg0 (P:Program) (T:TypeId) (f:Nat):Option (Bool×Nat):=
 match P.underlying T with
 | some (.struct fs) =>
  match fs[f]? with
  | some fd => (YT P fd.type).map fun a => (a, P.cellsOf fd.type)
  | none => Xe
 | _ => Xe
def VP (P:Program):Nat→TypeId→Option (List Sh)
 | 0, _ => Xe
 | d + 1, T =>
  match P.underlying T with
  | some (.struct fs) => fs.toList.foldr (fun f c => match VP P d f.type, c with | some a, Xa b => Xa (a ++ b) | _, _ => Xe) (Xa [])
  | some (.array n e) => (VP P d e).map fun l => (Xx n l).flatten
  | some (.slice e) => Xa [.slice (P.cellsOf e)]
  | some (.int k) => Xa [.int k]
  | some .bool => Xa [.bool]
  | some .string => Xa [.str]
  | _ => Xe
def K9 (P:Program):Nat→TypeId→List (Option TypeId)
 | 0, _ => []
 | d + 1, T =>
  match P.underlying T with
  | some (.struct fs) => fs.toList.flatMap fun f => K9 P d f.type
  | some (.array n e) => (Xx n (K9 P d e)).flatten
  | some (.slice e) => [Xa e]
  | _ => [Xe]
def KT:Sh→Nat→SC
 | .int k, n => .int k (.var n)
 | .bool, n => .bool (.var n)
 | .str, n => .str (.var n)
 | .slice s, n => .slice Xc s (.var n)
 | .own _ _, n => .slice Xc 0 (.var n)
def JF:List Sh→Nat→List SC
 | [], _ => []
 | s :: ss, n => KT s n :: JF ss (n + 1)
def Zds (e:Option TypeId) (c:SC):BC:=
 match e,c with
 | some e, .slice Xb _ .nil => .own Xc e .nil
 | _, c => .c c
def ZwO (P:Program) (T:TypeId):Option (List BC):=
 match P.info? T with
 | some i =>
  match i.zero with
  | some z =>
   match Ziu z.cells.toList with
   | some cs => if (K9 P 8 T).length = cs.length then Xa (List.zipWith Zds (K9 P 8 T) cs) else Xe
   | none => Xe
  | none => Xe
 | none => Xe
def Zgb (P:Program):BC→SC
 | .c x => x
 | .own _ e l => .slice Xc (P.cellsOf e) l
def W0 (cs:List BC):Bool:=cs.all fun c=>match c with | .own Xb _ _=>Xc | _=>Xb
def ZfV (d:Nat) (x:SV):Bool:=
 match x with
 | .mref d' _ => d' == d
 | .eref d' _ _ _ _ => d' == d
 | _ => Xc
def Kd (g:Nat→SV) (d:Nat):Nat→List (Nat×SV)
 | 0 => []
 | i + 1 => if i ≠ d ∧ ZfV d (g i) = Xb then (i, .dead) :: Kd g d i else Kd g d i
def Kq (x:SV) (k:Nat):Option (TypeId×LE):=
 match x,k with
 | .own Xb e l, 0 => Xa (e, l)
 | .box cs, k + 1 => match cs[k]? with | some (.own Xb e l) => Xa (e, l) | _ => Xe
 | _, _ => Xe
def VF (x:SV) (k:Nat) (b:Bool) (e:TypeId) (l:LE):SV:=
 match x,k with
 | .own _ _ _, 0 => .own b e l
 | .box cs, k + 1 => .box (cs.set k (.own b e l))
 | x, _ => x
def Zhs (place:Nat→Option (Nat×Nat)):List SC→List (Nat×SV)→Option (List SC)
 | cells, [] => Xa cells
 | cells, (i, v) :: rest =>
  match place i,v.cells with
  | some (off, size), Xa vc =>
   if vc.length=size∧off+size≤cells.length then Zhs place (cells.take off++vc++cells.drop (off+size)) rest else Xe
  | _, _ => Xe
def ZoE:List SC→CE
 | [] => .nil
 | c :: cs => .cons c (ZoE cs)
def lOf (size:Nat) (cs:List SC):Nat→LE
 | 0 => .nil
 | n + 1 => .snoc (lOf size cs n) (ZoE ((cs.drop (n * size)).take size))
def Zo5 (s:Sh) (c:SC):Option SC:=
 match s,c with
 | .slice s, .slice _ s' l => if s' = s then Xa (.slice Xc s l) else (match l with | .nil => Xa (.slice Xc s .nil) | _ => Xe)
 | _, c => Xa c
def KX:List Sh→List SC→Option (List SC)
 | [], [] => Xa []
 | s :: ss, c :: cs => match Zo5 s c, KX ss cs with | some v, Xa vs => Xa (v :: vs) | _, _ => Xe
 | _, _ => Xe
def Zo9:SC→SC→Option BE
 | .int k a, .int k' b => if k = k' then Xa (.cmp .eql a b) else Xe
 | .bool a, .bool b => Xa (.beq a b)
 | _, _ => Xe
def ZcZ:List SC→List SC→Option BE
 | [], [] => Xa (.lit Xb)
 | a :: aZ, b :: bs =>
  match Zo9 a b,ZcZ aZ bs with
  | some x, Xa y => Xa (.and x y)
  | _, _ => Xe
 | _, _ => Xe
def kindOk (sh:Sh) (c:SC):Bool:=
 match sh,c with
 | .int k, .int k' _ => decide (k = k')
 | .bool, .bool _ => Xb
 | _, _ => Xc
def ZaY:List Sh→List SC→Bool
 | [], [] => Xb
 | s :: ss, c :: cs => kindOk s c && ZaY ss cs
 | _, _ => Xc
def ZpJ (P:Program) (a:List TypeId) (T:TypeId) (xs b:List SC):Bool:=
 a.contains T&&match VP P 8 T with | some l=>ZaY l xs&&ZaY l b | none=>Xc
def bin (P:Program) (d:List TypeId) (op:BinOp) (T:TypeId) (x y:SV) (k:SV→STree):STree:=
 match x,y with
 | .c (.int kx a), .c (.int ky b) =>
  match op with
  | .shl => .req (.le (.lit 0) b) (k (.c (.int kx (.bin .shl kx a b))))
  | .shr => .req (.le (.lit 0) b) (k (.c (.int kx (.bin .shr kx a b))))
  | _ =>
   if kx=ky then
    match op with
    | .add => k (.c (.int kx (.bin .add kx a b)))
    | .sub => k (.c (.int kx (.bin .sub kx a b)))
    | .mul => k (.c (.int kx (.bin .mul kx a b)))
    | .quo => .req (.ne0 b) (k (.c (.int kx (.bin .quo kx a b))))
    | .rem => .req (.ne0 b) (k (.c (.int kx (.bin .rem kx a b))))
    | .and => k (.c (.int kx (.bin .and kx a b)))
    | .or => k (.c (.int kx (.bin .or kx a b)))
    | .xor => k (.c (.int kx (.bin .xor kx a b)))
    | .andNot => k (.c (.int kx (.bin .andNot kx a b)))
    | .eql => k (.c (.bool (.cmp .eql a b)))
    | .neq => k (.c (.bool (.cmp .neq a b)))
    | .lss => k (.c (.bool (.cmp .lss a b)))
    | .leq => k (.c (.bool (.cmp .leq a b)))
    | .gtr => k (.c (.bool (.cmp .gtr a b)))
    | .geq => k (.c (.bool (.cmp .geq a b)))
    | _ => .stuck 1
   else .stuck 2
 | .c (.str a), .c (.str b) =>
  match op with
  | .eql => k (.c (.bool (.seq a b)))
  | .neq => k (.c (.bool (.not (.seq a b))))
  | _ => .stuck 3
 | .c (.bool a), .c (.bool b) =>
  match P.underlying T with
  | some .bool =>
   match op with
   | .eql => k (.c (.bool (.beq a b)))
   | .neq => k (.c (.bool (.not (.beq a b))))
   | _ => .stuck 4
  | _ => .stuck 5
 | .agg xs, .agg ys =>
  match ZpJ P d T xs ys,ZcZ xs ys with
  | true, Xa e =>
   match op with
   | .eql => k (.c (.bool e))
   | .neq => k (.c (.bool (.not e)))
   | _ => .stuck 6
  | _, _ => .stuck 7
 | _, _ => .stuck 8
def Zqd (a:Bool) (s:Nat) (xs:LE) (b d e:Option SV) (k:SV→STree):STree:=
 match b,d,e with
 | none, Xa (.c (.int _ (.lit 0))), Xa (.c (.int _ (.lit 0))) => k (.c (.slice Xb s .nil))
 | none, Xe, Xe => k (.c (.slice a s xs))
 | some (.c (.int _ l)), Xe, Xe => .req (.le (.lit 0) l) (.req (.le l (.len xs)) (k (.c (.slice a s (.drop xs l)))))
 | none, Xa (.c (.int _ h)), Xe => .req (.le (.lit 0) h) (.req (.le h (.len xs)) (k (.c (.slice Xc s (.take xs h)))))
 | some (.c (.int _ l)), Xa (.c (.int _ h)), Xe =>
  .req (.le (.lit 0) l) (.req (.le l h) (.req (.le h (.len xs)) (k (.c (.slice Xc s (.drop (.take xs h) l))))))
 | _, _, _ => .stuck 10
def ZCk (P:Program) (T:TypeId) (x:SV) (k:SV→STree):STree:=
 match P.underlying T,x with
 | some (.slice _), .c (.slice _ _ xs) => k (.c (.int .i64 (.len xs)))
 | some .string, .c (.str s) => k (.c (.int .i64 (.slen s)))
 | _, _ => .stuck 11
def Wt (P:Program) (a:Odr) (g:Nat→SV) (b t:Nat) (x:Bool) (e:TypeId) (l:LE):Option Ups:=
 match x with
 | false => Xa [(t, .c (.slice Xc (P.cellsOf e) l))]
 | true => match a with | .text => Xa ((t, .dead) :: Kd g t b) | .any N => match N t with | true => Xa [(t, .dead)] | false => Xe
def Zc5 (P:Program) (T:TypeId) (a:Odr) (g:Nat→SV) (f:Nat) (h:Bool) (d:Option Nat) (x y:SV) (k:SV→Ups→STree):STree:=
 match P.underlying T with
 | some (.slice e) =>
  match P.info? e with
  | some i =>
   match i.zero with
   | some z =>
    if z.cells.size=i.size∧0 < i.size then
     match x,y with
     | .own b e' xs, .c (.slice _ s ys) =>
      match d with
      | some t =>
       match Wt P a g f t b e' xs with
       | some us => if e' = e ∧ s = i.size then .req (.room xs ys i.bytes) (k (.own b e (.app xs ys)) us) else .stuck 20
       | none => .stuck 23
      | none => .stuck 21
     | .c (.slice Xb _ .nil), .c (.slice _ s ys) =>
      if s=i.size then .req (.room .nil ys i.bytes) (k (.own h e ys) []) else .stuck 22
     | _, _ => .stuck 24
    else .stuck 25
   | none => .stuck 26
  | none => .stuck 27
 | _ => .stuck 28
def Ym:Operand→Option Nat
 | .tmp t => Xa t
 | _ => Xe
def Zrz (a:Bool) (cs:List BC):SV:=match a with | true=>.gbox cs | false=>.box cs
inductive SAK where
 | imm (x : SV)
 | own (t : Nat) (x : Bool) (e : TypeId) (l : LE)
 | box (d : Nat) (fr to : Bool) (cs : List BC)
 | clo (g : FuncId) (ds gs : List Nat)
 | pad
def SAK.sv:SAK→SV
 | .imm x => x
 | .own _ x e l => .own x e l
 | .box _ _ to cs => Zrz to cs
 | .clo g _ gs => .clo g gs
 | .pad => .dead
def SAK.slot:SAK→Option Nat
 | .imm _ => Xe
 | .own t _ _ _ => Xa t
 | .box d _ _ _ => Xa d
 | .clo _ _ _ => Xe
 | .pad => Xe
def Zux (P:Program) (g:Nat→SV) (x:Operand):Option SAK:=
 match Ym x,(Ym x).map g with
 | some t, Xa (.own x e l) => Xa (.own t x e l)
 | _, _ =>
  match YQ P g x with
  | .c v => Xa (.imm (.c v))
  | .agg cs => Xa (.imm (.agg cs))
  | .ptr d 0 =>
   match g d with
   | .box cs => if W0 cs = Xb then Xa (.box d Xc Xc cs) else Xe
   | _ => Xe
  | .clo h ds => Xa (.clo h ds [])
  | .mref d q =>
   match Kq (g d) q with
   | some (e, l) => if 0 < P.cellsOf e then Xa (.imm (.c (.slice Xc (P.cellsOf e) l))) else Xe
   | none => Xe
  | _ => Xe
def Zgn (P:Program) (g:Nat→SV) (args:List Operand):List (Nat×Nat):=
 args.filterMap fun x=>
  match (Ym x).map g with
  | some (.own _ _ _) => Xe
  | _ => match YQ P g x with | .mref d q => Xa (d, q) | _ => Xe
def ZcQ (x:SC):Bool:=match x with | .slice _ _ _=>Xc | _=>Xb
def Zo1 (x:BC):Bool:=match x with | .c x=>ZcQ x | _=>Xc
def ZCM (x:TC):Bool:=match x with | .c x=>ZcQ x | .agg cs=>cs.all ZcQ | _=>Xc
def ZlO (x:SV):Bool:=
 match x with
 | .c x => ZcQ x
 | .dead => Xb
 | .agg cs => cs.all ZcQ
 | .box cs => cs.all Zo1
 | .gbox cs => cs.all Zo1
 | .tuple vs => vs.all ZCM
 | _ => Xc
def ZAx (b:List (Nat×Nat)) (a:List Nat) (res:SV) (outs:List SV):Bool:=
 match b with
 | [] => Xb
 | p :: r => r.all (fun q => decide (q.1 = p.1) && decide (q.2 = p.2)) && !a.contains p.1 && ZlO res && outs.all ZlO
def ZfA (P:Program) (g:Nat→SV):List Operand→Option (List SAK)
 | [] => Xa []
 | x :: rest =>
  match Zux P g x,ZfA P g rest with
  | some a, Xa aZ => Xa (a :: aZ)
  | _, _ => Xe
def Jm:List SAK→List Nat
 | [] => []
 | .clo _ ds _ :: aZ => (ds.filter fun d => !(Jm aZ).contains d).eraseDups ++ Jm aZ
 | _ :: aZ => Jm aZ
def Zyh (d:Nat):List Nat→Nat
 | [] => 0
 | x :: xs => if x = d then 0 else Zyh d xs + 1
def ZvA (g:Nat→SV) (a:Bool) (d:Nat):Option SAK:=
 match g d with
 | .box cs => if W0 cs = Xb then Xa (.box d Xc a cs) else Xe
 | .gbox cs => if W0 cs = Xb then Xa (.box d Xb a cs) else Xe
 | _ => Xe
def ZbW (g:Nat→SV) (b:Bool):List Nat→Option (List SAK)
 | [] => Xa []
 | d :: ds => match ZvA g b d, ZbW g b ds with | some a, Xa aZ => Xa (a :: aZ) | _, _ => Xe
def ZhK (base:Nat) (b:List Nat):SAK→SAK
 | .clo g ds _ => .clo g ds (ds.map fun d => base + Zyh d b)
 | a => a
def ZdW (g:Nat→SV) (b:Nat) (a:List SAK):Option (List SAK):=
 match Jm a with
 | [] => Xa a
 | gh => if a.length ≤ b then (ZbW g Xb gh).map fun c => a.map (ZhK b gh) ++ Xx (b - a.length) .pad ++ c else Xe
def ZfG:List Nat→Bool
 | [] => Xb
 | x :: xs => !xs.contains x && ZfG xs
def ZDC (a b:Bool) (o:SV):SV:=
 match b,o with
 | true, .gbox cs => Zrz a cs
 | false, .box cs => Zrz a cs
 | _, _ => .dead
def ZcX:List SAK→List SV→Ups
 | .own t _ _ _ :: aZ, _ :: os => (t, .gone) :: ZcX aZ os
 | .box d fr to _ :: aZ, o :: os => (d, ZDC fr to o) :: ZcX aZ os
 | .imm _ :: aZ, _ :: os => ZcX aZ os
 | .clo _ _ _ :: aZ, _ :: os => ZcX aZ os
 | .pad :: aZ, _ :: os => ZcX aZ os
 | _, _ => []
def ZrU:BC→Sh
 | .c (.int k _) => .int k
 | .c (.bool _) => .bool
 | .c (.str _) => .str
 | .c (.slice _ s _) => .slice s
 | .own x e _ => .own x e
def Zwk:Sh→Nat→BC
 | .own x e, n => .own x e (.var n)
 | s, n => .c (KT s n)
def Wr:List Sh→Nat→List BC
 | [], _ => []
 | s :: ss, n => Zwk s n :: Wr ss (n + 1)
def J6:List SV→Nat→List SV×List Sh×Nat
 | [], n => ([], [], n)
 | .box cs :: aZ, n =>
  let sh:=cs.map ZrU
  let r:=J6 aZ (n+sh.length)
  (.box (Wr sh n)::r.1,sh++r.2.1,r.2.2)
 | .gbox cs :: aZ, n =>
  let sh:=cs.map ZrU
  let r:=J6 aZ (n+sh.length)
  (.gbox (Wr sh n)::r.1,sh++r.2.1,r.2.2)
 | _ :: aZ, n =>
  let r:=J6 aZ n
  (.dead::r.1,r.2.1,r.2.2)
def Zr5 (P:Program) (a:Nat) (T:TypeId):Option RSh:=
 match P.underlying T with
 | some (.struct _) => (VP P 8 T).map .agg
 | some (.array _ _) => (VP P 8 T).map .agg
 | some (.slice e) => Xa (.c (match a with | 0 => .slice (P.cellsOf e) | 1 => .own Xc e | _ => .own Xb e))
 | some (.int k) => Xa (.c (.int k))
 | some .bool => Xa (.c .bool)
 | some .string => Xa (.c .str)
 | _ => Xe
def ZwJ (r:RSh) (n:Nat):TC×List Sh:=
 match r with
 | .c (.own x e) => (.own x e (.var n), [.own x e])
 | .c s => (.c (KT s n), [s])
 | .agg l => (.agg (JF l n), l)
def ZbJ (P:Program) (a:Nat):List TypeId→Nat→Option (List TC×List Sh×Nat)
 | [], n => Xa ([], [], n)
 | T :: Ts, n =>
  match Zr5 P a T with
  | some r =>
   let x:=ZwJ r n
   match ZbJ P a Ts (n+x.2.length) with
   | some (vs, sh, n') => Xa (x.1 :: vs, x.2 ++ sh, n')
   | none => Xe
  | none => Xe
def ZDy:TC→SV
 | .c x => .c x
 | .agg cs => .agg cs
 | .own x e l => .own x e l
 | .gone => .gone
def Zgt (P:Program) (a:Nat) (Ts:List TypeId) (n:Nat):Option (SV×List Sh×Nat):=
 match ZbJ P a Ts n with
 | some ([x], sh, n') => Xa (ZDy x, sh, n')
 | some (vs, sh, n') => Xa (.tuple vs, sh, n')
 | none => Xe
inductive HP where
 | c (s : Sh)
 | agg (l : List Sh)
 | box (l : List Sh)
 | mref (d k : Nat)
 | ptr (d off : Nat)
 | dead
 | gbox (l : List Sh)
 | clo (g : FuncId) (ds : List Nat)
structure Env where
 nt:Nat
 cons:FuncId→Nat→Bool
 fresh:FuncId→Nat
 plain:List TypeId
 res:List Nat
 keep:Nat→List (Nat×HP)
 pins:List Nat
 ng:Nat
 ex:List Nat
 fz:Nat→List (Nat×Nat)
abbrev Env.top (E:Env):Nat:=E.nt+E.ng
def gE (E:Env) (s:Tr):Nat→SV:=fun d=>if d < E.top then s.get d else .dead
def ZfO:List SV→Option (List Nat)
 | [] => Xa []
 | .ptr d 0 :: r => (ZfO r).map fun ds => d :: ds
 | _ => Xe
def ZGx (P:Program) (f:FuncId):Nat:=match P.funcs[f]? with | some fn=>fn.ntmps | none=>0
def Zmd (c:Odr) (g:Nat→SV) (d:Nat) (b:List SAK):Bool:=
 b.all fun a=>match a with | .own t Xb _ _=>(match c with | .text=>(Kd g t d).isEmpty | .any N=>N t) | _=>Xb
def Zm6 (P:Program) (E:Env) (a:Odr) (g:Nat→SV) (f:FuncId) (b:List (Nat×Nat)) (c:Option (List SAK)) (n:Nat) (k:K):STree:=
 match c,(P.funcs[f]?).map (·.resultTypes) with
 | some saks, Xa Ts =>
  if ZfG (saks.filterMap SAK.slot)=Xb∧Zmd a g E.top saks=Xb then
   match Zgt P (E.fresh f) Ts.toList n with
   | some (res, sh, n') =>
    let r:=J6 (saks.map SAK.sv) n'
    if ZAx b (saks.filterMap SAK.slot) res r.1=Xb then .call f (saks.map SAK.sv) res r.1 n (sh++r.2.1) (k res (ZcX saks r.1) (saks.filterMap SAK.slot++b.map (·.1)) r.2.2) else .stuck 136
   | none => .stuck 87
  else .stuck 86
 | _, _ => .stuck 184
def Env.exO (E:Env) (o:Oper):Bool:=match o.dst with | some d=>E.ex.contains d | none=>Xc
def ZhD (P:Program) (E:Env) (a:Odr) (b:Bool) (g:Nat→SV) (t:Nat) (x:Bool) (e:TypeId) (xs:LE) (n:Nat) (k:K):STree:=
 match b with
 | true =>
  match Wt P a g E.top t x e xs with
  | some us => k (.own x e xs) us [] n
  | none => .stuck 29
 | false => match x with | true => k (.mref t 0) [] [] n | false => k (.c (.slice Xc (P.cellsOf e) xs)) [] [] n
def ZkK (g:Nat→SV):List (Nat×Operand)→Option (Nat×Nat×TypeId×LE)
 | [(f, .tmp t)] => match g t with | .own Xb e l => Xa (f, t, e, l) | _ => Xe
 | _ => Xe
def ZgK (P:Program) (E:Env) (a:Odr) (g:Nat→SV) (T:TypeId) (f t:Nat) (e:TypeId) (l:LE) (n:Nat) (k:K):STree:=
 match P.underlying T,P.info? T with
 | some (.struct fs), Xa i =>
  if (fs.toList.all fun f=>(P.info? f.type).isSome)=Xb then
   match i.zero,fs[f]? with
   | some z, Xa fd =>
    match Ziu z.cells.toList,Wt P a g E.top t Xb e l with
    | some zc, Xa us => if P.cellsOf fd.type = 1 ∧ fd.offset < zc.length then k (.aggo ((zc.map .c).set fd.offset (.own Xb e l))) us [] n else .stuck 130
    | _, _ => .stuck 131
   | _, _ => .stuck 132
  else .stuck 133
 | _, _ => .stuck 134
def Zvg (a:IE) (d off s m:Nat) (k:SV→STree):Nat→STree
 | 0 => .stuck 192
 | j + 1 =>
  match j with
  | 0 => .req (.le (.lit (m - 1 : Nat)) a) (.req (.le a (.lit (m - 1 : Nat))) (k (.ptr d (off + (m - 1) * s))))
  | j' + 1 => .branch (.cmp .eql a (.lit (m - (j' + 2) : Nat))) (k (.ptr d (off + (m - (j' + 2)) * s))) (Zvg a d off s m k (j' + 1))
def Km (P:Program) (E:Env) (r:Odr) (u:Bool) (g:Nat→SV) (o:Oper) (n:Nat) (k:K):STree:=
 match o.op with
 | .move x =>
  match x with
  | .tmp t =>
   match g t with
   | .tuple vs => k (.tuple vs) [(t, .gone)] [] n
   | .own b e xs => ZhD P E r u g t b e xs n k
   | _ => k (YQ P g x) [] [] n
  | x => k (YQ P g x) [] [] n
 | .assign x =>
  match x with
  | .tmp t =>
   match g t with
   | .tuple _ => .stuck 30
   | .own b e xs => ZhD P E r u g t b e xs n k
   | _ => k (YQ P g x) [] [] n
  | .const (.slice Xe 0 0) =>
   match P.underlying o.type with
   | some (.slice e) => k (.own (E.exO o) e .nil) [] [] n
   | _ => .stuck 31
  | x => k (YQ P g x) [] [] n
 | .pick c a b =>
  match YQ P g c with
  | .c (.bool v) => ZgQ v (k (YQ P g a) [] [] n) (k (YQ P g b) [] [] n)
  | _ => .stuck 32
 | .alloc T =>
  match ZwO P T with
  | some cs => k (.box cs) [] [] n
  | none => .stuck 33
 | .box _ x =>
  match (YQ P g x).cells with
  | some cs => k (.box (cs.map .c)) [] [] n
  | none => .stuck 34
 | .build T parts =>
  match ZkK g parts.toList with
  | some (f, t, e, l) => ZgK P E r g T f t e l n k
  | none =>
  match P.underlying T,P.info? T with
  | some (.struct fs), Xa i =>
   if (fs.toList.all fun f=>(P.info? f.type).isSome)=Xb then
   match i.zero with
   | some z =>
    match Ziu z.cells.toList with
    | some zc =>
     match Zhs (fun i=>(fs[i]?).map fun f=>(f.offset,P.cellsOf f.type)) zc (parts.toList.map fun p=>(p.1,YQ P g p.2)) with
     | some cs => k (.agg cs) [] [] n
     | none => .stuck 35
    | none => .stuck 36
   | none => .stuck 37
   else .stuck 39
  | _, _ => .stuck 38
 | .buildSlice T len parts =>
  match P.underlying T with
  | some (.slice e) =>
   match P.info? e with
   | some i =>
    match i.zero with
    | some z =>
     match Ziu z.cells.toList with
     | some zc =>
      if z.cells.size=i.size∧0 < i.size∧len*i.size≤1048576 then
       match Zhs (fun j=>Xa (j*i.size,i.size)) ((Xx len zc).flatten) (parts.toList.map fun p=>(p.1,YQ P g p.2)),VP P 8 e with
       | some cs, Xa sh =>
        match KX ((Xx len sh).flatten) cs with
        | some cs' => k (.own (E.exO o) e (lOf i.size cs' len)) [] [] n
        | none => .stuck 46
       | _, _ => .stuck 40
      else .stuck 41
     | none => .stuck 42
    | none => .stuck 43
   | none => .stuck 44
  | _ => .stuck 45
 | .load T a =>
  match YT P T,YQ P g a with
  | some Xb, .ptr d off =>
   match g d with
   | .box cs => if off + P.cellsOf T ≤ cs.length ∧ W0 ((cs.drop off).take (P.cellsOf T)) = Xb then k (.agg (((cs.drop off).take (P.cellsOf T)).map (Zgb P))) [] [d] n else .stuck 50
   | _ => .stuck 51
  | some Xc, .ptr d off =>
   match g d with
   | .box cs =>
    match cs[off]? with
    | some (.own b e xs) =>
     match b with
     | true => k (.mref d (off + 1)) [] [d] n
     | false => if u = Xb then k (.own Xc e xs) [(d, .box (cs.set off (.c (.slice Xc (P.cellsOf e) xs))))] [d] n else k (.c (.slice Xc (P.cellsOf e) xs)) [] [d] n
    | some (.c x) => k (.c x) [] [d] n
    | none => .stuck 52
   | _ => .stuck 53
  | some agg, .eref d q i s off =>
   match Kq (g d) q with
   | some (e, l) =>
    match VP P 8 e with
    | some sh =>
     if s=P.cellsOf e∧sh.length=s∧off+P.cellsOf T≤s∧0 < P.cellsOf T then
      .elem l i sh n (k (match agg with | true=>.agg (((JF sh n).drop off).take (P.cellsOf T)) | false=>match (JF sh n)[off]? with | some x=>.c x | none=>.dead) [] [d] (n+sh.length))
     else .stuck 59
    | none => .stuck 157
   | none => .stuck 158
  | some Xb, .eptr cs => if P.cellsOf T ≤ cs.length then k (.agg (cs.take (P.cellsOf T))) [] [] n else .stuck 54
  | some Xc, .eptr cs =>
   match cs with
   | x :: _ => k (.c x) [] [] n
   | [] => .stuck 55
  | _, _ => .stuck 56
 | .store T a x =>
  match YQ P g a with
  | .ptr d off =>
   match g d with
   | .box cs =>
    match Ym x,(Ym x).map g with
    | some t, Xa (.own b e xs) =>
     match Wt P r g E.top t b e xs with
     | some us =>
      if P.cellsOf T=1∧off < cs.length∧W0 ((cs.drop off).take 1)=Xb then
       k .dead (us++[(d,.box (cs.set off (.own b e xs)))]) [d] n
      else .stuck 60
     | none => .stuck 159
    | some t, Xa (.aggo vc) =>
     if vc.length=P.cellsOf T∧0 < P.cellsOf T∧off+P.cellsOf T≤cs.length∧W0 ((cs.drop off).take (P.cellsOf T))=Xb then
      k .dead [(t,.dead),(d,.box (cs.take off++vc++cs.drop (off+P.cellsOf T)))] [d] n
     else .stuck 135
    | _, _ =>
     match (YQ P g x).cells with
     | some vc =>
      if vc.length=P.cellsOf T∧0 < P.cellsOf T∧off+P.cellsOf T≤cs.length∧W0 ((cs.drop off).take (P.cellsOf T))=Xb then
       k .dead [(d,.box (cs.take off++vc.map .c++cs.drop (off+P.cellsOf T)))] [d] n
      else .stuck 61
     | none => .stuck 62
   | _ => .stuck 63
  | .eref d q i s off =>
   match Kq (g d) q,(YQ P g x).cells with
   | some (e, l), Xa vc =>
    match VP P 8 T with
    | some sh =>
     match KX sh vc with
     | some vc' =>
      if s=P.cellsOf e∧vc.length=P.cellsOf T∧0 < P.cellsOf T∧off+P.cellsOf T≤P.cellsOf e then
       .req (.le (.lit 0) i) (.req (.lt i (.len l)) (k .dead [(d,VF (g d) q Xb e (.setAt l i off (ZoE vc')))] [d] n))
      else .stuck 160
     | none => .stuck 161
    | none => .stuck 162
   | _, _ => .stuck 163
  | _ => .stuck 64
 | .nilCheck x =>
  match YQ P g x with
  | .ptr d off => k (.ptr d off) [] [] n
  | .eptr cs => k (.eptr cs) [] [] n
  | .eref d q i s off => k (.eref d q i s off) [] [] n
  | _ => .stuck 65
 | .binOp op T x y _ => bin P E.plain op T (YQ P g x) (YQ P g y) fun v => k v [] [] n
 | .unOp op _ x =>
  match op,YQ P g x with
  | .not, .c (.bool b) => k (.c (.bool (Zrr b))) [] [] n
  | .neg, .c (.int kd e) => k (.c (.int kd (.bin .sub kd (.lit 0) e))) [] [] n
  | .xor, .c (.int kd e) => k (.c (.int kd (.bin .xor kd (.lit (if kd.signed = Xb then -1 else kd.max)) e))) [] [] n
  | _, _ => .stuck 66
 | .convert src dst x =>
  match P.underlying src,P.underlying dst,YQ P g x with
  | some (.int _), Xa (.int kd), .c (.int _ e) => k (.c (.int kd (.conv kd e))) [] [] n
  | some (.slice e), Xa .string, .c (.slice _ s xs) =>
   match P.underlying e with
   | some (.int .u8) => if s = 1 then .req (.bytes xs) (k (.c (.str (.bytes xs))) [] [] n) else .stuck 67
   | _ => .stuck 68
  | _, _, _ => .stuck 69
 | .fieldAddr T x f =>
  match KC P T f,YQ P g x with
  | some off, .ptr d o => k (.ptr d (o + off)) [] [] n
  | some off, .eptr cs => k (.eptr (cs.drop off)) [] [] n
  | some off, .eref d q i s o => k (.eref d q i s (o + off)) [] [] n
  | _, _ => .stuck 70
 | .field T x f =>
  match KC P T f,Zg0 P T f,YQ P g x with
  | some off, Xa (agg, sz), .agg cs =>
   if off+sz≤cs.length∧0 < sz then
    match agg with
    | true => k (.agg ((cs.drop off).take sz)) [] [] n
    | false => match cs[off]? with | some c => k (.c c) [] [] n | none => .stuck 195
   else .stuck 196
  | _, _, _ => .stuck 197
 | .indexAddr T x i =>
  match P.underlying T,YQ P g x,YQ P g i with
  | some (.slice e), .c (.slice _ s xs), .c (.int _ ix) =>
   match VP P 8 e with
   | some sh => if s = P.cellsOf e ∧ sh.length = s ∧ 0 < s then .elem xs ix sh n (k (.eptr (JF sh n)) [] [] (n + sh.length)) else .stuck 71
   | none => .stuck 72
  | some (.array m e), .ptr d off, .c (.int _ ix) =>
   if 0 < P.cellsOf e∧2≤m then
    match ix with
    | .lit z => if 0 ≤ z ∧ z < (m : Int) then k (.ptr d (off + z.toNat * P.cellsOf e)) [] [] n else .stuck 193
    | ix => Zvg ix d off (P.cellsOf e) m (fun x => k x [] [] n) m
   else .stuck 194
  | some (.slice e), .mref d q, .c (.int _ ix) =>
   match Kq (g d) q with
   | some (e', l) => if e' = e ∧ 0 < P.cellsOf e then .req (.le (.lit 0) ix) (.req (.lt ix (.len l)) (k (.eref d q ix (P.cellsOf e) 0) [] [d] n)) else .stuck 164
   | none => .stuck 165
  | _, _, _ => .stuck 73
 | .makeSlice T a b =>
  match YQ P g a,YQ P g b with
  | .c (.int .i64 m), .c (.int .i64 m') =>
   match P.underlying T with
   | some (.slice e) =>
    match P.info? e with
    | some i =>
     match i.zero with
     | some z =>
      match Ziu z.cells.toList,VP P 8 e with
      | some zc, Xa sh =>
       match KX sh zc with
       | some zc' => if z.cells.size = i.size then .req (.make m i.bytes) (.req (.le m m') (.req (.le m' m) (k (.own (!(E.exO o)) e (.rep m (ZoE zc'))) [] [] n))) else .stuck 166
       | none => .stuck 167
      | _, _ => .stuck 168
     | none => .stuck 169
    | none => .stuck 170
   | _ => .stuck 171
  | _, _ => .stuck 172
 | .slice T x lo hi mx =>
  match P.underlying T,YQ P g x with
  | some (.slice e), .c (.slice full s xs) => if s = P.cellsOf e ∧ 0 < s then Zqd full s xs (lo.map (YQ P g)) (hi.map (YQ P g)) (mx.map (YQ P g)) fun v => k v [] [] n else .stuck 75
  | some (.slice e), .mref d 0 =>
   match lo,hi.map (YQ P g),mx,g d with
   | none, Xa (.c (.int _ h)), Xe, .own Xb e' l =>
    match Wt P r g E.top d Xb e' l with
    | some us => if e' = e ∧ 0 < P.cellsOf e then .req (.le (.lit 0) h) (.req (.le h (.len l)) (k (.own Xb e (.take l h)) us [d] n)) else .stuck 137
    | none => .stuck 138
   | _, _, _, _ => .stuck 139
  | _, _ => .stuck 76
 | .extract x i =>
  match Ym x,(Ym x).map g with
  | some t, Xa (.tuple vs) =>
   match vs[i]? with
   | some (.own b e xs) => k (.own b e xs) [(t, .tuple (vs.set i (match b with | true => .gone | false => .c (.slice Xc (P.cellsOf e) xs))))] [] n
   | some (.c x) => k (.c x) [] [] n
   | some (.agg cs) => k (.agg cs) [] [] n
   | some .gone => .stuck 79
   | none => .stuck 77
  | _, _ => .stuck 78
 | .makeFunc fn first captured =>
  match fn,first.toList,ZfO (captured.toList.map (YQ P g)) with
  | .func f, [], Xa ds => if ds.all (fun d => match g d with | .box _ => Xb | _ => Xc) = Xb then k (.clo f ds) [] ds n else .stuck 180
  | _, _, _ => .stuck 181
 | .call c =>
  match c.callee with
  | .builtin .len =>
   match c.args.toList,c.argTypes.toList with
   | [x], [T] =>
    match YQ P g x with
    | .mref d q =>
     match P.underlying T,Kq (g d) q with
     | some (.slice _), Xa (_, l) => k (.c (.int .i64 (.len l))) [] [d] n
     | _, _ => .stuck 173
    | v => ZCk P T v fun v => k v [] [] n
   | _, _ => .stuck 80
  | .builtin .copy =>
   match c.args.toList,c.argTypes.toList with
   | [x, y], [T, _] =>
    match P.underlying T,YQ P g x,YQ P g y with
    | some (.slice e), .mref d q, .c (.slice _ s ys) =>
     match Kq (g d) q with
     | some (e', l) => if e' = e ∧ P.cellsOf e = 1 ∧ s = 1 then k .dead [(d, VF (g d) q Xb e (.spl l ys))] [d] n else .stuck 174
     | none => .stuck 175
    | _, _, _ => .stuck 176
   | _, _ => .stuck 177
  | .builtin .append =>
   match c.args.toList,c.argTypes.toList with
   | [x, y], [T, T'] =>
    if T=T' then
     match Ym x with
     | some t => Zc5 P T r g E.top (E.exO o) (Xa t) (g t) (YQ P g y) fun v us => k v us [] n
     | none => Zc5 P T r g E.top (E.exO o) Xe (YQ P g x) (YQ P g y) fun v us => k v us [] n
    else .stuck 81
   | _, _ => .stuck 82
  | .builtin .min =>
   match c.args.toList.map (YQ P g) with
   | [.c (.int ka a), .c (.int kb b)] => if ka = kb then k (.c (.int ka (.bin .min ka a b))) [] [] n else .stuck 83
   | _ => .stuck 84
  | .builtin .max =>
   match c.args.toList.map (YQ P g) with
   | [.c (.int ka a), .c (.int kb b)] => if ka = kb then k (.c (.int ka (.bin .max ka a b))) [] [] n else .stuck 85
   | _ => .stuck 86
  | .value (.func f) =>
   match ZfA P g c.args.toList with
   | some aZ => Zm6 P E r g f (Zgn P g c.args.toList) (ZdW g (ZGx P f) aZ) n k
   | none => .stuck 88
  | .value (.tmp t) =>
   match g t,ZfA P g c.args.toList with
   | .clo f ds, Xa aZ =>
    match ZbW g Xc ds with
    | some cs => Zm6 P E r g f (Zgn P g c.args.toList) (ZdW g (ZGx P f) (aZ ++ cs)) n k
    | none => .stuck 182
   | _, _ => .stuck 183
  | _ => .stuck 89
 | _ => .stuck 90
def ZcO (a b:SV):Bool:=
 match a,b with
 | .gbox _, _ => Xc
 | _, .gbox _ => Xc
 | .box _, _ => Xc
 | .own Xb _ _, _ => Xc
 | .dead, .box _ => Xb
 | _, .box _ => Xc
 | _, _ => Xb
def Yy:Ups→Tr→Tr
 | [], s => s
 | (d, x) :: us, s => Yy us (s.set depth d x)
def ZaE (o:Oper):List Nat:=o.op.operands.toList.filterMap Ym
structure Log where
 i:Nat
 F:List Nat
 D:List Nat
def ZDx (x:SV):Bool:=match x with | .box _=>Xb | _=>Xc
def Zet (a:Odr) (x:SV):Bool:=
 match a,x with
 | .any N, .mref d _ => !N d
 | .any N, .eref d _ _ _ _ => !N d
 | _, _ => Xb
def ZnJ (P:Program) (E:Env) (b:Odr) (g:Bool) (B:Nat→Bool) (o:Oper) (i:Nat) (s:Tr) (c:List Nat) (n:Nat) (a:Tr→Nat→Log→STree):STree:=
 Km P E b g (gE E s) o n fun x us e f=>
  if us.all (fun u=>(decide (u.1 < E.top)&&(!B u.1||ZDx u.2))&&Zet b u.2)=Xb∧Zet b x=Xb then
   match o.dst with
   | some d =>
    if d < E.nt∧ZcO (gE E (Yy us s) d) x=Xb∧B d=Xc then
     a ((Yy us s).set depth d x) f ⟨i,(ZaE o).filter (fun t=>!B t)++c++e++us.map (·.1)++[d],us.map (·.1)++[d]⟩
    else .stuck 100
   | none => a (Yy us s) f ⟨i, (ZaE o).filter (fun t => !B t) ++ c ++ e ++ us.map (·.1), us.map (·.1)⟩
  else .stuck 104
def Zeu (E:Env) (B:Nat→Bool) (o:Oper) (i:Nat) (s:Tr) (b:List Nat) (n:Nat) (a:Tr→Nat→Log→STree):STree:=
 match o.dst with
 | some d => if d < E.nt ∧ ZcO (gE E s d) .dead = Xb ∧ B d = Xc then a (s.set depth d (.tuple [])) n ⟨i, b ++ [d], [d]⟩ else .stuck 101
 | none => a s n ⟨i, b, []⟩
def ZqF (P:Program) (E:Env) (d:Odr) (e:Bool) (B:Nat→Bool) (ops:Array Oper) (o:Oper) (i:Nat) (s:Tr) (n:Nat) (a:Tr→Nat→Log→STree):STree:=
 match o.guard with
 | none => ZnJ P E d e B o i s [] n a
 | some (j, want) =>
  match (ops[j]?).bind (·.dst) with
  | none => .stuck 102
  | some gd =>
   match gE E s gd with
   | .tuple [] => Zeu E B o i s [gd] n a
   | .c (.bool (.lit b)) => if want = b then ZnJ P E d e B o i s [gd] n a else Zeu E B o i s [gd] n a
   | .c (.bool b) =>
    .branch b (if want=Xb then ZnJ P E d e B o i (s.set depth gd (.c (.bool (.lit Xb)))) [gd] n a else Zeu E B o i (s.set depth gd (.c (.bool (.lit Xb)))) [gd] n a)
     (if want=Xc then ZnJ P E d e B o i (s.set depth gd (.c (.bool (.lit Xc)))) [gd] n a else Zeu E B o i (s.set depth gd (.c (.bool (.lit Xc)))) [gd] n a)
   | _ => .stuck 103
def ZrJ (P:Program) (E:Env) (a:Odr) (b:Nat→Bool) (B:Nat→Bool) (ops:Array Oper):List Oper→Nat→Tr→Nat→List Log→(Tr→Nat→List Log→STree)→STree
 | [], _, s, n, logs, k => k s n logs
 | o :: rest, i, s, n, logs, k => ZqF P E a (b i) B ops o i s n fun c d e => ZrJ P E a b B ops rest (i + 1) c d (e :: logs) k
def ZoW (t:Nat) (x:Operand):Bool:=
 match x with
 | .tmp t' => t' == t
 | _ => Xc
def ZCY (E:Env) (t:Nat) (o:Oper):Bool:=
 match o.op with
 | .call c =>
  match c.callee with
  | .builtin .append => match c.args.toList with | x :: _ => ZoW t x | [] => Xc
  | .value (.func f) => c.args.toList.zipIdx.any fun p => ZoW t p.1 && E.cons f p.2
  | _ => Xc
 | .assign x => ZoW t x && (match o.dst with | some d => E.res.contains d | none => Xc)
 | _ => Xc
def ZJe (E:Env) (ops:Array Oper) (i:Nat):Bool:=
 match ops[i]? with
 | some o =>
  match o.op with
  | .assign _ => Xb
  | .move _ => match o.dst with | some t => ops.toList.any (ZCY E t) | none => Xc
  | .load _ _ => match o.dst with | some t => ops.toList.any (ZCY E t) | none => Xc
  | _ => Xc
 | none => Xc
def ZEe (a b:List Nat):Bool:=a.all fun x=>!b.contains x
def Zko (ops:Array Oper) (c:List Log):Bool:=
 let B:=CheckFast.beforeF ops
 (ops.toList.zipIdx.all fun p=>p.1.after.all fun e=>!Region.binds .any e||decide (e.on < p.2))&&c.all fun a=>c.all fun b=>!(decide (b.i < a.i))||(B.getD a.i 0).testBit b.i||(ZEe b.D a.F&&ZEe a.D b.F)
def JS:Code→Nat
 | .region id _ _ => id
 | .seq a _ => JS a
 | .block _ c => JS c
 | .loop c => JS c
 | .scope c => JS c
 | .cond _ a _ => JS a
 | _ => 0
def Sh.imm:Sh→Bool
 | .own _ _ => Xc
 | _ => Xb
def ZtI (s:Sh) (x:SC):Option VE:=
 match s,x with
 | .int k, .int k' e => if k' = k then Xa (.i e) else Xe
 | .bool, .bool e => Xa (.b e)
 | .str, .str e => Xa (.s e)
 | .slice s, .slice _ s' l => if s' = s then Xa (.l l) else (match l with | .nil => Xa (.l .nil) | _ => Xe)
 | .own _ _, .slice Xb _ l => (match l with | .nil => Xa (.l .nil) | _ => Xe)
 | _, _ => Xe
def ZhR:List Sh→List SC→Option (List VE)
 | [], [] => Xa []
 | s :: ss, c :: cs => match ZtI s c, ZhR ss cs with | some v, Xa vs => Xa (v :: vs) | _, _ => Xe
 | _, _ => Xe
def LE.isNil:LE→Bool
 | .nil => Xb
 | _ => Xc
def ZeO (P:Program) (s:Sh) (x:Bool) (e:TypeId) (l:LE):Option VE:=
 match s with
 | .own x' e' => if e = e' ∧ (x = x' ∨ l.isNil = Xb) then Xa (.l l) else Xe
 | .slice s => if P.cellsOf e = s ∧ (x = Xc ∨ l.isNil = Xb) then Xa (.l l) else Xe
 | _ => Xe
def ZFf (P:Program) (s:Sh) (x:BC):Option VE:=
 match x with
 | .c x => ZtI s x
 | .own x e l => ZeO P s x e l
def Ze3 (P:Program):List Sh→List BC→Option (List VE)
 | [], [] => Xa []
 | s :: ss, c :: cs => match ZFf P s c, Ze3 P ss cs with | some v, Xa vs => Xa (v :: vs) | _, _ => Xe
 | _, _ => Xe
def ZmN (P:Program) (h:HP) (x:SV):Option (List VE):=
 match h,x with
 | .c s, .c x => (ZtI s x).map fun v => [v]
 | .c s, .own x e l => (ZeO P s x e l).map fun v => [v]
 | .agg l, .agg cs => if l.all Sh.imm = Xb then ZhR l cs else Xe
 | .box l, .box cs => Ze3 P l cs
 | .mref d k, .mref d' k' => if d' = d ∧ k' = k then Xa [] else Xe
 | .ptr d o, .ptr d' o' => if d' = d ∧ o' = o then Xa [] else Xe
 | .dead, _ => Xa []
 | .gbox l, .gbox cs => Ze3 P l cs
 | .clo g ds, .clo g' ds' => if g' = g ∧ ds' = ds then Xa [] else Xe
 | _, _ => Xe
def Zry (h:HP) (n:Nat):SV:=
 match h with
 | .c (.own x e) => .own x e (.var n)
 | .c s => .c (KT s n)
 | .agg l => .agg (JF l n)
 | .box l => .box (Wr l n)
 | .mref d k => .mref d k
 | .ptr d o => .ptr d o
 | .dead => .dead
 | .gbox l => .gbox (Wr l n)
 | .clo g ds => .clo g ds
def HP.n:HP→Nat
 | .c _ => 1
 | .agg l => l.length
 | .box l => l.length
 | .mref _ _ => 0
 | .ptr _ _ => 0
 | .dead => 0
 | .gbox l => l.length
 | .clo _ _ => 0
def KZ (P:Program) (g:Nat→SV):List (Nat×HP)→Option (List VE)
 | [] => Xa []
 | p :: r => match ZmN P p.2 (g p.1), KZ P g r with | some v, Xa vs => Xa (v ++ vs) | _, _ => Xe
def Jy:List (Nat×HP)→Nat→Ups×Nat
 | [], n => ([], n)
 | p :: r, n => let x := Jy r (n + p.2.n); ((p.1, Zry p.2 n) :: x.1, x.2)
def HP.isBox:HP→Bool
 | .box _ => Xb
 | _ => Xc
def HP.isPl (h:HP) (k:Nat):Bool:=
 match h,k with
 | .c (.own Xb _), 0 => Xb
 | .box l, k + 1 => match l[k]? with | some (.own Xb _) => Xb | _ => Xc
 | _, _ => Xc
def HP.isG:HP→Bool
 | .gbox _ => Xb
 | _ => Xc
def HP.place (E:Env) (d:Nat) (h:HP):Bool:=
 match h with
 | .gbox _ => decide (E.nt ≤ d) && decide (d < E.top)
 | _ => decide (d < E.nt)
def headOk (E:Env) (a:List (Nat×HP)):Bool:=
 ZfG (a.map (·.1))&&a.all (fun p=>p.2.place E p.1&&match p.2 with | .ptr d _=>a.any (fun q=>decide (q.1=d)&&q.2.isBox) | .mref d k=>a.any (fun q=>decide (q.1=d)&&q.2.isPl k) | .clo _ ds=>ds.all (fun d=>a.any fun q=>decide (q.1=d)&&(q.2.isBox||q.2.isG)) | _=>Xb)&&
  E.pins.all (fun d=>a.any fun q=>decide (q.1=d)&&q.2.isBox)&&(Ue E.ng).all fun j=>a.any fun q=>decide (q.1=E.nt+j)&&q.2.isG
def Zlf (P:Program) (g:Nat→SV):List (Nat×HP)→Nat
 | [] => 3000
 | p :: r => match ZmN P p.2 (g p.1) with | some _ => Zlf P g r | none => 2000 + p.1
def ZlA (ops:Array Oper):Option (Nat×Nat×Nat×TypeId×Bool):=
 match ops.toList with
 | [o, p] =>
  if o.guard.isNone=Xb∧p.guard.isNone=Xb then
   match o.op,o.dst,p.op,p.dst with
   | .move (.tmp x), Xa a, .binOp .eql T (.tmp b) (.const (.slice Xe 0 0)) _, Xa d => if b = a then Xa (x, a, d, T, Xc) else Xe
   | .move (.tmp x), Xa a, .binOp .neq T (.tmp b) (.const (.slice Xe 0 0)) _, Xa d => if b = a then Xa (x, a, d, T, Xb) else Xe
   | _, _, _, _ => Xe
  else Xe
 | _ => Xe
def ZqG (x:SV):Option LE:=
 match x with
 | .c (.slice _ _ l) => Xa l
 | .own _ _ l => Xa l
 | _ => Xe
def ZdF (ops:Array Oper):Option (Nat×Nat×Nat×Nat×Nat×TypeId):=
 match ops.toList with
 | [o, p, q, r] =>
  if o.guard.isNone=Xb∧p.guard.isNone=Xb∧q.guard.isNone=Xb∧r.guard.isNone=Xb then
   match o.op,o.dst,p.op,p.dst with
   | .move (.tmp x), Xa a, .move (.tmp i), Xa b =>
    match q.op,q.dst,r.op,r.dst with
    | .slice T (.tmp a') (Xa (.tmp b')) Xe Xe, Xa c, .call cl, Xe =>
     match cl.callee,cl.args.toList,cl.argTypes.toList with
     | .builtin .clear, [.tmp c'], [T'] => if a' = a ∧ b' = b ∧ c' = c ∧ T' = T then Xa (x, i, a, b, c, T) else Xe
     | _, _, _ => Xe
    | _, _, _, _ => Xe
   | _, _, _, _ => Xe
  else Xe
 | _ => Xe
def ZqH (E:Env) (s:Tr) (x i a b c:Nat):Bool:=
 decide (x < E.nt∧a < E.nt∧b < E.nt∧c < E.nt∧x≠a∧x≠b∧x≠c∧i≠a∧a≠b∧a≠c∧b≠c)&&(ZcO (gE E s a) .dead&&(ZcO (gE E s b) .dead&&ZcO (gE E s c) .dead))
def ZIG (ops:Array Oper):List Nat:=ops.toList.filterMap (·.dst)
def ZkG (ops:Array Oper):List Nat:=ops.toList.flatMap ZaE
def ZvQ (E:Env) (ops:Array Oper):List Nat:=
 ops.toList.zipIdx.flatMap fun p=>match p.1.op with
  | .move (.tmp t) => if ZJe E ops p.2 = Xb then [t] else []
  | .assign (.tmp t) => [t]
  | .store _ _ (.tmp t) => [t]
  | .call c => (match c.callee with | .builtin .append => (match c.args.toList with | .tmp t :: _ => [t] | _ => []) | .value _ => c.args.toList.filterMap Ym | _ => [])
  | _ => []
def ZAA (E:Env) (a:Bool) (ops:Array Oper) (s:Tr):Odr:=
 match a with
 | false => .text
 | true => .any fun d => (ZvQ E ops).contains d && (Kd (gE E s) d E.top).isEmpty
def ZcB (E:Env) (a:List Nat) (s:Tr) (d:Nat):Tr:=
 match gE E s d with
 | .own Xb _ _ => if d < E.nt ∧ a.contains d = Xc then Yy ((d, .dead) :: Kd (gE E s) d E.top) s else s
 | _ => s
def V6 (P:Program) (g:Nat→SV) (d q:Nat) (e:TypeId) (l:LE):Nat→Ups
 | 0 => []
 | i + 1 =>
  match g i with
  | .mref d' q' => if d' = d ∧ q' = q then (i, .c (.slice Xc (P.cellsOf e) l)) :: V6 P g d q e l i else V6 P g d q e l i
  | .eref d' q' _ _ _ => if d' = d ∧ q' = q then (i, .dead) :: V6 P g d q e l i else V6 P g d q e l i
  | _ => V6 P g d q e l i
def V2 (P:Program) (E:Env) (s:Tr) (p:Nat×Nat):Tr:=
 match Kq (gE E s p.1) p.2 with
 | some (e, l) => if p.1 < E.nt ∧ 0 < P.cellsOf e then Yy ((p.1, VF (gE E s p.1) p.2 Xc e l) :: V6 P (gE E s) p.1 p.2 e l E.top) s else s
 | none => s
def ZDT (P:Program) (E:Env) (id:Nat) (ops:Array Oper) (s:Tr):Tr:=
 (ZIG ops).foldl (ZcB E (ZkG ops)) ((E.fz id).foldl (V2 P E) s)
def ev (P:Program) (E:Env):Nat→Code→Tr→Nat→(Tr→Nat→STree)→(Nat→Tr→Nat→STree)→(Tr→Nat→STree)→STree
  | _, .skip, s, n, kn, _, _ => kn s n
  | _, .label _, s, n, kn, _, _ => kn s n
  | lv, .seq a b, s, n, kn, kx, kr => ev P E lv a s n (fun f g => ev P E lv b f g kn kx kr) kx kr
  | lv, .cond c a b, s, n, kn, kx, kr =>
    match Ym c with
    | some t =>
      match gE E s t with
      | .c (.bool (.lit v)) => if v = Xb then ev P E lv a s n kn kx kr else ev P E lv b s n kn kx kr
      | .c (.bool v) => .branch v (ev P E lv a (s.set depth t (.c (.bool (.lit Xb)))) n kn kx kr) (ev P E lv b (s.set depth t (.c (.bool (.lit Xc)))) n kn kx kr)
      | _ => .stuck 110
    | none => .stuck 111
  | lv, .block id c, s, n, kn, kx, kr => ev P E lv c s n kn (fun i f g => if i = id then kn f g else kx i f g) kr
  | lv, .scope c, s, n, kn, kx, kr => ev P E lv c s n kn kx kr
  | lv, .loop c, s, _, _, kx, kr =>
    let hs:=E.keep (JS c)
    if headOk E hs=Xb then
      match KZ P (gE E s) hs with
      | some init => .loop lv init 0 (ev P E (lv + 1) c (Yy (Jy hs 0).1 (.leaf .dead)) (Jy hs 0).2 (fun f _ => match KZ P (gE E f) hs with | some vals => .again lv vals | none => .stuck (Zlf P (gE E f) hs)) kx kr)
      | none => .stuck (Zlf P (gE E s) hs)
    else .stuck 113
  | _, .exit id, s, n, _, kx, _ => kx id s n
  | _, .ret, s, n, _, _, kr => kr s n
  | _, .region id ops draw, s0, n, kn, _, _ =>
    let s:=ZDT P E id ops s0
    match draw,ZlA ops with
    | false, Xa (x, a, d, T, neg) =>
      match P.underlying T,ZqG (gE E s x) with
      | some (.slice _), Xa l =>
        if a < E.nt∧d < E.nt∧ZcO (gE E s a) .dead=Xb∧ZcO (gE E s d) .dead=Xb∧a≠d∧x≠a then
          .nilq l n (kn ((s.set depth a .dead).set depth d (.c (.bool (if neg=Xb then .not (.var n) else .var n)))) (n+1))
        else .stuck 116
      | _, _ => .stuck 117
    | _, _ =>
     match draw,ZdF ops with
     | false, Xa (x, i, a, b, c, T) =>
      match P.underlying T,gE E s x,gE E s i with
      | some (.slice e), .own Xb e' l, .c (.int .i64 ie) =>
        match P.info? e with
        | some inf =>
          match inf.zero with
          | some z =>
            match Ziu z.cells.toList,VP P 8 e with
            | some zc, Xa sh =>
              match KX sh zc with
              | some zc' =>
                if e'=e∧z.cells.size=inf.size∧0 < inf.size∧ZqH E s x i a b c=Xb then
                  .req (.le (.lit 0) ie) (.req (.le ie (.len l)) (kn ((((s.set depth x (.own Xb e (.app (.take l ie) (.rep (.bin .sub .i64 (.len l) ie) (ZoE zc'))))).set depth a .dead).set depth b .dead).set depth c .dead) n))
                else .stuck 180
              | none => .stuck 181
            | _, _ => .stuck 182
          | none => .stuck 183
        | none => .stuck 184
      | _, _, _ => .stuck 185
     | _, _ =>
      ZrJ P E (ZAA E draw ops s) (ZJe E ops) (fun d=>ZDx (gE E s d)) ops ops.toList 0 s n [] fun f g h=>if draw=Xb then (if Zko ops h=Xb then kn f g else .stuck 114) else kn f g
  | _, _, _, _, _, _, _ => .stuck 115
def Zfz (P:Program) (g:Nat→SV):ResultVar→Option TC
 | .tmp t =>
  match g t with
  | .c x => Xa (.c x)
  | .agg cs => Xa (.agg cs)
  | .own x e xs => Xa (.own x e xs)
  | _ => Xe
 | .cell t T =>
  match YT P T,g t with
  | some Xb, .box cs => if cs.length = P.cellsOf T ∧ W0 cs = Xb then Xa (.agg (cs.map (Zgb P))) else Xe
  | some Xc, .box [.own x e xs] => Xa (.own x e xs)
  | some Xc, .box [.c x] => Xa (.c x)
  | _, _ => Xe
def Zfl (P:Program) (g:Nat→SV):List ResultVar→Option (List TC)
 | [] => Xa []
 | r :: rs =>
  match Zfz P g r,Zfl P g rs with
  | some x, Xa xs => Xa (x :: xs)
  | _, _ => Xe
def Zs0 (P:Program) (g:Nat→SV) (a:List ResultVar):Option SV:=
 match a with
 | [r] => (Zfz P g r).map ZDy
 | a => (Zfl P g a).map .tuple
def Zek (g:Nat→SV):List SV→Nat→List SV
 | [], _ => []
 | .box _ :: aZ, i => g i :: Zek g aZ (i + 1)
 | .gbox _ :: aZ, i => g i :: Zek g aZ (i + 1)
 | _ :: aZ, i => .dead :: Zek g aZ (i + 1)
def W7:List SV→Nat→Ups
 | [], _ => []
 | a :: aZ, i => (i, a) :: W7 aZ (i + 1)
def Yo (E:Env):List SV→Nat→Bool
 | [], _ => Xb
 | .box _ :: aZ, i => decide (i < E.nt) && E.pins.contains i && Yo E aZ (i + 1)
 | .gbox _ :: aZ, i => decide (E.nt ≤ i) && Yo E aZ (i + 1)
 | .dead :: aZ, i => decide (i < E.nt) && Yo E aZ (i + 1)
 | .c _ :: aZ, i => decide (i < E.nt) && Yo E aZ (i + 1)
 | .agg _ :: aZ, i => decide (i < E.nt) && Yo E aZ (i + 1)
 | .own _ _ _ :: aZ, i => decide (i < E.nt) && Yo E aZ (i + 1)
 | .clo _ _ :: aZ, i => decide (i < E.nt) && Yo E aZ (i + 1)
 | _, _ => Xc
def SV.isG:SV→Bool
 | .gbox _ => Xb
 | _ => Xc
def Kk:ResultVar→Nat
 | .tmp t => t
 | .cell t _ => t
def Zhq (args:List SV) (a:List ResultVar):Bool:=
 ZfG (a.map Kk)&&a.all fun r=>match args[Kk r]? with | some (.box _)=>Xc | some (.gbox _)=>Xc | _=>Xb
def ZDf (P:Program) (E:Env) (a:Func) (args:List SV) (n:Nat):STree:=
 match a.body with
 | some c =>
  let fin:Tr→Nat→STree:=fun s _=>
   match Zs0 P (gE E s) a.results.toList with
   | some r => if Zhq args a.results.toList = Xb then .ret r (Zek (gE E s) args 0) else .stuck 124
   | none => .stuck 120
  if E.top≤1024∧a.ntmps=E.nt∧args.length≤E.top∧(E.ng=0∨args.length=E.top)∧Yo E args 0=Xb then ev P E 0 c (Yy (W7 args 0) (.leaf .dead)) n fin (fun _ _ _=>.stuck 121) fin else .stuck 123
 | none => .stuck 122
inductive V where
 | i (z : Int)
 | b (b : Bool)
 | s (s : ByteArray)
 | l (xs : List (List AV))
def V.int:V→Int
 | .i z => z
 | _ => 0
def V.bool:V→Bool
 | .b z => z
 | _ => Xc
def V.str:V→ByteArray
 | .s z => z
 | _ => ⟨#[]⟩
def V.list:V→List (List AV)
 | .l xs => xs
 | _ => []
def Zes:List AV→Option UInt8
 | [.val (.int .u8 n)] => Xa (UInt8.ofNat n.toNat)
 | _ => Xe
def bytesOf (xs:List (List AV)):ByteArray:=⟨(xs.map fun e=>(Zes e).getD 0).toArray⟩
def P1 (op:IOp) (k:IntKind) (a b:Int):Int:=
 match op with
 | .add => k.wrap (a + b)
 | .sub => k.wrap (a - b)
 | .mul => k.wrap (a * b)
 | .quo => k.wrap (a.tdiv b)
 | .rem => a.tmod b
 | .and => k.wrap (BitVec.ofInt k.bits a &&& BitVec.ofInt k.bits b).toNat
 | .or => k.wrap (BitVec.ofInt k.bits a ||| BitVec.ofInt k.bits b).toNat
 | .xor => k.wrap (BitVec.ofInt k.bits a ^^^ BitVec.ofInt k.bits b).toNat
 | .andNot => k.wrap (BitVec.ofInt k.bits a &&& ~~~BitVec.ofInt k.bits b).toNat
 | .shl => k.wrap (a * 2 ^ (min b.toNat k.bits))
 | .shr => a.fdiv (2 ^ (min b.toNat k.bits))
 | .min => min a b
 | .max => max a b
def P0 (op:COp) (a b:Int):Bool:=
 match op with
 | .eql => a == b
 | .neq => a != b
 | .lss => decide (a < b)
 | .leq => decide (a ≤ b)
 | .gtr => decide (a > b)
 | .geq => decide (a ≥ b)
def setCells (x:List AV) (o:Nat) (e:List AV):List AV:=x.take o++e++x.drop (o+e.length)
def Jk (l:List (List AV)) (i o:Nat) (e:List AV):List (List AV):=l.modify i fun x=>setCells x o e
def ZnF (l a:List (List AV)):List (List AV):=a.take l.length++l.drop a.length
mutual
def IE.den (ρ:Nat→V):IE→Int
 | .var n => (ρ n).int
 | .lit z => z
 | .bin op k a b => P1 op k (a.den ρ) (b.den ρ)
 | .conv k a => k.wrap (a.den ρ)
 | .len l => ((l.den ρ).length : Int)
 | .slen s => ((s.den ρ).size : Int)
 | .getc s i => (((s.den ρ).data.toList.getD (i.den ρ).toNat 0).toNat : Int)
def BE.den (ρ:Nat→V):BE→Bool
 | .var n => (ρ n).bool
 | .lit b => b
 | .cmp op a b => P0 op (a.den ρ) (b.den ρ)
 | .beq a b => a.den ρ == b.den ρ
 | .seq a b => (a.den ρ).toList == (b.den ρ).toList
 | .and a b => a.den ρ && b.den ρ
 | .not a => !a.den ρ
def SE.den (ρ:Nat→V):SE→ByteArray
 | .var n => (ρ n).str
 | .lit s => s
 | .bytes l => bytesOf (l.den ρ)
def LE.den (ρ:Nat→V):LE→List (List AV)
 | .var n => (ρ n).list
 | .nil => []
 | .snoc l e => l.den ρ ++ [e.den ρ]
 | .app a b => a.den ρ ++ b.den ρ
 | .take l i => (l.den ρ).take (i.den ρ).toNat
 | .drop l i => (l.den ρ).drop (i.den ρ).toNat
 | .rep i e => Xx (i.den ρ).toNat (e.den ρ)
 | .setAt l i o e => Jk (l.den ρ) (i.den ρ).toNat o (e.den ρ)
 | .spl l a => ZnF (l.den ρ) (a.den ρ)
def CE.den (ρ:Nat→V):CE→List AV
 | .nil => []
 | .cons c r => c.den ρ :: r.den ρ
def SC.den (ρ:Nat→V):SC→AV
 | .int k e => .val (.int k (e.den ρ))
 | .bool b => .val (.bool (b.den ρ))
 | .str s => .val (.string (s.den ρ))
 | .slice f s l => .slice f s (l.den ρ)
end
def TC.den (ρ:Nat→V):TC→AV
 | .c x => x.den ρ
 | .agg cs => .agg (cs.map (SC.den ρ))
 | .own x e l => .own x e (l.den ρ)
 | .gone => .gone
def BC.den (ρ:Nat→V):BC→AV
 | .c x => x.den ρ
 | .own x e l => .own x e (l.den ρ)
def SV.den (ρ:Nat→V):SV→AV
 | .dead => .dead
 | .gone => .gone
 | .c x => x.den ρ
 | .agg cs => .agg (cs.map (SC.den ρ))
 | .tuple vs => .tuple (vs.map (TC.den ρ))
 | .aggo cs => .aggo (cs.map (BC.den ρ))
 | .own x e l => .own x e (l.den ρ)
 | .box cs => .box (cs.map (BC.den ρ))
 | .ptr d off => .ptr d off
 | .eptr cs => .eptr (cs.map (SC.den ρ))
 | .mref d k => .mref d k
 | .eref d k i s o => .eref d k ((i.den ρ).toNat * s + o)
 | .gbox cs => .gbox (cs.map (BC.den ρ))
 | .clo g ds => .clo g ds
def Yh:Nat:=1099511627776
def PE.den (ρ:Nat→V):PE→Prop
 | .le a b => a.den ρ ≤ b.den ρ
 | .lt a b => a.den ρ < b.den ρ
 | .make a k => 0 ≤ a.den ρ ∧ (a.den ρ).toNat * (k + 1) ≤ Yh
 | .ne0 a => a.den ρ ≠ 0
 | .bytes l => ∀ e ∈ l.den ρ, ∃ n : Int, 0 ≤ n ∧ n ≤ 255 ∧ e = [.val (.int .u8 n)]
 | .room a b k => ((a.den ρ).length + (b.den ρ).length) * (k + 1) ≤ Yh
 | .cons l => l.den ρ ≠ []
def ZD8:List AV→Bool
 | [.val (.int .u8 n)] => decide (0 ≤ n ∧ n ≤ 255)
 | _ => Xc
def Zl3 (e:List AV):ZD8 e=Xb↔∃ n:Int,0≤n∧n≤255∧e = [.val (.int .u8 n)]:=by
 constructor
 ·intro h;unfold ZD8 at h;split at h
  ·rename_i n;have:=of_decide_eq_true h;exact ⟨n,this.1,this.2,rfl⟩
  ·cases h
 ·rintro ⟨n,a,b,rfl⟩;simp only [ZD8,a,b,and_self,decide_true]
def Zmi (l:List (List AV)):Decidable (∀ e∈l,∃ n:Int,0≤n∧n≤255∧e = [.val (.int .u8 n)]):=
 if h:l.all ZD8=Xb then isTrue (fun e a=>(Zl3 e).1 (Xo.1 h e a)) else isFalse (fun b=>h (Xo.2 fun e a=>(Zl3 e).2 (b e a)))
def Zq8:(l:List (List AV))→Decidable (l≠[])
 | [] => isFalse (fun h => h rfl)
 | _ :: _ => isTrue (fun h => by cases h)
def PE.decDen (ρ:Nat→V):(p:PE)→Decidable (p.den ρ)
 | .le a b => inferInstanceAs (Decidable (a.den ρ ≤ b.den ρ))
 | .lt a b => inferInstanceAs (Decidable (a.den ρ < b.den ρ))
 | .make a k => inferInstanceAs (Decidable (0 ≤ a.den ρ ∧ (a.den ρ).toNat * (k + 1) ≤ Yh))
 | .ne0 a => inferInstanceAs (Decidable (a.den ρ ≠ 0))
 | .bytes l => Zmi (l.den ρ)
 | .room a b k => inferInstanceAs (Decidable (((a.den ρ).length + (b.den ρ).length) * (k + 1) ≤ Yh))
 | .cons l => Zq8 (l.den ρ)
def VE.den (ρ:Nat→V):VE→V
 | .i e => .i (e.den ρ)
 | .b e => .b (e.den ρ)
 | .s e => .s (e.den ρ)
 | .l e => .l (e.den ρ)
def Zj2:Nat→V:=fun _=>.i 0
def bind (ρ:Nat→V) (n:Nat) (vs:List V):Nat→V:=fun m=>if m < n then ρ m else (vs[m-n]?).getD (ρ m)
mutual
def IE.bd (n:Nat):IE→Prop
 | .var m => m < n
 | .lit _ => True
 | .bin _ _ a b => a.bd n ∧ b.bd n
 | .conv _ a => a.bd n
 | .len l => l.bd n
 | .slen s => s.bd n
 | .getc s i => s.bd n ∧ i.bd n
def BE.bd (n:Nat):BE→Prop
 | .var m => m < n
 | .lit _ => True
 | .cmp _ a b => a.bd n ∧ b.bd n
 | .beq a b => a.bd n ∧ b.bd n
 | .seq a b => a.bd n ∧ b.bd n
 | .and a b => a.bd n ∧ b.bd n
 | .not a => a.bd n
def SE.bd (n:Nat):SE→Prop
 | .var m => m < n
 | .lit _ => True
 | .bytes l => l.bd n
def LE.bd (n:Nat):LE→Prop
 | .var m => m < n
 | .nil => True
 | .snoc l e => l.bd n ∧ e.bd n
 | .app a b => a.bd n ∧ b.bd n
 | .take l i => l.bd n ∧ i.bd n
 | .drop l i => l.bd n ∧ i.bd n
 | .rep i e => i.bd n ∧ e.bd n
 | .setAt l i _ e => l.bd n ∧ i.bd n ∧ e.bd n
 | .spl l a => l.bd n ∧ a.bd n
def CE.bd (n:Nat):CE→Prop
 | .nil => True
 | .cons c r => c.bd n ∧ r.bd n
def SC.bd (n:Nat):SC→Prop
 | .int _ e => e.bd n
 | .bool b => b.bd n
 | .str s => s.bd n
 | .slice _ _ l => l.bd n
end
def TC.bd (n:Nat):TC→Prop
 | .c x => x.bd n
 | .agg cs => ∀ c ∈ cs, c.bd n
 | .own _ _ l => l.bd n
 | .gone => True
def BC.bd (n:Nat):BC→Prop
 | .c x => x.bd n
 | .own _ _ l => l.bd n
def SV.bd (n:Nat):SV→Prop
 | .dead => True
 | .gone => True
 | .c x => x.bd n
 | .agg cs => ∀ c ∈ cs, c.bd n
 | .tuple vs => ∀ c ∈ vs, c.bd n
 | .aggo cs => ∀ c ∈ cs, c.bd n
 | .own _ _ l => l.bd n
 | .box cs => ∀ c ∈ cs, c.bd n
 | .ptr _ _ => True
 | .eptr cs => ∀ c ∈ cs, c.bd n
 | .mref _ _ => True
 | .eref _ _ i _ _ => i.bd n
 | .gbox cs => ∀ c ∈ cs, c.bd n
 | .clo _ _ => True
def VE.bd (n:Nat):VE→Prop
 | .i e => e.bd n
 | .b e => e.bd n
 | .s e => e.bd n
 | .l e => e.bd n
mutual
def IE.den_congr {n:Nat} {ρ d:Nat→V} (c:∀ m,m < n→d m=ρ m):∀ (x:IE),x.bd n→x.den d=x.den ρ
 | .var m, h => by simp only [IE.den, c m h]
 | .lit _, _ => rfl
 | .bin _ _ a b, h => by simp only [IE.den, IE.den_congr c a h.1, IE.den_congr c b h.2]
 | .conv _ a, h => by simp only [IE.den, IE.den_congr c a h]
 | .len l, h => by simp only [IE.den, LE.den_congr c l h]
 | .slen s, h => by simp only [IE.den, SE.den_congr c s h]
 | .getc s i, h => by simp only [IE.den, SE.den_congr c s h.1, IE.den_congr c i h.2]
def BE.den_congr {n:Nat} {ρ d:Nat→V} (c:∀ m,m < n→d m=ρ m):∀ (x:BE),x.bd n→x.den d=x.den ρ
 | .var m, h => by simp only [BE.den, c m h]
 | .lit _, _ => rfl
 | .cmp _ a b, h => by simp only [BE.den, IE.den_congr c a h.1, IE.den_congr c b h.2]
 | .beq a b, h => by simp only [BE.den, BE.den_congr c a h.1, BE.den_congr c b h.2]
 | .seq a b, h => by simp only [BE.den, SE.den_congr c a h.1, SE.den_congr c b h.2]
 | .and a b, h => by simp only [BE.den, BE.den_congr c a h.1, BE.den_congr c b h.2]
 | .not a, h => by simp only [BE.den, BE.den_congr c a h]
def SE.den_congr {n:Nat} {ρ a:Nat→V} (b:∀ m,m < n→a m=ρ m):∀ (x:SE),x.bd n→x.den a=x.den ρ
 | .var m, h => by simp only [SE.den, b m h]
 | .lit _, _ => rfl
 | .bytes l, h => by simp only [SE.den, LE.den_congr b l h]
def LE.den_congr {n:Nat} {ρ d:Nat→V} (c:∀ m,m < n→d m=ρ m):∀ (x:LE),x.bd n→x.den d=x.den ρ
 | .var m, h => by simp only [LE.den, c m h]
 | .nil, _ => rfl
 | .snoc l e, h => by simp only [LE.den, LE.den_congr c l h.1, CE.den_congr c e h.2]
 | .app a b, h => by simp only [LE.den, LE.den_congr c a h.1, LE.den_congr c b h.2]
 | .take l i, h => by simp only [LE.den, LE.den_congr c l h.1, IE.den_congr c i h.2]
 | .drop l i, h => by simp only [LE.den, LE.den_congr c l h.1, IE.den_congr c i h.2]
 | .rep i e, h => by simp only [LE.den, IE.den_congr c i h.1, CE.den_congr c e h.2]
 | .setAt l i o e, h => by simp only [LE.den, LE.den_congr c l h.1, IE.den_congr c i h.2.1, CE.den_congr c e h.2.2]
 | .spl l a, h => by simp only [LE.den, LE.den_congr c l h.1, LE.den_congr c a h.2]
def CE.den_congr {n:Nat} {ρ a:Nat→V} (b:∀ m,m < n→a m=ρ m):∀ (x:CE),x.bd n→x.den a=x.den ρ
 | .nil, _ => rfl
 | .cons c r, h => by simp only [CE.den, SC.den_congr b c h.1, CE.den_congr b r h.2]
def SC.den_congr {n:Nat} {ρ c:Nat→V} (a:∀ m,m < n→c m=ρ m):∀ (x:SC),x.bd n→x.den c=x.den ρ
 | .int _ e, h => by simp only [SC.den, IE.den_congr a e h]
 | .bool b, h => by simp only [SC.den, BE.den_congr a b h]
 | .str s, h => by simp only [SC.den, SE.den_congr a s h]
 | .slice _ _ l, h => by simp only [SC.den, LE.den_congr a l h]
end
def Yl {b:Type} {n:Nat} {ρ a:Nat→V} {f:(Nat→V)→b→AV} {bd:Nat→b→Prop} (h:∀ x,bd n x→f a x=f ρ x) :
  ∀ (l:List b),(∀ x∈l,bd n x)→l.map (f a)=l.map (f ρ)
 | [], _ => rfl
 | x :: xs, hx => by
  simp only [Xn];rw [h x (hx x (by simp)),Yl h xs fun y c=>hx y (by simp [c])]
def TC.den_congr {n:Nat} {ρ b:Nat→V} (a:∀ m,m < n→b m=ρ m):∀ (x:TC),x.bd n→x.den b=x.den ρ
 | .c x, h => SC.den_congr a x h
 | .agg cs, h => by simp only [TC.den, Yl (f := SC.den) (bd := SC.bd) (SC.den_congr a) cs h]
 | .own _ _ l, h => by simp only [TC.den, LE.den_congr a l h]
 | .gone, _ => rfl
def BC.den_congr {n:Nat} {ρ a:Nat→V} (b:∀ m,m < n→a m=ρ m):∀ (x:BC),x.bd n→x.den a=x.den ρ
 | .c x, h => SC.den_congr b x h
 | .own _ _ l, h => by simp only [BC.den, LE.den_congr b l h]
def SV.den_congr {n:Nat} {ρ b:Nat→V} (a:∀ m,m < n→b m=ρ m):∀ (x:SV),x.bd n→x.den b=x.den ρ
 | .dead, _ => rfl
 | .gone, _ => rfl
 | .c x, h => SC.den_congr a x h
 | .agg cs, h => by simp only [SV.den, Yl (f := SC.den) (bd := SC.bd) (SC.den_congr a) cs h]
 | .tuple vs, h => by simp only [SV.den, Yl (f := TC.den) (bd := TC.bd) (TC.den_congr a) vs h]
 | .aggo cs, h => by simp only [SV.den, Yl (f := BC.den) (bd := BC.bd) (BC.den_congr a) cs h]
 | .own _ _ l, h => by simp only [SV.den, LE.den_congr a l h]
 | .box cs, h => by simp only [SV.den, Yl (f := BC.den) (bd := BC.bd) (BC.den_congr a) cs h]
 | .ptr _ _, _ => rfl
 | .eptr cs, h => by simp only [SV.den, Yl (f := SC.den) (bd := SC.bd) (SC.den_congr a) cs h]
 | .mref _ _, _ => rfl
 | .eref _ _ i _ _, h => by simp only [SV.den, IE.den_congr a i h]
 | .gbox cs, h => by simp only [SV.den, Yl (f := BC.den) (bd := BC.bd) (BC.den_congr a) cs h]
 | .clo _ _, _ => rfl
def VE.den_congr {n:Nat} {ρ c:Nat→V} (a:∀ m,m < n→c m=ρ m):∀ (x:VE),x.bd n→x.den c=x.den ρ
 | .i e, h => by simp only [VE.den, IE.den_congr a e h]
 | .b e, h => by simp only [VE.den, BE.den_congr a e h]
 | .s e, h => by simp only [VE.den, SE.den_congr a e h]
 | .l e, h => by simp only [VE.den, LE.den_congr a e h]
def Zg4 (ρ:Nat→V) (n:Nat) (vs:List V):∀ m,m < n→bind ρ n vs m=ρ m:=fun m h=>by simp [bind,h]
mutual
def IE.bd_mono {n d:Nat} (c:n≤d):∀ (x:IE),x.bd n→x.bd d
 | .var _, h => UG h c
 | .lit _, _ => trivial
 | .bin _ _ a b, h => ⟨IE.bd_mono c a h.1, IE.bd_mono c b h.2⟩
 | .conv _ a, h => IE.bd_mono c a h
 | .len l, h => LE.bd_mono c l h
 | .slen s, h => SE.bd_mono c s h
 | .getc s i, h => ⟨SE.bd_mono c s h.1, IE.bd_mono c i h.2⟩
def BE.bd_mono {n d:Nat} (c:n≤d):∀ (x:BE),x.bd n→x.bd d
 | .var _, h => UG h c
 | .lit _, _ => trivial
 | .cmp _ a b, h => ⟨IE.bd_mono c a h.1, IE.bd_mono c b h.2⟩
 | .beq a b, h => ⟨BE.bd_mono c a h.1, BE.bd_mono c b h.2⟩
 | .seq a b, h => ⟨SE.bd_mono c a h.1, SE.bd_mono c b h.2⟩
 | .and a b, h => ⟨BE.bd_mono c a h.1, BE.bd_mono c b h.2⟩
 | .not a, h => BE.bd_mono c a h
def SE.bd_mono {n a:Nat} (b:n≤a):∀ (x:SE),x.bd n→x.bd a
 | .var _, h => UG h b
 | .lit _, _ => trivial
 | .bytes l, h => LE.bd_mono b l h
def LE.bd_mono {n d:Nat} (c:n≤d):∀ (x:LE),x.bd n→x.bd d
 | .var _, h => UG h c
 | .nil, _ => trivial
 | .snoc l e, h => ⟨LE.bd_mono c l h.1, CE.bd_mono c e h.2⟩
 | .app a b, h => ⟨LE.bd_mono c a h.1, LE.bd_mono c b h.2⟩
 | .take l i, h => ⟨LE.bd_mono c l h.1, IE.bd_mono c i h.2⟩
 | .drop l i, h => ⟨LE.bd_mono c l h.1, IE.bd_mono c i h.2⟩
 | .rep i e, h => ⟨IE.bd_mono c i h.1, CE.bd_mono c e h.2⟩
 | .setAt l i _ e, h => ⟨LE.bd_mono c l h.1, IE.bd_mono c i h.2.1, CE.bd_mono c e h.2.2⟩
 | .spl l a, h => ⟨LE.bd_mono c l h.1, LE.bd_mono c a h.2⟩
def CE.bd_mono {n a:Nat} (b:n≤a):∀ (x:CE),x.bd n→x.bd a
 | .nil, _ => trivial
 | .cons c r, h => ⟨SC.bd_mono b c h.1, CE.bd_mono b r h.2⟩
def SC.bd_mono {n c:Nat} (a:n≤c):∀ (x:SC),x.bd n→x.bd c
 | .int _ e, h => IE.bd_mono a e h
 | .bool b, h => BE.bd_mono a b h
 | .str s, h => SE.bd_mono a s h
 | .slice _ _ l, h => LE.bd_mono a l h
end
def TC.bd_mono {n b:Nat} (a:n≤b):∀ (x:TC),x.bd n→x.bd b
 | .c x, h => SC.bd_mono a x h
 | .agg _, h => fun c d => SC.bd_mono a c (h c d)
 | .own _ _ l, h => LE.bd_mono a l h
 | .gone, _ => trivial
def BC.bd_mono {n a:Nat} (b:n≤a):∀ (x:BC),x.bd n→x.bd a
 | .c x, h => SC.bd_mono b x h
 | .own _ _ l, h => LE.bd_mono b l h
def SV.bd_mono {n d:Nat} (b:n≤d):∀ (x:SV),x.bd n→x.bd d
 | .dead, _ => trivial
 | .gone, _ => trivial
 | .c x, h => SC.bd_mono b x h
 | .agg _, h => fun c a => SC.bd_mono b c (h c a)
 | .tuple _, h => fun c a => TC.bd_mono b c (h c a)
 | .aggo _, h => fun c a => BC.bd_mono b c (h c a)
 | .own _ _ l, h => LE.bd_mono b l h
 | .box _, h => fun c a => BC.bd_mono b c (h c a)
 | .ptr _ _, _ => trivial
 | .eptr _, h => fun c a => SC.bd_mono b c (h c a)
 | .mref _ _, _ => trivial
 | .eref _ _ i _ _, h => IE.bd_mono b i h
 | .gbox _, h => fun c a => BC.bd_mono b c (h c a)
 | .clo _ _, _ => trivial
def Zyd:Value→Option AV
 | .slice Xe 0 0 => Xa (.slice Xb 0 [])
 | .bool b => Xa (.val (.bool b))
 | .int k n => Xa (.val (.int k n))
 | .string s => Xa (.val (.string s))
 | _ => Xe
def Zcf:List Value→Option (List AV)
 | [] => Xa []
 | v :: vs =>
  match Zyd v,Zcf vs with
  | some c, Xa cs => Xa (c :: cs)
  | _, _ => Xe
def ZuZ:Value→AV
 | .agg cs => match Zcf cs.toList with | some l => .agg l | none => .dead
 | v => match Zyd v with | some c => c | none => .dead
def Z0 (P:Program) (σ:Nat→AV):Operand→AV
 | .tmp t =>
  match σ t with
  | .box _ => .ptr t 0
  | .own x e xs => match x with | true => .mref t 0 | false => .slice Xc (P.cellsOf e) xs
  | .tuple _ => .dead
  | .aggo _ => .dead
  | .gbox _ => .dead
  | x => x
 | .const v => ZuZ v
 | .func f => .clo f []
 | _ => .dead
def ZaP (a b:AV):Bool:=
 match a,b with
 | .gbox _, _ => Xc
 | _, .gbox _ => Xc
 | .box _, _ => Xc
 | .own Xb _ _, _ => Xc
 | .dead, .box _ => Xb
 | _, .box _ => Xc
 | _, _ => Xb
def Ju {a b:AV} (h:ZaP a b=Xb):Zar a:=by
 refine ⟨fun cs e=>?_,fun e' xs e=>?_⟩ <;> subst e<;>cases b<;>simp [ZaP] at h
def ZpA (c:Ctx) (e:Option Tmp) (b:Nat→AV) (x:AV) (f:Array Value) (v:Value) (w':World):Prop:=
 match e with
 | some d => d < c.nt → ZaP (b d) x = Xb → ∃ a X', Sim c (upd b d x) (f.setIfInBounds d v) w' a X'
 | none => ∃ a X', Sim c b f w' a X'
def Zfx (x:AV):Prop:=∃ cs,x = .box cs
def Zfs (x y:AV):Prop:=y=x∨(Zfx x∧Zfx y)
def Zfs.eq {x y:AV} (h:Zfs x y) (a:∀ cs,x≠.box cs):y=x:=by
 rcases h with h | ⟨⟨cs,h⟩,_⟩
 ·exact h
 ·exact (a cs h).elim
def Zfb (T:Odr) (P:Program) (o:Oper) (σ:Nat→AV) (x:AV) (us:List (Nat×AV)) (e:List Nat):Prop:=
 ∀ (c:Ctx),c.P=P→∀ (a:Nat→AV) (b:Array Value) (w:World) (lim:Nat→Nat) (X:Nat→Nat→Option Nat),
  (∀ d∈ZaE o,Zfs (σ d) (a d))→(∀ d∈e++us.map (·.1),a d=σ d)→T.rel σ a→Sim c a b w lim X→∀ (next:Act→World→Prop) (Q:Exit→Act→World→Prop),
   (∀ v w',ZpA c o.dst (Kb a us) x b v w'→next (Act.put ⟨b,[]⟩ o.dst v) w')→o.wp P ⟨b,[]⟩ w next Q
def Kn (P:Program) (o:Oper) (σ:Nat→AV) (x:AV) (us:List (Nat×AV)) (e:List Nat):Prop:=
 ∀ (c:Ctx),c.P=P→∀ (a:Nat→AV) (b:Array Value) (w:World) (lim:Nat→Nat) (X:Nat→Nat→Option Nat),
  (∀ d∈ZaE o,Zfs (σ d) (a d))→(∀ d∈e++us.map (·.1),a d=σ d)→Sim c a b w lim X→∀ (next:Act→World→Prop) (Q:Exit→Act→World→Prop),
   (∀ v w',ZpA c o.dst (Kb a us) x b v w'→next (Act.put ⟨b,[]⟩ o.dst v) w')→o.wp P ⟨b,[]⟩ w next Q
def Kn.t {T:Odr} {P:Program} {o:Oper} {σ:Nat→AV} {x:AV} {us:List (Nat×AV)} {b:List Nat} (h:Kn P o σ x us b):Zfb T P o σ x us b:=
 fun c d a e w lim X f g _ i=>h c d a e w lim X f g i
def YF.sliceV {P:Program} {w:World} {lim:Nat→Nat} {x:Bool} {e:TypeId} {xs:List (List AV)} {v:Value} {ob:Option Nat} (h:YF P w lim x e xs v ob):Zgf P w ob e xs.length v:=by
 rcases h with ⟨us,h1,h2,_⟩ | ⟨rfl,h2,a,rfl⟩
 ·rcases h1.2 with ⟨hv,hn⟩ | ⟨g,cap,cur,hv,_,hg,_,_,hcs,_⟩
  ·exact .inl ⟨by rw [← h2,hv];rfl,hn,.inl hv⟩
  ·exact .inr ⟨g,cur,cap,by rw [← h2,hv];rfl,hg,hcs,hv⟩
 ·exact .inl ⟨h2,rfl,.inr ⟨a,rfl⟩⟩
def ZR {P:Program} {o:Oper} {a:Act} {w w':World} {v:Value} {next:Act→World→Prop} {Q:Exit→Act→World→Prop}
  (b:(execOp a.eval o).run P w = .ok (.value v) w') (h:next (a.put o.dst v) w'):o.wp P a w next Q:=by
 unfold Oper.wp;rw [b];exact h
def Jw {c:Ctx} {b:Option Tmp} {a:Nat→AV} {x:AV} {e:Array Value} {v:Value} {w:World} {lim:Nat→Nat} {X:Nat→Nat→Option Nat} {k:Nat}
  (h:Sim c a e w lim X) (f:x.plain=Xb) (g:Jx c.P w lim X a k x v):ZpA c b a x e v w:=by
 cases b with
 | none => exact ⟨lim, X, h⟩
 | some d => exact fun i j => ⟨lim, _, h.put i (Ju j) f g⟩
def Zbi {w:World} {lim:Nat→Nat} {v:Value} {c:AV} (h:Zyd v=Xa c):c.isCell=Xb∧Rep w lim c v:=by
 unfold Zyd at h;split at h<;>simp at h<;>subst h
 ·exact ⟨rfl,.sliceN⟩
 ·exact ⟨rfl,.val rfl⟩
 ·exact ⟨rfl,.val rfl⟩
 ·exact ⟨rfl,.val rfl⟩
def ZbH {w:World} {lim:Nat→Nat} : ∀ {vs:List Value} {cs:List AV},Zcf vs=Xa cs→cs.length=vs.length∧(∀ c∈cs,c.isCell=Xb)∧
  ∀ (i:Nat) (c:AV) (v:Value),cs[i]? = Xa c→vs[i]? = Xa v→Rep w lim c v
 | [], cs, h => by
  simp [Zcf] at h;subst h;simp
 | v :: vs, cs, h => by
  simp only [Zcf] at h;split at h
  ·rename_i c f e b;simp at h;subst h;obtain ⟨g,j,k⟩:=ZbH (w:=w) (lim:=lim) b;refine ⟨by simp [g],fun x a=>?_,fun i x u a d=>?_⟩
   ·rcases Xs.1 a with rfl | a
    ·exact (Zbi (w:=w) (lim:=lim) e).1
    ·exact j x a
   ·cases i with
    | zero => simp at a d; subst a; subst d; exact (Zbi e).2
    | succ i => exact k i x u (by simpa using a) (by simpa using d)
  ·simp at h
def Zsr {P:Program} {w:World} {lim:Nat→Nat} {X:Nat→Nat→Option Nat} {σ:Nat→AV} {k:Nat} (v:Value) :
  (ZuZ v).plain=Xb∧Jx P w lim X σ k (ZuZ v) v:=by
 unfold ZuZ;split
 ·rename_i cs;split
  ·rename_i l d;obtain ⟨b,a,e⟩:=ZbH (w:=w) (lim:=lim) d;refine ⟨rfl,?_⟩;have:cs=cs.toList.toArray:=by simp
   show Rep w lim (.agg l) (.agg cs);rw [this];exact .agg b a e
  ·exact ⟨rfl,trivial⟩
 ·split
  ·rename_i c f;obtain ⟨b,a⟩:=Zbi (w:=w) (lim:=lim) f
   cases c<;>simp [AV.isCell] at b
   ·exact ⟨rfl,a⟩
   ·exact ⟨rfl,a⟩
  ·exact ⟨rfl,trivial⟩
def VH {c:Ctx} {σ:Nat→AV} {i:Array Value} {w:World} {lim:Nat→Nat} {X:Nat→Nat→Option Nat} (h:Sim c σ i w lim X) (x:Operand) (k:Nat) :
  (Z0 c.P σ x).plain=Xb∧Jx c.P w lim X σ k (Z0 c.P σ x) (Act.eval ⟨i,[]⟩ x):=by
 cases x with
 | tmp t =>
  have a:=h.rel t;have j:Act.eval ⟨i,[]⟩ (.tmp t)=i.getD t undef:=rfl;rw [j]
  cases hs:σ t with
  | box cs =>
   rw [hs] at a;obtain ⟨b,arr,ty,l,m,_⟩:=(show Jt c.P w lim (X t) cs (i.getD t undef) from a);simp only [Z0,hs];exact ⟨rfl,b,cs,l,hs,m⟩
  | mref d k => rw [hs] at a; simp only [Z0, hs]; exact ⟨rfl, a⟩
  | eref d k o => rw [hs] at a; simp only [Z0, hs]; exact ⟨rfl, a⟩
  | gbox cs => simp only [Z0, hs]; exact ⟨rfl, trivial⟩
  | clo g ds => rw [hs] at a; simp only [Z0, hs]; exact ⟨rfl, a⟩
  | own x e xs =>
   rw [hs] at a;simp only [Z0,hs]
   cases x with
   | true => exact ⟨rfl, e, xs, by rw [hs]; rfl, YF.sliceV a⟩
   | false => exact ⟨rfl, YF.rep a Xc rfl⟩
  | tuple vs => simp only [Z0, hs]; exact ⟨rfl, trivial⟩
  | aggo cs => simp only [Z0, hs]; exact ⟨rfl, trivial⟩
  | dead => simp only [Z0, hs]; exact ⟨rfl, trivial⟩
  | gone => simp only [Z0, hs]; exact ⟨rfl, trivial⟩
  | ptr d off => rw [hs] at a; simp only [Z0, hs]; exact ⟨rfl, a⟩
  | eptr cs => rw [hs] at a; simp only [Z0, hs]; exact ⟨rfl, a⟩
  | val v => rw [hs] at a; simp only [Z0, hs]; exact ⟨rfl, a⟩
  | agg cs => rw [hs] at a; simp only [Z0, hs]; exact ⟨rfl, a⟩
  | slice f s xs => rw [hs] at a; simp only [Z0, hs]; exact ⟨rfl, a⟩
 | const v => exact Zsr v
 | global g => exact ⟨rfl, trivial⟩
 | func f => exact ⟨rfl, [], rfl, rfl, by simp⟩
def Jl {o:Oper} {x:Operand} {t:Nat} (a:x∈o.op.operands) (b:Ym x=Xa t):t∈ZaE o:=
 Tb.2 ⟨x,by simpa using a,b⟩
def JT {P:Program} {σ a:Nat→AV} {x:Operand} (h:∀ t,Ym x=Xa t→Zfs (σ t) (a t)):Z0 P a x=Z0 P σ x:=by
 cases x with
 | tmp t =>
  rcases h t rfl with h1 | ⟨⟨cs,h1⟩,cs',h3⟩
  ·simp only [Z0,h1]
  ·simp only [Z0,h1,h3]
 | const v => rfl
 | global g => rfl
 | func f => rfl
def Z8 {P:Program} {o:Oper} {σ:Nat→AV} {x:AV} (i:List Nat) (l:x.plain=Xb)
  (h:∀ (c:Ctx),c.P=P→∀ (a:Nat→AV) (e:Array Value) (w:World) (lim:Nat→Nat) (X:Nat→Nat→Option Nat),
   (∀ y∈o.op.operands,Z0 P a y=Z0 P σ y)→(∀ d∈i,a d=σ d)→Sim c a e w lim X→
   ∃ v,(execOp (Act.eval ⟨e,[]⟩) o).run P w = .ok (.value v) w∧Jx P w lim X a 0 x v):Kn P o σ x [] i:=by
 intro c j a e w lim X f g b next Q m;obtain ⟨v,n,p⟩:=h c j a e w lim X (fun y q=>JT fun t r=>f t (by simp [Jl q r])) (fun d s=>g d (by simp [s])) b;exact ZR n (m v w (Jw b l (k:=0) (by rw [j];exact p)))
def ZaF {w:World} {lim:Nat→Nat} {u v:Value} (h:Rep w lim (.val u) v):v=u:=by cases h;rfl
def Zi5 {P:Program} {o:Oper} {σ:Nat→AV} {x:Operand} (a:o.op = .move x∨o.op = .assign x):Kn P o σ (Z0 P σ x) [] []:=by
 have d:x∈o.op.operands:=by rcases a with a | a<;>rw [a]<;>simp [Op.operands]
 intro c g e j w lim X f l b next Q m;have n:Z0 P e x=Z0 P σ x:=JT fun t p=>f t (by simp [Jl d p]);obtain ⟨h,i⟩:=VH b x 0;rw [g,n] at h i;refine ZR (v:=Act.eval ⟨j,[]⟩ x) ?_ (m _ w (Jw b h (k:=0) (by rw [g];exact i)));rcases a with a | a<;>simp [execOp,a]
def WB {P:Program} {c:Ctx} (d:c.P=P) {σ a:Nat→AV} {b:Array Value} {w:World} {lim:Nat→Nat} {X:Nat→Nat→Option Nat} (h:Sim c a b w lim X) {x:Operand} {y:AV}
  (e:Z0 P σ x=y) (f:Z0 P a x=Z0 P σ x):Jx P w lim X a 0 y (Act.eval ⟨b,[]⟩ x):=by
 have:=(VH h x 0).2;rw [d,f,e] at this;exact this
def YI {P:Program} {c:Ctx} (d:c.P=P) {σ a:Nat→AV} {b:Array Value} {w:World} {lim:Nat→Nat} {X:Nat→Nat→Option Nat} (h:Sim c a b w lim X) {x:Operand} {u:Value}
  (e:Z0 P σ x = .val u) (f:Z0 P a x=Z0 P σ x):Act.eval ⟨b,[]⟩ x=u:=ZaF (WB d h e f)
def Zq4 {P:Program} {o:Oper} {σ:Nat→AV} {l a b:Operand} {v:Bool} (m:o.op = .pick l a b) (u:Z0 P σ l = .val (.bool v)) :
  Kn P o σ (if v=Xb then Z0 P σ a else Z0 P σ b) [] []:=by
 intro c e n q w lim X p x d next Q r;have f:∀ y∈o.op.operands,Z0 P n y=Z0 P σ y:=fun y z=>JT fun t A=>p t (by simp [Jl z A]);rw [m] at f;simp only [Op.operands] at f;have s:=YI e d u (f l (by simp));obtain ⟨g,h⟩:=VH d a 0;obtain ⟨i,j⟩:=VH d b 0;rw [e,f a (by simp)] at g h;rw [e,f b (by simp)] at i j
 cases v with
 | true =>
  refine ZR (v:=Act.eval ⟨q,[]⟩ a) ?_ (r _ w (Jw d g (k:=0) (by rw [e];exact h)));simp [execOp,m,s,asBool]
 | false =>
  refine ZR (v:=Act.eval ⟨q,[]⟩ b) ?_ (r _ w (Jw d i (k:=0) (by rw [e];exact j)));simp [execOp,m,s,asBool]
def Yd {P:Program} {o:Oper} {σ:Nat→AV} {v:Value} (d:Zgg v=Xb)
  (h:∀ (a:Act) (w:World),(∀ y∈o.op.operands,∀ u,Z0 P σ y = .val u→a.eval y=u)→(execOp a.eval o).run P w = .ok (.value v) w):Kn P o σ (.val v) [] []:=by
 refine Z8 [] rfl fun c e f g w lim X i _ b=>⟨v,h ⟨g,[]⟩ w fun y j u k=>YI e b k (i y j),.val d⟩
def ZwB:BinOp→Option IOp
 | .add => Xa .add
 | .sub => Xa .sub
 | .mul => Xa .mul
 | .quo => Xa .quo
 | .rem => Xa .rem
 | .and => Xa .and
 | .or => Xa .or
 | .xor => Xa .xor
 | .andNot => Xa .andNot
 | _ => Xe
def Zsa {P:Program} {o:Oper} {σ:Nat→AV} {op:BinOp} {i:IOp} {T T':TypeId} {x y:Operand} {k:IntKind} {a b:Int} (c:o.op = .binOp op T x y T')
  (d:ZwB op=Xa i) (e:Z0 P σ x = .val (.int k a)) (f:Z0 P σ y = .val (.int k b)) (g:i = .quo∨i = .rem→b≠0):Kn P o σ (.val (.int k (P1 i k a b))) [] []:=by
 refine Yd rfl fun n w h=>?_;rw [c] at h;simp only [Op.operands] at h;have j:=h x (by simp) _ e;have l:=h y (by simp) _ f
 cases op<;>simp [ZwB] at d<;>subst d <;>
  simp [execOp,c,j,l,eqGuard,binOp,Op.intArith,Op.intDiv,Op.intBits,P1]<;>exact fun m=>(g (by simp) m).elim
def ZxR:BinOp→Option COp
 | .eql => Xa .eql
 | .neq => Xa .neq
 | .lss => Xa .lss
 | .leq => Xa .leq
 | .gtr => Xa .gtr
 | .geq => Xa .geq
 | _ => Xe
def ZsO {P:Program} {o:Oper} {σ:Nat→AV} {op:BinOp} {i:COp} {T T':TypeId} {x y:Operand} {k:IntKind} {a b:Int} (c:o.op = .binOp op T x y T')
  (d:ZxR op=Xa i) (e:Z0 P σ x = .val (.int k a)) (f:Z0 P σ y = .val (.int k b)):Kn P o σ (.val (.bool (P0 i a b))) [] []:=by
 refine Yd rfl fun l w h=>?_;rw [c] at h;simp only [Op.operands] at h;have g:=h x (by simp) _ e;have j:=h y (by simp) _ f
 cases op<;>simp [ZxR] at d<;>subst d <;>
  simp [execOp,c,g,j,eqGuard,binOp,Op.intCmp,P0]
def ZfK {P:Program} {o:Oper} {σ:Nat→AV} {op:BinOp} {i:IOp} {T T':TypeId} {x y:Operand} {k d:IntKind} {a b:Int} (c:o.op = .binOp op T x y T')
  (e:(op = .shl∧i = .shl)∨(op = .shr∧i = .shr)) (f:Z0 P σ x = .val (.int k a)) (g:Z0 P σ y = .val (.int d b)) (j:0≤b):Kn P o σ (.val (.int k (P1 i k a b))) [] []:=by
 refine Yd rfl fun n w h=>?_;rw [c] at h;simp only [Op.operands] at h;have l:=h x (by simp) _ f;have m:=h y (by simp) _ g;rcases e with ⟨rfl,rfl⟩ | ⟨rfl,rfl⟩ <;> simp [execOp,c,l,m,eqGuard,binOp,Op.shift,P1,Int.not_lt.2 j]
def Zmz {P:Program} {o:Oper} {σ:Nat→AV} {op:BinOp} {T T':TypeId} {x y:Operand} {a b:ByteArray} (d:o.op = .binOp op T x y T')
  (c:op = .eql∨op = .neq) (e:Z0 P σ x = .val (.string a)) (f:Z0 P σ y = .val (.string b)) :
  Kn P o σ (.val (.bool (if op = .eql then a.toList == b.toList else !(a.toList == b.toList)))) [] []:=by
 refine Yd rfl fun j w h=>?_;rw [d] at h;simp only [Op.operands] at h;have g:=h x (by simp) _ e;have i:=h y (by simp) _ f;rcases c with rfl | rfl<;>simp [execOp,d,g,i,eqGuard,binOp,Op.stringOp]
def Zi9 {P:Program} {o:Oper} {σ:Nat→AV} {op:BinOp} {T T':TypeId} {x y:Operand} {a b:Bool} (d:o.op = .binOp op T x y T') (e:P.underlying T=Xa .bool)
  (c:op = .eql∨op = .neq) (f:Z0 P σ x = .val (.bool a)) (g:Z0 P σ y = .val (.bool b)) :
  Kn P o σ (.val (.bool (if op = .eql then a == b else !(a == b)))) [] []:=by
 refine Yd rfl fun l w h=>?_;rw [d] at h;simp only [Op.operands] at h;have i:=h x (by simp) _ f;have j:=h y (by simp) _ g;have k:(Op.equal T (.bool a) (.bool b)).run P w = .ok (a == b) w:=run_equalIn_bool' w 9999 T a b e;rcases c with rfl | rfl<;>simp [execOp,d,i,j,eqGuard,binOp,k]
def ZtA {P:Program} {o:Oper} {σ:Nat→AV} {T:TypeId} {x:Operand} {b:Bool} (a:o.op = .unOp .not T x) (c:Z0 P σ x = .val (.bool b)) :
  Kn P o σ (.val (.bool !b)) [] []:=by
 refine Yd rfl fun e w h=>?_;rw [a] at h;simp only [Op.operands] at h;have d:=h x (by simp) _ c;simp [execOp,a,d,Op.unary]
def Zs5 {P:Program} {o:Oper} {σ:Nat→AV} {T:TypeId} {x:Operand} {k:IntKind} {n:Int} (a:o.op = .unOp .neg T x) (b:Z0 P σ x = .val (.int k n)) :
  Kn P o σ (.val (.int k (P1 .sub k 0 n))) [] []:=by
 refine Yd rfl fun d w h=>?_;rw [a] at h;simp only [Op.operands] at h;have c:=h x (by simp) _ b;simp [execOp,a,c,Op.unary,Op.intArith,P1]
def ZnW {P:Program} {o:Oper} {σ:Nat→AV} {T:TypeId} {x:Operand} {k:IntKind} {n:Int} (a:o.op = .unOp .xor T x) (b:Z0 P σ x = .val (.int k n)) :
  Kn P o σ (.val (.int k (P1 .xor k (if k.signed=Xb then -1 else k.max) n))) [] []:=by
 refine Yd rfl fun d w h=>?_;rw [a] at h;simp only [Op.operands] at h;have c:=h x (by simp) _ b;simp [execOp,a,c,Op.unary,Op.intBits,P1]
def ZoR {P:Program} {o:Oper} {σ:Nat→AV} {S T:TypeId} {x:Operand} {k c a:IntKind} {n:Int} (b:o.op = .convert S T x) (d:P.underlying S=Xa (.int c)) (e:P.underlying T=Xa (.int a))
  (f:Z0 P σ x = .val (.int k n)):Kn P o σ (.val (.int a (a.wrap n))) [] []:=by
 refine Yd rfl fun i w h=>?_;rw [b] at h;simp only [Op.operands] at h;have g:=h x (by simp) _ f;simp [execOp,b,g,convert,run_underlying d,run_underlying e,Conv.intToInt]
def ZdV {P:Program} {o:Oper} {σ:Nat→AV} {f:Call} {mn:Bool} {x y:Operand} {k:IntKind} {a b:Int} (g:o.op = .call f) (d:f.callee = .builtin (if mn=Xb then .min else .max))
  (e:f.args.toList = [x,y]) (l:Z0 P σ x = .val (.int k a)) (m:Z0 P σ y = .val (.int k b)) :
  Kn P o σ (.val (.int k (P1 (if mn=Xb then .min else .max) k a b))) [] []:=by
 refine Yd rfl fun n w h=>?_
 have c:f.args = #[x,y]:=by
  apply Ud.1;rw [e]
 rw [g] at h;simp only [Op.operands,Call.operands,c,d] at h;have i:=h x (by simp) _ l;have j:=h y (by simp) _ m
 cases mn
 ·simp [execOp,g,d,resolve,c,i,j,invoke,builtin,Builtin.max_,Builtin.max2,P1];omega
 ·simp [execOp,g,d,resolve,c,i,j,invoke,builtin,Builtin.min_,Builtin.min2,P1];omega
def VA (P:Program):AV→AV
 | .own _ e xs => .slice Xc (P.cellsOf e) xs
 | x => x
def Zkc (x:AV):Prop:=x.isCell=Xb∨∃ b e xs,x = .own b e xs
def YY (b o n:Nat):(⟨b,o,Xe⟩:Addr).add n=⟨b,o+n,Xe⟩:=by
 unfold Addr.add;split
 ·rename_i h;subst h;rfl
 ·rfl
def ZbP {P:Program} {T:TypeId} {d:TypeDesc} (h:P.underlying T=Xa d):∃ i,P.info? T=Xa i:=by
 unfold Program.underlying at h;split at h
 ·rename_i a;exact ⟨_,a⟩
 ·rename_i i a;exact ⟨_,a⟩
 ·cases h
def JL {P:Program} {T:TypeId} {i:TypeInfo} (h:P.info? T=Xa i):P.cellsOf T=i.size:=by simp [Program.cellsOf,h]
def Z7 {P:Program} {T:TypeId} {i:TypeInfo} (h:P.info? T=Xa i) (w:World):(sizeOf T).run P w = .ok (P.cellsOf T) w:=by
 simp [sizeOf,typeInfo,h,JL h]
def Ji {P:Program} {T:TypeId} (h:P.cellsOf T≠0):∃ i,P.info? T=Xa i:=by
 cases hi:P.info? T with
 | none => simp [Program.cellsOf, hi] at h
 | some i => exact ⟨i, rfl⟩
def Zcm {P:Program} {T:TypeId} (h:YT P T=Xa Xb) (w:World):(isAgg T).run P w = .ok Xb w:=by
 unfold YT at h;split at h<;>simp at h
 ·rename_i a;simp [isAgg,run_underlying a]
 ·rename_i a;simp [isAgg,run_underlying a]
def V9 {P:Program} {T:TypeId} (h:YT P T=Xa Xc) (w:World):(isAgg T).run P w = .ok Xc w:=by
 unfold YT at h;split at h<;>simp at h;rename_i d b c a;simp only [isAgg,Sem.run_bind,run_underlying a,Result.andThen_ok];rfl
def Zft {P:Program} {T:TypeId} {b:Bool} (h:YT P T=Xa b):∃ i,P.info? T=Xa i:=by
 unfold YT at h;split at h<;>simp at h<;>(rename_i a;exact ZbP a)
def KI.strip {P:Program} {w:World} {lim:Nat→Nat} {ob:Option Nat} {x:AV} {v:Value} (h:KI P w lim ob x v) (a:Zkc x) (c:∀ e xs,x≠.own Xb e xs) :
  (VA P x).isCell=Xb∧Rep w lim (VA P x) v:=by
 rcases a with a | ⟨b,e,xs,rfl⟩
 ·cases x<;>simp [AV.isCell] at a
  ·exact ⟨rfl,h⟩
  ·exact ⟨rfl,h⟩
 ·cases b with
  | true => exact (c e xs rfl).elim
  | false => exact ⟨rfl, YF.rep h Xc rfl⟩
def J5 {w:World} {b o:Nat} {arr:Array Value} {t:TypeId} {a:Nat×Nat} (h:w.heap[b]? = Xa (.cells arr t a)):w.cell? ⟨b,o,Xe⟩=arr[o]?:=by
 simp [World.cell?,h]
def Jt.part {P:Program} {w:World} {lim:Nat→Nat} {X:Nat→Option Nat} {cs:List AV} {v:Value} (h:Jt P w lim X cs v) (off n:Nat) (C:off+n≤cs.length) (m:W5 ((cs.drop off).take n)) :
  ∃ (b:Nat) (us:List Value),X 0=Xa b∧v = .pointer (Xa ⟨b,0,Xe⟩)∧us.length=n∧(∀ (j:Nat) (u:Value),us[j]? = Xa u→w.cell? ⟨b,off+j,Xe⟩=Xa u)∧
   (∀ c∈((cs.drop off).take n).map (VA P),c.isCell=Xb)∧
   ∀ (i:Nat) (c:AV) (u:Value),(((cs.drop off).take n).map (VA P))[i]? = Xa c→us[i]? = Xa u→Rep w lim c u:=by
 obtain ⟨b,arr,t,q,r,s,y,D,p,z⟩:=h;refine ⟨b,(arr.toList.drop off).take n,q,r,by simp [y];omega,fun j u k=>?_,fun c a=>?_,fun i c u a l=>?_⟩
 ·rw [J5 s];rw [XZ] at k;split at k
  ·simpa using k
  ·cases k
 ·obtain ⟨x,d,rfl⟩:=XB.1 a;have o:x∈cs:=X4 (XS d);rcases p x o with h | ⟨b,e,xs,rfl⟩
  ·cases x<;>simp [AV.isCell] at h<;>rfl
  ·rfl
 ·rw [Xy,XZ] at a;rw [XZ] at l;split at a
  ·rename_i f;rw [P4 f] at l;simp only [Ug] at a l
   cases d:cs[off+i]? with
   | none => simp [d] at a
   | some x =>
    simp [d] at a;subst a;have g:x∈cs:=Xt d;exact ((z (off+i) x u d (by simpa using l)).strip (p x g) fun e xs A=>m x (Xt (i:=i) (by rw [XZ,P4 f,Ug];exact d)) e xs A).2
  ·simp at a
def ZaZ {c:Ctx} {σ:Nat→AV} {g:Array Value} {w:World} {lim:Nat→Nat} {X:Nat→Nat→Option Nat} (h:Sim c σ g w lim X) {d off k:Nat} {cs:List AV} {v:Value}
  (j:σ d = .box cs) (l:Jx c.P w lim X σ k (.ptr d off) v):∃ b,X d 0=Xa b∧v = .pointer (Xa ⟨b,off,Xe⟩)∧Jt c.P w lim (X d) cs (.pointer (Xa ⟨b,0,Xe⟩)):=by
 obtain ⟨b,m,e,q,n⟩:=l;have i:=h.rel d;rw [j] at i;have a:Jt c.P w lim (X d) cs (g.getD d undef):=i;have f:=a;obtain ⟨b',arr,t,o,p,_⟩:=f;have:b'=b:=by rw [o] at e;exact Ua e
 subst this;refine ⟨b',e,n,?_⟩;rw [p] at a;exact a
def ZaR {P:Program} {T:TypeId} {w:World} {b off:Nat} {us:List Value} (a:YT P T=Xa Xb) (d:us.length=P.cellsOf T)
  (e:∀ (j:Nat) (u:Value),us[j]? = Xa u→w.cell? ⟨b,off+j,Xe⟩=Xa u):(Instr.loadAt T (.pointer (Xa ⟨b,off,Xe⟩))).run P w = .ok (.agg us.toArray) w:=by
 obtain ⟨i,f⟩:=Zft a;have c:=run_loadCells_list (P:=P) w ⟨b,off,Xe⟩ us (fun j v g=>by rw [YY];exact e j v g);rw [d] at c;simp [Instr.loadAt,Instr.sureAddr,loadVar,Zcm a,Z7 f,c]
def KJ {P:Program} {T:TypeId} {w:World} {b off:Nat} {u:Value} (a:YT P T=Xa Xc)
  (c:w.cell? ⟨b,off,Xe⟩=Xa u):(Instr.loadAt T (.pointer (Xa ⟨b,off,Xe⟩))).run P w = .ok u w:=by
 simp [Instr.loadAt,Instr.sureAddr,loadVar,V9 a,c]
def W9 {P:Program} {w:World} {lim:Nat→Nat} {X:Nat→Nat→Option Nat} {σ:Nat→AV} {k:Nat} {x:AV} {v:Value} (a:x.isCell=Xb) (h:Rep w lim x v) :
  x.plain=Xb∧Jx P w lim X σ k x v:=by
 cases x<;>simp [AV.isCell] at a
 ·exact ⟨rfl,h⟩
 ·exact ⟨rfl,h⟩
def Zhj {P:Program} {o:Oper} {σ:Nat→AV} {T:TypeId} {a:Operand} {d off:Nat} {cs:List AV} (k:o.op = .load T a) (s:YT P T=Xa Xb)
  (t:Z0 P σ a = .ptr d off) (u:σ d = .box cs) (v:off+P.cellsOf T≤cs.length) (f:W5 ((cs.drop off).take (P.cellsOf T))):Kn P o σ (.agg (((cs.drop off).take (P.cellsOf T)).map (VA P))) [] [d]:=by
 refine Z8 [d] rfl fun c g h A w lim X l i e=>?_;rw [k] at l;have m:=WB g e t (l a (by simp [Op.operands]));have j:h d = .box cs:=by rw [i d (by simp),u]
 rw [← g] at m;obtain ⟨b,n,x,y⟩:=ZaZ e j m;obtain ⟨b',us,z,C,p,g4,q,r⟩:=y.part off (P.cellsOf T) v f;have:b'=b:=by rw [z] at n;exact Ua n
 subst this;refine ⟨.agg us.toArray,?_,?_⟩
 ·simp [execOp,k,x,ZaR s p g4]
 ·rw [g] at q r;exact .agg (by simp [p];omega) q r
def ZaA {P:Program} {o:Oper} {σ:Nat→AV} {T:TypeId} {a:Operand} {d off:Nat} {cs:List AV} {x:AV} (s:o.op = .load T a) (H:YT P T=Xa Xc)
  (J:Z0 P σ a = .ptr d off) (L:σ d = .box cs) (z:cs[off]? = Xa x) (n:∀ e xs,x≠.own Xb e xs):Kn P o σ (VA P x) [] [d]:=by
 intro c m h tm w lim X p q f next Q M;have N:Z0 P h a=Z0 P σ a:=JT fun t O=>p t (by simp [Jl (o:=o) (x:=a) (by rw [s];simp [Op.operands]) O]);have A:=WB m f J N;have r:h d = .box cs:=by rw [q d (by simp),L]
 rw [← m] at A;obtain ⟨b,C,R,S⟩:=ZaZ f r A;have U:off < cs.length:=(XA.1 z).1
 have i:(cs.drop off).take 1 = [x]:=by
  rw [List.take_one,List.head?_drop,z];rfl
 obtain ⟨b',us,W,g2,Y,g4,D,E⟩:=S.part off 1 (by omega) (by
  rw [i];intro y Z e xs G;rw [List.mem_singleton.1 Z] at G;exact n e xs G)
 have:b'=b:=by rw [W] at C;exact Ua C
 subst this;obtain ⟨u,rfl⟩:∃ u,us = [u]:=List.length_eq_one_iff.1 Y;have g:=g4 0 u rfl;rw [U1] at g
 have hl:((cs.drop off).take 1).map (VA c.P) = [VA c.P x]:=by
  rw [i];rfl
 rw [hl] at D E;have j:=D (VA c.P x) (by simp);have l:=E 0 (VA c.P x) u rfl rfl;rw [m] at j l;obtain ⟨p1,p2⟩:=W9 (P:=P) (X:=X) (σ:=h) (k:=0) j l;refine ZR (v:=u) ?_ (M u w (Jw f p1 (k:=0) (by rw [m];exact p2)));simp [execOp,s,R,KJ H g]
def Zco {P:Program} {w:World} {lim:Nat→Nat} {X:Nat→Nat→Option Nat} {σ:Nat→AV} {k:Nat} {cs:List AV} {v:Value} (h:Jx P w lim X σ k (.eptr cs) v) :
  ∃ (b o:Nat) (us:List Value),v = .pointer (Xa ⟨b,o,Xe⟩)∧us.length=cs.length∧(us≠[]→o+us.length≤lim b)∧
   (∀ (j:Nat) (u:Value),us[j]? = Xa u→w.cell? ⟨b,o+j,Xe⟩=Xa u)∧(∀ c∈cs,c.isCell=Xb)∧
   ∀ (j:Nat) (c:AV) (u:Value),cs[j]? = Xa c→us[j]? = Xa u→Rep w lim c u:=h
def Zfe {P:Program} {o:Oper} {σ:Nat→AV} {T:TypeId} {a:Operand} {cs:List AV} (k:o.op = .load T a) (n:YT P T=Xa Xb)
  (p:Z0 P σ a = .eptr cs) (A:P.cellsOf T≤cs.length):Kn P o σ (.agg (cs.take (P.cellsOf T))) [] []:=by
 refine Z8 [] rfl fun c q r C w lim X l s e=>?_;rw [k] at l;obtain ⟨b,off,us,t,m,D,v,y,z⟩:=Zco (WB q e p (l a (by simp [Op.operands])));refine ⟨.agg (us.take (P.cellsOf T)).toArray,?_,?_⟩
 ·have:=ZaR (w:=w) (b:=b) (off:=off) (us:=us.take (P.cellsOf T)) n (by simp [m];omega) (fun j u f=>v j u (by
   rw [XZ] at f;split at f
   ·exact f
   ·cases f))
  simp [execOp,k,t,this]
 ·refine .agg (by simp [m]) (fun x d=>y x (XS d)) fun i x u d g=>?_;rw [XZ] at d g;split at d
  ·rename_i h;rw [P4 h] at g;exact z i x u d g
  ·cases d
def Zd9 {P:Program} {o:Oper} {σ:Nat→AV} {T:TypeId} {a:Operand} {x:AV} {cs:List AV} (i:o.op = .load T a) (l:YT P T=Xa Xc)
  (m:Z0 P σ a = .eptr (x::cs)):Kn P o σ x [] []:=by
 intro c j g G w lim X h n f next Q p;have q:Z0 P g a=Z0 P σ a:=JT fun t r=>h t (by simp [Jl (o:=o) (x:=a) (by rw [i];simp [Op.operands]) r]);obtain ⟨b,off,us,s,y,H,z,A,C⟩:=Zco (WB j f m q)
 obtain ⟨u,e,rfl⟩:∃ u e,us=u::e:=by
  cases us with
  | nil => simp at y
  | cons u e => exact ⟨u, e, rfl⟩
 have d:=z 0 u rfl;rw [U1] at d;obtain ⟨D,E⟩:=W9 (P:=P) (X:=X) (σ:=g) (k:=0) (A x (by simp)) (C 0 x u rfl rfl);refine ZR (v:=u) ?_ (p u w (Jw f D (k:=0) (by rw [j];exact E)));simp [execOp,i,s,KJ l d]
def ZbN {P:Program} {T:TypeId} {f off:Nat} (h:KC P T f=Xa off) :
  ∃ b a,P.underlying T=Xa (.struct b)∧b[f]? = Xa a∧a.offset=off∧P.cellsOf a.type≠0:=by
 unfold KC at h;split at h
 ·rename_i b c;split at h
  ·rename_i a d;split at h
   ·cases h
   ·rename_i e;exact ⟨b,a,c,d,by simpa using h,e⟩
  ·cases h
 ·cases h
def ZaM {P:Program} {T:TypeId} {f off b o:Nat} (h:KC P T f=Xa off) (w:World) :
  (Instr.fieldAt T (.pointer (Xa ⟨b,o,Xe⟩)) f).run P w = .ok (.pointer (Xa ⟨b,o+off,Xe⟩)) w:=by
 obtain ⟨j,k,c,d,e,a⟩:=ZbN h;obtain ⟨i,g⟩:=Ji a;simp [Instr.fieldAt,run_underlying c,d,Instr.sureAddr,fieldPlace,Z7 g,a,YY,e]
def Ze4 {P:Program} {o:Oper} {σ:Nat→AV} {T:TypeId} {x:Operand} {f off d p:Nat} (e:o.op = .fieldAddr T x f) (h:KC P T f=Xa off)
  (i:Z0 P σ x = .ptr d p):Kn P o σ (.ptr d (p+off)) [] []:=by
 refine Z8 [] rfl fun c j k r w lim X g l a=>?_;rw [e] at g;obtain ⟨b,cs,m,n,q⟩:=WB j a i (g x (by simp [Op.operands]));exact ⟨.pointer (Xa ⟨b,p+off,Xe⟩),by simp [execOp,e,q,ZaM h],b,cs,m,n,rfl⟩
def Zev {P:Program} {o:Oper} {σ:Nat→AV} {T:TypeId} {x:Operand} {f off d k p:Nat} (g:o.op = .fieldAddr T x f) (i:KC P T f=Xa off)
  (j:Z0 P σ x = .eref d k p):Kn P o σ (.eref d k (p+off)) [] []:=by
 refine Z8 [] rfl fun c l m t w lim X h n a=>?_;rw [g] at h;obtain ⟨b,e,xs,q,r,s⟩:=WB l a j (h x (by simp [Op.operands]));exact ⟨.pointer (Xa ⟨b,p+off,Xe⟩),by simp [execOp,g,s,ZaM i],b,e,xs,q,r,rfl⟩
def ZdI {P:Program} {o:Oper} {σ:Nat→AV} {T:TypeId} {x:Operand} {f off:Nat} {cs:List AV} (i:o.op = .fieldAddr T x f) (n:KC P T f=Xa off)
  (q:Z0 P σ x = .eptr cs):Kn P o σ (.eptr (cs.drop off)) [] []:=by
 refine Z8 [] rfl fun c r s H w lim X k t a=>?_;rw [i] at k;obtain ⟨b,p,us,v,z,A,C,D,E⟩:=Zco (WB r a q (k x (by simp [Op.operands])));refine ⟨.pointer (Xa ⟨b,p+off,Xe⟩),by simp [execOp,i,v,ZaM n],b,p+off,us.drop off,rfl,by simp [z],fun g=>?_,fun j u l=>?_,fun y d=>D y (X4 d),fun j y u d m=>?_⟩
 ·have G:off < us.length:=by
   rcases Ub off us.length with h | h
   ·exact h
   ·exact (g (List.drop_eq_nil_of_le h)).elim
  have:=A (by intro e;subst e;simp at G);simp only [Un];omega
 ·rw [Ug] at l;have:=C _ u l
  rwa [← Ui] at this
 ·rw [Ug] at d m;exact E _ y u d m
def Wq {P:Program} {o:Oper} {σ:Nat→AV} {x:Operand} {y:AV} (j:o.op = .nilCheck x) (q:Z0 P σ x=y) (l:(∃ d p,y = .ptr d p)∨(∃ cs,y = .eptr cs)∨∃ d k p,y = .eref d k p):Kn P o σ y [] []:=by
 have r:y.plain=Xb:=by rcases l with ⟨d,p,rfl⟩ | ⟨cs,rfl⟩ | ⟨d,k,p,rfl⟩ <;> rfl
 refine Z8 [] r fun c s t m w lim X n u f=>?_;rw [j] at n;have g:=WB s f q (n x (by simp [Op.operands]));refine ⟨Act.eval ⟨m,[]⟩ x,?_,g⟩
 have:∃ a,Act.eval ⟨m,[]⟩ x = .pointer (Xa a):=by
  rcases l with ⟨d,p,rfl⟩ | ⟨cs,rfl⟩ | ⟨d,k,p,rfl⟩
  ·obtain ⟨b,cs,h,v,i⟩:=g;exact ⟨_,i⟩
  ·obtain ⟨b,p,us,h,_⟩:=g;exact ⟨_,h⟩
  ·obtain ⟨b,e,xs,h,v,i⟩:=g;exact ⟨_,i⟩
 obtain ⟨a,z⟩:=this;simp [execOp,j,z]
def ZeX {P:Program} {o:Oper} {σ:Nat→AV} {g:Call} {x:Operand} {T e:TypeId} {f:Bool} {s:Nat} {xs:List (List AV)} (n:o.op = .call g) (h:g.callee = .builtin .len)
  (d:g.args.toList = [x]) (l:g.argTypes.toList = [T]) (q:P.underlying T=Xa (.slice e)) (r:Z0 P σ x = .slice f s xs):Kn P o σ (.val (.int .i64 xs.length)) [] []:=by
 have b:g.args = #[x]:=by apply Ud.1;rw [d]
 have i:g.argTypes = #[T]:=by apply Ud.1;rw [l]
 refine Z8 [] rfl fun c t v m w lim X p y j=>⟨.int .i64 xs.length,?_,.val rfl⟩;rw [n] at p;have z:=WB t j r (p x (by simp [Op.operands,Call.operands,b,h]))
 have:∃ a cap,Act.eval ⟨m,[]⟩ x = .slice a xs.length cap:=by
  have k:Rep w lim (.slice f s xs) (Act.eval ⟨m,[]⟩ x):=z;generalize Act.eval ⟨m,[]⟩ x=u at k
  cases k with
  | sliceN => exact ⟨Xe, 0, rfl⟩
  | sliceE _ => exact ⟨_, _, rfl⟩
  | sliceC => exact ⟨_, _, rfl⟩
 obtain ⟨a,cap,A⟩:=this;simp [execOp,n,h,resolve,b,i,invoke,builtin,Builtin.len_,run_underlying q,A,goInt]
def ZiB {P:Program} {o:Oper} {σ:Nat→AV} {d:Call} {x:Operand} {T:TypeId} {s:ByteArray} (i:o.op = .call d) (e:d.callee = .builtin .len)
  (b:d.args.toList = [x]) (h:d.argTypes.toList = [T]) (k:P.underlying T=Xa .string) (l:Z0 P σ x = .val (.string s)):Kn P o σ (.val (.int .i64 s.size)) [] []:=by
 have a:d.args = #[x]:=by apply Ud.1;rw [b]
 have f:d.argTypes = #[T]:=by apply Ud.1;rw [h]
 refine Z8 [] rfl fun c m n r w lim X j p g=>⟨.int .i64 s.size,?_,.val rfl⟩;rw [i] at j;have q:=YI m g l (j x (by simp [Op.operands,Call.operands,a,e]));simp [execOp,i,e,resolve,a,f,invoke,builtin,Builtin.len_,run_underlying k,q,goInt]
def WA (xs:List (List AV)) (s:Nat) (a:∀ x∈xs,x.length=s):∀ (n:Nat) (e:List AV),xs[n]? = Xa e→∀ j,j < s→xs.flatten[n*s+j]? = e[j]?:=by
 induction xs with
 | nil => intro n e h; simp at h
 | cons x xs ih =>
  intro n e h j c;have b:x.length=s:=a x (by simp)
  cases n with
  | zero =>
   simp at h;subst h;simp only [XD,Nat.zero_mul,X9];rw [XL (by omega)]
  | succ n =>
   simp only [XD];rw [XH (by rw [b,Ul];omega)];have:(n+1)*s+j-x.length=n*s+j:=by rw [b,Ul];omega
   rw [this];exact ih (fun y d=>a y (by simp [d])) n e (by simpa using h) j c
def ZjF {P:Program} {T:TypeId} {f off e:Nat} {agg:Bool} (h:KC P T f=Xa off) (b:Zg0 P T f=Xa (agg,e)) :
  ∃ d c,P.underlying T=Xa (.struct d)∧d[f]? = Xa c∧c.offset=off∧YT P c.type=Xa agg∧P.cellsOf c.type=e:=by
 obtain ⟨d,c,g,i,j,k⟩:=ZbN h;unfold Zg0 at b;simp only [g,i] at b
 cases ha:YT P c.type with
 | none => rw [ha] at b; simp at b
 | some a =>
  rw [ha] at b;simp only [XC,Xg,XG] at b;exact ⟨d,c,g,i,j,by rw [ha,b.1],b.2⟩
def ZdM {P:Program} {o:Oper} {σ:Nat→AV} {T:TypeId} {x:Operand} {f off d:Nat} {agg:Bool} {cs:List AV} {y:AV} (m:o.op = .field T x f) (C:KC P T f=Xa off) (D:Zg0 P T f=Xa (agg,d))
  (E:Z0 P σ x = .agg cs) (U:off+d≤cs.length) (G:0 < d) (g:(agg=Xb∧y = .agg ((cs.drop off).take d))∨(agg=Xc∧cs[off]? = Xa y∧y.plain=Xb)):Kn P o σ y [] []:=by
 obtain ⟨W,H,p,q,r,s,J⟩:=ZjF C D
 have L:y.plain=Xb:=by
  rcases g with ⟨_,rfl⟩ | ⟨_,_,h⟩
  ·rfl
  ·exact h
 refine Z8 [] L fun c M N t w lim X z O j=>?_;rw [m] at z;have A:Rep w lim (.agg cs) (Act.eval ⟨t,[]⟩ x):=WB M j E (z x (by simp [Op.operands]));generalize hu:Act.eval ⟨t,[]⟩ x=u at A
 cases A with
 | @agg _ vs hl' hcell hr =>
  obtain ⟨Q,k⟩:=Ji (show P.cellsOf H.type≠0 by omega);rcases g with ⟨rfl,rfl⟩ | ⟨rfl,g,_⟩
  ·refine ⟨.agg (vs.toArray.extract off (off+d)),by simp [execOp,m,hu,Instr.field,run_underlying p,q,part,Zcm s,Z7 k,r,J,asAgg],?_⟩
   have e:(vs.toArray.extract off (off+d))=((vs.drop off).take d).toArray:=by
    apply Ud.1;simp [List.take_drop]
   rw [e];refine Rep.agg (by simp;omega) (fun y g=>hcell y (X4 (XS g))) fun i c' Y a b=>?_;rw [XZ] at a b;split at a
   ·rename_i R;rw [P4 R] at b;rw [Ug] at a b;exact hr _ _ _ a b
   ·cases a
  ·obtain ⟨v,l⟩:∃ v,vs[off]? = Xa v:=⟨_,Xp (by omega)⟩;refine ⟨v,by simp [execOp,m,hu,Instr.field,run_underlying p,q,part,V9 s,r,asAgg,l],?_⟩;have S:=hr off y v g l;have n:=hcell y (Xt g)
   cases y<;>first | exact S | (simp [AV.isCell] at n)
def ZaB {P:Program} {o:Oper} {σ:Nat→AV} {T f:TypeId} {x i:Operand} {m d p:Nat} {kd:IntKind} {z:Int} (k:o.op = .indexAddr T x i) (n:P.underlying T=Xa (.array m f)) (g:P.cellsOf f≠0)
  (q:Z0 P σ x = .ptr d p) (r:Z0 P σ i = .val (.int kd z)) (s:0≤z) (t:z < (m:Int)):Kn P o σ (.ptr d (p+z.toNat*P.cellsOf f)) [] []:=by
 refine Z8 [] rfl fun c l u G w lim X h v a=>?_;rw [k] at h;obtain ⟨b,cs,y,A,C⟩:=WB l a q (h x (by simp [Op.operands]));have j:=YI l a r (h i (by simp [Op.operands]));obtain ⟨D,e⟩:=Ji g;have E:0≤z∧z < (m:Int):=⟨s,t⟩;exact ⟨.pointer (Xa ⟨b,p+z.toNat*P.cellsOf f,Xe⟩),by simp [execOp,k,C,j,Instr.indexAt,Instr.sureAddr,asIntOf,run_underlying n,E,Z7 e,YY],b,cs,y,A,rfl⟩
def Zoc {P:Program} {o:Oper} {σ:Nat→AV} {T a:TypeId} {x i:Operand} {f:Bool} {s:Nat} {xs:List (List AV)} {k:IntKind} {n:Int} {e:List AV} (D:o.op = .indexAddr T x i)
  (L:P.underlying T=Xa (.slice a)) (M:s=P.cellsOf a) (v:P.cellsOf a≠0) (N:Z0 P σ x = .slice f s xs) (O:Z0 P σ i = .val (.int k n)) (Q:0≤n) (t:xs[n.toNat]? = Xa e) :
  Kn P o σ (.eptr e) [] []:=by
 refine Z8 [] rfl fun c E R G w lim X z S g=>?_;rw [D] at z;have H:Rep w lim (.slice f s xs) (Act.eval ⟨G,[]⟩ x):=WB E g N (z x (by simp [Op.operands]));have A:=YI E g O (z i (by simp [Op.operands]));generalize hu:Act.eval ⟨G,[]⟩ x=u at H;have l:n.toNat < xs.length:=(XA.1 t).1
 cases H with
 | sliceN => simp at l
 | sliceE _ => simp at l
 | @sliceC _ _ _ b p cap us hls hc1 hf hle hlim hus hcell hrep =>
  subst M;obtain ⟨U,m⟩:=Ji v;have C:e.length=P.cellsOf a:=hls e (Xt t)
  have J:n.toNat*P.cellsOf a+P.cellsOf a≤xs.length*P.cellsOf a:=by
   rw [← UP];exact Uu _ l
  refine ⟨.pointer (Xa ⟨b,p+n.toNat*P.cellsOf a,Xe⟩),?_,b,p+n.toNat*P.cellsOf a,(us.drop (n.toNat*P.cellsOf a)).take (P.cellsOf a),rfl,?_,fun _=>?_,fun j w' q=>?_,hc1 e (Xt t),fun j y w' W d=>?_⟩
  ·have Y:0≤n∧n < (xs.length:Int):=⟨Q,by omega⟩;simp [execOp,D,hu,A,Instr.indexAt,asIntOf,run_underlying L,Y,Z7 m,YY]
  ·simp [hus,C];omega
  ·have:=hlim (by intro h;rw [h] at hus;simp at hus;omega);simp only [X5,Un,hus] at this ⊢;omega
  ·rw [XZ] at q;split at q
   ·rw [Ug] at q;have:=hcell _ w' q
    rwa [← Ui] at this
   ·cases q
  ·rw [XZ] at d;split at d
   ·rename_i r;rw [Ug] at d;exact hrep _ y w' (by rw [WA xs _ hls n.toNat e t j r];exact W) d
   ·cases d
def ZcP (s:Nat):∀ (xs:List (List AV)) (l:Nat),(∀ x∈xs,x.length=s)→(xs.drop l).flatten=xs.flatten.drop (l*s)
 | xs, 0, _ => by simp
 | [], l + 1, _ => by simp
 | x :: xs, l + 1, h => by
  have a:=h x (by simp);have ih:=ZcP s xs l fun y b=>h y (by simp [b]);simp only [List.drop_succ_cons,XD,ih];have c:(l+1)*s=x.length+l*s:=by rw [a,Ul];omega
  rw [c,← List.drop_drop];simp
def ZcK (s:Nat):∀ (xs:List (List AV)) (l:Nat),(∀ x∈xs,x.length=s)→(xs.take l).flatten=xs.flatten.take (l*s)
 | xs, 0, _ => by simp
 | [], l + 1, _ => by simp
 | x :: xs, l + 1, h => by
  have a:=h x (by simp);have ih:=ZcK s xs l fun y b=>h y (by simp [b]);simp only [List.take_succ_cons,XD,ih];have c:(l+1)*s=x.length+l*s:=by rw [a,Ul];omega
  rw [c,List.take_length_add_append]
def Zuv {w:World} {lim:Nat→Nat} {f f':Bool} {s:Nat} {xs:List (List AV)} {a:Option Addr} {n cap:Nat} (h:Rep w lim (.slice f s xs) (.slice a n cap)) (l d:Nat)
  (H:l≤d) (A:d≤xs.length) (r:f'=Xb→cap=d):n=xs.length∧xs.length≤cap∧
  Rep w lim (.slice f' s ((xs.take d).drop l)) (.slice (if cap=l then a else a.map (·.add (l*s))) (d-l) (cap-l)):=by
 cases h with
 | sliceN =>
  have k:d=0:=by simpa using A
  subst k;have m:l=0:=by omega
  subst m;exact ⟨rfl,Xr _,.sliceN⟩
 | @sliceE _ _ a _ hf =>
  have k:d=0:=by simpa using A
  subst k;have m:l=0:=by omega
  subst m;refine ⟨rfl,XT _,?_⟩
  have p:(if cap=0 then Xa a else (Xa a).map (·.add (0*s)))=Xa a:=by
   split
   ·rfl
   ·simp [Addr.add]
  rw [p];exact .sliceE fun h=>by simpa using r h
 | @sliceC _ _ _ b o _ us hs hc hf hle hlim hus hcell hr =>
  refine ⟨rfl,hle,?_⟩;have g:((xs.take d).drop l).length=d-l:=by simp;omega
  have C:∀ e∈(xs.take d).drop l,e.length=s:=fun e p=>hs e (XS (X4 p));have D:∀ e∈(xs.take d).drop l,∀ c∈e,c.isCell=Xb:=fun e p=>hc e (XS (X4 p));rw [← g];by_cases hcl:cap=l
  ·have t:(xs.take d).drop l = []:=Um (by rw [g];omega);rw [P4 hcl,t];exact .sliceC (xs:=[]) (us:=[]) (by simp) (by simp) (fun h=>by simp;omega) (by simp) (fun h=>(h rfl).elim) (by simp) (by simp) (by simp)
  ·rw [P3 hcl];simp only [XC,YY]
   have E:((xs.take d).drop l).flatten=(xs.flatten.take (d*s)).drop (l*s):=by
    rw [ZcP s _ l fun e p=>hs e (XS p),ZcK s xs d hs]
   have J:l*s≤d*s:=Uu _ H;have L:d*s≤xs.length*s:=Uu _ A;refine .sliceC (us:=(us.take (d*s)).drop (l*s)) C D (fun h=>by rw [g,r h]) (by rw [g];omega) (fun v=>?_) ?_ (fun j u z=>?_) fun j c u i q=>?_
   ·have x:us≠[]:=by intro e;subst e;simp at v
    have:=hlim x;have y:0 < ((us.take (d*s)).drop (l*s)).length:=TF.2 v;simp only [Un,X5] at y ⊢;omega
   ·rw [g,Nat.sub_mul];simp only [Un,X5];omega
   ·rw [Ug,XZ] at z;split at z
    ·have:=hcell _ u z
     rwa [← Ui] at this
    ·cases z
   ·rw [E,Ug,XZ] at i;rw [Ug,XZ] at q;split at i
    ·rename_i G;rw [P4 G] at q;exact hr _ c u i q
    ·cases i
def Zas {w:World} {lim:Nat→Nat} {f:Bool} {s:Nat} {xs:List (List AV)} {v:Value} (h:Rep w lim (.slice f s xs) v) :
  ∃ a cap,v = .slice a xs.length cap∧(f=Xb→cap=xs.length):=by
 cases h with
 | sliceN => exact ⟨Xe, 0, rfl, fun _ => rfl⟩
 | sliceE hf => exact ⟨_, _, rfl, hf⟩
 | sliceC hs hc hf => exact ⟨_, _, rfl, hf⟩
def Zdo {P:Program} {o:Oper} {σ:Nat→AV} {T e:TypeId} {x:Operand} {r t:Option Operand} {f f':Bool} {s:Nat} {xs:List (List AV)} {l h:Nat} (i:o.op = .slice T x r t Xe)
  (u:P.underlying T=Xa (.slice e)) (v:s=P.cellsOf e) (C:P.cellsOf e≠0) (Q:Z0 P σ x = .slice f s xs) (D:l≤h) (R:h≤xs.length)
  (E:(r=Xe∧l=0)∨∃ y k,r=Xa y∧Z0 P σ y = .val (.int k l)) (G:(t=Xe∧h=xs.length)∨∃ y k,t=Xa y∧Z0 P σ y = .val (.int k h))
  (N:f'=Xb→f=Xb∧h=xs.length):Kn P o σ (.slice f' s ((xs.take h).drop l)) [] []:=by
 refine Z8 [] rfl fun c H S J w lim X A U d=>?_;rw [i] at A;have L:Rep w lim (.slice f s xs) (Act.eval ⟨J,[]⟩ x):=WB H d Q (A x (by simp [Op.operands]));obtain ⟨a,cap,j,m⟩:=Zas L;rw [j] at L;obtain ⟨_,W,Y⟩:=Zuv (f':=f') L l h D R (fun n=>by rw [m (N n).1,(N n).2]);obtain ⟨Z,b⟩:=Ji C;refine ⟨_,?_,Y⟩;have p:∀ y k,r=Xa y→Z0 P σ y = .val (.int k l)→Act.eval ⟨J,[]⟩ y = .int k l:=fun y k g M=>YI H d M (A y (by simp [Op.operands,g]));have q:∀ y k,t=Xa y→Z0 P σ y = .val (.int k h)→Act.eval ⟨J,[]⟩ y = .int k h:=fun y k g M=>YI H d M (A y (by simp [Op.operands,g]));have O:h≤cap:=by omega
 rcases E with ⟨rfl,rfl⟩ | ⟨y,k,rfl,g⟩ <;> rcases G with ⟨rfl,rfl⟩ | ⟨z,k',rfl,hz⟩
 ·simp [execOp,i,j,Instr.sliceAt,Instr.slice,Instr.sliceBounds,run_underlying u,Z7 b,v]
 ·simp [execOp,i,j,Instr.sliceAt,Instr.slice,Instr.sliceBounds,Instr.sliceBound,asIntOf,run_underlying u,Z7 b,q z k' rfl hz,O,v]
 ·simp [execOp,i,j,Instr.sliceAt,Instr.slice,Instr.sliceBounds,Instr.sliceBound,asIntOf,run_underlying u,Z7 b,p y k rfl g,D,v]
 ·simp [execOp,i,j,Instr.sliceAt,Instr.slice,Instr.sliceBounds,Instr.sliceBound,asIntOf,run_underlying u,Z7 b,p y k rfl g,q z k' rfl hz,O,D,v]
def ZnG {P:Program} {o:Oper} {σ:Nat→AV} {T e:TypeId} {x y z:Operand} {f:Bool} {s:Nat} {xs:List (List AV)} {k A:IntKind} (l:o.op = .slice T x Xe (Xa y) (Xa z))
  (n:P.underlying T=Xa (.slice e)) (q:P.cellsOf e≠0) (C:Z0 P σ x = .slice f s xs) (D:Z0 P σ y = .val (.int k 0)) (E:Z0 P σ z = .val (.int A 0)):Kn P o σ (.slice Xb s []) [] []:=by
 refine Z8 [] rfl fun c r G t w lim X m H d=>?_;rw [l] at m;have v:Rep w lim (.slice f s xs) (Act.eval ⟨t,[]⟩ x):=WB r d C (m x (by simp [Op.operands]));have i:=YI r d D (m y (by simp [Op.operands]));have j:=YI r d E (m z (by simp [Op.operands]));obtain ⟨J,g⟩:=Ji q;generalize hu:Act.eval ⟨t,[]⟩ x=u at v
 cases v with
 | sliceN =>
  refine ⟨.slice Xe 0 0,?_,.sliceN⟩;simp [execOp,l,hu,i,j,Instr.sliceAt,Instr.slice,Instr.sliceBounds,Instr.sliceBound,asIntOf,run_underlying n,Z7 g]
 | @sliceE _ _ a cap hf =>
  refine ⟨.slice (Xa a) 0 0,?_,.sliceE (fun _=>rfl)⟩;simp [execOp,l,hu,i,j,Instr.sliceAt,Instr.slice,Instr.sliceBounds,Instr.sliceBound,asIntOf,run_underlying n,Z7 g]
 | @sliceC _ _ _ b p cap us hls hc1 hf hle hlim hus hcell hrep =>
  refine ⟨.slice (Xa ⟨b,p,Xe⟩) 0 0,?_,.sliceC (xs:=[]) (us:=[]) (by simp) (by simp) (fun _=>rfl) (by simp) (fun h=>(h rfl).elim) (by simp) (by simp) (by simp)⟩;simp [execOp,l,hu,i,j,Instr.sliceAt,Instr.slice,Instr.sliceBounds,Instr.sliceBound,asIntOf,run_underlying n,Z7 g]
def Zqc (xs:List (List AV)):Prop:=∀ e∈xs,∃ n:Int,0≤n∧n≤255∧e = [.val (.int .u8 n)]
def ZeC {w:World} {lim:Nat→Nat} : ∀ (xs:List (List AV)) (us:List Value),Zqc xs→us.length=xs.length→
  (∀ (j:Nat) (c:AV) (u:Value),xs.flatten[j]? = Xa c→us[j]? = Xa u→Rep w lim c u)→
  ∃ a:List Int,us=a.map (Value.int .u8)∧xs.map (fun e=>(Zes e).getD 0)=a.map fun n=>UInt8.ofNat n.toNat
 | [], us, _, hl, _ => by
  have:us = []:=Um (by simpa using hl);subst this;exact ⟨[],rfl,rfl⟩
 | x :: xs, us, hb, hl, hr => by
  obtain ⟨n,k,l,rfl⟩:=hb x (by simp)
  cases us with
  | nil => simp at hl
  | cons u us =>
   obtain ⟨a,b,d⟩:=ZeC (w:=w) (lim:=lim) xs us (fun e f=>hb e (by simp [f])) (by simpa using hl) (fun j c g h i=>hr (j+1) c g (by simpa using h) (by simpa using i));have:=ZaF (hr 0 (.val (.int .u8 n)) u (by simp) rfl);exact ⟨n::a,by simp [this,b],by rw [Xn,Xn,d];rfl⟩
def Zn2 (a:List Int):∀ (s:ByteArray),a.foldl (fun r n=>r.push (UInt8.ofNat n.toNat)) s=⟨s.data++(a.map fun n=>UInt8.ofNat n.toNat).toArray⟩:=by
 induction a with
 | nil => intro s; simp
 | cons n a ih =>
  intro s;simp only [Tt,ih,Xn];congr 1;show (s.data.push (UInt8.ofNat n.toNat))++_=_;apply Ud.1;simp
def ZnI {P:Program} {o:Oper} {σ:Nat→AV} {S T e:TypeId} {x:Operand} {f:Bool} {xs:List (List AV)} (h:o.op = .convert S T x)
  (k:P.underlying S=Xa (.slice e)) (d:P.underlying e=Xa (.int .u8)) (l:P.underlying T=Xa .string) (t:Z0 P σ x = .slice f 1 xs) (y:Zqc xs) :
  Kn P o σ (.val (.string (bytesOf xs))) [] []:=by
 refine Z8 [] rfl fun c z A n w lim X q C g=>⟨.string (bytesOf xs),?_,.val rfl⟩;rw [h] at q;have r:Rep w lim (.slice f 1 xs) (Act.eval ⟨n,[]⟩ x):=WB z g t (q x (by simp [Op.operands]));generalize hu:Act.eval ⟨n,[]⟩ x=u at r
 cases r with
 | sliceN =>
  simp only [execOp,h,hu,Sem.run_bind,run_convert_bytes_string w S T e Xe 0 0 k d l];rfl
 | @sliceE _ _ a cap hf =>
  have i:=run_loadCells_list (P:=P) w a [] (fun j v m=>by simp at m);simp only [execOp,h,hu,Sem.run_bind,run_convert_bytes_string w S T e _ _ _ k d l,run_bytesToString w a 0 cap [] i,Result.andThen_ok,Sem.run_pure];rfl
 | @sliceC _ _ _ b p cap us hls hc1 hf hle hlim hus hcell hrep =>
  obtain ⟨s,D,E⟩:=ZeC xs us y (by rw [hus];omega) hrep;subst D;have i:=run_loadCells_list (P:=P) w ⟨b,p,Xe⟩ (s.map (Value.int .u8)) (fun j v m=>by rw [YY];exact hcell j v m);rw [hus,Nat.mul_one] at i;simp only [execOp,h,hu,Sem.run_bind,run_convert_bytes_string w S T e _ _ _ k d l,run_bytesToString w ⟨b,p,Xe⟩ xs.length cap s i,Result.andThen_ok,Sem.run_pure];rw [Zn2];have d:ByteArray.empty.data = #[]:=rfl;simp only [bytesOf,E,d,Array.empty_append]
def Wg (w:World) (lim:Nat→Nat) (arr:Array Value) (t:TypeId) (n:Nat) (S:Nat→Prop) :
  Yv w lim (w.alloc (.cells arr t)) (fun b=>if b=w.heap.size then n else lim b) S where
 os:=rfl
 tape:=rfl
 output:=rfl
 size:=by simp
 frz a _:=RowKit.frozen?_alloc_cells w arr t a
 blk b hb _:=⟨heap_alloc_old w _ hb,P3 (by omega)⟩
 ext b hb:=⟨by show lim b≤if b=w.heap.size then n else lim b;rw [P3 (by omega)];exact Xr _,fun o u _ c=>by rw [World.cell?_alloc_lt w _ _ hb];exact c⟩
def Za9 (w:World) (arr:Array Value) (t:TypeId):(w.alloc (.cells arr t)).heap[w.heap.size]? = Xa (.cells arr t (0,0)):=heap_alloc_new w _
def KO (w:World) (lim:Nat→Nat) (cs:List AV) (us:List Value):Prop:=
 cs.length=us.length∧(∀ c∈cs,c.isCell=Xb)∧∀ (i:Nat) (c:AV) (u:Value),cs[i]? = Xa c→us[i]? = Xa u→Rep w lim c u
def KO.nil (w:World) (lim:Nat→Nat):KO w lim [] []:=⟨rfl,by simp,by simp⟩
def KO.one {w:World} {lim:Nat→Nat} {c:AV} {u:Value} (d:c.isCell=Xb) (h:Rep w lim c u):KO w lim [c] [u]:=
 ⟨rfl,by simp [d],fun i c' e a b=>by
  cases i with
  | zero => simp at a b; subst a; subst b; exact h
  | succ i => simp at a⟩
def KO.append {w:World} {lim:Nat→Nat} {cs ds:List AV} {us vs:List Value} (h:KO w lim cs us) (k:KO w lim ds vs):KO w lim (cs++ds) (us++vs):=by
 refine ⟨by simp [h.1,k.1],fun c a=>(Xz.1 a).elim (h.2.1 c) (k.2.1 c),fun i c u a b=>?_⟩;by_cases hi:i < cs.length
 ·rw [XL hi] at a;rw [XL (by rw [← h.1];exact hi)] at b;exact h.2.2 i c u a b
 ·rw [XH (by omega)] at a;rw [XH (by rw [← h.1];omega)] at b;rw [← h.1] at b;exact k.2.2 _ c u a b
def KO.take {w:World} {lim:Nat→Nat} {cs:List AV} {us:List Value} (h:KO w lim cs us) (n:Nat):KO w lim (cs.take n) (us.take n):=by
 refine ⟨by simp [h.1],fun c a=>h.2.1 c (XS a),fun i c u a b=>?_⟩;rw [XZ] at a b;split at a
 ·rename_i d;rw [P4 d] at b;exact h.2.2 i c u a b
 ·cases a
def KO.drop {w:World} {lim:Nat→Nat} {cs:List AV} {us:List Value} (h:KO w lim cs us) (n:Nat):KO w lim (cs.drop n) (us.drop n):=by
 refine ⟨by simp [h.1],fun c a=>h.2.1 c (X4 a),fun i c u a b=>?_⟩;rw [Ug] at a b;exact h.2.2 _ c u a b
def KO.mono {w w':World} {lim a:Nat→Nat} {cs:List AV} {us:List Value} (h:KO w lim cs us) (b:Ext w lim w' a):KO w' a cs us:=
 ⟨h.1,h.2.1,fun i c u d e=>(h.2.2 i c u d e).mono b⟩
def AV.cells? : AV→Option (List AV)
 | .agg cs => Xa cs
 | .val v => Xa [.val v]
 | .slice f s xs => Xa [.slice f s xs]
 | _ => Xe
def ZbY {P:Program} {w:World} {lim:Nat→Nat} {X:Nat→Nat→Option Nat} {σ:Nat→AV} {k:Nat} {x:AV} {v:Value} {cs:List AV} (a:x.cells? = Xa cs) (h:Jx P w lim X σ k x v) :
  ∃ us:List Value,v.cells=us.toArray∧KO w lim cs us:=by
 cases x with
 | agg ds =>
  simp only [AV.cells?,Xg] at a;subst a;have b:Rep w lim (.agg ds) v:=h
  cases b with
  | agg hl hc hr => exact ⟨_, rfl, hl, hc, hr⟩
 | val u =>
  simp only [AV.cells?,Xg] at a;subst a;have b:Rep w lim (.val u) v:=h;refine ⟨[v],?_,KO.one rfl b⟩
  cases b with
  | val hs => cases v <;> simp [Zgg] at hs <;> rfl
 | slice f s xs =>
  simp only [AV.cells?,Xg] at a;subst a;have b:Rep w lim (.slice f s xs) v:=h;refine ⟨[v],?_,KO.one rfl b⟩
  cases b<;>rfl
 | _ => simp [AV.cells?] at a
def K8 {w:World} {lim:Nat→Nat} {vs:List Value} {cs:List AV} (h:Zcf vs=Xa cs):KO w lim cs vs:=ZbH h
def Zin (off:Nat):∀ (l:List Value) (k:Nat) (cs:Array Value),off+k+l.length≤cs.size→
  (l.zipIdx k).foldl (fun cs p=>cs.setIfInBounds (off+p.2) p.1) cs=(cs.toList.take (off+k)++l++cs.toList.drop (off+k+l.length)).toArray
 | [], k, cs, _ => by simp
 | v :: l, k, cs, h => by
  simp only [List.zipIdx_cons,Tt];simp only [Xv] at h;rw [Zin off l (k+1) (cs.setIfInBounds (off+k) v) (by simp;omega)];simp only [Array.toList_setIfInBounds];congr 1;have:=list_seg_step cs.toList (off+k) v l (by simp;omega);rw [← Ui];exact this
def ZmO (off:Nat) (l:List Value) (cs:Array Value) (h:off+l.length≤cs.size) :
  (l.toArray.zipIdx.foldl (fun cs (p:Value×Nat)=>cs.setIfInBounds (off+p.2) p.1) cs)=(cs.toList.take off++l++cs.toList.drop (off+l.length)).toArray:=by
 rw [← Array.foldl_toList];have:=Zin off l 0 cs (by simpa using h);simpa using this
def ZdN (place:Nat→Option (Nat×Nat)):List AV→List (Nat×AV)→Option (List AV)
 | cells, [] => Xa cells
 | cells, (i, v) :: rest =>
  match place i,v.cells? with
  | some (off, size), Xa vc =>
   if vc.length=size∧off+size≤cells.length then ZdN place (cells.take off++vc++cells.drop (off+size)) rest else Xe
  | _, _ => Xe
def Zhl {P:Program} {w:World} {lim:Nat→Nat} {X:Nat→Nat→Option Nat} {σ:Nat→AV} {k:Nat} {place:Nat→Option (Nat×Nat)} :
  ∀ (c:List (Nat×AV)) (a:List (Nat×Value)) (b:List AV) (us:List Value) (e:List AV),KO w lim b us→
   c.length=a.length→(∀ (i:Nat) (p:Nat×AV) (q:Nat×Value),c[i]? = Xa p→a[i]? = Xa q→p.1=q.1∧Jx P w lim X σ k p.2 q.2)→
   ZdN place b c=Xa e→∃ h,Instr.fill place us.toArray a=Xa h.toArray∧KO w lim e h
 | [], a, b, us, e, hr, hl, _, hf => by
  have:a = []:=Um (by simpa using hl.symm);subst this;simp only [ZdN,Xg] at hf;subst hf;exact ⟨us,rfl,hr⟩
 | (i, x) :: c, a, b, us, e, hr, hl, hp, hf => by
  cases a with
  | nil => simp at hl
  | cons q a =>
   obtain ⟨t,v⟩:=q;obtain ⟨rfl,u⟩:=hp 0 (i,x) (t,v) rfl rfl;simp only [ZdN] at hf;split at hf
   ·rename_i off size vc o r;split at hf
    ·rename_i f;obtain ⟨us1,m,g⟩:=ZbY r u;have d:us1.length=size:=by rw [← g.1];exact f.1
     have l:off+us1.length≤us.length:=by rw [d,← hr.1];exact f.2
     have s:=ZmO off us1 us.toArray (by simpa using l);simp only at s;rw [d] at s;have n:KO w lim (b.take off++vc++b.drop (off+size)) (us.take off++us1++us.drop (off+size)):=((hr.take off).append g).append (hr.drop (off+size));obtain ⟨h,y,z⟩:=Zhl c a _ _ e n (by simpa using hl) (fun j p q A C=>hp (j+1) p q (by simpa using A) (by simpa using C)) hf;refine ⟨h,?_,z⟩;simp only [Instr.fill,o,m];rw [P3 (by simp [d];rw [← d];exact l)];rw [s];exact y
    ·cases hf
   ·cases hf
def ZfJ {P:Program} (w:World) (a:Array Field) (h:(a.toList.all fun f=>(P.info? f.type).isSome)=Xb) :
  (a.mapM fun f=>do pure (f.offset,← sizeOf f.type):Sem (Array (Nat×Nat))).run P w = .ok (a.map fun f=>(f.offset,P.cellsOf f.type)) w:=by
 rw [Array.mapM_eq_mapM_toList]
 have b:∀ (l:List Field),(l.all fun f=>(P.info? f.type).isSome)=Xb→
   (l.mapM fun f=>do pure (f.offset,← sizeOf f.type):Sem (List (Nat×Nat))).run P w = .ok (l.map fun f=>(f.offset,P.cellsOf f.type)) w:=by
  intro l
  induction l with
  | nil => intro _; simp
  | cons f l ih =>
   intro c;simp only [List.all_cons,Bool.and_eq_true] at c;obtain ⟨i,e⟩:=Option.isSome_iff_exists.1 c.1;have d:=ih c.2;simp only [List.mapM_cons,Sem.run_bind,Z7 e,Result.andThen_ok,Sem.run_pure,Xn];rw [d];rfl
 simp only [Sem.run_map,b a.toList h,Result.andThen_ok];congr 1;apply Ud.1;simp
def Zf4 {P:Program} {c:Ctx} (g:c.P=P) {σ b:Nat→AV} {f:Array Value} {w:World} {lim:Nat→Nat} {X:Nat→Nat→Option Nat} (h:Sim c b f w lim X) (a:Array (Nat×Operand))
  (j:∀ p∈a.toList,Z0 P b p.2=Z0 P σ p.2) :
  (a.toList.map fun p=>(p.1,Z0 P σ p.2)).length=((a.map fun p=>(p.1,Act.eval ⟨f,[]⟩ p.2)).toList).length∧
  ∀ (i:Nat) (p:Nat×AV) (q:Nat×Value),(a.toList.map fun p=>(p.1,Z0 P σ p.2))[i]? = Xa p→((a.map fun p=>(p.1,Act.eval ⟨f,[]⟩ p.2)).toList)[i]? = Xa q→p.1=q.1∧Jx P w lim X b 0 p.2 q.2:=by
 refine ⟨by simp,fun i p q d e=>?_⟩;rw [Array.toList_map] at e;rw [Xy] at d e
 cases hx:a.toList[i]? with
 | none => rw [hx] at d; cases d
 | some x =>
  rw [hx] at d e;simp only [XC,Xg] at d e;subst d;subst e;have k:x∈a.toList:=Xt hx;have:=(VH h x.2 0).2;rw [g,j x k] at this;exact ⟨rfl,this⟩
def Zoj {P:Program} {o:Oper} {σ:Nat→AV} {T:TypeId} {a:Array (Nat×Operand)} {b:Array Field} {i:TypeInfo} {z:Value} {zc cs:List AV} (r:o.op = .build T a)
  (u:P.underlying T=Xa (.struct b)) (v:P.info? T=Xa i) (x:i.zero=Xa z) (j:Zcf z.cells.toList=Xa zc) (d:(b.toList.all fun f=>(P.info? f.type).isSome)=Xb)
  (y:ZdN (fun i=>(b[i]?).map fun f=>(f.offset,P.cellsOf f.type)) zc (a.toList.map fun p=>(p.1,Z0 P σ p.2))=Xa cs):Kn P o σ (.agg cs) [] []:=by
 refine Z8 [] rfl fun c A e C w lim X s D g=>?_;rw [r] at s
 have l:∀ p∈a.toList,Z0 P e p.2=Z0 P σ p.2:=fun p m=>s p.2 (by
  simp only [Op.operands,List.mem_toArray];exact XB.2 ⟨p,m,rfl⟩)
 obtain ⟨E,G⟩:=Zf4 A g a l;obtain ⟨h,t,n⟩:=Zhl (P:=P) (X:=X) (σ:=e) (k:=0) _ _ _ _ _ (K8 (w:=w) (lim:=lim) j) E G y;refine ⟨.agg h.toArray,?_,.agg n.1 n.2.1 n.2.2⟩
 have q:(fun (i:Nat)=>(b.map fun (f:Field)=>(f.offset,P.cellsOf f.type))[i]?)=fun (i:Nat)=>(b[i]?).map fun (f:Field)=>(f.offset,P.cellsOf f.type):=by
  funext i;simp
 have H:(Instr.build T (a.map fun p=>(p.1,Act.eval ⟨C,[]⟩ p.2))).run P w = .ok (.agg h.toArray) w:=by
  simp only [Instr.build,Sem.run_bind,zeroValue,typeInfo,run_program,v,x,Result.andThen_ok,Sem.run_pure,run_underlying u];have m:=ZfJ (P:=P) w b d;rw [m];simp only [Result.andThen_ok];rw [q];rw [UW] at t;rw [t];rfl
 simp only [execOp,r,Sem.run_bind,H,Result.andThen_ok,Sem.run_pure]
def ZdJ {x:AV} {cs:List AV} (h:ZaP x (.box cs)=Xb):Zar x:=Ju h
def ZbE {c:Ctx} {σ:Nat→AV} {a:Array Value} {w:World} {lim:Nat→Nat} {X:Nat→Nat→Option Nat} (h:Sim c σ a w lim X) (i j:Nat):X i j≠Xa w.heap.size:=by
 intro e;have:=(h.ours i j _ e).1;omega
def ZjO {c:Ctx} {σ:Nat→AV} {l:Array Value} {w:World} {lim:Nat→Nat} {X:Nat→Nat→Option Nat} (h:Sim c σ l w lim X) {m:Option Tmp} {cs:List AV} {us:List Value} {t:TypeId}
  (z:cs.length=us.length) (A:∀ x∈cs,Zkc x) (p:∀ (i:Nat) (x:AV) (u:Value),cs[i]? = Xa x→us[i]? = Xa u→(x.isCell=Xb∧Rep w lim x u)∨(∃ b e,x = .own b e []∧u = .slice Xe 0 0)) :
  ZpA c m σ (.box cs) l (.pointer (Xa ⟨w.heap.size,0,Xe⟩)) (w.alloc (.cells us.toArray t)):=by
 have a:=Wg w lim us.toArray t 0 (fun _=>False)
 cases m with
 | none => exact ⟨_, X, h.world a fun _ n => n.elim⟩
 | some d =>
  intro s v;have y:=h.world a fun _ n=>n.elim;refine ⟨_,_,y.putRow (Zav (Xa w.heap.size)) (Yv.refl _ _ (fun _=>False)) (fun _ n=>n.elim) s (tm':=l.setIfInBounds d (.pointer (Xa ⟨w.heap.size,0,Xe⟩))) (by simp) (fun i r=>JJ l d i _ r) (.inl (ZdJ v).1) (fun i q r p=>(y.noRefs (ZdJ v).none i q r p).elim) ?_ (fun k b f=>?_) (fun k G b f g=>?_)⟩
  ·rw [Ki l d _ (by rw [h.size];exact s)];refine ⟨w.heap.size,us.toArray,t,?_,rfl,Za9 w _ t,by simp [z],P4 rfl,A,fun i x u C D=>?_⟩
   ·rw [Jd];rfl
   ·have o:Zhm X d (Zav (Xa w.heap.size)) d (i+1)=Xe:=by rw [Jd];simp [Zav]
    rw [o];rcases p i x u C (by simpa using D) with ⟨h2,h3⟩ | ⟨b,e,rfl,rfl⟩
    ·have E:=h3.mono a.ext
     cases x<;>simp [AV.isCell] at h2<;>exact E
    ·exact .inl ⟨[],World.ownsRow_nil _ 0 e _,rfl,by simp,by simp,by simp,by simp⟩
  ·unfold Zav at f;split at f
   ·simp only [Xg] at f;subst f;exact ⟨by simp,.inr h.frm.size,fun i j _=>ZbE h i j⟩
   ·cases f
  ·unfold Zav at f g;split at f<;>split at g
   ·omega
   ·cases g
   ·cases f
   ·cases f
def ZrI {P:Program} {o:Oper} {σ:Nat→AV} {T:TypeId} {x:Operand} {y:AV} {cs:List AV} (h:o.op = .box T x) (j:Z0 P σ x=y) (e:y.cells? = Xa cs) :
  Kn P o σ (.box cs) [] []:=by
 intro c k f s w lim X g l a next Q m;have n:Z0 P f x=Z0 P σ x:=JT fun t p=>g t (by simp [Jl (o:=o) (x:=x) (by rw [h];simp [Op.operands]) p]);obtain ⟨us,q,b⟩:=ZbY e (WB k a j n);refine ZR (v:=.pointer (Xa ⟨w.heap.size,0,Xe⟩)) (w':=w.alloc (.cells us.toArray T)) ?_ (m _ _ (ZjO a b.1 (fun z d=>.inl (b.2.1 z d)) fun i z u d r=>.inl ⟨b.2.1 z (Xt d),b.2.2 i z u d r⟩));simp [execOp,h,Instr.box,newVar,newRow,q]
def Zue (cs:List AV) (us:List Value):Prop:=
 cs.length=us.length∧∀ (i:Nat) (x:AV) (u:Value),cs[i]? = Xa x→us[i]? = Xa u→Zyd u=Xa x∨(∃ b e,x = .own b e []∧u = .slice Xe 0 0)
def Zny {P:Program} {o:Oper} {σ:Nat→AV} {T:TypeId} {i:TypeInfo} {z:Value} {cs:List AV} (l:o.op = .alloc T) (m:P.info? T=Xa i) (n:i.zero=Xa z)
  (a:Zue cs z.cells.toList):Kn P o σ (.box cs) [] []:=by
 intro c y p A w lim X q r d next Q s;refine ZR (v:=.pointer (Xa ⟨w.heap.size,0,Xe⟩)) (w':=w.alloc (.cells z.cells.toList.toArray T)) ?_ (s _ _ (ZjO d a.1 (fun x f=>?_) fun j x u f t=>?_))
 ·simp [execOp,l,Instr.alloc,zeroValue,typeInfo,m,n,newVar,newRow]
 ·obtain ⟨j,k⟩:=Uj.1 f;have g:j < z.cells.toList.length:=by rw [← a.1];exact (XA.1 k).1
  rcases a.2 j x _ k (Xp g) with h | ⟨b,e,h,_⟩
  ·exact .inl (Zbi (w:=w) (lim:=lim) h).1
  ·exact .inr ⟨b,e,[],h⟩
 ·rcases a.2 j x u f t with h | h
  ·exact .inl (Zbi h)
  ·exact .inr h
def replicate_zero (zs:List Value) (a:Nat):((Array.range (a*zs.length)).map fun i=>zs.toArray[i % zs.toArray.size]!)=((Xx a zs).flatten).toArray:=by
 by_cases hz:zs = []
 ·subst hz;have:(Xx a ([] : List Value)).flatten = []:=by simp
  simp [this]
 ·have c:0 < zs.length:=TF.2 hz;apply Ud.1;rw [Array.toList_map];apply Tc;intro j;by_cases hj:j < a*zs.length
  ·have e:((Array.range (a*zs.length)).toList)[j]? = Xa j:=by simp [hj]
   rw [Xy,e];simp only [XC,Td];have d:j % zs.length < zs.length:=Nat.mod_lt _ c;have g:j / zs.length < a:=Nat.div_lt_of_lt_mul (by rw [Nat.mul_comm];exact hj)
   have b:∀ (n:Nat) (k:Nat),k < n→∀ m,m < zs.length→((Xx n zs).flatten)[k*zs.length+m]? = zs[m]?:=by
    intro n
    induction n with
    | zero => intro k h; omega
    | succ n ih =>
     intro k h m d;simp only [List.replicate_succ,XD]
     cases k with
     | zero => rw [Nat.zero_mul, X9, XL d]
     | succ k =>
      rw [XH (by rw [Ul];omega)];have:(k+1)*zs.length+m-zs.length=k*zs.length+m:=by rw [Ul];omega
      rw [this];exact ih k (by omega) m d
   have:=b a (j / zs.length) g (j % zs.length) d;have f:j / zs.length*zs.length+j % zs.length=j:=by rw [Nat.mul_comm];exact Nat.div_add_mod j zs.length
   rw [f] at this;show Xa _=((Xx a zs).flatten)[j]?;rw [this];simp [d]
  ·have e:((Array.range (a*zs.length)).toList)[j]? = Xe:=by simp;omega
   rw [Xy,e];have:((Xx a zs).flatten).length≤j:=by simp;omega
   show Xe=((Xx a zs).flatten)[j]?;rw [UH this]
def KB {w:World} {lim:Nat→Nat} {cs:List AV} {us:List Value} (h:KO w lim cs us):∀ (n:Nat),KO w lim ((Xx n cs).flatten) ((Xx n us).flatten)
 | 0 => KO.nil w lim
 | n + 1 => by
  simp only [List.replicate_succ,XD];exact h.append (KB h n)
def Zam (size:Nat) (cs:List AV) (n:Nat):List (List AV):=(Ue n).map fun j=>(cs.drop (j*size)).take size
def ZgZ (size:Nat):∀ (n:Nat) (cs:List AV),cs.length=n*size→(Zam size cs n).flatten=cs:=by
 intro n
 induction n with
 | zero => intro cs h; simp at h; subst h; simp [Zam]
 | succ n ih =>
  intro cs h;have b:(cs.take (n*size)).length=n*size:=by simp [h,Ul]
  have c:Zam size cs (n+1)=Zam size (cs.take (n*size)) n++[(cs.drop (n*size)).take size]:=by
   simp only [Zam,List.range_succ,List.map_append,Xn,XI];congr 1;apply List.map_congr_left;intro j d;have a:j < n:=UC.1 d;have e:j*size+size≤n*size:=by rw [← UP];exact Uu _ a
   rw [List.drop_take,List.take_take];congr 1;omega
  rw [c,U2,ih _ b];simp only [XD,Uf,XY];have:(cs.drop (n*size)).take size=cs.drop (n*size):=List.take_of_length_le (by simp [h,Ul]);rw [this,List.take_append_drop]
def W8 {P:Program} {o:Oper} {a:Act} {w w':World} {next:Act→World→Prop} {Q:Exit→Act→World→Prop}
  (b:(execOp a.eval o).run P w = .ok .skip w') (h:next (a.put o.dst undef) w'):o.wp P a w next Q:=by
 unfold Oper.wp;rw [b];exact h
def Zbm (w:World) (g:Nat) (b cs:Array Value) (t:TypeId) (c:w.heap[g]? = Xa (.cells b t (0,0))) (a:Addr):(w.setRow g cs).frozen? a=w.frozen? a:=by
 by_cases h:a.block=g
 ·have d:=setRow_heap w g b cs t (0,0) c;unfold World.frozen?;rw [h,d,c]
 ·unfold World.frozen?;rw [setRow_other w g a.block cs h]
def WY {w:World} {lim:Nat→Nat} {g:Nat} {c cs:Array Value} {t:TypeId} (e:w.heap[g]? = Xa (.cells c t (0,0))) (f:lim g=0) :
  Yv w lim (w.setRow g cs) lim (fun b=>b=g) where
 os:=rfl
 tape:=rfl
 output:=rfl
 size:=by simp
 frz a _:=Zbm w g c cs t e a
 blk b _ hb:=⟨setRow_other w g b cs hb,rfl⟩
 ext b _:=⟨Xr _,fun o u i d=>by
  by_cases h:b=g
  ·subst h;rw [f] at i;omega
  ·unfold World.cell? at d ⊢;rw [setRow_other w g b cs h];exact d⟩
def Zbq (r:Nat→Option Nat) (off n:Nat) (a:Nat→Option Nat):Nat→Option Nat:=fun k=>if k=0 then r 0 else if off < k∧k≤off+n then a (k-1-off) else r k
def Sim.setCells {c:Ctx} {σ:Nat→AV} {tm:Array Value} {w:World} {lim:Nat→Nat} {X:Nat→Nat→Option Nat} (h:Sim c σ tm w lim X) {d off b:Nat} {cs vc:List AV} {us:List Value} {arr:Array Value} {t:TypeId}
  (o:Nat→Option Nat) (M:σ d = .box cs) (hX:X d 0=Xa b) (ac:off+vc.length≤cs.length) (hl:vc.length=us.length) (O:∀ x∈vc,Zkc x)
  (N:∀ (i:Nat) (x:AV) (u:Value),vc[i]? = Xa x→us[i]? = Xa u→KI c.P w lim (o i) x u) (r:w.heap[b]? = Xa (.cells arr t (0,0)))
  (Q:∀ k,off≤k→k < off+vc.length→∀ i,i≠d→¬ Yr (σ i) d (k+1))
  (y:∀ i b',o i=Xa b'→i < vc.length∧(c.A b'∨c.w0.heap.size≤b')∧b' < w.heap.size∧(∀ j k,X j k≠Xa b')∧∀ i',o i'=Xa b'→i=i') :
  Sim c (upd σ d (.box (cs.take off++vc++cs.drop (off+vc.length)))) tm (w.setRow b (arr.toList.take off++us++arr.toList.drop (off+us.length)).toArray) lim (Zhm X d (Zbq (X d) off vc.length o)):=by
 have z:=h.rel d;rw [M] at z;obtain ⟨G,a,t0,H,g2,R,g4,g5,g6,g7⟩:=(show Jt c.P w lim (X d) cs _ from z);have T:G=b:=by rw [H] at hX;exact Ua hX
 subst T;rw [R] at r;simp only [Xg,Obj.cells.injEq,and_true] at r;obtain ⟨rfl,rfl⟩:=r;have g:=WY (cs:=(a.toList.take off++us++a.toList.drop (off+us.length)).toArray) R g5
 have U:d < c.nt:=by
  rcases Ub d c.nt with C | hge
  ·exact C
  ·have:=h.out d hge;rw [M] at this;rcases this with h0 | h0<;>cases h0
 have ae:a.toList.length=cs.length:=by simpa using g4
 refine h.putRow (S:=fun b=>b=G) _ g (fun b' m=>⟨0,by rw [m];exact H⟩) U rfl (fun i _=>rfl) (.inr ⟨⟨_,rfl⟩,rfl,rfl⟩) (fun i q J N=>?_) ?_ (fun k b' l=>?_) (fun k W b' l f=>?_)
 ·obtain ⟨p,Y⟩:=ZcD h N;rw [M] at Y
  cases q with
  | zero => simp [Je] at Y
  | succ q =>
   have hq:q < off∨off+vc.length≤q:=by
    rcases Ub q off with h1 | h1
    ·exact .inl h1
    ·rcases Ub q (off+vc.length) with h2 | h2
     ·exact (Q q h1 h2 i J N).elim
     ·exact .inr h2
   have C:q < cs.length:=by
    rcases Ub q cs.length with h1 | h1
    ·exact h1
    ·simp [Je,UH h1] at Y
   have D:(cs.take off++vc++cs.drop (off+vc.length))[q]? = cs[q]?:=by
    rcases hq with h1 | h1
    ·rw [Xl,XL (by simp;omega),XZ,P4 h1]
    ·rw [XH (by simp;omega),Ug];congr 1;simp<;>omega
   refine ⟨fun e xs E=>⟨xs,?_,rfl⟩,?_,fun b' m=>.of (setRow_other w G b' _ fun e=>?_)⟩
   ·rw [M] at E;simp only [Je,D] at E ⊢;exact E
   ·unfold Zbq;rw [P3 (by omega),P3 (by omega)]
   ·have:=(h.dist d (q+1) d 0 b' m (by rw [e];exact H)).2;omega
 ·refine ⟨G,(a.toList.take off++us++a.toList.drop (off+us.length)).toArray,t0,?_,g2,setRow_heap w G a _ t0 _ R,?_,g5,fun x n=>?_,fun i x u n hu=>?_⟩
  ·rw [Jd];exact H
  ·simp only [Td,Xf,X5,Un];omega
  ·rcases Xz.1 n with n | n
   ·rcases Xz.1 n with n | n
    ·exact g6 x (XS n)
    ·exact O x n
   ·exact g6 x (X4 n)
  ·rw [Jd];have s:(a.toList.take off++us++a.toList.drop (off+us.length))[i]? = Xa u:=by simpa using hu
   have L:∀ j,i=j→cs[j]? = Xa x→a[j]? = Xa u→(j < off∨off+vc.length≤j)→KI c.P (w.setRow G (a.toList.take off++us++a.toList.drop (off+us.length)).toArray) lim (Zbq (X d) off vc.length o (i+1)) x u:=by
    intro j Z aa ab ad;subst Z
    have v:Zbq (X d) off vc.length o (i+1)=X d (i+1):=by
     unfold Zbq;rw [P3 (by omega),P3 (by omega)]
    rw [v];refine (g7 i x u aa ab).mono g.ext fun b' m=>g.blk b' (h.ours d (i+1) b' m).1 fun e=>?_;have:=h.dist d (i+1) d 0 b' m (by rw [e];exact H);omega
   by_cases h1:i < off
   ·rw [Xl,XL (by simp;omega),XZ,P4 h1] at n;rw [Xl,XL (by simp;omega),XZ,P4 h1] at s;exact L i rfl n (by simpa using s) (.inl h1)
   ·by_cases h2:i < off+vc.length
    ·rw [Xl,XH (by simp;omega),XL (by simp;omega)] at n;rw [Xl,XH (by simp;omega),XL (by simp;omega)] at s;have e1:i-(cs.take off).length=i-off:=by simp<;>omega
     have e2:i-(a.toList.take off).length=i-off:=by simp<;>omega
     rw [e1] at n;rw [e2] at s
     have v:Zbq (X d) off vc.length o (i+1)=o (i-off):=by
      unfold Zbq;rw [P3 (by omega),P4 (by omega)];congr 1<;>omega
     rw [v];refine (N (i-off) x u n s).mono g.ext fun b' m=>g.blk b' (y _ b' m).2.2.1 fun e=>(y _ b' m).2.2.2.1 d 0 (by rw [e];exact H)
    ·have C:i < cs.length:=by
      have:=(XA.1 n).1;simp at this;omega
     have e1:(cs.take off++vc++cs.drop (off+vc.length))[i]? = cs[i]?:=by
      rw [XH (by simp;omega),Ug];congr 1;simp<;>omega
     have e2:(a.toList.take off++us++a.toList.drop (off+us.length))[i]? = a.toList[i]?:=by
      rw [XH (by simp;omega),Ug];congr 1;simp<;>omega
     rw [e1] at n;rw [e2] at s;exact L i rfl n (by simpa using s) (.inr (by omega))
 ·unfold Zbq at l;split at l
  ·exact ⟨by simp;exact (h.ours d 0 b' l).1,(h.ours d 0 b' l).2,fun i j J e=>J (h.dist i j d 0 b' e l).1⟩
  ·split at l
   ·have:=y _ b' l;exact ⟨by simp;exact this.2.2.1,this.2.1,fun i j _=>this.2.2.2.1 i j⟩
   ·exact ⟨by simp;exact (h.ours d k b' l).1,(h.ours d k b' l).2,fun i j J e=>J (h.dist i j d k b' e l).1⟩
 ·unfold Zbq at l f;split at l<;>split at f
  ·omega
  ·split at f
   ·exact ((y _ b' f).2.2.2.1 d 0 l).elim
   ·have:=h.dist d 0 d W b' l f;omega
  ·split at l
   ·exact ((y _ b' l).2.2.2.1 d 0 f).elim
   ·have:=h.dist d k d 0 b' l f;omega
  ·split at l<;>split at f
   ·have:=(y _ b' l).2.2.2.2 _ f;omega
   ·exact ((y _ b' l).2.2.2.1 d W f).elim
   ·exact ((y _ b' f).2.2.2.1 d k l).elim
   ·have:=h.dist d k d W b' l f;omega
def Wc {P:Program} {T:TypeId} {w:World} {b off:Nat} {arr:Array Value} {t:TypeId} {v:Value} {us:List Value} {i:TypeInfo} (d:P.info? T=Xa i) (e:v.cells=us.toArray) (f:us.length=P.cellsOf T)
  (g:w.heap[b]? = Xa (.cells arr t (0,0))) (a:off+us.length≤arr.size) (h:∀ u∈us,u.oneCell'=Xb) :
  (Instr.storeAt T (.pointer (Xa ⟨b,off,Xe⟩)) v).run P w = .ok () (w.setRow b (arr.toList.take off++us++arr.toList.drop (off+us.length)).toArray):=by
 have c:=run_storeCells_at P b off t us 0 arr w g (by simpa using a) h;simp only [U1] at c;simp [Instr.storeAt,Instr.sureAddr,storeVar,Z7 d,e,f,c]
def ZeJ {c:Ctx} {σ:Nat→AV} {b:Array Value} {w:World} {lim:Nat→Nat} {X:Nat→Nat→Option Nat} (h:Sim c σ b w lim X) {d off n k i:Nat} {cs:List AV} (f:σ d = .box cs)
  (g:W5 ((cs.drop off).take n)) (m:off≤k) (o:k < off+n) (j:Yr (σ i) d (k+1)):False:=by
 obtain ⟨p,a⟩:=ZcD h j;rw [f] at a;simp only [Je] at a;split at a
 ·rename_i e xs l;refine g (.own Xb e xs) (Xt (i:=k-off) ?_) e xs rfl;rw [XZ,P4 (by omega),Ug,show off+(k-off)=k by omega];exact l
 ·cases a
def Zol {P:Program} {o:Oper} {σ:Nat→AV} {T:TypeId} {a x:Operand} {d off:Nat} {cs vc:List AV} {y:AV} (D:o.op = .store T a x) (ha:Z0 P σ a = .ptr d off) (hd:σ d = .box cs)
  (hx:Z0 P σ x=y) (hy:y.cells? = Xa vc) (n:vc.length=P.cellsOf T) (h0:P.cellsOf T≠0) (g:off+P.cellsOf T≤cs.length) (p:W5 ((cs.drop off).take (P.cellsOf T))) :
  Kn P o σ .dead [(d,.box (cs.take off++vc++cs.drop (off+P.cellsOf T)))] [d]:=by
 intro c E l tm w lim X q G e next Q H;have J:Z0 P l a=Z0 P σ a:=JT fun t L=>q t (by simp [Jl (o:=o) (x:=a) (by rw [D];simp [Op.operands]) L]);have M:Z0 P l x=Z0 P σ x:=JT fun t L=>q t (by simp [Jl (o:=o) (x:=x) (by rw [D];simp [Op.operands]) L]);have m:l d = .box cs:=by rw [G d (by simp),hd]
 have r:=WB E e ha J;rw [← E] at r;obtain ⟨b,A,N,h3⟩:=ZaZ e m r;obtain ⟨us,h4,f⟩:=ZbY hy (WB E e hx M);obtain ⟨O,arr,t,Z,g2,g3,g4,g5,g6,g7⟩:=h3;have R:O=b:=by rw [Z] at A;exact Ua A
 subst R;obtain ⟨i,hi⟩:=Ji h0
 have h:=e.setCells (off:=off) (vc:=vc) (us:=us) (fun _=>Xe) m Z (by rw [n];exact g) f.1 (fun z C=>.inl (f.2.1 z C)) (fun j z u C S=>by
  have U:=f.2.1 z (Xt C);have W:=f.2.2 j z u C S
  cases z<;>simp [AV.isCell] at U<;>exact W) g3 (fun k A N i hi W=>ZeJ e m (by rw [← n] at p;exact p) A N W) (fun _ _ he=>by cases he)
 refine W8 (w':=w.setRow O (arr.toList.take off++us++arr.toList.drop (off+us.length)).toArray) ?_ (H undef _ ?_)
 ·have Y:=Wc (P:=P) (T:=T) (w:=w) (b:=O) (off:=off) (v:=Act.eval ⟨tm,[]⟩ x) hi h4 (by rw [← f.1,n]) g3 (by rw [← f.1,n,g4];exact g) (fun u S=>by
   obtain ⟨j,hj⟩:=Uj.1 S;have s:j < vc.length:=by rw [f.1];exact (XA.1 hj).1
   exact (f.2.2 j _ u (Xp s) hj).oneCell (f.2.1 _ (Xq s)))
  simp only [execOp,D,N,Sem.run_bind,Y,Result.andThen_ok,Sem.run_pure]
 ·rw [n] at h;exact Jw h rfl (k:=0) trivial
def YC {c:Ctx} {a:Nat→AV} {g:Array Value} {w:World} {lim:Nat→Nat} {X:Nat→Nat→Option Nat} (h:Sim c a g w lim X) {f:Option Tmp} {x:Bool} {e:TypeId} {xs:List (List AV)} {v:Value} {ob:Option Nat}
  (m:YF c.P w lim x e xs v ob) (k:∀ b,ob=Xa b→(c.A b∨c.w0.heap.size≤b)∧∀ i j,X i j≠Xa b):ZpA c f a (.own x e xs) g v w:=by
 cases f with
 | none => exact ⟨lim, X, h⟩
 | some d => exact fun n o => ⟨lim, _, h.putOwn n (Ju o) m fun b l => ⟨(k b l).1, fun i j _ => (k b l).2 i j⟩⟩
def Zep (P:Program) (x:Bool) (e:TypeId) (xs:List (List AV)):AV:=match x with | true=>.dead | false=>.slice Xc (P.cellsOf e) xs
def Sim.free {c:Ctx} {σ:Nat→AV} {g:Array Value} {w:World} {lim:Nat→Nat} {X:Nat→Nat→Option Nat} (h:Sim c σ g w lim X) {t:Nat} {x:Bool} {e:TypeId} {xs:List (List AV)} (m:σ t = .own x e xs) (n:Zp2 σ t) :
  Sim c (upd σ t (Zep c.P x e xs)) g w lim (Zhm X t KU)∧YF c.P w lim x e xs (g.getD t undef) (X t 0)∧
   ∀ b,X t 0=Xa b→(c.A b∨c.w0.heap.size≤b)∧∀ i j,Zhm X t KU i j≠Xa b:=by
 have p:=h.rel t;rw [m] at p;have d:YF c.P w lim x e xs (g.getD t undef) (X t 0):=p
 have o:t < c.nt:=by
  rcases Ub t c.nt with hlt | hge
  ·exact hlt
  ·have:=h.out t hge;rw [m] at this;rcases this with h0 | h0<;>cases h0
 refine ⟨h.weaken (k:=0) o (fun cs f=>by rw [m] at f;cases f) n (by cases x<;>rfl) (fun i q l=>by cases x<;>rcases l with l | ⟨_,l⟩ <;> cases l) ?_,d,fun b r=>⟨(h.ours t 0 b r).2,fun i j a=>?_⟩⟩
 ·cases x with
  | true => trivial
  | false => exact YF.rep d Xc rfl
 ·by_cases hi:i=t
  ·subst hi;rw [Jd] at a;cases a
  ·rw [Z9 X KU hi] at a;exact hi (h.dist i j t 0 b a r).1
def Wf (σ:Nat→AV) (t:Nat) (us:List (Nat×AV)):Prop:=(∀ u∈us,u.1≠t∧u.2 = .dead∧∃ k,Yr (σ u.1) t k)∧∀ i k,i≠t→Yr (σ i) t k→i∈us.map (·.1)
def WQ (T:Odr) (σ:Nat→AV) (t:Nat) (us:List (Nat×AV)):Prop:=(T = .text∧Wf σ t us)∨∃ N,T = .any N∧N t=Xb∧us = []
def WQ.all {T:Odr} {σ a:Nat→AV} {t:Nat} {us:List (Nat×AV)} (h:WQ T σ t us) (b:T.rel σ a):Wf a t us:=by
 rcases h with ⟨rfl,h⟩ | ⟨N,rfl,h1,rfl⟩
 ·have:a=σ:=b;rw [this];exact h
 ·exact ⟨by simp,fun i k _ c=>(b t h1 i k c).elim⟩
def ZjI:∀ (us:List (Nat×AV)) (σ:Nat→AV) (i:Nat),(∀ u∈us,u.2 = .dead)→Kb σ us i=if i∈us.map (·.1) then .dead else σ i
 | [], σ, i, _ => by simp [Kb]
 | (d, x) :: us, σ, i, h => by
  have a:x = .dead:=h (d,x) (by simp);subst a;rw [Kb,ZjI us _ i fun u b=>h u (by simp [b])];by_cases hm:i∈us.map (·.1)
  ·rw [P4 hm,P4 (by simp only [Xn,Xs];exact .inr hm)]
  ·rw [P3 hm];by_cases hi:i=d
   ·subst hi;rw [J9,P4 (by simp)]
   ·rw [ZQ _ _ hi,P3 (by simp only [Xn,Xs];exact fun h=>h.elim hi hm)]
def Zfp {x:AV} {d k:Nat} (h:Yr x d k):(∀ cs,x≠.box cs)∧Zar x∧x.isG=Xc:=by
 rcases h with rfl | ⟨o,rfl⟩ <;> exact ⟨fun _ h=>(by cases h),⟨fun _ h=>(by cases h),fun _ _ h=>(by cases h)⟩,rfl⟩
def Sim.drops {c:Ctx} {f:Array Value} {w:World} {lim:Nat→Nat} : ∀ (us:List (Nat×AV)) {σ:Nat→AV} {X:Nat→Nat→Option Nat},Sim c σ f w lim X→(∀ u∈us,u.2 = .dead∧Zar (σ u.1)∧u.1 < c.nt)→
  ∃ X',Sim c (Kb σ us) f w lim X'∧∀ i,i∉us.map (·.1)→X' i=X i
 | [], _, X, h, _ => ⟨X, h, fun _ _ => rfl⟩
 | (d, x) :: us, σ, X, h, hu => by
  obtain ⟨b,g,j⟩:=hu (d,x) (by simp);have b:x = .dead:=b;subst b;have l:=h.weaken (k:=0) j g.1 (h.noRefs g.none) (x:=.dead) rfl (fun i q a=>by rcases a with a | ⟨_,a⟩ <;> cases a) trivial
  obtain ⟨X',m,n⟩:=Sim.drops us l fun u o=>by
   obtain ⟨p,r,s⟩:=hu u (by simp [o]);refine ⟨p,?_,s⟩;by_cases he:u.1=d
   ·rw [he,J9];exact ⟨fun _ h=>(by cases h),fun _ _ h=>(by cases h)⟩
   ·rw [ZQ _ _ he];exact r
  refine ⟨X',m,fun i e=>?_⟩;simp only [Xn,Xs,not_or] at e;rw [n i e.2,Z9 X KU e.1]
def Zhv {c:Ctx} {σ:Nat→AV} {a:Array Value} {w:World} {lim:Nat→Nat} {X:Nat→Nat→Option Nat} (h:Sim c σ a w lim X) {t:Nat} (b:σ t≠.dead) (d:(σ t).isG=Xc):t < c.nt:=by
 rcases Ub t c.nt with hlt | hge
 ·exact hlt
 ·rcases h.out t hge with h0 | h0
  ·exact (b h0).elim
  ·rw [d] at h0;cases h0
def Sim.freeAll {c:Ctx} {σ:Nat→AV} {n:Array Value} {w:World} {lim:Nat→Nat} {X:Nat→Nat→Option Nat} (h:Sim c σ n w lim X) {t:Nat} {x:Bool} {e:TypeId} {xs:List (List AV)} {us:List (Nat×AV)} (o:σ t = .own x e xs)
  (p:(x=Xc∧us = [])∨Wf σ t us) :
  ∃ X',Sim c (Kb σ ((t,Zep c.P x e xs)::us)) n w lim X'∧YF c.P w lim x e xs (n.getD t undef) (X t 0)∧∀ b,X t 0=Xa b→(c.A b∨c.w0.heap.size≤b)∧∀ i j,X' i j≠Xa b:=by
 rcases p with ⟨rfl,rfl⟩ | ⟨hd1,hd2⟩
 ·obtain ⟨y,z,C⟩:=h.free o (h.noRefs fun k=>by rw [o];rfl);exact ⟨_,y,z,C⟩
 ·obtain ⟨X1,D,E⟩:=h.drops us fun u l=>by
   obtain ⟨N,G,k,g⟩:=hd1 u l;obtain ⟨O,H,J⟩:=Zfp g;exact ⟨G,H,Zhv h (fun e=>by rw [e] at g;rcases g with g | ⟨_,g⟩ <;> cases g) J⟩
  have d:t∉us.map (·.1):=by
   intro q;obtain ⟨u,l,rfl⟩:=XB.1 q;exact (hd1 u l).1 rfl
  have a:∀ (σ:Nat→AV) (i:Nat),Kb σ us i=if i∈us.map (·.1) then .dead else σ i:=fun σ i=>ZjI us σ i fun u l=>(hd1 u l).2.1;have r:Kb σ us t = .own x e xs:=by rw [a,P3 d,o]
  obtain ⟨L,s,v⟩:=D.free r (fun i k m f=>by
   rw [a] at f;split at f
   ·rcases f with f | ⟨_,f⟩ <;> cases f
   ·rename_i q;exact q (hd2 i k m f))
  rw [E t d] at s v;refine ⟨_,?_,s,v⟩
  have M:Kb σ ((t,Zep c.P x e xs)::us)=upd (Kb σ us) t (Zep c.P x e xs):=by
   funext i;simp only [Kb];rw [a];by_cases m:i=t
   ·subst m;rw [P3 d,J9,J9]
   ·rw [ZQ _ _ m,ZQ _ _ m,a]
  rw [M];exact L
def ZjG {T:Odr} {P:Program} {o:Oper} {σ:Nat→AV} {t:Nat} {x:Bool} {e:TypeId} {xs:List (List AV)} {us:List (Nat×AV)} (b:o.op = .move (.tmp t)∨o.op = .assign (.tmp t)) (k:σ t = .own x e xs)
  (d:(x=Xc∧us = [])∨WQ T σ t us):Zfb T P o σ (.own x e xs) ((t,Zep P x e xs)::us) []:=by
 intro c l f m w lim X n g p a next Q q;have i:f t = .own x e xs:=by rw [g t (by simp),k]
 obtain ⟨X',j,r,s⟩:=a.freeAll (us:=us) i (d.imp id fun h=>h.all p);rw [l] at j;refine ZR (v:=m.getD t undef) (w':=w) ?_ (q _ w (YC j r s));rcases b with b | b<;>simp [execOp,b,Act.eval]
def ZrY {P:Program} {o:Oper} {σ:Nat→AV} {x:Bool} {e:TypeId} (b:o.op = .assign (.const (.slice Xe 0 0))):Kn P o σ (.own x e []) [] []:=by
 intro c i d j w lim X f g a next Q h;refine ZR (v:=.slice Xe 0 0) (w':=w) (by simp [execOp,b,Act.eval]) (h _ w (YC (ob:=Xe) a (.inl ⟨[],World.ownsRow_nil _ 0 e _,rfl,by simp,by simp,by simp,by simp⟩) (by simp)))
def ZnA {P:Program} {o:Oper} {σ:Nat→AV} {t:Nat} {vs:List AV} (C:o.op = .move (.tmp t)) (D:σ t = .tuple vs):Kn P o σ (.tuple vs) [(t,.gone)] []:=by
 intro c O l h w lim X E s a next Q G;have e:l t = .tuple vs:=by rw [s t (by simp),D]
 have u:t < c.nt:=by
  rcases Ub t c.nt with hlt | hge
  ·exact hlt
  ·have:=a.out t hge;rw [e] at this;rcases this with h0 | h0<;>cases h0
 have x:Sim c (upd l t .gone) h w lim (Zhm X t KU):=a.weaken (k:=0) u (fun cs m=>by rw [e] at m;cases m) (a.noRefs fun k=>by rw [e];rfl) rfl (fun i q p=>by rcases p with p | ⟨_,p⟩ <;> cases p) trivial;have r:=a.rel t;rw [e] at r;obtain ⟨us,H,J,L⟩:=r;refine ZR (v:=h.getD t undef) (w':=w) (by simp [execOp,C,Act.eval]) (G _ w ?_)
 cases hdst:o.dst with
 | none => exact ⟨lim, _, x⟩
 | some d =>
  intro z A;refine ⟨lim,_,x.putRow (X t) (Yv.refl w lim (fun _=>False)) (fun _ M=>M.elim) z (tm':=h.setIfInBounds d (h.getD t undef)) (by simp) (fun i g=>JJ h d i _ g) (.inl (Ju A).1) (fun i q g r=>(x.noRefs (Ju A).none i q g r).elim) ?_ (fun k b n=>⟨(a.ours t k b n).1,(a.ours t k b n).2,fun i j _ f=>?_⟩) (fun k N b n y=>(a.dist t k t N b n y).2)⟩
  ·rw [Ki h d _ (by rw [a.size];exact z)];refine ⟨us,H,J,?_⟩;rw [Jd];exact L
  ·by_cases g:i=t
   ·subst g;rw [Jd] at f;cases f
   ·rw [Z9 X KU g] at f;exact g (a.dist i j t k b f n).1
def ZcJ {P:Program} {o:Oper} {σ:Nat→AV} {t i:Nat} {vs:List AV} {x:AV} (s:o.op = .extract (.tmp t) i) (u:σ t = .tuple vs) (y:vs[i]? = Xa x) (z:x.plain=Xb) (g:∀ d p,x≠.ptr d p) (h:∀ cs,x≠.eptr cs) (j:x≠.dead) (l:x≠.gone):Kn P o σ x [] []:=by
 intro c N m C w lim X n D a next Q E;have q:m t = .tuple vs:=by rw [(n t (Jl (o:=o) (x:=.tmp t) (t:=t) (by rw [s];simp [Op.operands]) rfl)).eq fun cs e=>(by rw [u] at e;cases e),u]
 have A:=a.rel t;rw [q] at A;obtain ⟨us,G,H,J⟩:=A;have b:i < us.length:=by rw [H];exact (XA.1 y).1
 have L:=Xp b;have f:=J i x _ y L;refine ZR (v:=us[i]) (w':=w) ?_ (E _ w (Jw a z (k:=0) ?_))
 ·have r:Act.eval ⟨C,[]⟩ (.tmp t) = .tuple us.toArray:=G;simp [execOp,s,r,Instr.extract,b]
 ·cases x<;>first | (simp [AV.plain] at z;done) | (exact (g _ _ rfl).elim) | (exact (h _ rfl).elim) | (exact (j rfl).elim) | (exact (l rfl).elim) | (have M:Rep w lim _ _:=f;cases M;done) | exact f
def ZBF (P:Program) (x:Bool) (e:TypeId) (xs:List (List AV)):AV:=match x with | true=>.gone | false=>.slice Xc (P.cellsOf e) xs
def Zc0 {P:Program} {o:Oper} {σ:Nat→AV} {t i:Nat} {vs:List AV} {x:Bool} {e:TypeId} {xs:List (List AV)} (W:o.op = .extract (.tmp t) i) (Y:σ t = .tuple vs) (M:vs[i]? = Xa (.own x e xs)) :
  Kn P o σ (.own x e xs) [(t,.tuple (vs.set i (ZBF P x e xs)))] []:=by
 intro c Z s N w lim X aa E d next Q hn;have g:s t = .tuple vs:=by rw [E t (by simp),Y]
 have G:t < c.nt:=by
  rcases Ub t c.nt with l | hge
  ·exact l
  ·have:=d.out t hge;rw [g] at this;rcases this with h0 | h0<;>cases h0
 have D:=d.rel t;rw [g] at D;obtain ⟨us,O,R,T⟩:=D;have l:i < us.length:=by rw [R];exact (XA.1 M).1
 have U:=Xp l;have p:YF c.P w lim x e xs us[i] (X t (i+1)):=T i _ _ M U
 have h1:Sim c (upd s t (.tuple (vs.set i (ZBF P x e xs)))) N w lim (Zhm X t fun k=>if k=i+1 then Xe else X t k):=by
  refine d.putRow (S:=fun _=>False) _ (Yv.refl w lim _) (fun _ hs=>hs.elim) G rfl (fun j _=>rfl) (.inl fun cs z=>by rw [g] at z;cases z) (fun i q hi D=>(d.noRefs (fun k=>by rw [g];rfl) i q hi D).elim) ?_ (fun k b m=>?_) (fun k k' b m r=>?_)
  ·refine ⟨us,O,by simp [R],fun j y u A n=>?_⟩;rw [Jd];by_cases hji:j=i
   ·subst hji;rw [UR (by omega)] at A;simp only [Xg] at A;subst A;rw [U] at n;simp only [Xg] at n;subst n
    cases x with
    | true => trivial
    | false =>
     have:=YF.rep p Xc rfl;rw [Z] at this;exact this
   ·rw [UN (fun h=>hji h.symm)] at A;rw [P3 (by omega)];exact T j y u A n
  ·split at m
   ·cases m
   ·exact ⟨(d.ours t k b m).1,(d.ours t k b m).2,fun a j C hj=>C (d.dist a j t k b hj m).1⟩
  ·split at m<;>split at r
   ·omega
   ·cases m
   ·cases r
   ·exact (d.dist t k t k' b m r).2
 refine ZR (v:=us[i]) (w':=w) ?_ (hn _ w (YC h1 p fun b H=>⟨(d.ours t _ b H).2,fun a j f=>?_⟩))
 ·have J:Act.eval ⟨N,[]⟩ (.tmp t) = .tuple us.toArray:=O;simp [execOp,W,J,Instr.extract,l]
 ·by_cases C:a=t
  ·subst C;rw [Jd] at f;split at f
   ·cases f
   ·rename_i L;exact L (d.dist a j a (i+1) b f H).2
  ·rw [Z9 X _ C] at f;exact C (d.dist a j t (i+1) b f H).1
def Jh {y:AV} {k:Nat} {e:TypeId} {xs:List (List AV)} (h:Je y k=Xa (e,xs)) :
  (y = .own Xb e xs∧k=0)∨∃ cs q,y = .box cs∧k=q+1∧cs[q]? = Xa (.own Xb e xs):=by
 unfold Je at h;split at h
 ·simp only [Xg,XG] at h;obtain ⟨rfl,rfl⟩:=h;exact .inl ⟨rfl,rfl⟩
 ·rename_i cs q;split at h
  ·rename_i e' xs' a;simp only [Xg,XG] at h;obtain ⟨rfl,rfl⟩:=h;exact .inr ⟨cs,q,rfl,rfl,a⟩
  ·cases h
 ·cases h
def WP {c:Ctx} {σ:Nat→AV} {f:Array Value} {w:World} {lim:Nat→Nat} {X:Nat→Nat→Option Nat} (h:Sim c σ f w lim X) {d k:Nat} {e:TypeId} {xs:List (List AV)} (g:Je (σ d) k=Xa (e,xs)) :
  ∃ v,YF c.P w lim Xb e xs v (X d k):=by
 have a:=h.rel d;rcases Jh g with ⟨h1,rfl⟩ | ⟨cs,q,h1,rfl,h2⟩
 ·rw [h1] at a;exact ⟨_,a⟩
 ·rw [h1] at a;obtain ⟨b,arr,t,l,m,n,g4,o,p,i⟩:=(show Jt c.P w lim (X d) cs _ from a);have j:=(XA.1 h2).1;exact ⟨arr[q]'(by omega),i q _ _ h2 (UO (by omega))⟩
def WJ {P:Program} {w:World} {lim:Nat→Nat} {e:TypeId} {xs:List (List AV)} {v:Value} {b:Nat} (h:YF P w lim Xb e xs v (Xa b)) :
  ∃ arr cap,v = .slice (Xa ⟨b,0,Xe⟩) xs.length cap∧w.heap[b]? = Xa (.cells arr e (0,0))∧lim b=0∧xs.length≤cap∧cap≤maxLen∧arr.size=cap*P.cellsOf e∧
   (∀ x∈xs,x.length=P.cellsOf e)∧(∀ x∈xs,∀ z∈x,z.isCell=Xb)∧∀ (j:Nat) (z:AV) (u:Value),xs.flatten[j]? = Xa z→arr[j]? = Xa u→Rep w lim z u:=by
 rcases h with ⟨us,h1,h2,h3,h4,h5,h6⟩ | ⟨_,h,_⟩
 ·rcases h1.2 with ⟨hv,hn⟩ | ⟨g,cap,cur,hv,hbg,hg,hnc,hcm,hcs,htake⟩
  ·rw [hv] at h2;cases h2
  ·have a:g=b:=by rw [hv] at h2;exact Ua h2
   subst a;refine ⟨cur,cap,hv,hg,by rw [h3 g rfl];rfl,hnc,hcm,hcs,h4,h5,fun j z u c f=>h6 j z u c ?_⟩;have d:=(XA.1 c).1;rw [Ja xs _ h4] at d;rw [← htake,XZ,P4 d];simpa using f
 ·cases h
def Zky {P:Program} {w:World} {lim:Nat→Nat} {e:TypeId} {xs:List (List AV)} {b cap:Nat} {arr:Array Value} (i:w.heap[b]? = Xa (.cells arr e (0,0))) (k:lim b=0) (g:xs.length≤cap) (l:cap≤maxLen)
  (h:arr.size=cap*P.cellsOf e) (m:∀ x∈xs,x.length=P.cellsOf e) (n:∀ x∈xs,∀ z∈x,z.isCell=Xb) (o:∀ (j:Nat) (z:AV) (u:Value),xs.flatten[j]? = Xa z→arr[j]? = Xa u→Rep w lim z u) :
  YF P w lim Xb e xs (.slice (Xa ⟨b,0,Xe⟩) xs.length cap) (Xa b):=by
 have c:xs.length*P.cellsOf e≤cap*P.cellsOf e:=Uu _ g;refine .inl ⟨arr.toList.take (xs.length*P.cellsOf e),⟨?_,.inr ⟨b,cap,arr,rfl,XT _,i,g,l,h,rfl⟩⟩,rfl,fun b' d=>?_,m,n,fun j z u p a=>o j z u p ?_⟩
 ·have f:arr.toList.length=cap*P.cellsOf e:=by simpa using h
  rw [X5,f];exact Nat.min_eq_left c
 ·cases d
  rw [P4 rfl];exact k
 ·rw [XZ] at a;split at a
  ·simpa using a
  ·cases a
def ZgO (cs:List AV) (off:Nat) (x:AV) (h:off < cs.length):cs.take off++[x]++cs.drop (off+1)=cs.set off x:=by
 rw [T6,P4 h];simp
def ZpC (σ:Nat→AV) (us:List (Nat×AV)) (d:Nat) (x:AV):Kb σ (us++[(d,x)])=upd (Kb σ us) d x:=by
 induction us generalizing σ with
 | nil => rfl
 | cons u us ih => obtain ⟨e, y⟩ := u; simp only [List.cons_append, Kb]; exact ih _
def ZpK (us:List (Nat×AV)) (σ:Nat→AV) (d:Nat) (h:d∉us.map (·.1)):Kb σ us d=σ d:=by
 induction us generalizing σ with
 | nil => rfl
 | cons u us ih =>
  obtain ⟨e,y⟩:=u;simp only [Xn,Xs,not_or] at h;simp only [Kb];rw [ih _ h.2,ZQ _ _ h.1]
def Zph {σ:Nat→AV} {t d:Nat} {us:List (Nat×AV)} {cs:List AV} (a:σ d = .box cs) (h:us = []∨Wf σ t us):d∉us.map (·.1):=by
 rcases h with rfl | ⟨h,_⟩
 ·simp
 ·intro b;obtain ⟨u,c,rfl⟩:=XB.1 b;obtain ⟨_,_,k,e⟩:=h u c;exact (Zfp e).1 cs a
def Ze1 {T':Odr} {P:Program} {o:Oper} {σ:Nat→AV} {T:TypeId} {a:Operand} {t d off:Nat} {cs:List AV} {x:Bool} {e:TypeId} {xs:List (List AV)} {us:List (Nat×AV)} (ho:o.op = .store T a (.tmp t)) (ha:Z0 P σ a = .ptr d off) (hd:σ d = .box cs)
  (N:σ t = .own x e xs) (hn:P.cellsOf T=1) (C:off < cs.length) (O:W5 ((cs.drop off).take 1)) (R:(x=Xc∧us = [])∨WQ T' σ t us) :
  Zfb T' P o σ .dead (((t,Zep P x e xs)::us)++[(d,.box (cs.set off (.own x e xs)))]) [d]:=by
 intro c S n r w lim X U D hT f next Q W;have Y:Z0 P n a=Z0 P σ a:=JT fun t N=>U t (by simp [Jl (o:=o) (x:=a) (by rw [ho];simp [Op.operands]) N]);have l:n d = .box cs:=by rw [D d (by simp),hd]
 have E:n t = .own x e xs:=by rw [D t (by simp),N]
 have Z:d≠t:=fun h=>by rw [h,E] at l;cases l
 have s:(x=Xc∧us = [])∨Wf n t us:=R.imp id fun h=>h.all hT;have G:=WB S f ha Y;rw [← S] at G;obtain ⟨b,h1,h2,h3⟩:=ZaZ f l G;obtain ⟨i,hi⟩:=Ji (P:=P) (T:=T) (by omega);have H:=f.rel d;rw [l] at H;obtain ⟨b9,_,_,m1,m2,_⟩:=(show Jt c.P w lim (X d) cs _ from H);obtain ⟨X1,k1,k2,k3⟩:=f.freeAll (us:=us) E s
 have A:Kb n ((t,Zep c.P x e xs)::us) d = .box cs:=by
  rw [ZpK _ _ _ ?_,l];simp only [Xn,Xs,not_or];exact ⟨Z,Zph l (s.imp (fun h=>h.2) id)⟩
 have J:=k1.rel d;rw [A] at J;obtain ⟨b0,arr,ty,g1,g2,g3,g4,g5,g6,g7⟩:=(show Jt c.P w lim (X1 d) cs _ from J)
 have aa:b0=b:=by
  rw [h1] at m1;rw [m2] at g2;simp only [Value.pointer.injEq,Xg,Addr.mk.injEq,and_true] at g2;have:=Ua m1;omega
 subst aa
 have y:=k1.setCells (off:=off) (vc:=[.own x e xs]) (us:=[r.getD t undef]) (fun i=>if i=0 then X t 0 else Xe) A g1 (by simp;omega) rfl
  (fun z q=>by simp at q;subst q;exact .inr ⟨x,e,xs,rfl⟩) (fun j z u q L=>by
   cases j with
   | zero =>
    simp only [XQ,Xg] at q L;subst q;subst L;show YF c.P w lim x e xs _ (if 0=0 then X t 0 else Xe);rw [P4 rfl];exact k2
   | succ j => simp at q) g3 (fun k h1 h2 i hi hr => ZeJ k1 A O h1 (by simpa using h2) hr) (fun j b' m => by
   by_cases hj:j=0
   ·subst hj;rw [P4 rfl] at m
    exact ⟨by simp,(k3 b' m).1,(f.ours t 0 b' m).1,(k3 b' m).2,fun i' M=>by
     by_cases q:i'=0
     ·exact q.symm
     ·rw [P3 q] at M;cases M⟩
   ·rw [P3 hj] at m;cases m)
 refine W8 (w':=w.setRow b0 (arr.toList.take off++[r.getD t undef]++arr.toList.drop (off+1)).toArray) ?_ (W undef _ ?_)
 ·have p:(r.getD t undef).cells = [r.getD t undef].toArray∧(r.getD t undef).oneCell'=Xb:=by
   rcases k2 with ⟨us,hr,_⟩ | ⟨_,_,b1,hv⟩
   ·rcases hr.2 with ⟨hv,_⟩ | ⟨g,cap,cur,hv,_⟩ <;> rw [hv]<;>exact ⟨rfl,rfl⟩
   ·rw [hv];exact ⟨rfl,rfl⟩
  have ab:=Wc (P:=P) (T:=T) (w:=w) (b:=b0) (off:=off) (v:=r.getD t undef) hi p.1 (by simp [hn]) g3 (by simp [g4];omega) (fun u L=>by
   simp at L;subst L;simpa using p.2)
  have ac:Act.eval ⟨r,[]⟩ (.tmp t)=r.getD t undef:=rfl;simp only [execOp,ho,h2,ac,Sem.run_bind,ab,Result.andThen_ok,Sem.run_pure];rfl
 ·have hl:cs.take off++[.own x e xs]++cs.drop (off + [AV.own x e xs].length)=cs.set off (.own x e xs):=ZgO cs off _ C;rw [hl,S] at y;rw [ZpC];exact Jw y rfl (k:=0) trivial
def ZgR {P:Program} {o:Oper} {σ:Nat→AV} {T:TypeId} {a:Operand} {d off:Nat} {cs:List AV} {e:TypeId} {xs:List (List AV)} (n:o.op = .load T a) (u:YT P T=Xa Xc)
  (v:Z0 P σ a = .ptr d off) (x:σ d = .box cs) (i:cs[off]? = Xa (.own Xb e xs)):Kn P o σ (.mref d (off+1)) [] [d]:=by
 refine Z8 [d] rfl fun c j k G w lim X p l f=>?_;rw [n] at p;have q:=WB j f v (p a (by simp [Op.operands]));have h:k d = .box cs:=by rw [l d (by simp),x]
 rw [← j] at q;obtain ⟨b,r,y,z⟩:=ZaZ f h q;have A:off < cs.length:=(XA.1 i).1;obtain ⟨s,arr,ty,C,H,D,g4,J,L,E⟩:=z;have m:s=b:=by rw [C] at r;exact Ua r
 subst m;have t:arr[off]? = Xa arr[off]:=UO (by omega);refine ⟨arr[off],?_,e,xs,by rw [h];simp only [Je,i],?_⟩
 ·have g:w.cell? ⟨s,off,Xe⟩=Xa arr[off]:=by rw [J5 D];exact t
  simp [execOp,n,y,KJ u g]
 ·have:=YF.sliceV (show YF c.P w lim Xb e xs arr[off] (X d (off+1)) from E off _ _ i t);rw [j] at this;exact this
def ZgH {P:Program} {o:Oper} {σ:Nat→AV} {T:TypeId} {a:Operand} {d off:Nat} {cs:List AV} {e:TypeId} {xs:List (List AV)} (ho:o.op = .load T a) (hT:YT P T=Xa Xc)
  (A:Z0 P σ a = .ptr d off) (hd:σ d = .box cs) (M:cs[off]? = Xa (.own Xc e xs)):Kn P o σ (.own Xc e xs) [(d,.box (cs.set off (.slice Xc (P.cellsOf e) xs)))] [d]:=by
 intro c N C tm w lim X O R f next Q hn;have hg:Z0 P C a=Z0 P σ a:=JT fun t ht=>O t (by simp [Jl (o:=o) (x:=a) (by rw [ho];simp [Op.operands]) ht]);have hv:=WB N f A hg;have l:C d = .box cs:=by rw [R d (by simp),hd]
 rw [← N] at hv;obtain ⟨b,h1,h2,h3⟩:=ZaZ f l hv;have m:off < cs.length:=(XA.1 M).1;have s:=f.rel d;rw [l] at s;obtain ⟨U,arr,ty,g1,g2,g3,g4,g5,g6,g7⟩:=(show Jt c.P w lim (X d) cs _ from s);have W:U=b:=by rw [g1] at h1;exact Ua h1
 subst W;have L:off < arr.size:=by omega
 have Y:arr[off]? = Xa arr[off]:=UO L;have z:YF c.P w lim Xc e xs arr[off] (X d (off+1)):=g7 off _ _ M Y
 have Z:d < c.nt:=by
  rcases Ub d c.nt with m | hge
  ·exact m
  ·have:=f.out d hge;rw [l] at this;rcases this with h0 | h0<;>cases h0
 have aa:Sim c (upd C d (.box (cs.set off (.slice Xc (P.cellsOf e) xs)))) tm w lim (Zhm X d fun k=>if k=off+1 then Xe else X d k):=by
  refine f.putRow (S:=fun _=>False) _ (Yv.refl w lim _) (fun _ hs=>hs.elim) Z rfl (fun j _=>rfl) (.inr ⟨⟨_,rfl⟩,by rw [P3 (by omega)],rfl⟩) (fun i q hi hr=>?_) ?_ (fun k b n=>?_) (fun k k' b n D=>?_)
  ·obtain ⟨p,hp⟩:=ZcD f hr;rw [l] at hp
   cases q with
   | zero => simp [Je] at hp
   | succ q =>
    have ab:q≠off:=by
     intro he;subst he;simp [Je,M] at hp
    refine ⟨fun e2 ac E=>⟨ac,?_,rfl⟩,by rw [P3 (by omega)],fun _ _=>.of rfl⟩;rw [l] at E;simp only [Je,UN (Ne.symm ab)] at E ⊢;exact E
  ·refine ⟨U,arr,ty,by rw [Jd];exact g1,g2,g3,by simp [g4],g5,fun y G=>?_,fun j y u G r=>?_⟩
   ·obtain ⟨j,H⟩:=Uj.1 G;by_cases hji:j=off
    ·subst hji;rw [UR m] at H;simp only [Xg] at H;subst H;exact .inl rfl
    ·rw [UN (fun h=>hji h.symm)] at H;exact g6 y (Xt H)
   ·rw [Jd];by_cases hji:j=off
    ·subst hji;rw [UR m] at G;simp only [Xg] at G;subst G;rw [Y] at r;simp only [Xg] at r;subst r;have:=YF.rep z Xc rfl;rw [N] at this;exact this
    ·rw [UN (fun h=>hji h.symm)] at G;rw [P3 (by omega)];exact g7 j y u G r
  ·split at n
   ·cases n
   ·exact ⟨(f.ours d k b n).1,(f.ours d k b n).2,fun a j A H=>A (f.dist a j d k b H n).1⟩
  ·split at n<;>split at D
   ·omega
   ·cases n
   ·cases D
   ·exact (f.dist d k d k' b n D).2
 refine ZR (v:=arr[off]) (w':=w) ?_ (hn _ w (YC aa z fun b hb=>⟨(f.ours d _ b hb).2,fun a j g=>?_⟩))
 ·have J:w.cell? ⟨U,off,Xe⟩=Xa arr[off]:=by rw [J5 g3];exact Y
  simp [execOp,ho,h2,KJ hT J]
 ·by_cases A:a=d
  ·subst A;rw [Jd] at g;split at g
   ·cases g
   ·rename_i ad;exact ad (f.dist a j a (off+1) b g hb).2
  ·rw [Z9 X _ A] at g;exact A (f.dist a j d (off+1) b g hb).1
def ZeN {P:Program} {T ty e:TypeId} {i:TypeInfo} (b:P.underlying T=Xa (.slice e)) (d:P.info? e=Xa i) (w:World) (base:Option Addr) (n cap:Nat) (f:n≤cap) (a:Option Addr) (c:Nat) :
  (Builtin.append_ #[T,T] ty #[.slice base n cap,.slice a 0 c]).run P w = .ok (.slice base n cap) w:=by
 cases a<;>cases base <;>
  simp [Builtin.append_,run_underlying b,sizeOf,typeInfo,d,Builtin.lenOf,f,Builtin.firstCells,loadCells,loadCellsFrom,storeCells]
def Zxx {P:Program} {w:World} {lim:Nat→Nat} (x:Bool) {e:TypeId} {zs:List (List AV)} {us:List Value} {arr:Array Value} {cap:Nat} (d:us.length=zs.length*P.cellsOf e) (g:zs.length≤cap) (h:cap≤maxLen)
  (i:arr.size=cap*P.cellsOf e) (k:arr.toList.take us.length=us) (l:∀ x∈zs,x.length=P.cellsOf e) (m:∀ x∈zs,∀ c∈x,c.isCell=Xb)
  (n:∀ (j:Nat) (c:AV) (u:Value),zs.flatten[j]? = Xa c→us[j]? = Xa u→Rep w lim c u) (S:Nat→Prop) :
  YF P (w.drew.alloc (.cells arr e)) (fun b=>if b=w.heap.size then (if x=Xb then 0 else us.length) else lim b) x e zs (.slice (Xa ⟨w.heap.size,0,Xe⟩) zs.length cap) (Xa w.heap.size)∧
  Yv w lim (w.drew.alloc (.cells arr e)) (fun b=>if b=w.heap.size then (if x=Xb then 0 else us.length) else lim b) S:=by
 have a:Yv w lim (w.drew.alloc (.cells arr e)) (fun b=>if b=w.heap.size then (if x=Xb then 0 else us.length) else lim b) S:=by
  have:=Wg w.drew lim arr e (if x=Xb then 0 else us.length) S;exact ⟨this.os,this.tape,this.output,this.size,this.frz,this.blk,this.ext⟩
 refine ⟨.inl ⟨us,⟨d,.inr ⟨w.heap.size,cap,arr,rfl,XT _,Za9 w.drew arr e,g,h,i,by rw [← d];exact k⟩⟩,rfl,fun b f=>?_,l,m,fun j c u o p=>(n j c u o p).mono a.ext⟩,a⟩;simp only [Xg] at f;subst f;exact P4 rfl
def Zgh {P:Program} {T ty e:TypeId} {i:TypeInfo} {z:Value} {w:World} {lim:Nat→Nat} {xs l:List (List AV)} {v yv:Value} {ob:Option Nat} {f:Bool} {x:Bool} (hT:P.underlying T=Xa (.slice e)) (hi:P.info? e=Xa i)
  (hz:i.zero=Xa z) (ah:z.cells.size=i.size) (hx:YF P w lim x e xs v ob) (hy:Rep w lim (.slice f (P.cellsOf e) l) yv) (M:(xs.length+l.length)*(i.bytes+1)≤Yh) :
  ∃ v' w' m U,(Builtin.append_ #[T,T] ty #[v,yv]).run P w = .ok v' w'∧YF P w' m x e (xs++l) v' U∧Yv w lim w' m (fun b=>ob=Xa b)∧(U=ob∨U=Xa w.heap.size):=by
 have n:P.cellsOf e=i.size:=JL hi
 have au:xs.length+l.length≤1099511627776:=by
  have:(xs.length+l.length)*1≤(xs.length+l.length)*(i.bytes+1):=U3 _ (by omega);unfold Yh at M;omega
 have ab:(xs.length+l.length)*i.bytes≤1099511627776:=by
  have:(xs.length+l.length)*i.bytes≤(xs.length+l.length)*(i.bytes+1):=U3 _ (by omega);unfold Yh at M;omega
 have O:∃ base cap,v = .slice base xs.length cap∧xs.length≤cap:=by
  rcases hx with ⟨us,hr,_⟩ | ⟨rfl,_,a,rfl⟩
  ·rcases hr.2 with ⟨D,hn⟩ | ⟨g,cap,cur,D,_,_,hnc,_⟩
   ·exact ⟨Xe,0,by rw [D,hn],by omega⟩
   ·exact ⟨_,cap,D,hnc⟩
  ·exact ⟨_,0,rfl,Xr _⟩
 by_cases hm:l = []
 ·subst hm;obtain ⟨base,cap,D,ac⟩:=O;obtain ⟨a,c,ai,_⟩:=Zas hy;refine ⟨v,w,lim,ob,?_,by rw [XY];exact hx,Yv.refl w lim _,.inl rfl⟩;rw [D,ai];exact ZeN hT hi w base xs.length cap ac a c
 ·have aj:0 < l.length:=TF.2 hm
  cases hy with
  | sliceN => exact (hm rfl).elim
  | sliceE _ => exact (hm rfl).elim
  | @sliceC _ _ _ b o ycap d hs hcl hf ac hlim hnl hncell hnr =>
   have r:∀ (j:Nat) (u:Value),d[j]? = Xa u→w.cell? ((⟨b,o,Xe⟩:Addr).add j)=Xa u:=fun j u hj=>by rw [YY];exact hncell j u hj
   have E:∀ x∈xs++l,x.length=P.cellsOf e:=by
    intro x W;rcases Xz.1 W with h | h
    ·rcases hx with ⟨_,_,_,_,h4,_⟩ | ⟨rfl,_⟩
     ·exact h4 x h
     ·simp at h
    ·exact hs x h
   have ad:∀ x∈xs++l,∀ c∈x,c.isCell=Xb:=by
    intro x W;rcases Xz.1 W with h | h
    ·rcases hx with ⟨_,_,_,_,_,h5,_⟩ | ⟨rfl,_⟩
     ·exact h5 x h
     ·simp at h
    ·exact hcl x h
   have X:∀ u∈d,u.oneCell'=Xb:=by
    intro u H;obtain ⟨j,hj⟩:=Uj.1 H
    have ae:j < l.flatten.length:=by
     rw [Ja l _ hs,← hnl];exact (XA.1 hj).1
    have Y:=hnr j _ u (Xp ae) hj;obtain ⟨y,ak,al⟩:=U4.1 (Xq ae);exact Y.oneCell (hcl y ak _ al)
   have R:∀ (us:List Value),us.length=xs.length*P.cellsOf e→(∀ x∈xs,x.length=P.cellsOf e)→(∀ (j:Nat) (c:AV) (u:Value),xs.flatten[j]? = Xa c→us[j]? = Xa u→Rep w lim c u)→
     ∀ (j:Nat) (c:AV) (u:Value),(xs++l).flatten[j]? = Xa c→(us++d)[j]? = Xa u→Rep w lim c u:=by
    intro us s J L j c u Z H;have am:xs.flatten.length=us.length:=by rw [Ja xs _ J,s]
    rw [U2] at Z;by_cases hj:j < us.length
    ·rw [XL (by omega)] at Z;rw [XL hj] at H;exact L j c u Z H
    ·rw [XH (by omega),am] at Z;rw [XH (by omega)] at H;exact hnr _ c u Z H
   have C:∀ (us:List Value) (t:Nat),us.length=xs.length*P.cellsOf e→(∀ (j:Nat) (c:AV) (u:Value),xs.flatten[j]? = Xa c→us[j]? = Xa u→Rep w lim c u)→(∀ x∈xs,x.length=P.cellsOf e)→
     ∃ m,YF P (w.drew.alloc (.cells (us.toArray++d.toArray++Builtin.zeroCells z.cells (grownCap w (xs.length+l.length) t e-(xs.length+l.length))) e)) m x e (xs++l) (.slice (Xa ⟨w.heap.size,0,Xe⟩) (xs.length+l.length) (grownCap w (xs.length+l.length) t e)) (Xa w.heap.size)∧
      Yv w lim (w.drew.alloc (.cells (us.toArray++d.toArray++Builtin.zeroCells z.cells (grownCap w (xs.length+l.length) t e-(xs.length+l.length))) e)) m (fun b=>ob=Xa b):=by
    intro us t s L J;have an:=grownCap_ge w (xs.length+l.length) t e;have ao:=grownCap_le_maxLen w (xs.length+l.length) t e (by simp only [maxLen];omega)
    have:=Zxx (P:=P) (w:=w) (lim:=lim) x (e:=e) (zs:=xs++l) (us:=us++d) (arr:=us.toArray++d.toArray++Builtin.zeroCells z.cells (grownCap w (xs.length+l.length) t e-(xs.length+l.length)))
     (cap:=grownCap w (xs.length+l.length) t e) (by rw [Xf,Xf,s,hnl,Ul]) (by rw [Xf];exact an) ao ?_ ?_ E ad (R us s J L) (fun b=>ob=Xa b)
    ·have ap:(xs++l).length=xs.length+l.length:=Xf;rw [ap] at this;exact ⟨_,this.1,this.2⟩
    ·simp only [Array.size_append,Td,size_zeroCells,ah,s,hnl,n,← Ul];congr 1;omega
    ·simp only [Array.toList_append];exact Tf
   rcases hx with ⟨us,hr,hob,hlimo,J,hxc,L⟩ | ⟨rfl,hob,b',D⟩
   ·rcases hr.2 with ⟨D,hn⟩ | ⟨g,cap,cur,D,hbg,hg,hnc,hcm,hcs,htake⟩
    ·have aq:xs = []:=Um hn;have ar:us = []:=Um (by rw [hr.1,hn];simp);subst aq;subst ar;have q:=run_append_nil (P:=P) w T ty e i z hT hi hz ⟨b,o,Xe⟩ l.length ycap d (by rw [hnl,n]) r aj (by omega) (by simp only [Xm,X9] at ab;omega);obtain ⟨m,Q,h2⟩:=C [] 0 (by simp) (by simp) (by simp);simp only [Xm,X9] at Q h2;have af:([] : List Value).toArray++d.toArray=d.toArray:=by simp
     rw [af] at Q h2;rw [D];exact ⟨_,_,m,_,q,Q,h2,.inr rfl⟩
    ·have A:ob=Xa g:=by rw [← hob,D];rfl
     by_cases hroom':xs.length+l.length≤cap
     ·have S:xs.length*i.size+d.length≤cur.size:=by rw [hnl,hcs,n,← Ul];exact Uu _ hroom'
      have q:=run_append_room (P:=P) w T ty e i hT hi g xs.length cap cur hg ⟨b,o,Xe⟩ l.length ycap d (by rw [hnl,n]) r X hroom' S;have G:cur.toList.take (xs.length*i.size)=us:=by rw [← n];exact htake
      rw [G] at q;have s:us.length=xs.length*i.size:=by rw [hr.1,n]
      have N:Yv w lim (w.setRow g (us++d++cur.toList.drop (xs.length*i.size+d.length)).toArray) (fun k=>if k=g then (if x=Xb then 0 else us.length+d.length) else lim k) (fun k=>ob=Xa k):=by
       refine ⟨rfl,rfl,rfl,by simp,fun a _=>Zbm w g cur _ e hg a,fun k _ hk=>⟨setRow_other w g k _ (fun h=>hk (by rw [A,h])),P3 (fun h=>hk (by rw [A,h]))⟩,fun k hk=>⟨?_,fun p u hp H=>?_⟩⟩
       ·show lim k≤if k=g then (if x=Xb then 0 else us.length+d.length) else lim k;split
        ·rename_i h;subst h;rw [hlimo k A];split<;>omega
        ·exact Xr _
       ·by_cases h:k=g
        ·subst h
         have hp:p < us.length:=by
          rw [hlimo k A] at hp;split at hp<;>omega
         rw [J5 (setRow_heap w k cur _ e (0,0) hg)];rw [J5 hg] at H
         have Q:us[p]? = Xa u:=by
          rw [← G,XZ,P4 (by omega)];simpa using H
         rw [List.getElem?_toArray,Xl,XL hp];exact Q
        ·unfold World.cell? at H ⊢;rw [setRow_other w g k _ h];exact H
      refine ⟨_,_,_,Xa g,by rw [D];exact q,.inl ⟨us++d,⟨by rw [Xf,Xf,s,hnl,n,Ul],.inr ⟨g,cap,_,?_,XT _,setRow_heap w g cur _ e (0,0) hg,by rw [Xf];exact hroom',hcm,?_,?_⟩⟩,rfl,fun b' ag=>?_,E,ad,fun j c u Z H=>(R us hr.1 J L j c u Z H).mono N.ext⟩,N,.inl A.symm⟩
      ·rw [Xf]
      ·simp only [Td,Xf,Un,Array.length_toList];rw [hcs,n];rw [hcs,n] at S;omega
      ·have:(xs++l).length*P.cellsOf e=(us++d).length:=by rw [Xf,Xf,s,hnl,n,Ul]
       rw [this];exact Tf
      ·simp only [Xg] at ag;subst ag;rw [Xf];exact P4 rfl
     ·have aa:∀ (j:Nat) (u:Value),us[j]? = Xa u→w.cell? ((⟨g,0,Xe⟩:Addr).add j)=Xa u:=hr.cells (g:=g) (by rw [D];rfl);have q:=run_append_grow (P:=P) w T ty e i z hT hi hz ⟨g,0,Xe⟩ xs.length cap us (by rw [hr.1,n]) aa ⟨b,o,Xe⟩ l.length ycap d (by rw [hnl,n]) r (by omega) (by omega) (growslice_fits (by omega) (by omega));obtain ⟨m,Q,h2⟩:=C us cap hr.1 L J;exact ⟨_,_,m,_,by rw [D];exact q,Q,h2,.inr rfl⟩
   ·have q:=run_append_grow (P:=P) w T ty e i z hT hi hz b' 0 0 [] (by simp) (by simp) ⟨b,o,Xe⟩ l.length ycap d (by rw [hnl,n]) r (by omega) (by omega) (growslice_fits (by omega) (by simp only [Xm] at ab;omega));obtain ⟨m,Q,h2⟩:=C [] 0 (by simp) (by simp) (by simp);exact ⟨_,_,m,_,by rw [D];exact q,Q,h2,.inr rfl⟩
def Zd3 {P:Program} {o:Oper} {σ:Nat→AV} (x:Bool) {T e:TypeId} {a:Nat} {d:Array (Nat×Operand)} {i:TypeInfo} {z:Value} {zc cs l:List AV} (ho:o.op = .buildSlice T a d)
  (hT:P.underlying T=Xa (.slice e)) (U:P.info? e=Xa i) (hz:i.zero=Xa z) (G:Zcf z.cells.toList=Xa zc) (W:z.cells.size=i.size) (Y:0 < i.size) (aj:a*i.size≤1048576)
  (hf:ZdN (fun j=>Xa (j*i.size,i.size)) ((Xx a zc).flatten) (d.toList.map fun p=>(p.1,Z0 P σ p.2))=Xa cs)
  (hw:l.length=cs.length∧∀ (w:World) (lim:Nat→Nat) (us:List Value),KO w lim cs us→KO w lim l us):Kn P o σ (.own x e (Zam i.size l a)) [] []:=by
 intro c hc H tm w lim X Z ak m next Q hn
 have hg:∀ p∈d.toList,Z0 P H p.2=Z0 P σ p.2:=fun p hp=>JT fun t ht=>Z t (by
  refine Jl (x:=p.2) ?_ ht;rw [ho];simp only [Op.operands,List.mem_toArray];exact XB.2 ⟨p,hp,rfl⟩)
 obtain ⟨h1,h2⟩:=Zf4 hc m d hg;have aa:=KB (K8 (w:=w) (lim:=lim) G) a;obtain ⟨f,h3,R⟩:=Zhl (P:=P) (X:=X) (σ:=H) (k:=0) _ _ _ _ _ aa h1 h2 hf;have J:z.cells.toList.length=i.size:=by rw [← W];simp
 have ab:cs.length=a*i.size:=by
  have L:∀ (d:List (Nat×AV)) (g r:List AV),ZdN (fun j=>Xa (j*i.size,i.size)) g d=Xa r→r.length=g.length:=by
   intro d
   induction d with
   | nil => intro g r h; simp only [ZdN, Xg] at h; rw [h]
   | cons p d ih =>
    intro g r h;simp only [ZdN] at h;split at h
    ·split at h
     ·rename_i ac;rw [ih _ _ h];simp;omega
     ·cases h
    ·cases h
  rw [L _ _ _ hf];have M:zc.length=i.size:=by rw [(K8 (w:=w) (lim:=lim) G).1,J]
  simp [M]
 replace R:=hw.2 _ _ _ R
 have n:l.length=a*i.size:=by rw [hw.1,ab]
 have D:(Instr.buildSlice T a (d.map fun p=>(p.1,Act.eval ⟨tm,[]⟩ p.2))).run P w = .ok (.slice (Xa ⟨w.heap.size,0,Xe⟩) a a) (w.alloc (.cells f.toArray e)):=by
  have ad:¬ (2^24 < a*i.size):=by omega
  by_cases hnz:a*i.size=0
  ·have ae:a=0:=(Nat.mul_eq_zero.1 hnz).elim id fun h=>by omega
   subst ae;have af:Array.range 0 = #[]:=rfl;simp only [Instr.buildSlice,Sem.run_bind,run_underlying hT,Result.andThen_ok,sizeOf,typeInfo,run_program,U,Sem.run_pure,gt_iff_lt,Nat.zero_mul,Nat.not_lt_zero,if_false,if_true,af,Array.map_empty];simp only [List.replicate_zero,Uf] at h3;rw [h3];simp [newRow]
  ·have C:=replicate_zero z.cells.toList a;rw [J,UW] at C;simp only [Instr.buildSlice,Sem.run_bind,run_underlying hT,Result.andThen_ok,sizeOf,typeInfo,run_program,U,Sem.run_pure,gt_iff_lt,P3 ad,P3 hnz,zeroValue,hz];rw [C,h3];simp [newRow]
 have s:P.cellsOf e=i.size:=JL U;have q:=Wg w lim f.toArray e (if x=Xb then 0 else f.length) (fun _=>False);have A:(Zam i.size l a).length=a:=by simp [Zam]
 have N:=ZgZ i.size a l n;have h5:=R.mono q.ext;have E:f.length=a*i.size:=by rw [← R.1,n]
 have ag:a≤maxLen:=by
  have:a*1≤a*i.size:=U3 _ Y;have:(1048576:Nat)≤maxLen:=by decide
  omega
 have O:YF P (w.alloc (.cells f.toArray e)) (fun b=>if b=w.heap.size then (if x=Xb then 0 else f.length) else lim b) x e (Zam i.size l a) (.slice (Xa ⟨w.heap.size,0,Xe⟩) (Zam i.size l a).length a) (Xa w.heap.size):=by
  refine .inl ⟨f,⟨by rw [A,s,E],.inr ⟨w.heap.size,a,f.toArray,rfl,XT _,Za9 w _ e,by rw [A];exact Xr _,ag,by simp [s,E],by rw [A,s,← E];simp⟩⟩,rfl,fun b D=>?_,fun x hx=>?_,fun x hx y S=>?_,fun j y u S hu=>?_⟩
  ·simp only [Xg] at D;subst D;exact P4 rfl
  ·obtain ⟨j,hj,rfl⟩:=XB.1 hx;have ah:j < a:=UC.1 hj;have hm:j*i.size+i.size≤a*i.size:=by rw [← UP];exact Uu _ ah
   simp [n,s];omega
  ·refine h5.2.1 y ?_;rw [← N];exact U4.2 ⟨x,hx,S⟩
  ·rw [N] at S;exact h5.2.2 j y u S hu
 rw [A] at O;have ai:=m.world q fun _ hs=>hs.elim;refine ZR (v:=.slice (Xa ⟨w.heap.size,0,Xe⟩) a a) (w':=w.alloc (.cells f.toArray e)) (by simp only [execOp,ho,Sem.run_bind,D,Result.andThen_ok,Sem.run_pure]) (hn _ _ (YC ai (by rw [hc];exact O) fun b D=>?_));simp only [Xg] at D;subst D;exact ⟨.inr m.frm.size,fun i j=>ZbE m i j⟩
def ZdO {T':Odr} {P:Program} {o:Oper} {σ:Nat→AV} {l:Call} {T e:TypeId} {i:TypeInfo} {z:Value} {t:Nat} {y:Operand} {x:Bool} {xs s:List (List AV)} {us:List (Nat×AV)} {f:Bool} (U:o.op = .call l) (m:l.callee = .builtin .append)
  (g:l.args.toList = [.tmp t,y]) (A:l.argTypes.toList = [T,T]) (hT:P.underlying T=Xa (.slice e)) (W:P.info? e=Xa i) (hz:i.zero=Xa z) (C:z.cells.size=i.size)
  (D:σ t = .own x e xs) (hy:Z0 P σ y = .slice f i.size s) (k:(xs.length+s.length)*(i.bytes+1)≤Yh) (E:(x=Xc∧us = [])∨WQ T' σ t us) :
  Zfb T' P o σ (.own x e (xs++s)) ((t,Zep P x e xs)::us) []:=by
 have a:l.args = #[.tmp t,y]:=by apply Ud.1;rw [g]
 have n:l.argTypes = #[T,T]:=by apply Ud.1;rw [A]
 intro c u p G w lim X H J L d next Q hn;have M:P.cellsOf e=i.size:=JL W;have N:Z0 P p y=Z0 P σ y:=JT fun t D=>H t (by simp [Jl (o:=o) (x:=y) (by rw [U];simp [Op.operands,Call.operands,a,m]) D]);have O:p t = .own x e xs:=by rw [J t (by simp),D]
 obtain ⟨X1,Y,Z,h3⟩:=d.freeAll (us:=us) O (E.imp id fun h=>h.all L);have R:Rep w lim (.slice f (P.cellsOf e) s) (Act.eval ⟨G,[]⟩ y):=by rw [M];exact WB u d hy N
 rw [u] at Z;obtain ⟨v',w',aa,ab,r1,r2,r3,q⟩:=Zgh (ty:=o.type) hT W hz C Z R k;have hw:=Y.world r3 h3;refine ZR (v:=v') (w':=w') ?_ (hn _ w' ?_)
 ·have S:Act.eval ⟨G,[]⟩ (.tmp t)=G.getD t undef:=rfl;simp only [execOp,U,resolve,m,a,n,U5,Xn,XI,Sem.run_bind,Sem.run_pure,Result.andThen_ok,invoke,builtin,S,r1]
 ·rw [u] at hw;rw [← u] at r2;refine YC hw r2 fun b r=>?_;rcases q with q | q
  ·rw [q] at r;exact h3 b r
  ·rw [q] at r;simp only [Xg] at r;subst r;exact ⟨.inr d.frm.size,fun i j=>ZbE Y i j⟩
def ZlT {P:Program} {w:World} {lim:Nat→Nat} {x:Bool} {e:TypeId} {v:Value} {s:Nat} (h:Rep w lim (.slice Xb s []) v):YF P w lim x e [] v Xe:=by
 have d:∀ (y:AV),Rep w lim y v→y = .slice Xb s []→YF P w lim x e [] v Xe:=by
  intro y g c
  cases g with
  | sliceN => exact .inl ⟨[], World.ownsRow_nil _ 0 e _, rfl, by simp, by simp, by simp, by simp⟩
  | @sliceE f s' a cap hf =>
   injection c with h1 h2 h3;have:=hf h1;subst this;exact .inr ⟨rfl,rfl,a,rfl⟩
  | @sliceC f s' xs b o cap us hs hc hf hle hlim hus hcell hr =>
   injection c with h1 h2 h3;subst h3;have:=hf h1;simp at this;subst this;exact .inr ⟨rfl,rfl,_,rfl⟩
  | val _ => cases c
  | agg _ _ _ => cases c
 exact d _ h rfl
def ZcV {P:Program} {o:Oper} {σ:Nat→AV} (O:Bool) {m:Call} {T e:TypeId} {i:TypeInfo} {z:Value} {x y:Operand} {u:List (List AV)} {f:Bool} {s:Nat} (A:o.op = .call m) (g:m.callee = .builtin .append)
  (h:m.args.toList = [x,y]) (C:m.argTypes.toList = [T,T]) (Y:P.underlying T=Xa (.slice e)) (R:P.info? e=Xa i) (Z:i.zero=Xa z) (D:z.cells.size=i.size)
  (hx:Z0 P σ x = .slice Xb s []) (hy:Z0 P σ y = .slice f i.size u) (k:(([] : List (List AV)).length+u.length)*(i.bytes+1)≤Yh) :
  Kn P o σ (.own O e u) [] []:=by
 have a:m.args = #[x,y]:=by apply Ud.1;rw [h]
 have n:m.argTypes = #[T,T]:=by apply Ud.1;rw [C]
 intro c E p S w lim X q aa d next Q hn;have G:P.cellsOf e=i.size:=JL R;have H:Z0 P p x=Z0 P σ x:=JT fun t J=>q t (by simp [Jl (o:=o) (x:=x) (by rw [A];simp [Op.operands,Call.operands,a,g]) J]);have L:Z0 P p y=Z0 P σ y:=JT fun t J=>q t (by simp [Jl (o:=o) (x:=y) (by rw [A];simp [Op.operands,Call.operands,a,g]) J]);have M:YF P w lim O e [] (Act.eval ⟨S,[]⟩ x) Xe:=ZlT (s:=s) (WB E d hx H);have N:Rep w lim (.slice f (P.cellsOf e) u) (Act.eval ⟨S,[]⟩ y):=by rw [G];exact WB E d hy L
 obtain ⟨v',w',U,ab,r1,W,r3,r⟩:=Zgh (ty:=o.type) Y R Z D M N k;have hw:=d.world r3 fun b l=>by cases l
 refine ZR (v:=v') (w':=w') ?_ (hn _ w' ?_)
 ·simp only [execOp,A,resolve,g,a,n,U5,Xn,XI,Sem.run_bind,Sem.run_pure,Result.andThen_ok,invoke,builtin,r1]
 ·rw [← E,List.nil_append] at W;refine YC hw W fun b l=>?_;rcases r with r | r
  ·rw [r] at l;cases l
  ·rw [r] at l;simp only [Xg] at l;subst l;exact ⟨.inr d.frm.size,fun i j=>ZbE d i j⟩
def Zfc {T':Odr} {P:Program} {o:Oper} {σ:Nat→AV} {T:TypeId} {g:Array (Nat×Operand)} {f t:Nat} {J:Array Field} {l:Field} {i:TypeInfo} {z:Value} {zc:List AV} {e:TypeId} {xs:List (List AV)} {us:List (Nat×AV)} (ho:o.op = .build T g) (hp:g.toList = [(f,.tmp t)])
  (hT:P.underlying T=Xa (.struct J)) (L:P.info? T=Xa i) (hz:i.zero=Xa z) (U:Zcf z.cells.toList=Xa zc) (M:(J.toList.all fun f=>(P.info? f.type).isSome)=Xb) (W:J[f]? = Xa l)
  (h1:P.cellsOf l.type=1) (y:l.offset < zc.length) (ht:σ t = .own Xb e xs) (Y:WQ T' σ t us) :
  Zfb T' P o σ (.aggo (zc.set l.offset (.own Xb e xs))) ((t,Zep P Xb e xs)::us) []:=by
 have Z:g = #[(f,.tmp t)]:=by apply Ud.1;rw [hp]
 intro c C aa m w lim X aj ab ac r next Q hn;have ad:aa t = .own Xb e xs:=by rw [ab t (by simp),ht]
 obtain ⟨X1,D,S,k3⟩:=r.freeAll (us:=us) ad (.inr (Y.all ac));rw [C] at D S
 have E:(m.getD t undef).cells = #[m.getD t undef]:=by
  rcases YF.sliceV S with ⟨_,_,h | ⟨a,h⟩⟩ | ⟨b,arr,cap,_,_,_,h⟩ <;> rw [h]<;>rfl
 have s:=K8 (w:=w) (lim:=lim) U;have G:l.offset < z.cells.toList.length:=by rw [← s.1];exact y
 have v:=ZmO l.offset [m.getD t undef] z.cells.toList.toArray (by have:=G;simp at this ⊢; omega);simp only [Xv,Xm,X9] at v
 have N:(execOp (Act.eval ⟨m,[]⟩) o).run P w = .ok (.value (.agg (z.cells.toList.set l.offset (m.getD t undef)).toArray)) w:=by
  have ae:(fun (i:Nat)=>(J.map fun (f:Field)=>(f.offset,P.cellsOf f.type))[i]?)=fun (i:Nat)=>(J[i]?).map fun (f:Field)=>(f.offset,P.cellsOf f.type):=by
   funext i;simp
  have hb:(Instr.build T (g.map fun p=>(p.1,Act.eval ⟨m,[]⟩ p.2))).run P w = .ok (.agg (z.cells.toList.set l.offset (m.getD t undef)).toArray) w:=by
   simp only [Instr.build,Sem.run_bind,zeroValue,typeInfo,run_program,L,hz,Result.andThen_ok,Sem.run_pure,run_underlying hT];have af:=ZfJ (P:=P) w J M;rw [af];simp only [Result.andThen_ok];rw [ae,Z];have ag:Act.eval ⟨m,[]⟩ (.tmp t)=m.getD t undef:=rfl
   have ak:¬ (z.cells.size < l.offset+1):=by
    have:z.cells.toList.length=z.cells.size:=by simp
    omega
   simp only [U5,Xn,XI,ag,Instr.fill,W,XC,h1,E];rw [P3 (by simp;omega)]
   have h2:z.cells.toList.take l.offset++[m.getD t undef]++z.cells.toList.drop (l.offset+1)=z.cells.toList.set l.offset (m.getD t undef):=by
    rw [T6,P4 G];simp
   rw [UW] at v;rw [v,h2];rfl
  simp only [execOp,ho,Sem.run_bind,hb,Result.andThen_ok,Sem.run_pure]
 refine ZR N (hn _ w ?_);rw [← C] at D S;have H:(z.cells.toList.set l.offset (m.getD t undef)).length=(zc.set l.offset (.own Xb e xs)).length:=by rw [U6,U6,s.1]
 cases hdst:o.dst with
 | none => rw [C] at D; exact ⟨lim, X1, by rw [← C] at D ⊢; exact D⟩
 | some d =>
  intro hd hm;rw [← C]
  refine ⟨lim,_,D.putRow (fun k=>if k=l.offset+1 then X t 0 else Xe) (Yv.refl w lim (fun _=>False)) (fun _ hs=>hs.elim) hd (tm':=m.setIfInBounds d (.agg (z.cells.toList.set l.offset (m.getD t undef)).toArray)) (by simp) (fun i L=>JJ m d i _ L)
   (.inl (by rw [C];exact (Ju hm).1)) (fun i q L hr=>(D.noRefs (by rw [C];exact (Ju hm).none) i q L hr).elim) ?_ (fun k b A=>?_) (fun k k' b A O=>?_)⟩
  ·rw [Ki m d _ (by rw [r.size];exact hd)];refine ⟨_,rfl,H,fun x n=>?_,fun j x u n R=>?_⟩
   ·rcases List.mem_or_eq_of_mem_set n with n | n
    ·exact .inl (s.2.1 x n)
    ·exact .inr ⟨_,_,_,n⟩
   ·rw [Jd];by_cases hj:j=l.offset
    ·subst hj;rw [UR y] at n;rw [UR G] at R;simp only [Xg] at n R;subst n;subst R;rw [P4 rfl];exact S
    ·rw [UN (fun h=>hj h.symm)] at n R;rw [P3 (by omega)];have ah:=s.2.2 j x u n R;have ai:=s.2.1 x (Xt n)
     cases x<;>simp [AV.isCell] at ai<;>exact ah
  ·split at A
   ·obtain ⟨m1,m2⟩:=k3 b A;exact ⟨(r.ours t 0 b A).1,m1,fun i j _=>m2 i j⟩
   ·cases A
  ·split at A<;>split at O
   ·omega
   ·cases O
   ·cases A
   ·cases A
def ZeB {P:Program} {o:Oper} {σ:Nat→AV} {T:TypeId} {a:Operand} {t d off:Nat} {cs vc:List AV} (ho:o.op = .store T a (.tmp t)) (ha:Z0 P σ a = .ptr d off) (hd:σ d = .box cs) (U:σ t = .aggo vc)
  (E:vc.length=P.cellsOf T) (h0:P.cellsOf T≠0) (s:off+P.cellsOf T≤cs.length) (G:W5 ((cs.drop off).take (P.cellsOf T))) :
  Kn P o σ .dead [(t,.dead),(d,.box (cs.take off++vc++cs.drop (off+P.cellsOf T)))] [d]:=by
 intro c hc m tm w lim X W H f next Q Y;have Z:Z0 P m a=Z0 P σ a:=JT fun t U=>W t (by simp [Jl (o:=o) (x:=a) (by rw [ho];simp [Op.operands]) U]);have p:m d = .box cs:=by rw [H d (by simp),hd]
 have g:m t = .aggo vc:=by rw [H t (by simp),U]
 have J:d≠t:=fun h=>by rw [h,g] at p;cases p
 have L:=WB hc f ha Z;rw [← hc] at L;obtain ⟨b,h1,h2,h3⟩:=ZaZ f p L;obtain ⟨i,hi⟩:=Ji h0;have M:=f.rel t;rw [g] at M;obtain ⟨us,u1,O,u3,u4⟩:=M;have aa:t < c.nt:=Zhv f (by rw [g];exact fun h=>by cases h) (by rw [g];rfl);have k1:Sim c (upd m t .dead) tm w lim (Zhm X t KU):=f.weaken (k:=0) aa (fun cs h=>by rw [g] at h;cases h) (f.noRefs fun k=>by rw [g];rfl) rfl (fun i q R=>by rcases R with R | ⟨_,R⟩ <;> cases R) trivial;have N:upd m t .dead d = .box cs:=by rw [ZQ _ _ J,p]
 obtain ⟨S,arr,ty,g1,g2,g3,g4,g5,g6,g7⟩:=h3;have ab:S=b:=by rw [g1] at h1;exact Ua h1
 subst ab
 have z:=k1.setCells (off:=off) (vc:=vc) (us:=us) (b:=S) (fun j=>if j < vc.length then X t (j+1) else Xe) N (by rw [Z9 X KU J];exact g1) (by rw [E];exact s) O.symm u3 (fun j x u A hu=>?_) g3
  (fun k q1 q2 i hi D=>ZeJ k1 N (by rw [← E] at G;exact G) q1 q2 D) (fun j b' ac=>?_)
 ·refine W8 (w':=w.setRow S (arr.toList.take off++us++arr.toList.drop (off+us.length)).toArray) ?_ (Y undef _ ?_)
  ·have ad:Act.eval ⟨tm,[]⟩ (.tmp t) = .agg us.toArray:=u1
   have ae:=Wc (P:=P) (T:=T) (w:=w) (b:=S) (off:=off) (v:=.agg us.toArray) (us:=us) hi rfl (by rw [O,E]) g3 (by rw [O,E,g4];exact s) (fun u hu=>by
    obtain ⟨j,hj⟩:=Uj.1 hu;have l:j < vc.length:=by rw [← O];exact (XA.1 hj).1
    have D:=u4 j _ u (Xp l) hj;rcases u3 _ (Xq l) with A | ⟨x,e,xs,A⟩
    ·generalize vc[j]=y at D A
     cases y<;>simp [AV.isCell] at A<;>exact Rep.oneCell D rfl
    ·rw [A] at D;rcases YF.sliceV (show YF c.P w lim x e xs u _ from D) with ⟨_,_,h | ⟨a,h⟩⟩ | ⟨b,arr,cap,_,_,_,h⟩ <;> rw [h]<;>rfl)
   simp only [execOp,ho,h2,ad,Sem.run_bind,ae,Result.andThen_ok,Sem.run_pure]
  ·rw [E] at z;exact Jw z rfl (k:=0) trivial
 ·have l:j < vc.length:=(XA.1 A).1;show KI c.P w lim (if j < vc.length then X t (j+1) else Xe) x u;rw [P4 l];exact u4 j x u A hu
 ·have n:(if j < vc.length then X t (j+1) else Xe)=Xa b':=ac;split at n
  ·rename_i l;obtain ⟨o1,o2⟩:=f.ours t (j+1) b' n;refine ⟨l,o2,o1,fun i k r=>?_,fun i' af=>?_⟩
   ·by_cases hit:i=t
    ·subst hit;rw [Jd] at r;cases r
    ·rw [Z9 X KU hit] at r;exact hit (f.dist i k t (j+1) b' r n).1
   ·have C:(if i' < vc.length then X t (i'+1) else Xe)=Xa b':=af;split at C
    ·have:=(f.dist t (j+1) t (i'+1) b' n C).2;omega
    ·cases C
  ·cases n
def JG (l:List AV):Nat→AV:=fun i=>(l[i]?).getD .dead
def Zrv (X:Nat→Nat→Option Nat):Prop:=∀ d k a c b,X d k=Xa b→X a c=Xa b→d=a∧k=c
def Callable (P : Program) (f : FuncId) : Prop := ∃ fn, P.funcs[f]? = Xa fn ∧ (fn.name == "runtime.NumGoroutine") = Xc ∧ fn.body.isNone = Xc
def Zc2 (n:Nat) (a:List Value) (v:Value) (i:Nat):Value:=if i=n then v else a.getD i undef
def Kg (P:Program) (f:FuncId) (args:List AV) (res:AV) (outs:List AV):Prop:=
 Callable P f∧∀ (w:World) (lim:Nat→Nat) (X:Nat→Nat→Option Nat) (a:List Value),a.length+args.countP AV.isG≤args.length→
  (∀ i,Jx P w lim X (JG args) i (JG args i) (a.getD i undef))→Zrv X→(∀ i k b,X i k=Xa b→b < w.heap.size)→
  Calls P f a.toArray w fun e w'=>∃ v c X',e = .returned v∧Yv w lim w' c (fun b=>∃ i k,X i k=Xa b)∧outs.length=args.length∧
   (∀ i,Jx P w' c X' (JG (outs++[res])) i (JG (outs++[res]) i) (Zc2 args.length a v i))∧Zrv X'∧
   (∀ i k b,X' i k=Xa b→b < w'.heap.size∧((∃ i k,X i k=Xa b)∨w.heap.size≤b))∧∀ i,(JG (outs++[res]) i).isG=Xb→(JG args i).isG=Xb∧X' i 0=X i 0
def ZbC (x:AV):Bool:=match x with | .val _=>Xb | _=>Xc
def Zjs (x:AV):Bool:=
 match x with
 | .val _ => Xb
 | .dead => Xb
 | .agg cs => cs.all ZbC
 | .box cs => cs.all ZbC
 | .gbox cs => cs.all ZbC
 | .tuple vs => vs.all fun v => match v with | .agg cs => cs.all ZbC | v => ZbC v
 | _ => Xc
def Zb9 (lim:Nat→Nat) (a N:Nat):Nat→Nat:=fun b=>if b=a then N else lim b
def Zc4 {w w':World} {lim a:Nat→Nat} {x:AV} {v:Value} (b:ZbC x=Xb) (h:Rep w lim x v):Rep w' a x v:=by
 cases x<;>simp [ZbC] at b
 cases h with
 | val h => exact .val h
def Zni {w w':World} {lim a:Nat→Nat} {cs:List AV} {v:Value} (b:cs.all ZbC=Xb) (h:Rep w lim (.agg cs) v):Rep w' a (.agg cs) v:=by
 rw [Xo] at b
 cases h with
 | agg hl hc hr => exact .agg hl hc fun i c v d e => Zc4 (b c (Xt d)) (hr i c v d e)
def ZqM {P:Program} {w w':World} {lim a:Nat→Nat} {ob:Option Nat} {x:AV} {v:Value} (b:ZbC x=Xb) (h:KI P w lim ob x v):KI P w' a ob x v:=by
 cases x<;>simp [ZbC] at b
 exact Zc4 rfl (show Rep w lim _ v from h)
def Zfo {P:Program} {w:World} {lim a:Nat→Nat} {X:Nat→Option Nat} {cs:List AV} {v:Value} (d:cs.all ZbC=Xb) (g:∀ b,X 0=Xa b→a b=lim b) (h:Jt P w lim X cs v):Jt P w a X cs v:=by
 rw [Xo] at d;obtain ⟨b,arr,t,e,j,k,l,m,n,o⟩:=h;exact ⟨b,arr,t,e,j,k,l,(g b e).trans m,n,fun i c u f p=>ZqM (d c (Xt f)) (o i c u f p)⟩
def Zqi {P:Program} {w:World} {lim a:Nat→Nat} {X:Nat→Nat→Option Nat} {σ:Nat→AV} {d:Nat} {x:AV} {v:Value} (e:Zjs x=Xb) (g:∀ b,X d 0=Xa b→a b=lim b) (h:Jx P w lim X σ d x v):Jx P w a X σ d x v:=by
 cases x with
 | val u => exact Zc4 rfl (show Rep w lim _ v from h)
 | dead => trivial
 | agg cs => exact Zni e (show Rep w lim _ v from h)
 | box cs => exact Zfo e g h
 | gbox cs =>
  obtain ⟨l,h⟩:=h;exact ⟨l,Zfo e g h⟩
 | tuple vs =>
  simp only [Zjs,Xo] at e;obtain ⟨us,m,n,o⟩:=h;refine ⟨us,m,n,fun i c u j p=>?_⟩;have f:=e c (Xt j);have k:=o i c u j p
  cases c with
  | agg cs => exact Zni f (show Rep w lim _ u from k)
  | val y => exact Zc4 rfl (show Rep w lim _ u from k)
  | _ => cases f
 | _ => cases e
def Zh7 {P:Program} {w:World} {lim:Nat→Nat} {e:TypeId} {xs:List (List AV)} {v:Value} {a:Nat} (h:YF P w lim Xb e xs v (Xa a)) (c:Ext w lim w (Zb9 lim a (xs.length*P.cellsOf e))) :
  YF P w (Zb9 lim a (xs.length*P.cellsOf e)) Xc e xs v (Xa a):=by
 rcases h with ⟨ws,g1,g2,g3,g4,g5,g6⟩ | ⟨_,h,_⟩
 ·refine .inl ⟨ws,g1,g2,fun b f=>?_,g4,g5,fun j z u g i=>(g6 j z u g i).mono c⟩;have d:a=b:=Ua f;subst d;rw [P3 (by simp),g1.1];exact P4 rfl
 ·cases h
def Kg.borrow {P:Program} {f:FuncId} {args:List AV} {res:AV} {outs:List AV} (h:Kg P f args res outs) (E:∀ i,Zjs (JG (outs++[res]) i)=Xb) {w:World} {lim:Nat→Nat} {X:Nat→Nat→Option Nat} {a:List Value} {j N:Nat}
  (z:j < w.heap.size) (m:lim j=0) (r:∀ i k,X i k≠Xa j) (s:a.length+args.countP AV.isG≤args.length)
  (t:∀ i,Jx P w (Zb9 lim j N) X (JG args) i (JG args i) (a.getD i undef)) (n:Zrv X) (p:∀ i k b,X i k=Xa b→b < w.heap.size) :
  Calls P f a.toArray w fun e w'=>∃ v c X',e = .returned v∧Yv w lim w' c (fun b=>∃ i k,X i k=Xa b)∧outs.length=args.length∧
   (∀ i,Jx P w' c X' (JG (outs++[res])) i (JG (outs++[res]) i) (Zc2 args.length a v i))∧Zrv X'∧
   (∀ i k b,X' i k=Xa b→b < w'.heap.size∧((∃ i k,X i k=Xa b)∨w.heap.size≤b))∧∀ i,(JG (outs++[res]) i).isG=Xb→(JG args i).isG=Xb∧X' i 0=X i 0:=by
 refine (h.2 w (Zb9 lim j N) X a s t n p).mono ?_;rintro e w' ⟨v,c,X',G,g,A,H,J,x,C⟩
 have D:∀ i k b,X' i k=Xa b→b≠j:=by
  intro i k b l d;subst d;rcases (x i k b l).2 with ⟨i',k',q⟩ | q
  ·exact r i' k' q
  ·omega
 have L:=g.blk j z fun ⟨i,k,l⟩=>r i k l;refine ⟨v,fun b=>if b=j then 0 else c b,X',G,⟨g.os,g.tape,g.output,g.size,g.frz,fun b l M=>?_,fun b l=>?_⟩,A,fun i=>?_,J,x,C⟩
 ·obtain ⟨q,y⟩:=g.blk b l M;refine ⟨q,?_⟩;by_cases d:b=j
  ·subst d;show (if b=b then 0 else c b)=lim b;rw [P4 rfl,m]
  ·show (if b=j then 0 else c b)=lim b;rw [P3 d,y];exact P3 d
 ·by_cases d:b=j
  ·subst d;refine ⟨by rw [m];exact XT _,fun o u O _=>by rw [m] at O;omega⟩
  ·obtain ⟨q,y⟩:=g.ext b l;have Q:Zb9 lim j N b=lim b:=P3 d;rw [Q] at q y;exact ⟨by show lim b≤if b=j then 0 else c b;rw [P3 d];exact q,y⟩
 ·exact Zqi (E i) (fun b l=>P3 (D i 0 b l)) (H i)
def mkB (a:Bool) (cs:List AV):AV:=match a with | true=>.gbox cs | false=>.box cs
inductive AK where
 | imm (x : AV)
 | own (t : Nat) (x : Bool) (e : TypeId) (xs : List (List AV))
 | box (d : Nat) (fr to : Bool) (cs : List AV)
 | clo (g : FuncId) (ds gs : List Nat)
 | pad
def AK.av:AK→AV
 | .imm x => x
 | .own _ x e xs => .own x e xs
 | .box _ _ to cs => mkB to cs
 | .clo g _ gs => .clo g gs
 | .pad => .dead
def AK.slot:AK→Option Nat
 | .imm _ => Xe
 | .own t _ _ _ => Xa t
 | .box d _ _ _ => Xa d
 | .clo _ _ _ => Xe
 | .pad => Xe
def ZrX (x:AV):Prop:=(∃ v,x = .val v)∨(∃ cs,x = .agg cs)∨∃ f s xs,x = .slice f s xs
inductive Zcs where
 | op (x : Operand)
 | cap (d : Nat)
 | ghost
 | pad
def ZJ0 (P:Program) (σ:Nat→AV) (x:Operand) (y:AV):Prop:=∃ d q e xs,(Z0 P σ x = .mref d q∧∀ t e' a,x = .tmp t→σ t≠.own Xb e' a)∧Je (σ d) q=Xa (e,xs)∧P.cellsOf e≠0∧y = .slice Xc (P.cellsOf e) xs
def AK.ok (P:Program) (σ:Nat→AV):Zcs→AK→Prop
 | .op x, .imm y => (Z0 P σ x = y ∧ ZrX y) ∨ ZJ0 P σ x y
 | .op x, .own t b e xs => x = .tmp t ∧ σ t = .own b e xs
 | .op x, .box d fr to cs => Z0 P σ x = .ptr d 0 ∧ σ d = .box cs ∧ W5 cs ∧ fr = Xc ∧ to = Xc
 | .op x, .clo g ds _ => Z0 P σ x = .clo g ds
 | .cap d', .box d fr to cs => d' = d ∧ σ d = mkB fr cs ∧ W5 cs ∧ to = Xc
 | .ghost, .box d fr to cs => σ d = mkB fr cs ∧ W5 cs ∧ to = Xb
 | .pad, .pad => True
 | _, _ => False
def reB (a b:Bool) (o:AV):AV:=
 match b,o with
 | true, .gbox cs => mkB a cs
 | false, .box cs => mkB a cs
 | _, _ => .dead
def ZBT (b a:Bool) (cs:List AV):reB b a (mkB a cs)=mkB b cs:=by cases a<;>rfl
def Zhx (a:Bool) (cs:List AV):(mkB a cs).isG=a:=by cases a<;>rfl
def Zvp (a:Bool) (cs:List AV):(mkB a cs).isB=Xb:=by cases a<;>rfl
def Zgo:List AK→List AV→List (Nat×AV)
 | .own t _ _ _ :: aZ, _ :: os => (t, .gone) :: Zgo aZ os
 | .box d fr to _ :: aZ, o :: os => (d, reB fr to o) :: Zgo aZ os
 | .imm _ :: aZ, _ :: os => Zgo aZ os
 | .clo _ _ _ :: aZ, _ :: os => Zgo aZ os
 | .pad :: aZ, _ :: os => Zgo aZ os
 | _, _ => []
def J1:∀ (b:List AK) (c:List AV) (σ:Nat→AV) (d:Nat),(∀ a∈b,a.slot≠Xa d)→Kb σ (Zgo b c) d=σ d
 | [], c, σ, d, _ => by cases c <;> rfl
 | a :: b, [], σ, d, _ => by cases a <;> rfl
 | .imm _ :: b, o :: c, σ, d, h => J1 b c σ d fun a f => h a (by simp [f])
 | .clo _ _ _ :: b, o :: c, σ, d, h => J1 b c σ d fun a f => h a (by simp [f])
 | .pad :: b, o :: c, σ, d, h => J1 b c σ d fun a f => h a (by simp [f])
 | .own t x e xs :: b, o :: c, σ, d, h => by
  show Kb (upd σ t .gone) (Zgo b c) d=σ d;rw [J1 b c _ d fun a f=>h a (by simp [f])];exact ZQ σ _ fun g=>h (.own t x e xs) (by simp) (by rw [g];rfl)
 | .box t fr to cs :: b, o :: c, σ, d, h => by
  show Kb (upd σ t (reB fr to o)) (Zgo b c) d=σ d;rw [J1 b c _ d fun a f=>h a (by simp [f])];exact ZQ σ _ fun g=>h (.box t fr to cs) (by simp) (by rw [g];rfl)
def WN:∀ (c:List AK) (f:List AV) (σ:Nat→AV) (i:Nat) (a:AK) (o:AV) (d:Nat),c.length=f.length→(c.filterMap AK.slot).Nodup→c[i]? = Xa a→f[i]? = Xa o→a.slot=Xa d→
  Kb σ (Zgo c f) d=match a with | .own _ _ _ _=>.gone | .box _ fr to _=>reB fr to o | _=>o
 | [], f, σ, i, a, o, d, _, _, l, _, _ => by simp at l
 | b :: c, [], σ, i, a, o, d, hl, _, _, _, _ => by simp at hl
 | b :: c, p :: f, σ, 0, a, o, d, hl, hnd, l, ho, hd => by
  simp only [XQ,Xg] at l ho;subst l;subst ho
  have m:∀ a∈c,a.slot≠Xa d:=by
   intro a l n;rw [UX,hd] at hnd;exact (UY.1 hnd).1 (Tb.2 ⟨a,l,n⟩)
  cases b with
  | imm x => simp [AK.slot] at hd
  | clo g ds gs => simp [AK.slot] at hd
  | pad => simp [AK.slot] at hd
  | own t x e xs =>
   simp only [AK.slot,Xg] at hd;subst hd;show Kb (upd σ t .gone) (Zgo c f) t = .gone;rw [J1 c f _ t m,J9]
  | box t fr to cs =>
   simp only [AK.slot,Xg] at hd;subst hd;show Kb (upd σ t (reB fr to p)) (Zgo c f) t=reB fr to p;rw [J1 c f _ t m,J9]
 | b :: c, p :: f, σ, i + 1, a, o, d, hl, hnd, l, ho, hd => by
  have h:c.length=f.length:=by simpa using hl
  have j:c[i]? = Xa a:=by simpa using l
  have k:f[i]? = Xa o:=by simpa using ho
  cases b with
  | imm x => exact WN c f σ i a o d h (by simpa [UX, AK.slot] using hnd) j k hd
  | clo g ds gs => exact WN c f σ i a o d h (by simpa [UX, AK.slot] using hnd) j k hd
  | pad => exact WN c f σ i a o d h (by simpa [UX, AK.slot] using hnd) j k hd
  | own t x e xs =>
   rw [UX] at hnd;exact WN c f (upd σ t .gone) i a o d h (UY.1 hnd).2 j k hd
  | box t fr to cs =>
   rw [UX] at hnd;exact WN c f (upd σ t (reB fr to p)) i a o d h (UY.1 hnd).2 j k hd
def Zl5:∀ (f:List AK),(f.filterMap AK.slot).Nodup→∀ (i j:Nat) (a b:AK) (d:Nat),f[i]? = Xa a→f[j]? = Xa b→a.slot=Xa d→b.slot=Xa d→i=j
 | [], _, i, j, a, b, d, e, _, _, _ => by simp at e
 | x :: f, hnd, i, j, a, b, d, e, hb, hda, hdb => by
  have g:(f.filterMap AK.slot).Nodup:=by
   rw [UX] at hnd;split at hnd
   ·exact hnd
   ·exact (UY.1 hnd).2
  have c:∀ d,x.slot=Xa d→∀ a∈f,a.slot≠Xa d:=by
   intro d h a e k;rw [UX,h] at hnd;exact (UY.1 hnd).1 (Tb.2 ⟨a,e,k⟩)
  cases i with
  | zero =>
   cases j with
   | zero => rfl
   | succ j =>
    simp only [XQ,Xg] at e;subst e;exact (c d hda b (Xt (by simpa using hb)) hdb).elim
  | succ i =>
   cases j with
   | zero =>
    simp only [XQ,Xg] at hb;subst hb;exact (c d hdb a (Xt (by simpa using e)) hda).elim
   | succ j => rw [Zl5 f g i j a b d (by simpa using e) (by simpa using hb) hda hdb]
def ZeR (X:Nat→Nat→Option Nat) (a:List AK):Nat→Nat→Option Nat:=fun i k=>
 match a[i]? with
 | some (.own t _ _ _) => if k = 0 then X t 0 else Xe
 | some (.box d _ _ _) => X d k
 | _ => Xe
def Zd1:List AK→Nat→Nat→Option (Nat×AK)
 | [], _, _ => Xe
 | a :: aZ, d, n => if a.slot = Xa d then Xa (n, a) else Zd1 aZ d (n + 1)
def Zf2:∀ (c:List AK) (d n m:Nat) (a:AK),Zd1 c d n=Xa (m,a)→∃ i,m=n+i∧c[i]? = Xa a∧a.slot=Xa d
 | [], _, _, _, _, h => by cases h
 | b :: c, d, n, m, a, h => by
  unfold Zd1 at h;split at h
  ·rename_i e;simp only [Xg,XG] at h;obtain ⟨rfl,rfl⟩:=h;exact ⟨0,rfl,rfl,e⟩
  ·obtain ⟨i,j,f,g⟩:=Zf2 c d (n+1) m a h;exact ⟨i+1,by omega,by simpa using f,g⟩
def Zgc:∀ (c:List AK) (d n:Nat),Zd1 c d n=Xe→∀ a∈c,a.slot≠Xa d
 | [], _, _, _, a, ha => by simp at ha
 | b :: c, d, n, h, a, ha => by
  unfold Zd1 at h;split at h
  ·cases h
  ·rename_i e;rcases Xs.1 ha with rfl | ha
   ·exact e
   ·exact Zgc c d (n+1) h a ha
def XaA (X X':Nat→Nat→Option Nat) (a:List AK):Nat→Nat→Option Nat:=fun d k=>
 match Zd1 a d 0 with
 | some (i, .box _ _ _ _) => X' i k
 | some _ => Xe
 | none => X d k
def ZlD (x:AV):Prop:=ZrX x∨(∃ b e xs,x = .own b e xs)∨∃ vs,x = .tuple vs
def ZnP {P:Program} {w:World} {lim:Nat→Nat} {X X':Nat→Nat→Option Nat} {σ a:Nat→AV} {d c:Nat} {x:AV} {v:Value} (i:ZlD x) (h:Jx P w lim X σ d x v) (g:X' c=X d):Jx P w lim X' a c x v:=by
 rcases i with (⟨u,rfl⟩ | ⟨cs,rfl⟩ | ⟨f,s,xs,rfl⟩) | ⟨b,e,xs,rfl⟩ | ⟨vs,rfl⟩
 ·exact h
 ·exact h
 ·exact h
 ·show YF P w lim b e xs v (X' c 0);rw [g];exact h
 ·obtain ⟨us,j,k,l⟩:=h;refine ⟨us,j,k,?_⟩;rw [g];exact l
def ZqA {P:Program} {w:World} {lim:Nat→Nat} {X X':Nat→Nat→Option Nat} {σ a:Nat→AV} {d b:Nat} {x:AV} {v:Value} (c:ZrX x) (h:Jx P w lim X σ d x v):Jx P w lim X' a b x v:=by
 rcases c with ⟨u,rfl⟩ | ⟨cs,rfl⟩ | ⟨f,s,xs,rfl⟩ <;> exact h
def AK.okV (P:Program) (a:Nat→Nat→Prop) (w:World) (lim:Nat→Nat) (X:Nat→Nat→Option Nat) (σ:Nat→AV) (c:Array Value) (v:Value):AK→Prop
 | .imm y => (Jx P w lim X σ 0 y v ∧ ZrX y) ∨ ∃ d q e xs, Je (σ d) q = Xa (e, xs) ∧ P.cellsOf e ≠ 0 ∧ y = .slice Xc (P.cellsOf e) xs ∧ Zgf P w (X d q) e xs.length v ∧ a d q
 | .own t x e xs => σ t = .own x e xs ∧ v = c.getD t undef
 | .box d fr to cs => σ d = mkB fr cs ∧ ∃ b, X d 0 = Xa b ∧ Jt P w lim (X d) cs (.pointer (Xa ⟨b, 0, Xe⟩)) ∧ (fr = Xc → c.getD d undef = .pointer (Xa ⟨b, 0, Xe⟩)) ∧ (to = Xc → v = .pointer (Xa ⟨b, 0, Xe⟩))
 | .clo g ds _ => Jx P w lim X σ 0 (.clo g ds) v
 | .pad => True
def ZBo (aks:List AK):Prop:=∀ (i:Nat) (g:FuncId) (ds a:List Nat),aks[i]? = Xa (.clo g ds a)→a.length=ds.length∧
 ∀ (k d j:Nat),ds[k]? = Xa d→a[k]? = Xa j→∃ b cs,aks[j]? = Xa (.box d b Xb cs)
def V7 {P:Program} {w:World} {lim:Nat→Nat} {X:Nat→Option Nat} {cs:List AV} {v:Value} (h:Jt P w lim X cs v):∃ b,X 0=Xa b∧v = .pointer (Xa ⟨b,0,Xe⟩):=by
 obtain ⟨b,_,_,a,c,_⟩:=h;exact ⟨b,a,c⟩
def ZnQ {c:Ctx} {σ:Nat→AV} {f:Array Value} {w:World} {lim:Nat→Nat} {X:Nat→Nat→Option Nat} (h:Sim c σ f w lim X) {d:Nat} {g:Bool} {cs:List AV} (k:σ d=mkB g cs) (l:W5 cs) :
  ∃ b,X d 0=Xa b∧Jt c.P w lim (X d) cs (.pointer (Xa ⟨b,0,Xe⟩))∧(g=Xc→f.getD d undef = .pointer (Xa ⟨b,0,Xe⟩)):=by
 have i:=h.rel d;rw [k] at i
 cases g with
 | false =>
  have a:=(show Jt c.P w lim (X d) cs (f.getD d undef) from i);obtain ⟨b,j,e⟩:=V7 a;exact ⟨b,j,by rw [← e];exact a,fun _=>e⟩
 | true =>
  obtain ⟨v,a⟩:=i;obtain ⟨b,j,e⟩:=V7 a;exact ⟨b,j,by rw [← e];exact a,fun h=>by cases h⟩
def ZpD {T:Odr} (Bd Bq:Nat) (bp:List Nat) {P:Program} {o:Oper} {σ:Nat→AV} {cl:Call} {f:FuncId} {ds:List Nat} {tail:List Zcs} {aks:List AK} {res:AV} {outs:List AV} (ho:o.op = .call cl)
  (hcl:(cl.callee = .value (.func f)∧ds = [])∨∃ t,cl.callee = .value (.tmp t)∧σ t = .clo f ds)
  (hlen:(cl.args.toList.map Zcs.op++ds.map Zcs.cap++tail).length=aks.length) (hargs:∀ (i:Nat) (x:Zcs) (a:AK),(cl.args.toList.map Zcs.op++ds.map Zcs.cap++tail)[i]? = Xa x→aks[i]? = Xa a→a.ok P σ x)
  (htail:∀ x∈tail,x = .pad∨x = .ghost) (hcnt:cl.args.toList.length+ds.length+(aks.map AK.av).countP AV.isG≤aks.length) (hclo:ZBo aks) (hnd:(aks.filterMap AK.slot).Nodup)
  (hol:outs.length=aks.length) (hout:∀ (i d:Nat) (fr to:Bool) (cs:List AV) (y:AV),aks[i]? = Xa (.box d fr to cs)→outs[i]? = Xa y→∃ cs',y=mkB to cs') (hres:ZlD res)
  (hex:∀ (i t:Nat) (e:TypeId) (xs:List (List AV)),aks[i]? = Xa (.own t Xb e xs)→WQ T σ t [])
  (hB:∀ x∈cl.args.toList,∀ d q,Z0 P σ x = .mref d q→(∀ t e' ys,x = .tmp t→σ t≠.own Xb e' ys)→d=Bd∧q=Bq∧Bd∈bp∧(∀ a∈aks,a.slot≠Xa Bd)∧∀ i,Zjs (JG (outs++[res]) i)=Xb)
  (hcall:Kg P f (aks.map AK.av) res outs):Zfb T P o σ res (Zgo aks outs) (aks.filterMap AK.slot++bp):=by
 intro c hc σ' tm w lim X hid hag hT hsim next Q hn;subst hc;obtain ⟨⟨fn,hfn,hname,hbody⟩,hc2⟩:=hcall;have hslot:∀ a∈aks,∀ d,a.slot=Xa d→σ' d=σ d:=fun a ha d hd=>hag d (Xz.2 (.inl (Xz.2 (.inl (Tb.2 ⟨a,ha,hd⟩)))))
 have hops:∀ x∈cl.args.toList,x∈o.op.operands:=by
  intro x hx;rw [ho];rcases hcl with ⟨h,_⟩ | ⟨t,h,_⟩ <;> simp only [Op.operands,Call.operands,h]<;>simp [Array.mem_toList_iff.1 hx]
 have hg:∀ x∈cl.args.toList,Z0 c.P σ' x=Z0 c.P σ x:=fun x hx=>JT fun t ht=>hid t (Jl (hops x hx) ht)
 -- the blocks of what the function value has captured
 obtain ⟨bs,hbl,hbs,hcv⟩:∃ bs:List Nat,bs.length=ds.length∧(∀ (i d b:Nat),ds[i]? = Xa d→bs[i]? = Xa b→X d 0=Xa b)∧
   (resolve (Act.eval ⟨tm,[]⟩) cl o.type).run c.P w = .ok { target:=.fn (.func f) (bs.map fun b=>Value.pointer (Xa ⟨b,0,Xe⟩)).toArray,args:=cl.args.map (Act.eval ⟨tm,[]⟩) } w:=by
  rcases hcl with ⟨h,rfl⟩ | ⟨t,h,ht⟩
  ·refine ⟨[],rfl,by simp,?_⟩;have hev:Act.eval ⟨tm,[]⟩ (.func f) = .func (.func f) #[] #[]:=rfl;simp [resolve,h,hev,Deferred.ofValue]
  ·have hr:=hsim.rel t;have htu:σ' t=σ t:=(hid t (Jl (x:=.tmp t) (by rw [ho];simp [Op.operands,Call.operands,h]) rfl)).eq fun cs e=>by rw [ht] at e;cases e
   rw [htu,ht] at hr;obtain ⟨bs,h1,h2,h3⟩:=hr;refine ⟨bs,h2,fun i d b hd hb=>(h3 i d b hd hb).1,?_⟩;have hev:Act.eval ⟨tm,[]⟩ (.tmp t)=tm.getD t undef:=rfl;simp [resolve,h,hev,h1,Deferred.ofValue]
 obtain ⟨cargs,hcargs⟩:∃ cargs:List Value,cargs=cl.args.toList.map (Act.eval ⟨tm,[]⟩)++bs.map (fun b=>Value.pointer (Xa ⟨b,0,Xe⟩)):=⟨_,rfl⟩;have hcl2:cargs.length=cl.args.toList.length+ds.length:=by rw [hcargs];simp [hbl]
 have hok:∀ (i:Nat) (a:AK),aks[i]? = Xa a→a.okV c.P (fun d q=>d=Bd∧q=Bq∧(∀ a∈aks,a.slot≠Xa Bd)∧∀ i,Zjs (JG (outs++[res]) i)=Xb) w lim X σ' tm (cargs.getD i undef):=by
  intro i a ha;have hlt:i < (cl.args.toList.map Zcs.op++ds.map Zcs.cap++tail).length:=by rw [hlen];exact (XA.1 ha).1
  have hsrc:=Xp hlt;have h:=hargs i _ a hsrc ha;generalize hx:(cl.args.toList.map Zcs.op++ds.map Zcs.cap++tail)[i]=x at h hsrc;have hsl:∀ d,a.slot=Xa d→σ' d=σ d:=fun d hd=>hslot a (Xt ha) d hd
  have hbox:∀ d fr to cs,a = .box d fr to cs→σ d=mkB fr cs→W5 cs→σ' d=mkB fr cs∧∃ b,X d 0=Xa b∧Jt c.P w lim (X d) cs (.pointer (Xa ⟨b,0,Xe⟩))∧(fr=Xc→tm.getD d undef = .pointer (Xa ⟨b,0,Xe⟩)):=by
   intro d fr to cs he h1 h2;have h3:σ' d=mkB fr cs:=(hsl d (by rw [he];rfl)).trans h1;exact ⟨h3,ZnQ hsim h3 h2⟩
  cases x with
  | op y =>
   -- an operand
   have hi:i < cl.args.toList.length:=by
    rcases Ub i cl.args.toList.length with h0 | h0
    ·exact h0
    ·rw [Xl,XH (by simpa using h0)] at hsrc;rcases Xz.1 (Xt hsrc) with hm | hm
     ·obtain ⟨_,_,e⟩:=XB.1 hm;cases e
     ·rcases htail _ hm with e | e<;>cases e
   have hy:cl.args.toList[i]? = Xa y:=by
    rw [Xl,XL (by simpa using hi),Xy] at hsrc;rw [Xp hi] at hsrc ⊢;simpa using hsrc
   have hv:cargs.getD i undef=Act.eval ⟨tm,[]⟩ y:=by
    rw [hcargs,TH,XL (by simpa using hi),Xy,hy];rfl
   have hgy:=hg y (Xt hy);rw [hv]
   cases a with
   | imm z =>
    have hrl:=(VH hsim y 0).2;rw [hgy] at hrl;rcases h with h | ⟨d,q,e,xs,m1,m2,m3,m4⟩
    ·rw [h.1] at hrl;exact .inl ⟨hrl,h.2⟩
    ·rw [m1.1] at hrl;obtain ⟨b1,b2,b3,b4,b5⟩:=hB y (Xt hy) d q m1.1 m1.2;subst b1;have hsd:σ' d=σ d:=hag d (Xz.2 (.inl (Xz.2 (.inr b3))));obtain ⟨e',xs',n1,n2⟩:=hrl;rw [hsd,m2] at n1;simp only [Xg,XG] at n1;obtain ⟨rfl,rfl⟩:=n1;exact .inr ⟨d,q,e,xs,by rw [hsd];exact m2,m3,m4,n2,rfl,b2,b4,b5⟩
   | own t x e xs =>
    obtain ⟨rfl,ht⟩:=h;exact ⟨(hsl t rfl).trans ht,rfl⟩
   | box d fr to cs =>
    obtain ⟨h1,h2,h3,rfl,rfl⟩:=h;obtain ⟨k1,b,k2,k3,k4⟩:=hbox d Xc Xc cs rfl h2 h3;refine ⟨k1,b,k2,k3,k4,fun _=>?_⟩;have h4:=(VH hsim y 0).2;rw [hgy,h1] at h4;obtain ⟨b',_,m1,_,m3⟩:=h4;rw [k2] at m1
    cases m1
    exact m3
   | clo g ds gs =>
    have:=(VH hsim y 0).2;rw [hgy,show Z0 c.P σ y = .clo g ds from h] at this;exact this
   | pad => cases h
  | cap d' =>
   have hi:cl.args.toList.length≤i∧i-cl.args.toList.length < ds.length:=by
    rcases Ub i cl.args.toList.length with h0 | h0
    ·rw [Xl,XL (by simpa using h0)] at hsrc;obtain ⟨_,_,e⟩:=XB.1 (Xt hsrc);cases e
    ·refine ⟨h0,?_⟩;rcases Ub (i-cl.args.toList.length) ds.length with h1 | h1
     ·exact h1
     ·rw [XH (by rw [Xf,Xk,Xk];omega)] at hsrc;rcases htail _ (Xt hsrc) with e | e<;>cases e
   have hd:ds[i-cl.args.toList.length]? = Xa d':=by
    rw [Xl,XH (by simpa using hi.1),XL (by simpa using hi.2),Xy,Xk] at hsrc;rw [Xp hi.2] at hsrc ⊢;simpa using hsrc
   cases a with
   | box d fr to cs =>
    obtain ⟨rfl,h1,h2,rfl⟩:=h;obtain ⟨k1,b,k2,k3,k4⟩:=hbox d' fr Xc cs rfl h1 h2;refine ⟨k1,b,k2,k3,k4,fun _=>?_⟩;have hb:=Xp (l:=bs) (i:=i-cl.args.toList.length) (by rw [hbl];exact hi.2);have hbb:=hbs _ _ _ hd hb;rw [k2] at hbb;rw [hcargs,TH,XH (by simpa using hi.1),Xk,Xy,hb,← Ua hbb];rfl
   | imm _ => cases h
   | own _ _ _ => cases h
   | clo _ _ _ => cases h
   | pad => cases h
  | ghost =>
   cases a with
   | box d fr to cs =>
    obtain ⟨h1,h2,rfl⟩:=h;obtain ⟨k1,b,k2,k3,k4⟩:=hbox d fr Xb cs rfl h1 h2;exact ⟨k1,b,k2,k3,k4,fun h=>by cases h⟩
   | imm _ => cases h
   | own _ _ _ => cases h
   | clo _ _ _ => cases h
   | pad => cases h
  | pad =>
   cases a with
   | pad => trivial
   | imm _ => cases h
   | own _ _ _ => cases h
   | clo _ _ _ => cases h
   | box _ _ _ _ => cases h
 have hargsBox:∀ (i d:Nat) (fr to:Bool) (cs:List AV),aks[i]? = Xa (.box d fr to cs)→W5 cs:=by
  intro i d fr to cs ha;have hlt:i < (cl.args.toList.map Zcs.op++ds.map Zcs.cap++tail).length:=by rw [hlen];exact (XA.1 ha).1
  have h:=hargs i _ _ (Xp hlt) ha;generalize (cl.args.toList.map Zcs.op++ds.map Zcs.cap++tail)[i]=x at h
  cases x with
  | op y => exact h.2.2.1
  | cap d' => exact h.2.2.1
  | ghost => exact h.2.1
  | pad => cases h
 have hget:∀ (i:Nat) (a:AK),aks[i]? = Xa a→JG (aks.map AK.av) i=a.av:=fun i a ha=>by simp [JG,ha]
 -- the arguments as the callee sees them
 have hrel0:∀ i,(∀ z,aks[i]?≠Xa (.imm z))→Jx c.P w lim (ZeR X aks) (JG (aks.map AK.av)) i (JG (aks.map AK.av) i) (cargs.getD i undef):=by
  intro i hni
  cases ha:aks[i]? with
  | none =>
   have:JG (aks.map AK.av) i = .dead:=by simp [JG,ha]
   rw [this];trivial
  | some a =>
   rw [hget i a ha];have h:=hok i a ha
   cases a with
   | imm y => exact (hni y ha).elim
   | own t x e xs =>
    obtain ⟨ht,hv⟩:=h;have:=hsim.rel t;rw [ht] at this;have hX:ZeR X aks i 0=X t 0:=by simp [ZeR,ha]
    show YF c.P w lim x e xs _ (ZeR X aks i 0);rw [hX,hv];exact this
   | box d fr to cs =>
    obtain ⟨h1,b,h2,h3,h4,h5⟩:=h;have hX:ZeR X aks i=X d:=by funext k;simp [ZeR,ha]
    cases to with
    | false =>
     show Jt c.P w lim (ZeR X aks i) cs _;rw [hX,h5 rfl];exact h3
    | true =>
     exact ⟨.pointer (Xa ⟨b,0,Xe⟩),by rw [hX];exact h3⟩
   | clo g es gs =>
    obtain ⟨l1,l2⟩:=hclo i g es gs ha;obtain ⟨bs',m1,m2,m3⟩:=h;refine ⟨bs',m1,by rw [m2,l1],fun k j b hj hb=>?_⟩;have hlt:k < es.length:=by rw [← m2];exact (XA.1 hb).1
    obtain ⟨fr,cs,hbx⟩:=l2 k _ j (Xp hlt) hj;have hX:ZeR X aks j 0=X es[k] 0:=by simp [ZeR,hbx]
    exact ⟨by rw [hX];exact (m3 k _ b (Xp hlt) hb).1,by rw [hget j _ hbx];exact Zvp Xb cs⟩
   | pad => trivial
 have hXof:∀ i k b,ZeR X aks i k=Xa b→∃ a d,aks[i]? = Xa a∧a.slot=Xa d∧X d k=Xa b:=by
  intro i k b h;unfold ZeR at h;split at h
  ·rename_i t x e xs ha;split at h
   ·rename_i hk;subst hk;exact ⟨_,t,ha,rfl,h⟩
   ·cases h
  ·rename_i d fr to cs ha;exact ⟨_,d,ha,rfl,h⟩
  ·cases h
 have hdist:Zrv (ZeR X aks):=by
  intro i k i' k' b h h';obtain ⟨a,d,h1,h2,h3⟩:=hXof i k b h;obtain ⟨a',d',h1',h2',h3'⟩:=hXof i' k' b h';obtain ⟨e1,e2⟩:=hsim.dist d k d' k' b h3 h3';subst e1;exact ⟨Zl5 aks hnd i i' a a' d h1 h1' h2 h2',e2⟩
 have hsize:∀ i k b,ZeR X aks i k=Xa b→b < w.heap.size:=by
  intro i k b h;obtain ⟨a,d,h1,h2,h3⟩:=hXof i k b h;exact (hsim.ours d k b h3).1
 have hlc:cargs.length+(aks.map AK.av).countP AV.isG≤(aks.map AK.av).length:=by rw [hcl2,Xk];exact hcnt
 have hcalls:Calls c.P f cargs.toArray w fun e w'=>∃ v lim' X',e = .returned v∧Yv w lim w' lim' (fun b=>∃ i k,ZeR X aks i k=Xa b)∧outs.length=(aks.map AK.av).length∧
   (∀ i,Jx c.P w' lim' X' (JG (outs++[res])) i (JG (outs++[res]) i) (Zc2 (aks.map AK.av).length cargs v i))∧Zrv X'∧
   (∀ i k b,X' i k=Xa b→b < w'.heap.size∧((∃ i k,ZeR X aks i k=Xa b)∨w.heap.size≤b))∧∀ i,(JG (outs++[res]) i).isG=Xb→(JG (aks.map AK.av) i).isG=Xb∧X' i 0=ZeR X aks i 0:=by
  by_cases hbor:∃ e xs b0,Je (σ' Bd) Bq=Xa (e,xs)∧X Bd Bq=Xa b0∧(∀ a∈aks,a.slot≠Xa Bd)∧c.P.cellsOf e≠0∧∀ i,Zjs (JG (outs++[res]) i)=Xb
  ·obtain ⟨e,xs,b0,p1,p2,p3,p4,p5⟩:=hbor;obtain ⟨v0,ho⟩:=WP hsim p1;rw [p2] at ho;obtain ⟨arr,cap,r1,r2,r3,r4,r5,r6,r7,r8,r9⟩:=WJ ho
   have hX0:∀ i k,ZeR X aks i k≠Xa b0:=by
    intro i k hb;obtain ⟨a,d,q1,q2,q3⟩:=hXof i k b0 hb;obtain ⟨e1,_⟩:=hsim.dist d k Bd Bq b0 q3 p2;subst e1;exact p3 a (Xt q1) q2
   have hext:Ext w lim w (Zb9 lim b0 (xs.length*c.P.cellsOf e)):=by
    intro b _;refine ⟨?_,fun _ _ _ hu=>hu⟩;unfold Zb9;split
    ·rename_i hbb;rw [hbb,r3];exact XT _
    ·exact Xr _
   refine Kg.borrow ⟨⟨fn,hfn,hname,hbody⟩,hc2⟩ p5 (N:=xs.length*c.P.cellsOf e) (hsim.ours Bd Bq b0 p2).1 r3 hX0 hlc (fun i=>?_) hdist hsize;by_cases him:∃ z,aks[i]? = Xa (.imm z)
   ·obtain ⟨z,ha⟩:=him;rw [hget i _ ha];rcases hok i _ ha with h | ⟨d,q,e',xs',n1,n2,n3,n4,n5,n6,_⟩
    ·obtain ⟨h1,h2⟩:=h;rcases h2 with ⟨u,rfl⟩ | ⟨cs,rfl⟩ | ⟨f,s,xs,rfl⟩ <;> exact Rep.mono hext (show Rep w lim _ _ from h1)
    ·subst n5;subst n6;subst n3;rw [p1] at n1;simp only [Xg,XG] at n1;obtain ⟨rfl,rfl⟩:=n1;rcases n4 with ⟨k1,_⟩ | ⟨b,arr',cap',k1,k2,k3,k4⟩
     ·rw [p2] at k1;cases k1
     ·rw [p2] at k1;have hbb:b0=b:=Ua k1;subst hbb;rw [r2] at k2;simp only [Xg,Obj.cells.injEq,and_true] at k2;subst k2;have hcap:cap'=cap:=Nat.eq_of_mul_eq_mul_right (by omega) (k3.symm.trans r6);subst hcap;rw [k4,← r1];exact YF.rep (Zh7 ho hext) Xc rfl
   ·exact (hrel0 i fun z hz=>him ⟨z,hz⟩).mono hext (fun k b hb=>⟨rfl,P3 fun (hbb:b=b0)=>hX0 i k (by rw [← hbb];exact hb)⟩) fun d' k b _ _=>.of rfl
  ·refine hc2 w lim (ZeR X aks) cargs hlc (fun i=>?_) hdist hsize;by_cases him:∃ z,aks[i]? = Xa (.imm z)
   ·obtain ⟨z,ha⟩:=him;rw [hget i _ ha];rcases hok i _ ha with h | ⟨d,q,e',xs',n1,n2,n3,n4,n5,n6,n7,n8⟩
    ·exact ZqA h.2 h.1
    ·subst n5;subst n6;subst n3;rcases n4 with ⟨_,k2,k3⟩ | ⟨b,arr,cap,k2,_⟩
     ·have:xs' = []:=Um k2;subst this;rcases k3 with k3 | ⟨a,k3⟩
      ·show Rep w lim _ _;rw [k3];exact .sliceN
      ·show Rep w lim _ _;rw [k3];exact .sliceE fun h=>by cases h
     ·exact (hbor ⟨e',xs',b,n1,k2,n7,n2,n8⟩).elim
   ·exact hrel0 i fun z hz=>him ⟨z,hz⟩
 have hrun:(execOp (Act.eval ⟨tm,[]⟩) o).run c.P w = .ok (.enter f cargs.toArray) w:=by
  have harr:cl.args.map (Act.eval ⟨tm,[]⟩)++(bs.map fun b=>Value.pointer (Xa ⟨b,0,Xe⟩)).toArray=cargs.toArray:=by
   apply Ud.1;rw [hcargs];simp
  simp only [execOp,ho,Sem.run_bind,hcv,Result.andThen_ok,invoke,callFunc,run_program,hfn,hname,hbody];rw [harr];rfl
 unfold Oper.wp;rw [hrun,Oper.upon_enter];refine hcalls.mono ?_;rintro e w' ⟨v,lim',X',rfl,hstep,hl',hrel',hdist',hours',hgh'⟩;refine hn v w' ?_
 -- what the slots are behind the call
 have hpass:∀ d,(∃ i a,Zd1 aks d 0=Xa (i,a)∧aks[i]? = Xa a∧a.slot=Xa d)∨(Zd1 aks d 0=Xe∧∀ a∈aks,a.slot≠Xa d):=by
  intro d
  cases hf:Zd1 aks d 0 with
  | none => exact .inr ⟨rfl, Zgc aks d 0 hf⟩
  | some p =>
   obtain ⟨m,a⟩:=p;obtain ⟨i,h1,h2,h3⟩:=Zf2 aks d 0 m a hf;rw [X9] at h1;subst h1;exact .inl ⟨m,a,rfl,h2,h3⟩
 have houtAt:∀ i a,aks[i]? = Xa a→∃ y,outs[i]? = Xa y:=fun i a ha=>⟨_,Xp (by rw [hol];exact (XA.1 ha).1)⟩
 have hret:∀ i,i < aks.length→Zc2 (aks.map AK.av).length cargs v i=cargs.getD i undef:=by
  intro i hi;unfold Zc2;rw [P3 (by rw [Xk];omega)]
 have hboxOut:∀ i d fr to cs,aks[i]? = Xa (.box d fr to cs)→∃ cs' b,outs[i]? = Xa (mkB to cs')∧Jt c.P w' lim' (X' i) cs' (.pointer (Xa ⟨b,0,Xe⟩))∧(fr=Xc→tm.getD d undef = .pointer (Xa ⟨b,0,Xe⟩))∧X' i 0=Xa b∧X d 0=Xa b∧
   Kb σ' (Zgo aks outs) d=mkB fr cs':=by
  intro i d fr to cs ha;obtain ⟨y,hy⟩:=houtAt i _ ha;obtain ⟨cs',rfl⟩:=hout i d fr to cs y ha hy;have h1:=hrel' i;have hlt:i < outs.length:=(XA.1 hy).1
  have ho1:JG (outs++[res]) i=mkB to cs':=by
   simp only [JG];rw [XL hlt,hy];rfl
  obtain ⟨k1,b,k2,k3,k4,k5⟩:=hok i _ ha;rw [ho1,hret i (by rw [← hol];exact hlt)] at h1;have hup:=WN aks outs σ' i (.box d fr to cs) (mkB to cs') d hol.symm hnd ha hy rfl;simp only [ZBT] at hup
  have hpl:Jt c.P w' lim' (X' i) cs' (.pointer (Xa ⟨b,0,Xe⟩))∧X' i 0=Xa b:=by
   cases to with
   | false =>
    rw [k5 rfl] at h1;have hp:Jt c.P w' lim' (X' i) cs' (.pointer (Xa ⟨b,0,Xe⟩)):=h1;obtain ⟨b',m1,m2⟩:=V7 hp;simp only [Value.pointer.injEq,Xg,Addr.mk.injEq,and_true] at m2;exact ⟨hp,by rw [m1,m2]⟩
   | true =>
    obtain ⟨v',hp⟩:=(show ∃ v',Jt c.P w' lim' (X' i) cs' v' from h1);have hgx:=(hgh' i (by rw [ho1];rfl)).2;have hX:ZeR X aks i 0=X d 0:=by simp [ZeR,ha]
    obtain ⟨b',m1,m2⟩:=V7 hp;rw [hgx,hX,k2] at m1
    cases m1
    exact ⟨by rw [← m2];exact hp,by rw [hgx,hX,k2]⟩
  exact ⟨cs',b,hy,hpl.1,k4,hpl.2,k2,hup⟩
 have hafter:Sim c (Kb σ' (Zgo aks outs)) tm w' lim' (XaA X X' aks):=by
  have hSours:∀ b,(∃ i k,ZeR X aks i k=Xa b)→c.A b∨c.w0.heap.size≤b:=by
   rintro b ⟨i,k,h⟩;obtain ⟨a,d,_,_,h3⟩:=hXof i k b h;exact (hsim.ours d k b h3).2
  have hXa:∀ d k b,XaA X X' aks d k=Xa b→(∃ i a fr to cs,Zd1 aks d 0=Xa (i,a)∧aks[i]? = Xa (.box d fr to cs)∧X' i k=Xa b)∨(Zd1 aks d 0=Xe∧(∀ a∈aks,a.slot≠Xa d)∧X d k=Xa b):=by
   intro d k b h;unfold XaA at h;rcases hpass d with ⟨i,a,h1,h2,h3⟩ | ⟨h1,h2⟩
   ·rw [h1] at h
    cases a with
    | imm y => simp at h
    | own t x e xs => simp at h
    | clo _ _ _ => simp at h
    | pad => simp at h
    | box d' fr to cs =>
     simp only [AK.slot,Xg] at h3;subst h3;exact .inl ⟨i,_,fr,to,cs,h1,h2,h⟩
   ·rw [h1] at h;exact .inr ⟨h1,h2,h⟩
  have hXold:∀ d k b,(∀ a∈aks,a.slot≠Xa d)→X d k=Xa b→¬ ∃ i k,ZeR X aks i k=Xa b:=by
   rintro d k b hno hb ⟨i,k',h⟩;obtain ⟨a,d',h1,h2,h3⟩:=hXof i k' b h;obtain ⟨e1,_⟩:=hsim.dist d k d' k' b hb h3;subst e1;exact hno a (Xt h1) h2
  -- a box of the caller's stays one
  have hkeep:∀ d' gh cs,σ' d'=mkB gh cs→(∃ cs',Kb σ' (Zgo aks outs) d'=mkB gh cs'∧((∀ a∈aks,a.slot≠Xa d')→cs'=cs))∧XaA X X' aks d' 0=X d' 0:=by
   intro d' gh cs hd';rcases hpass d' with ⟨i,a,k1,k2,k3⟩ | ⟨k1,k2⟩
   ·cases a with
    | imm y => simp [AK.slot] at k3
    | clo _ _ _ => simp [AK.slot] at k3
    | pad => simp [AK.slot] at k3
    | own t x e xs =>
     simp only [AK.slot,Xg] at k3;subst k3;have:=hok i _ k2;rw [this.1] at hd'
     cases gh<;>cases hd'
    | box d'' fr to cs'' =>
     simp only [AK.slot,Xg] at k3;subst k3;obtain ⟨cs',b,g1,g2,g3,g4,g5,g6⟩:=hboxOut i d'' fr to cs'' k2;have hkk:=(hok i _ k2).1;rw [hd'] at hkk;have hfg:gh=fr:=by have:=congrArg AV.isG hkk;rwa [Zhx,Zhx] at this
     subst hfg;refine ⟨⟨cs',g6,fun hno=>(hno _ (Xt k2) rfl).elim⟩,?_⟩;simp only [XaA,k1];rw [g4,g5]
   ·exact ⟨⟨cs,by rw [J1 aks outs σ' d' k2];exact hd',fun _=>rfl⟩,by simp only [XaA,k1]⟩
  have hkb:∀ d' cs,σ' d' = .box cs→(∃ cs',Kb σ' (Zgo aks outs) d' = .box cs')∧XaA X X' aks d' 0=X d' 0:=by
   intro d' cs hd';obtain ⟨⟨cs',h1,_⟩,h3⟩:=hkeep d' Xc cs hd';exact ⟨⟨cs',h1⟩,h3⟩
  -- what is referred to is not handed over
  have href:∀ i d' k,Yr (σ' i) d' k→∀ a∈aks,a.slot≠Xa d':=by
   intro i d' k hr a ha hs;obtain ⟨p,hp⟩:=ZcD hsim hr;obtain ⟨j,hj⟩:=Uj.1 ha;have hk:=hok j a hj
   cases a with
   | imm y => simp [AK.slot] at hs
   | clo _ _ _ => simp [AK.slot] at hs
   | pad => simp [AK.slot] at hs
   | own t x e xs =>
    simp only [AK.slot,Xg] at hs;subst hs
    cases x with
    | false => rw [hk.1] at hp; simp [Je] at hp
    | true =>
     obtain ⟨h1,h2⟩:=(hex j t e xs hj).all hT;by_cases hit:i=t
     ·subst hit;rw [hk.1] at hr;rcases hr with hr | ⟨_,hr⟩ <;> cases hr
     ·have:=h2 i k hit hr
      cases this
   | box t fr to cs =>
    simp only [AK.slot,Xg] at hs;subst hs;rw [hk.1] at hp
    cases fr with
    | true => simp [mkB, Je] at hp
    | false =>
     have hnr:W5 cs:=by
      obtain ⟨h1,_⟩:=hk;have h2:=hargsBox j t Xc to cs hj;exact h2
     cases k with
     | zero => simp [mkB, Je] at hp
     | succ k =>
      simp only [mkB,Je] at hp;split at hp
      ·rename_i e xs hx;exact hnr _ (Xt hx) e xs rfl
      ·cases hp
  have hkg:∀ d',(σ' d').isG=Xb→(Kb σ' (Zgo aks outs) d').isG=Xb∧XaA X X' aks d' 0=X d' 0:=by
   intro d' hd'
   obtain ⟨cs,hcs⟩:∃ cs,σ' d'=mkB Xb cs:=by
    generalize σ' d'=x at hd'
    cases x<;>simp [AV.isG] at hd'
    exact ⟨_,rfl⟩
   obtain ⟨⟨cs',h1,_⟩,h3⟩:=hkeep d' Xb cs hcs;exact ⟨by rw [h1];rfl,h3⟩
  refine ⟨fun d=>?_,hsim.size,fun d hd=>?_,fun d hd=>?_,fun d k d' k' b h h'=>?_,fun d k b h=>?_,hsim.frm.step hstep hSours,fun d v hv=>?_,fun d b hb=>?_⟩
  ·rcases hpass d with ⟨i,a,h1,h2,h3⟩ | ⟨h1,h2⟩
   ·cases a with
    | imm y => simp [AK.slot] at h3
    | clo _ _ _ => simp [AK.slot] at h3
    | pad => simp [AK.slot] at h3
    | own t x e xs =>
     simp only [AK.slot,Xg] at h3;subst h3;obtain ⟨y,hy⟩:=houtAt i _ h2;rw [WN aks outs σ' i (.own t x e xs) y t hol.symm hnd h2 hy rfl];trivial
    | box d' fr to cs =>
     simp only [AK.slot,Xg] at h3;subst h3;obtain ⟨cs',b,g1,g2,g3,g4,g5,g6⟩:=hboxOut i d' fr to cs h2;rw [g6];have hrow:XaA X X' aks d'=X' i:=by funext k;simp only [XaA,h1]
     cases fr with
     | false =>
      show Jt c.P w' lim' (XaA X X' aks d') cs' _;rw [hrow,g3 rfl];exact g2
     | true => exact ⟨_, by rw [hrow]; exact g2⟩
   ·rw [J1 aks outs σ' d h2]
    have hm:=(hsim.rel d).mono hstep.ext (fun k b hb=>hstep.blk b (hsim.ours d k b hb).1 (hXold d k b h2 hb)) fun d' k b he hb=>
     .of (hstep.blk b (hsim.ours d' k b hb).1 (hXold d' k b (href d d' k (.inl he)) hb)).1
    refine hm.chg (by funext k;simp only [XaA,h1]) hkb hkg fun d' k hr=>?_;have hno:=href d d' k hr;refine ⟨by rw [J1 aks outs σ' d' hno];exact Zbp.refl _ _,?_⟩;rcases hpass d' with ⟨i,a,_,k2,k3⟩ | ⟨k1,_⟩
    ·exact (hno a (Xt k2) k3).elim
    ·simp only [XaA,k1]
  ·rcases hsim.out d hd with h | h
   ·left
    have hno:∀ a∈aks,a.slot≠Xa d:=by
     intro a ha hs;obtain ⟨i,hi⟩:=Uj.1 ha;have hok':=hok i a hi
     cases a with
     | imm y => simp [AK.slot] at hs
     | clo _ _ _ => simp [AK.slot] at hs
     | pad => simp [AK.slot] at hs
     | own t x e xs =>
      simp only [AK.slot,Xg] at hs;subst hs;rw [hok'.1] at h
      cases h
     | box t fr to cs =>
      simp only [AK.slot,Xg] at hs;subst hs;rw [hok'.1] at h
      cases fr<;>cases h
    rw [J1 aks outs σ' d hno];exact h
   ·exact .inr (hkg d h).1
  ·rcases hpass d with ⟨i,a,h1,h2,h3⟩ | ⟨h1,h2⟩
   ·cases a with
    | imm y => simp [AK.slot] at h3
    | clo _ _ _ => simp [AK.slot] at h3
    | pad => simp [AK.slot] at h3
    | own t x e xs =>
     simp only [AK.slot,Xg] at h3;subst h3;obtain ⟨y,hy⟩:=houtAt i _ h2;rw [WN aks outs σ' i (.own t x e xs) y t hol.symm hnd h2 hy rfl] at hd
     cases hd
    | box d' fr to cs =>
     simp only [AK.slot,Xg] at h3;subst h3;obtain ⟨cs',b,g1,g2,g3,g4,g5,g6⟩:=hboxOut i d' fr to cs h2;rw [g6,Zhx] at hd;exact hsim.ghost d' (by rw [(hok i _ h2).1,Zhx];exact hd)
   ·rw [J1 aks outs σ' d h2] at hd;exact hsim.ghost d hd
  ·rcases hXa d k b h with ⟨i,a,fr,to,cs,g1,g2,g3⟩ | ⟨g1,g2,g3⟩ <;> rcases hXa d' k' b h' with ⟨i',a',fr',to',cs',g1',g2',g3'⟩ | ⟨g1',g2',g3'⟩
   ·obtain ⟨e1,e2⟩:=hdist' i k i' k' b g3 g3';subst e1;rw [g2] at g2';simp only [Xg,AK.box.injEq] at g2';exact ⟨g2'.1,e2⟩
   ·rcases (hours' i k b g3).2 with hS | hS
    ·exact (hXold d' k' b g2' g3' hS).elim
    ·have:=(hsim.ours d' k' b g3').1;omega
   ·rcases (hours' i' k' b g3').2 with hS | hS
    ·exact (hXold d k b g2 g3 hS).elim
    ·have:=(hsim.ours d k b g3).1;omega
   ·exact hsim.dist d k d' k' b g3 g3'
  ·rcases hXa d k b h with ⟨i,a,fr,to,cs,g1,g2,g3⟩ | ⟨g1,g2,g3⟩
   ·refine ⟨(hours' i k b g3).1,?_⟩;rcases (hours' i k b g3).2 with hS | hS
    ·exact hSours b hS
    ·exact .inr (XX hsim.frm.size hS)
   ·exact ⟨UG (hsim.ours d k b g3).1 hstep.size,(hsim.ours d k b g3).2⟩
  ·obtain ⟨p1,cs,p2⟩:=hsim.pin d v hv;obtain ⟨⟨cs',h1⟩,_⟩:=hkb d cs p2;exact ⟨p1,cs',h1⟩
  ·obtain ⟨p1,p2⟩:=hsim.gpin d b hb;obtain ⟨h1,h2⟩:=hkg d p2;exact ⟨h2.trans p1,h1⟩
 -- the result
 have hresv:Jx c.P w' lim' X' (JG (outs++[res])) aks.length res v:=by
  have h1:=hrel' aks.length
  have ho1:JG (outs++[res]) aks.length=res:=by
   simp only [JG];rw [XH (by omega),hol];simp
  have hv:Zc2 (aks.map AK.av).length cargs v aks.length=v:=by
   unfold Zc2;rw [P4 (by rw [Xk])]
  rw [ho1,hv] at h1;exact h1
 have hresg:res.isG=Xc:=by
  rcases hres with (⟨u,rfl⟩ | ⟨cs,rfl⟩ | ⟨f,s,xs,rfl⟩) | ⟨b,e,xs,rfl⟩ | ⟨vs,rfl⟩ <;> rfl
 cases hdst:o.dst with
 | none => exact ⟨lim', _, hafter⟩
 | some d =>
  intro hd hm;refine ⟨lim',_,hafter.putRow (X' aks.length) (Yv.refl w' lim' (fun _=>False)) (fun _ hs=>hs.elim) hd (tm':=tm.setIfInBounds d v) (by simp) (fun i hi=>JJ tm d i v hi) (.inl (Ju hm).1) (fun i q hi hr=>(hafter.noRefs (Ju hm).none i q hi hr).elim) ?_ (fun k b hk=>⟨(hours' _ k b hk).1,?_,fun i j hi hij=>?_⟩) (fun k k' b hk hk'=>(hdist' _ k _ k' b hk hk').2) hresg⟩
  ·rw [Ki tm d v (by rw [hsim.size];exact hd)];exact ZnP hres hresv (Jd _ d _)
  ·rcases (hours' _ k b hk).2 with ⟨i,k',hS⟩ | hS
   ·obtain ⟨a,d',_,_,h3⟩:=hXof i k' b hS;exact (hsim.ours d' k' b h3).2
   ·exact .inr (XX hsim.frm.size hS)
  ·unfold XaA at hij;rcases hpass i with ⟨m,a,h1,h2,h3⟩ | ⟨h1,h2⟩
   ·rw [h1] at hij
    cases a with
    | imm y => simp at hij
    | own t x e xs => simp at hij
    | clo _ _ _ => simp at hij
    | pad => simp at hij
    | box d' fr to cs =>
     obtain ⟨e1,_⟩:=hdist' _ _ _ _ b hk hij;have:=(XA.1 h2).1;omega
   ·rw [h1] at hij;rcases (hours' _ k b hk).2 with ⟨i',k',hS⟩ | hS
    ·obtain ⟨a,d',g1,g2,g3⟩:=hXof i' k' b hS;obtain ⟨e1,_⟩:=hsim.dist i j d' k' b hij g3;subst e1;exact h2 a (Xt g1) g2
    ·have:=(hsim.ours i j b hij).1;omega
def ZgE {P:Program} {o:Oper} {σ:Nat→AV} {f:FuncId} {g a:Array Operand} {ds:List Nat} (v:o.op = .makeFunc (.func f) g a) (D:g.toList = [])
  (z:a.toList.length=ds.length) (E:∀ (i:Nat) (x:Operand) (d:Nat),(a.toList)[i]? = Xa x→ds[i]? = Xa d→Z0 P σ x = .ptr d 0∧∃ cs,σ d = .box cs):Kn P o σ (.clo f ds) [] ds:=by
 have r:g = #[]:=by apply Ud.1;rw [D]
 refine Z8 ds rfl fun c s t u w lim X A G m=>⟨.func (.func f) #[] (a.map (Act.eval ⟨u,[]⟩)),?_,?_⟩
 ·simp [execOp,v,Instr.makeFunc,r]
 ·have n:∀ i:Nat,∃ b:Nat,∀ (x:Operand) (d:Nat),(a.toList)[i]? = Xa x→ds[i]? = Xa d→Act.eval ⟨u,[]⟩ x = .pointer (Xa ⟨b,0,Xe⟩)∧X d 0=Xa b∧(t d).isB=Xb:=by
   intro i
   cases k:a.toList[i]? with
   | none => exact ⟨0, fun x d h => by cases h⟩
   | some x =>
    cases q:ds[i]? with
    | none => exact ⟨0, fun x d _ h => by cases h⟩
    | some d =>
     obtain ⟨H,cs,S⟩:=E i x d k q;rw [v] at A
     have J:=WB s m H (A x (by
      have:=Xt k;simp [Op.operands,Array.mem_toList_iff.1 this]))
     obtain ⟨b,L,M,N,O⟩:=J;refine ⟨b,fun y e Q R=>?_⟩
     cases Q
     cases R
     exact ⟨O,M,by rw [N];rfl⟩
  obtain ⟨C,l⟩:=Classical.axiomOfChoice n;have p:∀ i,i < ds.length→∃ x,a.toList[i]? = Xa x:=fun i j=>⟨_,Xp (by rw [z];exact j)⟩;refine ⟨(Ue ds.length).map C,?_,by simp,fun i d b q n=>?_⟩
  ·have:a.map (Act.eval ⟨u,[]⟩)=(((Ue ds.length).map C).map fun b=>Value.pointer (Xa ⟨b,0,Xe⟩)).toArray:=by
    apply Ud.1;rw [Array.toList_map];apply Tc;intro i;rw [Xy,Xy,Xy];by_cases j:i < ds.length
    ·obtain ⟨x,k⟩:=p i j;rw [k,List.getElem?_range j];simp only [XC];exact congrArg Xa (l i x _ k (Xp j)).1
    ·rw [UH (by rw [z];omega),UH (by simp;omega)];rfl
   rw [this]
  ·have j:=(XA.1 q).1;obtain ⟨x,k⟩:=p i j;rw [Xy,List.getElem?_range j] at n;simp only [XC,Xg] at n;subst n;exact ⟨(l i x d k q).2.1,(l i x d k q).2.2⟩
end Go.AM
