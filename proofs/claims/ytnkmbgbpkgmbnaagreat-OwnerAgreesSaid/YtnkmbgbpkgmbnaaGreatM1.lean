import Derived.WalkKit
import Derived.Laws.AppendOwnNone
import Derived.MapKept
import Derived.CheckFast
open Option renaming some→Xa,none→Xe,map_some→XA
open Bool renaming false→Xb,true→Xc
open Option.some renaming injEq→Xf,inj→Uo
open List renaming getElem?_eq_getElem→Xm,map_cons→Xn,mem_of_getElem?→Xo,getElem?_map→Xp,mem_append→Xq,mem_cons→Xr,mem_map→Xs,length_take→Xu,replicate→Xv,getElem?_eq_some_iff→Xx,append_assoc→XB,getElem_mem→XC,length_append→XD,all_eq_true→XE,mem_singleton→XF,getElem?_append_right→XG,getElem?_append_left→XH,getElem?_take→XI,range→XK,mem_of_mem_take→XL,length_cons→XO,mem_of_mem_drop→XR,length_drop→XV,getElem?_drop→X4,mem_iff_getElem?→X6,cons_append→X8,eq_nil_of_length_eq_zero→Uh,length_nil→Ui,flatten_cons→Un,size_toArray→Up,getElem?_eq_none→Ur,append_nil→UG,getElem?_set_ne→UI,ext_getElem?→UO,getElem?_set_self→UP,flatten_append→U0,foldl_cons→Tm,length_pos_iff→TB
open Nat renaming le_refl→Xt,le_trans→XN,mul_le_mul_right→XP,lt_or_ge→XS,zero_add→XW,add_mul→XY,zero_le→X7,lt_of_lt_of_le→Uj,add_assoc→Uy,add_zero→UN,succ_mul→UY,mul_le_mul_left→Tc
open Prod.mk renaming injEq→Xw
open Array renaming toList_inj→XZ,getD→Ux,getElem?_eq_getElem→Uz
set_option linter.unusedVariables false
set_option linter.unusedSimpArgs false
set_option linter.defProp false
namespace Go.AM
def P3.{u} {c:Prop} {i:Decidable c} (h:¬c) {α:Sort u} {a b:α}:(if c then a else b)=b:=if_neg h
def P4.{u} {c:Prop} {i:Decidable c} (h:c) {α:Sort u} {a b:α}:(if c then a else b)=a:=if_pos h
def P5 {p:Prop} [Decidable p]:(decide p=Xc)=p:=decide_eq_true_eq
inductive AV where
 | dead
 | gone
 | val (v : Value)
 | agg (cs : List AV)
 | tuple (vs : List AV)
 | aggo (cs : List AV)
 | slice (full : Bool) (s : Nat) (xs : List (List AV))
 | own (x : Bool) (e : TypeId) (xs : List (List AV))
 | box (cs : List AV)
 | ptr (d off : Nat)
 | eptr (cs : List AV)
 | mref (d k : Nat)
 | eref (d k o : Nat)
 | gbox (cs : List AV)
 | clo (g : FuncId) (ds : List Nat)
def AV.isG:AV→Bool
 | .gbox _ => Xc
 | _ => Xb
def AV.isB:AV→Bool
 | .box _ => Xc
 | .gbox _ => Xc
 | _ => Xb
def Zdn:Value→Bool
 | .bool _ => Xc
 | .int _ _ => Xc
 | .string _ => Xc
 | _ => Xb
def AV.isCell:AV→Bool
 | .val _ => Xc
 | .slice _ _ _ => Xc
 | _ => Xb
def AV.cells:AV→List AV
 | .agg cs => cs
 | x => [x]
inductive Rep (w:World) (lim:Nat→Nat):AV→Value→Prop
 | val {v : Value} (h : Zdn v = Xc) : Rep w lim (.val v) v
 | agg {cs : List AV} {vs : List Value} (hl : cs.length = vs.length) (hc : ∀ c ∈ cs, c.isCell = Xc)
   (h:∀ (i:Nat) (c:AV) (v:Value),cs[i]? = Xa c→vs[i]? = Xa v→Rep w lim c v):Rep w lim (.agg cs) (.agg vs.toArray)
 | sliceN {full : Bool} {s : Nat} : Rep w lim (.slice full s []) (.slice Xe 0 0)
 | sliceE {full : Bool} {s : Nat} {a : Addr} {cap : Nat} (hf : full = Xc → cap = 0) : Rep w lim (.slice full s []) (.slice (Xa a) 0 cap)
 | sliceC {full : Bool} {s : Nat} {xs : List (List AV)} {b o cap : Nat} {us : List Value} (hs : ∀ e ∈ xs, e.length = s)
   (hc:∀ e∈xs,∀ c∈e,c.isCell=Xc) (hf:full=Xc→cap=xs.length) (hle:xs.length≤cap) (hlim:us≠[]→o+us.length≤lim b)
   (hus:us.length=xs.length*s) (hcell:∀ (j:Nat) (u:Value),us[j]? = Xa u→w.cell? ⟨b,o+j,Xe⟩=Xa u)
   (h:∀ (j:Nat) (c:AV) (v:Value),xs.flatten[j]? = Xa c→us[j]? = Xa v→Rep w lim c v):Rep w lim (.slice full s xs) (.slice (Xa ⟨b,o,Xe⟩) xs.length cap)
def Zdj {v:Value} (h:Zdn v=Xc):v.oneCell'=Xc:=by cases v<;>simp_all [Zdn,Value.oneCell']
def Rep.oneCell {w:World} {lim:Nat→Nat} {x:AV} {v:Value} (h:Rep w lim x v) (a:x.isCell=Xc):v.oneCell'=Xc:=by
 cases h with
 | val h => exact Zdj h
 | agg => simp [AV.isCell] at a
 | sliceN => rfl
 | sliceE _ => rfl
 | sliceC => rfl
def Ext (w:World) (lim:Nat→Nat) (w':World) (a:Nat→Nat):Prop:=
 ∀ (b:Nat),b < w.heap.size→lim b≤a b∧∀ (o:Nat) (u:Value),o < lim b→w.cell? ⟨b,o,Xe⟩=Xa u→w'.cell? ⟨b,o,Xe⟩=Xa u
def Ext.refl (w:World) (lim:Nat→Nat):Ext w lim w lim:=fun _ _=>⟨Xt _,fun _ _ _ h=>h⟩
def Ext.trans {a c e:World} {f g i:Nat→Nat} (h:Ext a f c g) (k:Ext c g e i) (m:a.heap.size≤c.heap.size):Ext a f e i:=
 fun b d=>⟨XN (h b d).1 (k b (by omega)).1,fun o u j l=>(k b (by omega)).2 o u (Uj j (h b d).1) ((h b d).2 o u j l)⟩
def ZaF {w:World} {b o:Nat} {u:Value} (h:w.cell? ⟨b,o,Xe⟩=Xa u):b < w.heap.size:=World.block_lt_of_cell? w ⟨b,o,Xe⟩ h
def Rep.mono {w w':World} {lim c:Nat→Nat} (e:Ext w lim w' c) {x:AV} {v:Value} (h:Rep w lim x v):Rep w' c x v:=by
 induction h with
 | val h => exact .val h
 | agg d hc _ ih => exact .agg d hc ih
 | sliceN => exact .sliceN
 | sliceE hf => exact .sliceE hf
 | @sliceC full s xs b o cap us hs hc hf hle hlim hus hcell _ ih =>
  by_cases hne:us = []
  ·subst hne;exact .sliceC (us:=[]) hs hc hf hle (fun h=>(h rfl).elim) hus (by simp) (by simp)
  ·have d:=hlim hne;obtain ⟨u,a,rfl⟩:∃ u a,us=u::a:=by cases us with | nil=>exact (hne rfl).elim | cons u a=>exact ⟨u,a,rfl⟩
   have f:=ZaF (hcell 0 u rfl)
   exact .sliceC hs hc hf hle (fun _=>XN d (e b f).1) hus
    (fun j i g=>(e b f).2 _ _ (by have:=(Xx.1 g).1;omega) (hcell j i g)) ih
def KS (l:List (List AV)):List (List AV):=match l with | (.slice _ _ kvs::_)::_=>kvs | _=>[]
def Z1 (r:List AV):Option Int:=match r with | .val (.int .i64 z)::_=>Xa z | _=>Xe
def Zm0 (r:List AV):List (List AV):=match r with | _ :: .slice _ _ ys::_=>ys | _=>[]
def J4 (l:List (List AV)) (k:Int):List (List AV):=match (KS l).find? (fun r=>Z1 r == Xa k) with | some r=>Zm0 r | none=>[]
def YW (l:List (List AV)) (k:Int):List (List AV):=[[.slice Xb 2 (KS l),.val (.int .i64 k)]]
def Y1 (a:List (List AV)) (k:Int) (c:AV):List (List AV):=
 if (a.any fun r=>Z1 r == Xa k)=Xc then a.map fun r=>if Z1 r == Xa k then [.val (.int .i64 k),c] else r else a++[[.val (.int .i64 k),c]]
def KQ (l:List (List AV)) (k:Int) (s:Nat) (v:List (List AV)):List (List AV):=[[.slice Xb 2 (Y1 (KS l) k (.slice Xb s v))]]
def VR (l:List (List AV)):List (List AV):=(((KS l).filterMap Z1).mergeSort fun a b=>decide (a≤b)).map fun z=>[.val (.int .i64 z)]
inductive MQ where
 | any
 | full
 | at
 | keys
 deriving DecidableEq,Repr
def Zph (k:Int) (x:AV):Bool:=match x with | .val (.int .i64 z)=>z == k | _=>Xb
def WC (r:List AV):Bool:=match Z1 r with | some z=>decide (-9223372036854775808≤z)&&decide (z≤9223372036854775807) | none=>Xb
def Zbz (q:MQ) (l:List (List AV)) (k:Int):Bool:=
 match l with
 | [.slice Xb 2 kvs :: tl] =>
  match q with
  | .any => Xc
  | .full => tl.isEmpty
  | .at => tl.all (Zph k)
  | .keys => tl.isEmpty && (decide (kvs.length ≤ 1048576) && kvs.all WC)
 | _ => Xb
def Wz (P:Program) (T:TypeId):Option TypeId:=
 match P.underlying T with
 | some (.map kt vt) => (match P.underlying kt, P.underlying vt with | some (.int .i64), Xa (.slice et) => Xa et | _, _ => Xe)
 | _ => Xe
def Zvu (P:Program) (T:TypeId):Bool:=
 match P.underlying T with
 | some (.map _ vt) => (match P.info? vt with | some i => (match i.zero with | some (.slice Xe 0 0) => Xc | _ => Xb) | none => Xb)
 | _ => Xb
def Zv (_:Program) (e:TypeId):Bool:=decide (1048576≤e)
def Zb6 (P:Program) (w:World) (lim:Nat→Nat) (et:TypeId) (b:MapEntry) (a:List AV):Prop:=
 ∃ (z:Int) (c:List (List AV)),a = [.val (.int .i64 z),.slice Xb (P.cellsOf et) c]∧b.key = .int .i64 z∧Rep w lim (.slice Xb (P.cellsOf et) c) b.val
def Zxn (P:Program) (w:World) (lim:Nat→Nat) (e:TypeId) (xs:List (List AV)) (v:Value) (ob:Option Nat):Prop:=
 Zv P e=Xc∧∃ (b:Nat) (f:Array MapEntry) (a:Nat) (c:List (List AV)) (et:TypeId),Wz P (e-1048576)=Xa et∧ob=Xa b∧v = .map (Xa b)∧w.heap[b]? = Xa (.map f a)∧lim b=0∧
  (∃ h,xs = [.slice Xb 2 c::h])∧f.size=c.length∧MapKept.Stamped f a∧∀ (i:Nat) (g:MapEntry) (d:List AV),f[i]? = Xa g→c[i]? = Xa d→Zb6 P w lim et g d
def Zxn.mono {P:Program} {w w':World} {lim a:Nat→Nat} {e:TypeId} {xs:List (List AV)} {v:Value} {ob:Option Nat} (h:Zxn P w lim e xs v ob) (k:Ext w lim w' a)
  (j:∀ b,ob=Xa b→w'.heap[b]? = w.heap[b]?∧a b=lim b):Zxn P w' a e xs v ob:=by
 obtain ⟨l,b,m,c,d,et,f,rfl,n,o,p,q,r,s,t⟩:=h;refine ⟨l,b,m,c,d,et,f,rfl,n,(j b rfl).1.trans o,(j b rfl).2.trans p,q,r,s,fun i u g x y=>?_⟩;obtain ⟨z,A,C,D,E⟩:=t i u g x y;exact ⟨z,A,C,D,E.mono k⟩
def Jt (P:Program) (w:World) (lim:Nat→Nat) (x:Bool) (e:TypeId) (xs:List (List AV)) (v:Value) (ob:Option Nat):Prop:=
 (∃ us:List Value,w.ownsRow 0 e (P.cellsOf e) v xs.length us∧v.ownBlock=ob∧(∀ b,ob=Xa b→lim b=if x=Xc then 0 else us.length)∧
  (∀ x∈xs,x.length=P.cellsOf e)∧(∀ x∈xs,∀ c∈x,c.isCell=Xc)∧
  ∀ (j:Nat) (c:AV) (u:Value),xs.flatten[j]? = Xa c→us[j]? = Xa u→Rep w lim c u)∨
 (xs = []∧ob=Xe∧∃ a,v = .slice (Xa a) 0 0)∨(x=Xc∧Zxn P w lim e xs v ob)
def Zgi (P:Program) (w:World) (lim:Nat→Nat) (e:TypeId) (xs:List (List AV)) (Xd:Nat→Option Nat):Prop:=
 Zv P e=Xc→∀ (b:Nat) (f:Array MapEntry) (a:Nat) (d:List (List AV)) (g:List AV) (et:TypeId),Wz P (e-1048576)=Xa et→Xd 0=Xa b→w.heap[b]? = Xa (.map f a)→xs = [.slice Xb 2 d::g]→
  ∀ (i:Nat) (h:MapEntry) (c:List AV),f[i]? = Xa h→d[i]? = Xa c→(∀ k∈g,c.head?≠Xa k)→
   ∃ (z:Int) (j:List (List AV)),c = [.val (.int .i64 z),.slice Xb (P.cellsOf et) j]∧Jt P w lim Xb et j h.val (Xd (i+1))
def Zgi.noMap {P:Program} {w:World} {lim:Nat→Nat} {e:TypeId} {xs:List (List AV)} {Xd:Nat→Option Nat} (h:Zv P e=Xb):Zgi P w lim e xs Xd:=fun a=>by rw [h] at a;cases a
def Mv (P:Program) (e:TypeId) (xs:List (List AV)):Prop:=Zv P e=Xb∨xs = [[.slice Xb 2 []]]
def Zgi.mv {P:Program} {w:World} {lim:Nat→Nat} {e:TypeId} {xs:List (List AV)} {Xd:Nat→Option Nat} (h:Mv P e xs):Zgi P w lim e xs Xd:=by
 rcases h with h | rfl
 ·exact .noMap h
 ·intro _ b j a f k _ _ _ _ c i l g _ d _;simp only [List.cons.injEq,AV.slice.injEq,true_and,and_true] at c;rw [← c.1] at d;simp at d
def Zgi.cells {P:Program} {w:World} {lim:Nat→Nat} {e:TypeId} {xs:List (List AV)} {Xd:Nat→Option Nat} (h:∀ b,Xd 0=Xa b→∃ arr t a,w.heap[b]? = Xa (.cells arr t a)):Zgi P w lim e xs Xd:=fun _ b _ _ _ _ _ _ d c=>by
 obtain ⟨arr,t,a,f⟩:=h b d;rw [f] at c
 cases c
def Zgi.none {P:Program} {w:World} {lim:Nat→Nat} {e:TypeId} {xs:List (List AV)} {Xd:Nat→Option Nat} (h:Xd 0=Xe):Zgi P w lim e xs Xd:=fun _ _ _ _ _ _ _ _ a=>by rw [h] at a;cases a
def Yn (P:Program) (w:World) (lim:Nat→Nat) (ob:Option Nat) (x:AV) (v:Value):Prop:=
 match x with
 | .own x e xs => Jt P w lim x e xs v ob
 | .gone => True
 | x => Rep w lim x v
def ZK (P:Program) (w:World) (lim:Nat→Nat) (X:Nat→Option Nat) (cs:List AV) (v:Value):Prop:=
 ∃ (b:Nat) (arr:Array Value) (t:TypeId),X 0=Xa b∧v = .pointer (Xa ⟨b,0,Xe⟩)∧w.heap[b]? = Xa (.cells arr t (0,0))∧
  arr.size=cs.length∧lim b=0∧(∀ c∈cs,c.isCell=Xc∨(∃ x e xs,c = .own x e xs)∨c = .gone)∧
  ∀ (i:Nat) (c:AV) (u:Value),cs[i]? = Xa c→arr[i]? = Xa u→Yn P w lim (X (i+1)) c u
def ZcG (cs:List AV):Prop:=∀ c∈cs,∀ e xs,c≠.own Xc e xs
def Whole (cs:List AV):Prop:=∀ c∈cs,c≠.gone
def Zy (y:AV) (k:Nat):Option (TypeId×List (List AV)):=
 match y,k with
 | .own Xc e xs, 0 => Xa (e, xs)
 | .box cs, k + 1 => match cs[k]? with | some (.own Xc e xs) => Xa (e, xs) | _ => Xe
 | .gbox cs, k + 1 => match cs[k]? with | some (.own Xc e xs) => Xa (e, xs) | _ => Xe
 | _, _ => Xe
def ZdH (P:Program) (w:World) (ob:Option Nat) (e:TypeId) (n:Nat) (v:Value):Prop:=
 (ob=Xe∧n=0∧(v = .slice Xe 0 0∨∃ a,v = .slice (Xa a) 0 0))∨
  (∃ b arr cap,ob=Xa b∧w.heap[b]? = Xa (.cells arr e (0,0))∧arr.size=cap*P.cellsOf e∧v = .slice (Xa ⟨b,0,Xe⟩) n cap)∨
  (Zv P e=Xc∧∃ b d c,ob=Xa b∧w.heap[b]? = Xa (.map d c)∧v = .map (Xa b))
def Zkc (P:Program) (w:World) (lim:Nat→Nat) (e:TypeId) (b o:Nat) (v:Value):Prop:=
 (Zv P e=Xb∧v = .pointer (Xa ⟨b,o,Xe⟩))∨
  (Zv P e=Xc∧∃ B,v = .func (.func o) #[] #[.pointer (Xa ⟨B,0,Xe⟩)]∧0 < lim B∧w.cell? ⟨B,0,Xe⟩=Xa (.map (Xa b)))
def Zkc.mono {P:Program} {w w':World} {lim a:Nat→Nat} {e:TypeId} {b o:Nat} {v:Value} (h:Zkc P w lim e b o v) (c:Ext w lim w' a):Zkc P w' a e b o v:=by
 rcases h with h | ⟨h0,B,h1,h2,h3⟩
 ·exact .inl h
 ·have d:=ZaF h3;exact .inr ⟨h0,B,h1,Uj h2 (c B d).1,(c B d).2 0 _ h2 h3⟩
def Zkc.ptr {P:Program} {w:World} {lim:Nat→Nat} {e:TypeId} {b o:Nat} {v:Value} (h:Zkc P w lim e b o v) (a:Zv P e=Xb):v = .pointer (Xa ⟨b,o,Xe⟩):=by
 rcases h with h | ⟨h,_⟩
 ·exact h.2
 ·rw [a] at h;cases h
def Z2 (P:Program) (w:World) (lim:Nat→Nat) (X:Nat→Nat→Option Nat) (σ:Nat→AV) (d:Nat) (x:AV) (v:Value):Prop:=
 match x with
 | .dead => True
 | .gone => True
 | .own x e xs => Jt P w lim x e xs v (X d 0)
 | .box cs => ZK P w lim (X d) cs v
 | .ptr a off => ∃ b cs, X a 0 = Xa b ∧ σ a = .box cs ∧ v = .pointer (Xa ⟨b, off, Xe⟩)
 | .mref a k => ∃ e xs, Zy (σ a) k = Xa (e, xs) ∧ ZdH P w (X a k) e xs.length v
 | .eref a k o => ∃ b e xs, Zy (σ a) k = Xa (e, xs) ∧ X a k = Xa b ∧ Zkc P w lim e b o v
 | .eptr cs => ∃ (b o : Nat) (us : List Value), v = .pointer (Xa ⟨b, o, Xe⟩) ∧ us.length = cs.length ∧ (us ≠ [] → o + us.length ≤ lim b) ∧
   (∀ (j:Nat) (u:Value),us[j]? = Xa u→w.cell? ⟨b,o+j,Xe⟩=Xa u)∧(∀ c∈cs,c.isCell=Xc)∧
   ∀ (j:Nat) (c:AV) (u:Value),cs[j]? = Xa c→us[j]? = Xa u→Rep w lim c u
 | .tuple vs => ∃ us : List Value, v = .tuple us.toArray ∧ us.length = vs.length ∧
   ∀ (i:Nat) (c:AV) (u:Value),vs[i]? = Xa c→us[i]? = Xa u→Yn P w lim (X d (i+1)) c u
 | .aggo cs => ∃ us : List Value, v = .agg us.toArray ∧ us.length = cs.length ∧ (∀ c ∈ cs, c.isCell = Xc ∨ ∃ x e xs, c = .own x e xs) ∧
   ∀ (i:Nat) (c:AV) (u:Value),cs[i]? = Xa c→us[i]? = Xa u→Yn P w lim (X d (i+1)) c u
 | .gbox cs => ∃ h, ZK P w lim (X d) cs h
 | .clo g ds => ∃ f : List Nat, v = .func (.func g) #[] (f.map fun b => Value.pointer (Xa ⟨b, 0, Xe⟩)).toArray ∧ f.length = ds.length ∧
   ∀ (i a b:Nat),ds[i]? = Xa a→f[i]? = Xa b→X a 0=Xa b∧(σ a).isB=Xc
 | x => Rep w lim x v
def Jz (x:AV) (d k:Nat):Prop:=x = .mref d k∨∃ o,x = .eref d k o
inductive Odr where
 | text
 | any (N : Nat → Bool) (M : Nat → Option Nat) (K : List (Nat × Nat))
def Odr.nr:Odr→Nat→Nat→Bool
 | .text, _, _ => Xb
 | .any N M _, d, i => N d || match M d with | some t => t != i | none => Xb
def Odr.kp:Odr→Nat→Nat→Bool
 | .text, _, _ => Xb
 | .any _ _ K, d, j => K.contains (d, j)
def Js (x:AV) (j:Nat):Option AV:=match x with | .box cs=>cs[j]? | _=>Xe
def Odr.rel (T:Odr) (σ a:Nat→AV):Prop:=
 match T with
 | .text => a = σ
 | .any N M K => (∀ d i k, (Odr.any N M K).nr d i = Xc → ¬ Jz (a i) d k) ∧ ∀ d j, (Odr.any N M K).kp d j = Xc → Js (a d) j = Js (σ d) j
def Wg (y a:AV) (k:Nat):Prop:=∀ e xs,Zy y k=Xa (e,xs)→∃ xs',Zy a k=Xa (e,xs')∧xs'.length=xs.length
def Wg.refl (y:AV) (k:Nat):Wg y y k:=fun _ xs h=>⟨xs,h,rfl⟩
def ZpT (w:World) (lim:Nat→Nat) (w':World) (a:Nat→Nat) (b:Nat):Prop:=w'.heap[b]? = w.heap[b]?∧a b=lim b
def Jt.lt {P:Program} {w:World} {lim:Nat→Nat} {x:Bool} {e:TypeId} {xs:List (List AV)} {v:Value} {b:Nat} (h:Jt P w lim x e xs v (Xa b)):b < w.heap.size:=by
 rcases h with ⟨us,h1,h2,_⟩ | ⟨_,h,_⟩ | ⟨_,_,b',es,clock,kvs,_,_,h1,_,h2,_⟩
 ·exact (h1.lt b h2).2
 ·cases h
 ·cases h1
  exact (Array.getElem?_eq_some_iff.1 h2).1
def Jt.noMap {P:Program} {w:World} {lim:Nat→Nat} {x:Bool} {e:TypeId} {xs:List (List AV)} {v:Value} {ob:Option Nat} (h:Jt P w lim x e xs v ob) (d:Zv P e=Xb) :
  (∃ us:List Value,w.ownsRow 0 e (P.cellsOf e) v xs.length us∧v.ownBlock=ob∧(∀ b,ob=Xa b→lim b=if x=Xc then 0 else us.length)∧
   (∀ x∈xs,x.length=P.cellsOf e)∧(∀ x∈xs,∀ c∈x,c.isCell=Xc)∧
   ∀ (j:Nat) (c:AV) (u:Value),xs.flatten[j]? = Xa c→us[j]? = Xa u→Rep w lim c u)∨
  (xs = []∧ob=Xe∧∃ a,v = .slice (Xa a) 0 0):=by
 rcases h with h | h | ⟨_,h,_⟩
 ·exact .inl h
 ·exact .inr h
 ·rw [d] at h;cases h
def Jt.mono {P:Program} {w w':World} {lim a:Nat→Nat} {x:Bool} {e:TypeId} {xs:List (List AV)} {v:Value} {ob:Option Nat}
  (h:Jt P w lim x e xs v ob) (i:Ext w lim w' a) (f:∀ b,ob=Xa b→ZpT w lim w' a b):Jt P w' a x e xs v ob:=by
 rcases h with ⟨us,h1,h2,h3,h4,h5,h6⟩ | h | ⟨hx,h⟩
 case inr.inl=>exact .inr (.inl h)
 case inr.inr=>exact .inr (.inr ⟨hx,h.mono i f⟩)
 refine .inl ⟨us,⟨h1.1,?_⟩,h2,fun b d=>((f b d).2.trans (h3 b d)),h4,h5,fun j c u k l=>(h6 j c u k l).mono i⟩;rcases h1.2 with h | ⟨g,cap,cur,rfl,d,hg,rest⟩
 ·exact .inl h
 ·refine .inr ⟨g,cap,cur,rfl,d,?_,rest⟩;rw [(f g (by rw [← h2];rfl)).1];exact hg
def Zgi.mono {P:Program} {w w':World} {lim a:Nat→Nat} {e:TypeId} {xs:List (List AV)} {Xd:Nat→Option Nat} (h:Zgi P w lim e xs Xd) (l:Ext w lim w' a)
  (g:∀ k b,Xd k=Xa b→ZpT w lim w' a b):Zgi P w' a e xs Xd:=fun m b n c d o et p j q r i s f t u g3=>by
 obtain ⟨z,v,x,y⟩:=h m b n c d o et p j (((g 0 b j).1).symm.trans q) r i s f t u g3;exact ⟨z,v,x,y.mono l (g (i+1))⟩
def Yn.mono {P:Program} {w w':World} {lim a:Nat→Nat} {ob:Option Nat} {x:AV} {v:Value}
  (h:Yn P w lim ob x v) (c:Ext w lim w' a) (d:∀ b,ob=Xa b→ZpT w lim w' a b):Yn P w' a ob x v:=by
 cases x<;>first | exact Jt.mono h c d | trivial | exact Rep.mono c h
def ZK.mono {P:Program} {w w':World} {lim a:Nat→Nat} {X:Nat→Option Nat} {cs:List AV} {v:Value}
  (h:ZK P w lim X cs v) (f:Ext w lim w' a) (d:∀ k b,X k=Xa b→ZpT w lim w' a b):ZK P w' a X cs v:=by
 obtain ⟨b,arr,t,e,g,j,l,m,n,o⟩:=h;exact ⟨b,arr,t,e,g,(d 0 b e).1.trans j,l,(d 0 b e).2.trans m,n,fun i c u p q=>(o i c u p q).mono f (d (i+1))⟩
def ZaN (w w':World) (b:Nat):Prop:=(∀ arr e,w.heap[b]? = Xa (.cells arr e (0,0))→∃ arr',w'.heap[b]? = Xa (.cells arr' e (0,0))∧arr'.size=arr.size)∧
 ∀ c a,w.heap[b]? = Xa (.map c a)→∃ es' clock',w'.heap[b]? = Xa (.map es' clock')
def ZaN.of {w w':World} {b:Nat} (h:w'.heap[b]? = w.heap[b]?):ZaN w w' b:=⟨fun arr _ c=>⟨arr,h.trans c,rfl⟩,fun d a c=>⟨d,a,h.trans c⟩⟩
def ZdH.mono {P:Program} {w w':World} {ob:Option Nat} {e:TypeId} {n:Nat} {v:Value} (h:ZdH P w ob e n v) (c:∀ b,ob=Xa b→ZaN w w' b):ZdH P w' ob e n v:=by
 rcases h with h | ⟨b,arr,cap,h1,h2,h3,h4⟩ | ⟨h0,b,es,clock,h1,h2,h3⟩
 ·exact .inl h
 ·obtain ⟨arr',a,d⟩:=(c b h1).1 arr e h2;exact .inr (.inl ⟨b,arr',cap,h1,a,by rw [d,h3],h4⟩)
 ·obtain ⟨es',clock',a⟩:=(c b h1).2 es clock h2;exact .inr (.inr ⟨h0,b,es',clock',h1,a,h3⟩)
def Z2.mono {P:Program} {w w':World} {lim m:Nat→Nat} {X:Nat→Nat→Option Nat} {σ:Nat→AV} {d:Nat} {x:AV} {v:Value}
  (h:Z2 P w lim X σ d x v) (l:Ext w lim w' m) (t:∀ k b,X d k=Xa b→ZpT w lim w' m b)
  (G:∀ r k b,x = .mref r k→X r k=Xa b→ZaN w w' b):Z2 P w' m X σ d x v:=by
 cases x with
 | dead => trivial
 | gone => trivial
 | own x e xs => exact Jt.mono h l (t 0)
 | box cs => exact ZK.mono h l t
 | ptr r off => exact h
 | mref r k =>
  obtain ⟨e,xs,n,p⟩:=h;exact ⟨e,xs,n,p.mono fun b A=>G r k b rfl A⟩
 | eref r k o =>
  obtain ⟨b,e,xs,n,p,q⟩:=h;exact ⟨b,e,xs,n,p,q.mono l⟩
 | eptr cs =>
  obtain ⟨b,o,us,n,p,q,C,D,H⟩:=h;by_cases hne:us = []
  ·subst hne;exact ⟨b,o,[],n,p,fun h=>(h rfl).elim,by simp,D,by simp⟩
  ·have J:=q hne;obtain ⟨u,a,rfl⟩:∃ u a,us=u::a:=by cases us with | nil=>exact (hne rfl).elim | cons u a=>exact ⟨u,a,rfl⟩
   have A:=ZaF (C 0 u rfl);exact ⟨b,o,_,n,p,fun _=>XN J (l b A).1,fun j L E=>(l b A).2 _ _ (by have:=(Xx.1 E).1;omega) (C j L E),D,fun j c u y z=>(H j c u y z).mono l⟩
 | tuple vs =>
  obtain ⟨us,n,p,q⟩:=h;exact ⟨us,n,p,fun i c u y z=>(q i c u y z).mono l (t (i+1))⟩
 | aggo cs =>
  obtain ⟨us,n,p,C,q⟩:=h;exact ⟨us,n,p,C,fun i c u y z=>(q i c u y z).mono l (t (i+1))⟩
 | gbox cs =>
  obtain ⟨M,h⟩:=h;exact ⟨M,ZK.mono h l t⟩
 | clo g ds => exact h
 | val v => exact Rep.mono l h
 | agg cs => exact Rep.mono l h
 | slice f s xs => exact Rep.mono l h
structure Ctx where
 P:Program
 w0:World
 lim0:Nat→Nat
 A:Nat→Prop
 nt:Nat
 /-- The slots of the callers' boxes. -/
 pin:Nat→Option Value
 /-- The blocks of the boxes that stand behind the activation's own slots. -/
 gpin:Nat→Option Nat
structure Frm (c:Ctx) (w:World) (lim:Nat→Nat):Prop where
 os:w.os=c.w0.os
 tape:w.tape=c.w0.tape
 output:w.output=c.w0.output
 size:c.w0.heap.size≤w.heap.size
 frz:∀ a:Addr,a.block < c.w0.heap.size→w.frozen? a=c.w0.frozen? a
 blk:∀ b,b < c.w0.heap.size→¬ c.A b→ZpT c.w0 c.lim0 w lim b
 ext:Ext c.w0 c.lim0 w lim
structure Sim (c:Ctx) (σ:Nat→AV) (tm:Array Value) (w:World) (lim:Nat→Nat) (X:Nat→Nat→Option Nat):Prop where
 rel:∀ d,Z2 c.P w lim X σ d (σ d) (tm.getD d undef)
 size:tm.size=c.nt
 out:∀ d,c.nt≤d→σ d = .dead∨(σ d).isG=Xc
 ghost:∀ d,(σ d).isG=Xc→c.nt≤d
 dist:∀ d k d' k' b,X d k=Xa b→X d' k'=Xa b→d=d'∧k=k'
 ours:∀ d k b,X d k=Xa b→b < w.heap.size∧(c.A b∨c.w0.heap.size≤b)
 frm:Frm c w lim
 pin:∀ d v,c.pin d=Xa v→tm.getD d undef=v∧∃ cs,σ d = .box cs
 mp:∀ d e xs,σ d = .own Xc e xs→Zgi c.P w lim e xs (X d)
 gpin:∀ d b,c.gpin d=Xa b→X d 0=Xa b∧(σ d).isG=Xc
inductive IOp where
 | add | sub | mul | quo | rem | and | or | xor | andNot | shl | shr | min | max
 deriving DecidableEq,Repr
inductive COp where
 | eql | neq | lss | leq | gtr | geq
 deriving DecidableEq,Repr
mutual
inductive IE where
 | var (n : Nat)
 | lit (z : Int)
 | bin (op : IOp) (k : IntKind) (a b : IE)
 | conv (k : IntKind) (a : IE)
 | len (l : LE)
 | slen (s : SE)
 | getc (s : SE) (i : IE)
inductive BE where
 | var (n : Nat)
 | lit (b : Bool)
 | cmp (op : COp) (a b : IE)
 | beq (a b : BE)
 | seq (a b : SE)
 | and (a b : BE)
 | not (a : BE)
inductive SE where
 | var (n : Nat)
 | lit (s : ByteArray)
 | bytes (l : LE)
inductive LE where
 | var (n : Nat)
 | nil
 | snoc (l : LE) (e : CE)
 | app (a b : LE)
 | take (l : LE) (i : IE)
 | drop (l : LE) (i : IE)
 | rep (i : IE) (e : CE)
 | setAt (l : LE) (i : IE) (o : Nat) (e : CE)
 | spl (l a : LE)
 | mget (l : LE) (k : IE)
 | mhole (l : LE) (k : IE)
 | mset (l : LE) (k : IE) (s : Nat) (v : LE)
 | mkeys (l : LE)
inductive CE where
 | nil
 | cons (c : SC) (r : CE)
inductive SC where
 | int (k : IntKind) (e : IE)
 | bool (b : BE)
 | str (s : SE)
 | slice (full : Bool) (s : Nat) (l : LE)
end
inductive TC where
 | c (x : SC)
 | agg (cs : List SC)
 | own (x : Bool) (e : TypeId) (l : LE)
 | gone
inductive BC where
 | c (x : SC)
 | own (x : Bool) (e : TypeId) (l : LE)
 | gone
inductive SV where
 | dead
 | gone
 | c (x : SC)
 | agg (cs : List SC)
 | tuple (vs : List TC)
 | aggo (cs : List BC)
 | own (x : Bool) (e : TypeId) (l : LE)
 | box (cs : List BC)
 | ptr (d off : Nat)
 | eptr (cs : List SC)
 | mref (d k : Nat)
 | eref (d k : Nat) (i : IE) (s o : Nat)
 | gbox (cs : List BC)
 | clo (g : FuncId) (ds : List Nat)
inductive Tr where
 | leaf (v : SV)
 | node (l r : Tr)
def Tr.get:Tr→Nat→SV
 | .leaf v, _ => v
 | .node l r, n => match n % 2 with | 0 => l.get (n / 2) | _ => r.get (n / 2)
def Tr.set:Nat→Tr→Nat→SV→Tr
 | 0, _, _, v => .leaf v
 | d + 1, .node l r, n, v => match n % 2 with | 0 => .node (Tr.set d l (n / 2) v) r | _ => .node l (Tr.set d r (n / 2) v)
 | d + 1, .leaf x, n, v => match n % 2 with | 0 => .node (Tr.set d (.leaf x) (n / 2) v) (.leaf x) | _ => .node (.leaf x) (Tr.set d (.leaf x) (n / 2) v)
def depth:Nat:=10
inductive Sh where
 | int (k : IntKind)
 | bool
 | str
 | slice (s : Nat)
 | own (x : Bool) (e : TypeId)
inductive RSh where
 | c (s : Sh)
 | agg (l : List Sh)
 | box (l : List Sh)
inductive PE where
 | le (a b : IE)
 | lt (a b : IE)
 | make (a : IE) (bytes : Nat)
 | ne0 (a : IE)
 | bytes (l : LE)
 | room (a b : LE) (bytes : Nat)
 | cons (l : LE)
 | mq (q : MQ) (l : LE) (k : IE)
inductive VE where
 | i (e : IE)
 | b (e : BE)
 | s (e : SE)
 | l (e : LE)
inductive STree where
 | stuck (why : Nat)
 | branch (b : BE) (t e : STree)
 | req (p : PE) (t : STree)
 | elem (l : LE) (i : IE) (sh : List Sh) (n : Nat) (t : STree)
 | nilq (l : LE) (n : Nat) (t : STree)
 | call (f : FuncId) (args : List SV) (res : SV) (outs : List SV) (n : Nat) (sh : List Sh) (t : STree)
 | loop (lv : Nat) (init : List VE) (n : Nat) (t : STree)
 | again (lv : Nat) (vals : List VE)
 | ret (res : SV) (outs : List SV)
def Zfd (b:BE) (t e:STree):STree:=
 match b with
 | .lit Xc => t
 | .lit Xb => e
 | b => .branch b t e
def Zlk:BE→BE
 | .lit b => .lit (!b)
 | b => .not b
def ofC:Value→Option SC
 | .slice Xe 0 0 => Xa (.slice Xc 0 .nil)
 | .bool b => Xa (.bool (.lit b))
 | .int k n => Xa (.int k (.lit n))
 | .string s => Xa (.str (.lit s))
 | _ => Xe
def ZfX:List Value→Option (List SC)
 | [] => Xa []
 | v :: vs =>
  match ofC v,ZfX vs with
  | some c, Xa cs => Xa (c :: cs)
  | _, _ => Xe
def ofV:Value→SV
 | .agg cs => match ZfX cs.toList with | some l => .agg l | none => .dead
 | v => match ofC v with | some c => .c c | none => .dead
def JF (P:Program) (g:Nat→SV):Operand→SV
 | .tmp t =>
  match g t with
  | .box _ => .ptr t 0
  | .own x e xs => match x with | true => .mref t 0 | false => .c (.slice Xb (P.cellsOf e) xs)
  | .tuple _ => .dead
  | .aggo _ => .dead
  | .gbox _ => .dead
  | x => x
 | .const v => ofV v
 | .func f => .clo f []
 | _ => .dead
def SV.cells:SV→Option (List SC)
 | .c x => Xa [x]
 | .agg cs => Xa cs
 | _ => Xe
abbrev Ups:=List (Nat×SV)
abbrev K:=SV→Ups→List Nat→Nat→STree
def JU (P:Program) (T:TypeId):Option Bool:=
 match P.underlying T with
 | some (.struct _) => Xa Xc
 | some (.array _ _) => Xa Xc
 | some _ => Xa Xb
 | none => Xe
def Yo (P:Program) (T:TypeId) (f:Nat):Option Nat:=
 match P.underlying T with
 | some (.struct fs) =>
  match fs[f]? with
  | some fd => if P.cellsOf fd.type = 0 then Xe else Xa fd.offset
  | none => Xe
 | _ => Xe
def Zft (P:Program) (T:TypeId) (f:Nat):Option (Bool×Nat):=
 match P.underlying T with
 | some (.struct fs) =>
  match fs[f]? with
  | some fd => (JU P fd.type).map fun a => (a, P.cellsOf fd.type)
  | none => Xe
 | _ => Xe
def Kp (P:Program):Nat→TypeId→Option (List Sh)
 | 0, _ => Xe
 | d + 1, T =>
  match P.underlying T with
  | some (.struct fs) => fs.toList.foldr (fun f c => match Kp P d f.type, c with | some a, Xa b => Xa (a ++ b) | _, _ => Xe) (Xa [])
  | some (.array n e) => (Kp P d e).map fun l => (Xv n l).flatten
  | some (.slice e) => Xa [.slice (P.cellsOf e)]
  | some (.int k) => Xa [.int k]
  | some .bool => Xa [.bool]
  | some .string => Xa [.str]
  | _ => Xe
def Kc (P:Program):Nat→TypeId→List (Option TypeId)
 | 0, _ => []
 | d + 1, T =>
  match P.underlying T with
  | some (.struct fs) => fs.toList.flatMap fun f => Kc P d f.type
  | some (.array n e) => (Xv n (Kc P d e)).flatten
  | some (.slice e) => [Xa e]
  | _ => [Xe]
def YT:Sh→Nat→SC
 | .int k, n => .int k (.var n)
 | .bool, n => .bool (.var n)
 | .str, n => .str (.var n)
 | .slice s, n => .slice Xb s (.var n)
 | .own _ _, n => .slice Xb 0 (.var n)
def Z9:List Sh→Nat→List SC
 | [], _ => []
 | s :: ss, n => YT s n :: Z9 ss (n + 1)
def Zbx (e:Option TypeId) (c:SC):BC:=
 match e,c with
 | some e, .slice Xc _ .nil => .own Xb e .nil
 | _, c => .c c
def Zrw (P:Program) (T:TypeId):Option (List BC):=
 match P.info? T with
 | some i =>
  match i.zero with
  | some z =>
   match ZfX z.cells.toList with
   | some cs => if (Kc P 8 T).length = cs.length then Xa (List.zipWith Zbx (Kc P 8 T) cs) else Xe
   | none => Xe
  | none => Xe
 | none => Xe
def ZdP (P:Program):BC→SC
 | .c x => x
 | .own _ e l => .slice Xb (P.cellsOf e) l
 | .gone => .slice Xc 0 .nil
def Wi (cs:List BC):Bool:=cs.all fun c=>match c with | .own Xc _ _=>Xb | _=>Xc
def Zbe (cs:List BC):Bool:=cs.all fun c=>match c with | .gone=>Xb | _=>Xc
def ZdY (d:Nat) (x:SV):Bool:=
 match x with
 | .mref d' _ => d' == d
 | .eref d' _ _ _ _ => d' == d
 | _ => Xb
def Jx (g:Nat→SV) (d:Nat):Nat→List (Nat×SV)
 | 0 => []
 | i + 1 => if i ≠ d ∧ ZdY d (g i) = Xc then (i, .dead) :: Jx g d i else Jx g d i
def SV.isG:SV→Bool
 | .gbox _ => Xc
 | _ => Xb
def JD (x:SV) (k:Nat):Option (TypeId×LE):=
 match x,k with
 | .own Xc e l, 0 => Xa (e, l)
 | .box cs, k + 1 => match cs[k]? with | some (.own Xc e l) => Xa (e, l) | _ => Xe
 | .gbox cs, k + 1 => match cs[k]? with | some (.own Xc e l) => Xa (e, l) | _ => Xe
 | _, _ => Xe
def KA (x:SV) (k:Nat) (b:Bool) (e:TypeId) (l:LE):SV:=
 match x,k with
 | .own _ _ _, 0 => .own b e l
 | .box cs, k + 1 => .box (cs.set k (.own b e l))
 | x, _ => x
def Zfl (place:Nat→Option (Nat×Nat)):List SC→List (Nat×SV)→Option (List SC)
 | cells, [] => Xa cells
 | cells, (i, v) :: rest =>
  match place i,v.cells with
  | some (off, size), Xa vc =>
   if vc.length=size∧off+size≤cells.length then Zfl place (cells.take off++vc++cells.drop (off+size)) rest else Xe
  | _, _ => Xe
def ZkE:List SC→CE
 | [] => .nil
 | c :: cs => .cons c (ZkE cs)
def lOf (a:Nat) (cs:List SC):Nat→LE
 | 0 => .nil
 | n + 1 => .snoc (lOf a cs n) (ZkE ((cs.drop (n * a)).take a))
def Zm3 (s:Sh) (c:SC):Option SC:=
 match s,c with
 | .slice s, .slice _ s' l => if s' = s then Xa (.slice Xb s l) else (match l with | .nil => Xa (.slice Xb s .nil) | _ => Xe)
 | _, c => Xa c
def YY:List Sh→List SC→Option (List SC)
 | [], [] => Xa []
 | s :: ss, c :: cs => match Zm3 s c, YY ss cs with | some v, Xa vs => Xa (v :: vs) | _, _ => Xe
 | _, _ => Xe
def Ztk (s:Sh) (c:SC):SC:=
 match s,c with
 | .slice s, .slice f _ .nil => .slice f s .nil
 | _, c => c
def Zo2:List Sh→List SC→List SC
 | s :: ss, c :: cs => Ztk s c :: Zo2 ss cs
 | _, cs => cs
def nrm (P:Program) (T:TypeId) (vc:List SC):List SC:=match Kp P 8 T with | some sh=>Zo2 sh vc | none=>vc
def ZlA:SC→SC→Option BE
 | .int k a, .int k' b => if k = k' then Xa (.cmp .eql a b) else Xe
 | .bool a, .bool b => Xa (.beq a b)
 | _, _ => Xe
def Zbn:List SC→List SC→Option BE
 | [], [] => Xa (.lit Xc)
 | a :: aZ, b :: bs =>
  match ZlA a b,Zbn aZ bs with
  | some x, Xa y => Xa (.and x y)
  | _, _ => Xe
 | _, _ => Xe
def Zqi (sh:Sh) (c:SC):Bool:=
 match sh,c with
 | .int k, .int k' _ => decide (k = k')
 | .bool, .bool _ => Xc
 | _, _ => Xb
def Wv:List Sh→List SC→Bool
 | [], [] => Xc
 | s :: ss, c :: cs => Zqi s c && Wv ss cs
 | _, _ => Xb
def Zlt (P:Program) (a:List TypeId) (T:TypeId) (xs b:List SC):Bool:=
 a.contains T&&match Kp P 8 T with | some l=>Wv l xs&&Wv l b | none=>Xb
def bin (P:Program) (d:List TypeId) (op:BinOp) (T:TypeId) (x y:SV) (k:SV→STree):STree:=
 match x,y with
 | .c (.int kx a), .c (.int ky b) =>
  match op with
  | .shl => .req (.le (.lit 0) b) (k (.c (.int kx (.bin .shl kx a b))))
  | .shr => .req (.le (.lit 0) b) (k (.c (.int kx (.bin .shr kx a b))))
  | _ =>
   if kx=ky then
    match op with
    | .add => k (.c (.int kx (.bin .add kx a b)))
    | .sub => k (.c (.int kx (.bin .sub kx a b)))
    | .mul => k (.c (.int kx (.bin .mul kx a b)))
    | .quo => .req (.ne0 b) (k (.c (.int kx (.bin .quo kx a b))))
    | .rem => .req (.ne0 b) (k (.c (.int kx (.bin .rem kx a b))))
    | .and => k (.c (.int kx (.bin .and kx a b)))
    | .or => k (.c (.int kx (.bin .or kx a b)))
    | .xor => k (.c (.int kx (.bin .xor kx a b)))
    | .andNot => k (.c (.int kx (.bin .andNot kx a b)))
    | .eql => k (.c (.bool (.cmp .eql a b)))
    | .neq => k (.c (.bool (.cmp .neq a b)))
    | .lss => k (.c (.bool (.cmp .lss a b)))
    | .leq => k (.c (.bool (.cmp .leq a b)))
    | .gtr => k (.c (.bool (.cmp .gtr a b)))
    | .geq => k (.c (.bool (.cmp .geq a b)))
    | _ => .stuck 1
   else .stuck 2
 | .c (.str a), .c (.str b) =>
  match op with
  | .eql => k (.c (.bool (.seq a b)))
  | .neq => k (.c (.bool (.not (.seq a b))))
  | _ => .stuck 3
 | .c (.bool a), .c (.bool b) =>
  match P.underlying T with
  | some .bool =>
   match op with
   | .eql => k (.c (.bool (.beq a b)))
   | .neq => k (.c (.bool (.not (.beq a b))))
   | _ => .stuck 4
  | _ => .stuck 5
 | .agg xs, .agg ys =>
  match Zlt P d T xs ys,Zbn xs ys with
  | true, Xa e =>
   match op with
   | .eql => k (.c (.bool e))
   | .neq => k (.c (.bool (.not e)))
   | _ => .stuck 6
  | _, _ => .stuck 7
 | _, _ => .stuck 8
def Znw (full:Bool) (s:Nat) (xs:LE) (a b d:Option SV) (k:SV→STree):STree:=
 match a,b,d with
 | none, Xa (.c (.int _ (.lit 0))), Xa (.c (.int _ (.lit 0))) => k (.c (.slice Xc s .nil))
 | none, Xe, Xe => k (.c (.slice full s xs))
 | some (.c (.int _ l)), Xe, Xe => .req (.le (.lit 0) l) (.req (.le l (.len xs)) (k (.c (.slice full s (.drop xs l)))))
 | none, Xa (.c (.int _ h)), Xe => .req (.le (.lit 0) h) (.req (.le h (.len xs)) (k (.c (.slice Xb s (.take xs h)))))
 | some (.c (.int _ l)), Xa (.c (.int _ h)), Xe =>
  .req (.le (.lit 0) l) (.req (.le l h) (.req (.le h (.len xs)) (k (.c (.slice Xb s (.drop (.take xs h) l))))))
 | _, _, _ => .stuck 10
def Zuv (P:Program) (T:TypeId) (x:SV) (k:SV→STree):STree:=
 match P.underlying T,x with
 | some (.slice _), .c (.slice _ _ xs) => k (.c (.int .i64 (.len xs)))
 | some .string, .c (.str s) => k (.c (.int .i64 (.slen s)))
 | _, _ => .stuck 11
def Zur:LE:=.snoc .nil (.cons (.slice Xb 2 .nil) .nil)
def Zjb (l:LE):Bool:=match l with | .snoc .nil (.cons (.slice Xb 2 .nil) .nil)=>Xc | _=>Xb
def mvB (P:Program) (e:TypeId) (l:LE):Bool:=!Zv P e||Zjb l
def KG (P:Program) (a:Odr) (g:Nat→SV) (b t:Nat) (x:Bool) (e:TypeId) (l:LE):Option Ups:=
 match x with
 | false => Xa [(t, .c (.slice Xb (P.cellsOf e) l))]
 | true => if mvB P e l = Xc then (match a with | .text => Xa ((t, .dead) :: Jx g t b) | .any N _ _ => match N t with | true => Xa [(t, .dead)] | false => Xe) else Xe
def Zfh (a:Odr) (g:Nat→SV) (b d:Nat):Bool:=
 match a with
 | .text => (Jx g d b).isEmpty
 | .any N _ _ => N d
def Zlv (a:Odr) (g:Nat→SV) (b d:Nat):Option Ups:=
 match a with
 | .text => Xa (Jx g d b)
 | .any N _ _ => if N d = Xc then Xa [] else Xe
def Zbw (P:Program) (T:TypeId) (a:Odr) (g:Nat→SV) (f:Nat) (h:Bool) (d:Option Nat) (x y:SV) (k:SV→Ups→STree):STree:=
 match P.underlying T with
 | some (.slice e) =>
  match P.info? e with
  | some i =>
   match i.zero with
   | some z =>
    if z.cells.size=i.size∧0 < i.size∧Zv P e=Xb then
     match x,y with
     | .own b e' xs, .c (.slice _ s ys) =>
      match d with
      | some t =>
       match KG P a g f t b e' xs with
       | some us => if e' = e ∧ s = i.size then .req (.room xs ys i.bytes) (k (.own b e (.app xs ys)) us) else .stuck 20
       | none => .stuck 23
      | none => .stuck 21
     | .c (.slice Xc _ .nil), .c (.slice _ s ys) =>
      if s=i.size then .req (.room .nil ys i.bytes) (k (.own h e ys) []) else .stuck 22
     | _, _ => .stuck 24
    else .stuck 25
   | none => .stuck 26
  | none => .stuck 27
 | _ => .stuck 28
def Zap (P:Program) (T:TypeId) (a:Odr) (g:Nat→SV) (f:Nat) (h:Bool) (d:Option Nat) (x:SV) (j:Option (TypeId×LE)) (k:SV→Ups→STree):STree:=
 match P.underlying T with
 | some (.slice e) =>
  match P.info? e with
  | some i =>
   match i.zero with
   | some z =>
    if z.cells.size=i.size∧0 < i.size∧Zv P e=Xb then
     match x,j with
     | .own b e' xs, Xa (e2, ys) =>
      match d with
      | some t =>
       match KG P a g f t b e' xs with
       | some us => if e' = e ∧ e2 = e then .req (.room xs ys i.bytes) (k (.own b e (.app xs ys)) us) else .stuck 20
       | none => .stuck 23
      | none => .stuck 21
     | .c (.slice Xc _ .nil), Xa (e', ys) => if e' = e then .req (.room .nil ys i.bytes) (k (.own h e ys) []) else .stuck 22
     | _, _ => .stuck 24
    else .stuck 25
   | none => .stuck 26
  | none => .stuck 27
 | _ => .stuck 28
def Z8:Operand→Option Nat
 | .tmp t => Xa t
 | _ => Xe
def Vh (o:Oper):List Nat:=o.op.operands.toList.filterMap Z8
def ZnR (a:Bool) (cs:List BC):SV:=match a with | true=>.gbox cs | false=>.box cs
inductive SAK where
 | imm (x : SV)
 | own (t : Nat) (x : Bool) (e : TypeId) (l : LE)
 | box (d : Nat) (fr to : Bool) (cs : List BC)
 | clo (g : FuncId) (ds gs : List Nat)
 | ref (t d q j : Nat)
 | pad
def SAK.sv:SAK→SV
 | .imm x => x
 | .own _ x e l => .own x e l
 | .box _ _ to cs => ZnR to cs
 | .clo g _ gs => .clo g gs
 | .ref _ _ q j => .mref j q
 | .pad => .dead
def SAK.slot:SAK→Option Nat
 | .imm _ => Xe
 | .own t _ _ _ => Xa t
 | .box d _ _ _ => Xa d
 | .clo _ _ _ => Xe
 | .ref t _ _ _ => Xa t
 | .pad => Xe
def Zq2 (P:Program) (g:Nat→SV) (x:Operand):Option SAK:=
 match Z8 x,(Z8 x).map g with
 | some t, Xa (.own x e l) => Xa (.own t x e l)
 | _, _ =>
  match JF P g x with
  | .c v => Xa (.imm (.c v))
  | .agg cs => Xa (.imm (.agg cs))
  | .ptr d 0 =>
   match g d with
   | .box cs => if Zbe cs = Xc then Xa (.box d Xb Xb cs) else Xe
   | _ => Xe
  | .clo h ds => Xa (.clo h ds [])
  | .mref d q =>
   match JD (g d) q with
   | some (e, l) => if 0 < P.cellsOf e ∧ Zv P e = Xb then Xa (.imm (.c (.slice Xb (P.cellsOf e) l))) else Xe
   | none => Xe
  | _ => Xe
def Zcc (g:Nat→SV) (x:Operand):Option SAK:=
 match Z8 x,(Z8 x).map g with
 | some t, Xa (.mref d q) => Xa (.ref t d q 0)
 | _, _ => Xe
def Wu (P:Program) (g:Nat→SV) (rf:List Nat):List Operand→Nat→List (Nat×Nat)
 | [], _ => []
 | x :: rest, i =>
  if (rf.contains i&&(Zcc g x).isSome)=Xc then Wu P g rf rest (i+1)
  else
   match (Z8 x).map g with
   | some (.own _ _ _) => Wu P g rf rest (i + 1)
   | _ => match JF P g x with | .mref d q => (d, q) :: Wu P g rf rest (i + 1) | _ => Wu P g rf rest (i + 1)
def Za8 (x:SC):Bool:=match x with | .slice _ _ _=>Xb | _=>Xc
def Zm6 (x:BC):Bool:=match x with | .c x=>Za8 x | _=>Xb
def ZvJ (x:TC):Bool:=match x with | .c x=>Za8 x | .agg cs=>cs.all Za8 | _=>Xb
def Zij (x:SV):Bool:=
 match x with
 | .c x => Za8 x
 | .dead => Xc
 | .agg cs => cs.all Za8
 | .box cs => cs.all Zm6
 | .gbox cs => cs.all Zm6
 | .tuple vs => vs.all ZvJ
 | _ => Xb
def Zwc (b:List (Nat×Nat)) (a:List Nat) (res:SV) (outs:List SV):Bool:=
 match b with
 | [] => Xc
 | p :: r => r.all (fun q => decide (q.1 = p.1) && decide (q.2 = p.2)) && !a.contains p.1 && Zij res && outs.all Zij
def Zce (P:Program) (g:Nat→SV) (rf:List Nat):List Operand→Nat→Option (List SAK)
 | [], _ => Xa []
 | x :: rest, i =>
  match (if (rf.contains i&&(Zcc g x).isSome)=Xc then Zcc g x else Zq2 P g x),Zce P g rf rest (i+1) with
  | some a, Xa aZ => Xa (a :: aZ)
  | _, _ => Xe
def Zq:List SAK→List Nat
 | [] => []
 | .clo _ ds _ :: aZ => (ds.filter fun d => !(Zq aZ).contains d).eraseDups ++ Zq aZ
 | .ref _ d _ _ :: aZ => if (Zq aZ).contains d = Xc then Zq aZ else d :: Zq aZ
 | _ :: aZ => Zq aZ
def ZnU (d:Nat):List Nat→Nat
 | [] => 0
 | x :: xs => if x = d then 0 else ZnU d xs + 1
def Zro (g:Nat→SV) (a:Bool) (d:Nat):Option SAK:=
 match g d with
 | .box cs => if Zbe cs = Xc then Xa (.box d Xb a cs) else Xe
 | .gbox cs => if Zbe cs = Xc then Xa (.box d Xc a cs) else Xe
 | _ => Xe
def WZ (g:Nat→SV) (b:Bool):List Nat→Option (List SAK)
 | [] => Xa []
 | d :: ds => match Zro g b d, WZ g b ds with | some a, Xa aZ => Xa (a :: aZ) | _, _ => Xe
def Zbp (base:Nat) (b:List Nat):SAK→SAK
 | .clo g ds _ => .clo g ds (ds.map fun d => base + ZnU d b)
 | .ref t d q _ => .ref t d q (base + ZnU d b)
 | a => a
def ZaR (g:Nat→SV) (b:Nat) (a:List SAK):Option (List SAK):=
 match Zq a with
 | [] => Xa a
 | gh => if a.length ≤ b then (WZ g Xc gh).map fun c => a.map (Zbp b gh) ++ Xv (b - a.length) .pad ++ c else Xe
def ZdT:List Nat→Bool
 | [] => Xc
 | x :: xs => !xs.contains x && ZdT xs
def Zxm (a b:Bool) (o:SV):SV:=
 match b,o with
 | true, .gbox cs => ZnR a cs
 | false, .box cs => ZnR a cs
 | _, _ => .dead
def ZaK:List SAK→List SV→Ups
 | .own t _ _ _ :: aZ, _ :: os => (t, .gone) :: ZaK aZ os
 | .box d fr to _ :: aZ, o :: os => (d, Zxm fr to o) :: ZaK aZ os
 | .imm _ :: aZ, _ :: os => ZaK aZ os
 | .clo _ _ _ :: aZ, _ :: os => ZaK aZ os
 | .ref t _ _ _ :: aZ, _ :: os => (t, .dead) :: ZaK aZ os
 | .pad :: aZ, _ :: os => ZaK aZ os
 | _, _ => []
def ZpB (o:BC) (x:SC):BC:=
 match o,x with
 | .own Xc e _, .slice Xc _ .nil => .own Xc e .nil
 | _, _ => .c x
def YR:List BC→List SC→List BC
 | o :: os, x :: xs => ZpB o x :: YR os xs
 | [], xs => xs.map .c
 | _ :: _, [] => []
def Zps:BC→Sh
 | .c (.int k _) => .int k
 | .c (.bool _) => .bool
 | .c (.str _) => .str
 | .c (.slice _ s _) => .slice s
 | .own x e _ => .own x e
 | .gone => .bool
def Zrc:Sh→Nat→BC
 | .own x e, n => .own x e (.var n)
 | s, n => .c (YT s n)
def KI:List Sh→Nat→List BC
 | [], _ => []
 | s :: ss, n => Zrc s n :: KI ss (n + 1)
def JB:List SV→Nat→List SV×List Sh×Nat
 | [], n => ([], [], n)
 | .box cs :: aZ, n =>
  let sh:=cs.map Zps
  let r:=JB aZ (n+sh.length)
  (.box (KI sh n)::r.1,sh++r.2.1,r.2.2)
 | .gbox cs :: aZ, n =>
  let sh:=cs.map Zps
  let r:=JB aZ (n+sh.length)
  (.gbox (KI sh n)::r.1,sh++r.2.1,r.2.2)
 | _ :: aZ, n =>
  let r:=JB aZ n
  (.dead::r.1,r.2.1,r.2.2)
def ZoB (P:Program) (a:Nat) (T:TypeId):Option RSh:=
 match P.underlying T with
 | some (.struct _) => (Kp P 8 T).map .agg
 | some (.array _ _) => (Kp P 8 T).map .agg
 | some (.slice e) => Xa (.c (match a with | 0 => .slice (P.cellsOf e) | 1 => .own Xb e | _ => .own Xc e))
 | some (.int k) => Xa (.c (.int k))
 | some .bool => Xa (.c .bool)
 | some .string => Xa (.c .str)
 | _ => Xe
def ZsK (r:RSh) (n:Nat):TC×List Sh:=
 match r with
 | .c (.own x e) => (.own x e (.var n), [.own x e])
 | .c s => (.c (YT s n), [s])
 | .agg l => (.agg (Z9 l n), l)
 | .box l => (.agg (Z9 l n), l)
def Zai (P:Program) (a:Nat):List TypeId→Nat→Option (List TC×List Sh×Nat)
 | [], n => Xa ([], [], n)
 | T :: Ts, n =>
  match ZoB P a T with
  | some r =>
   let x:=ZsK r n
   match Zai P a Ts (n+x.2.length) with
   | some (vs, sh, n') => Xa (x.1 :: vs, x.2 ++ sh, n')
   | none => Xe
  | none => Xe
def Zxh:TC→SV
 | .c x => .c x
 | .agg cs => .agg cs
 | .own x e l => .own x e l
 | .gone => .gone
def Zfw (P:Program) (a:Nat) (Ts:List TypeId) (n:Nat):Option (SV×List Sh×Nat):=
 match Zai P a Ts n with
 | some ([x], sh, n') => Xa (Zxh x, sh, n')
 | some (vs, sh, n') => Xa (.tuple vs, sh, n')
 | none => Xe
inductive HP where
 | c (s : Sh)
 | agg (l : List Sh)
 | box (l : List Sh)
 | mref (d k : Nat)
 | ptr (d off : Nat)
 | dead
 | gbox (l : List Sh)
 | clo (g : FuncId) (ds : List Nat)
structure Env where
 nt:Nat
 cons:FuncId→Nat→Bool
 fresh:FuncId→Nat
 plain:List TypeId
 res:List Nat
 keep:Nat→List (Nat×HP)
 pins:List Nat
 ng:Nat
 ex:List Nat
 fz:Nat→List (Nat×Nat)
 rb:FuncId→Option (List Sh):=fun _=>Xe
 rfs:FuncId→List Nat:=fun _=>[]
 ks:List (FuncId×FuncId×FuncId):=[]
abbrev Env.top (E:Env):Nat:=E.nt+E.ng
def gE (E:Env) (s:Tr):Nat→SV:=fun d=>if d < E.top then s.get d else .dead
def ZdZ:List SV→Option (List Nat)
 | [] => Xa []
 | .ptr d 0 :: r => (ZdZ r).map fun ds => d :: ds
 | _ => Xe
def Zw5 (P:Program) (f:FuncId):Nat:=match P.funcs[f]? with | some fn=>fn.ntmps | none=>0
def Zel (e:Odr) (g:Nat→SV) (f:Nat) (c:List SAK):Bool:=
 c.all fun a=>match a with
  | .own t Xc _ _ => (match e with | .text => (Jx g t f).isEmpty | .any N _ _ => N t)
  | .box d _ _ cs => Wi cs || (match e with | .text => (Jx g d f).all (fun u => c.any fun b => match b with | .ref t _ _ _ => t == u.1 | _ => Xb) | .any N M _ => N d || match M d with | some t => (c.any fun b => match b with | .ref t' _ _ _ => t' == t | _ => Xb) | none => Xb)
  | _ => Xc
def ZbL (E:Env) (a:Odr) (g:Nat→SV) (rf:List Nat) (args:List Operand):Ups:=
 match a,rf with
 | .text, _ :: _ => (args.zipIdx.flatMap fun p => if rf.contains p.2 = Xc then (match (Z8 p.1).map g with | some (.mref d _) => Jx g d E.top | _ => []) else []).filter fun u => !(args.filterMap Z8).contains u.1
 | _, _ => []
def ZgC (a:Ups) (g:Nat→SV):Nat→SV:=fun d=>if (a.any fun u=>u.1 == d)=Xc then .dead else g d
def Zic (P:Program) (E:Env) (f:FuncId) (Ts:List TypeId) (n:Nat):Option (SV×List Sh×Nat):=
 match E.rb f with
 | some l => Xa (.box (KI l n), l, n + l.length)
 | none => Zfw P (E.fresh f) Ts n
def fpL (a:Odr) (d off m:Nat):List Nat:=match decide (m≠0)&&(XK m).all fun j=>a.kp d (off+j) with | true=>[] | false=>[d]
def Zpc (P:Program) (res:SV):Bool:=match res with | .own Xc e _=>!Zv P e | _=>Xc
def ZgJ (P:Program) (E:Env) (a:Odr) (g:Nat→SV) (f:FuncId) (b:List (Nat×Nat)) (c:Option (List SAK)) (n:Nat) (k:K):STree:=
 match c,(P.funcs[f]?).map (·.resultTypes) with
 | some saks, Xa Ts =>
  if ZdT (saks.filterMap SAK.slot)=Xc∧Zel a g E.top saks=Xc then
   match Zic P E f Ts.toList n with
   | some (res, sh, n') =>
    let r:=JB (saks.map SAK.sv) n'
    if Zwc b (saks.filterMap SAK.slot) res r.1=Xc∧Zpc P res=Xc then .call f (saks.map SAK.sv) res r.1 n (sh++r.2.1) (k res (ZaK saks r.1) (saks.filterMap SAK.slot++b.map (·.1)) r.2.2) else .stuck 136
   | none => .stuck 87
  else .stuck 86
 | _, _ => .stuck 184
def Env.exO (E:Env) (o:Oper):Bool:=match o.dst with | some d=>E.ex.contains d | none=>Xb
def ZeL (P:Program) (E:Env) (a:Odr) (b:Bool) (g:Nat→SV) (t:Nat) (x:Bool) (e:TypeId) (xs:LE) (n:Nat) (k:K):STree:=
 match b with
 | true =>
  if (x&&Zv P e)=Xc then k (.mref t 0) [] [] n else
  match KG P a g E.top t x e xs with
  | some us => k (.own x e xs) us [] n
  | none => .stuck 29
 | false => match x with | true => k (.mref t 0) [] [] n | false => k (.c (.slice Xb (P.cellsOf e) xs)) [] [] n
def ZhX (g:Nat→SV):List (Nat×Operand)→Option (Nat×Nat×TypeId×LE)
 | [(f, .tmp t)] => match g t with | .own Xc e l => Xa (f, t, e, l) | _ => Xe
 | _ => Xe
def Ze6 (P:Program) (E:Env) (a:Odr) (g:Nat→SV) (T:TypeId) (f t:Nat) (e:TypeId) (l:LE) (n:Nat) (k:K):STree:=
 match P.underlying T,P.info? T with
 | some (.struct fs), Xa i =>
  if (fs.toList.all fun f=>(P.info? f.type).isSome)=Xc then
   match i.zero,fs[f]? with
   | some z, Xa fd =>
    match ZfX z.cells.toList,KG P a g E.top t Xc e l with
    | some zc, Xa us => if P.cellsOf fd.type = 1 ∧ fd.offset < zc.length then k (.aggo ((zc.map .c).set fd.offset (.own Xc e l))) us [] n else .stuck 130
    | _, _ => .stuck 131
   | _, _ => .stuck 132
  else .stuck 133
 | _, _ => .stuck 134
def Zri (a:IE) (d off s m:Nat) (k:SV→STree):Nat→STree
 | 0 => .stuck 192
 | j + 1 =>
  match j with
  | 0 => .req (.le (.lit (m - 1 : Nat)) a) (.req (.le a (.lit (m - 1 : Nat))) (k (.ptr d (off + (m - 1) * s))))
  | j' + 1 => .branch (.cmp .eql a (.lit (m - (j' + 2) : Nat))) (k (.ptr d (off + (m - (j' + 2)) * s))) (Zri a d off s m k (j' + 1))
def Zqd (P:Program) (op:BinOp) (T:TypeId) (x:SV) (y:Operand):Option Bool:=
 match x,y,P.underlying T with
 | .ptr _ _, .const (.pointer Xe), Xa (.pointer _) => (match op with | .eql => Xa Xb | .neq => Xa Xc | _ => Xe)
 | _, _, _ => Xe
def Zit (P:Program) (E:Env) (g:Nat→SV) (f:FuncId) (args:List Operand):Option (Nat×FuncId×LE):=
 match E.ks with
 | [] => Xe
 | ks =>
  match args,ks.find? (fun p=>p.1 == f) with
  | [x], Xa p =>
   match JF P g x with
   | .mref d 0 => (match g d with | .own Xc e l => if Zv P e = Xc ∧ P.cellsOf e = 0 then Xa (d, p.2.2, l) else Xe | _ => Xe)
   | _ => Xe
  | _, _ => Xe
def ZbA (P:Program) (E:Env) (g:Nat→SV) (f:FuncId) (args:List Operand):Option (Nat×LE):=
 match E.ks with
 | [] => Xe
 | ks =>
  match args with
  | [x] =>
   match JF P g x with
   | .eref d 0 (.lit 0) 0 gf => (match g d with | .own Xc e l => if Zv P e = Xc ∧ P.cellsOf e = 0 ∧ (ks.any fun p => p.2.1 == f && p.2.2 == gf) = Xc then Xa (d, l) else Xe | _ => Xe)
   | _ => Xe
  | _ => Xe
def ZiF (P:Program) (a:Bool) (g:Nat→SV) (T:TypeId) (m b:Operand) (n:Nat) (k:K):STree:=
 match Wz P T,JF P g m,JF P g b with
 | some et, .mref d 0, .c (.int .i64 ke) =>
  match g d with
  | .own Xc e l =>
   if e=T+1048576∧P.cellsOf e=0∧Zvu P T=Xc then
    match a with
    | true => .req (.mq .full l (.lit 0)) (k (.own Xb et (.mget l ke)) [(d, .own Xc e (.mhole l ke))] [] n)
    | false => .req (.mq .any l (.lit 0)) (k (.c (.slice Xb (P.cellsOf et) (.mget l ke))) [] [d] n)
   else .stuck 142
  | _ => .stuck 143
 | _, _, _ => .stuck 144
def Zbs (P:Program) (g:Nat→SV) (T:TypeId) (m a v:Operand) (n:Nat) (k:K):STree:=
 match Wz P T,JF P g m,JF P g a with
 | some et, .mref d 0, .c (.int .i64 ke) =>
  match g d with
  | .own Xc e l =>
   if e=T+1048576∧P.cellsOf e=0 then
    match Z8 v,(Z8 v).map g with
    | some t, Xa (.own Xb et' ys) =>
     if et'=et then .req (.mq .at l ke) (k .dead [(t,.c (.slice Xb (P.cellsOf et) ys)),(d,.own Xc e (.mset l ke (P.cellsOf et) ys))] [] n) else .stuck 145
    | _, _ =>
     match JF P g v with
     | .c (.slice Xc _ .nil) => .req (.mq .at l ke) (k .dead [(d, .own Xc e (.mset l ke (P.cellsOf et) .nil))] [] n)
     | _ => .stuck 146
   else .stuck 147
  | _ => .stuck 148
 | _, _, _ => .stuck 149
def J6 (P:Program) (E:Env) (r:Odr) (w:Bool) (g:Nat→SV) (o:Oper) (n:Nat) (k:K):STree:=
 match o.op with
 | .move x =>
  match x with
  | .tmp t =>
   match g t with
   | .tuple vs => k (.tuple vs) [(t, .gone)] [] n
   | .own b e xs => ZeL P E r w g t b e xs n k
   | _ => k (JF P g x) [] [] n
  | x => k (JF P g x) [] [] n
 | .assign x =>
  match x with
  | .tmp t =>
   match g t with
   | .tuple _ => .stuck 30
   | .own b e xs => ZeL P E r w g t b e xs n k
   | _ => k (JF P g x) [] [] n
  | .const (.slice Xe 0 0) =>
   match P.underlying o.type with
   | some (.slice e) => k (.own (E.exO o) e .nil) [] [] n
   | _ => .stuck 31
  | x => k (JF P g x) [] [] n
 | .pick c a b =>
  match JF P g c with
  | .c (.bool v) => Zfd v (k (JF P g a) [] [] n) (k (JF P g b) [] [] n)
  | _ => .stuck 32
 | .alloc T =>
  match Zrw P T with
  | some cs => k (.box cs) [] [] n
  | none => .stuck 33
 | .box _ x =>
  match (JF P g x).cells with
  | some cs => k (.box (cs.map .c)) [] [] n
  | none => .stuck 34
 | .build T parts =>
  match ZhX g parts.toList with
  | some (f, t, e, l) => Ze6 P E r g T f t e l n k
  | none =>
  match P.underlying T,P.info? T with
  | some (.struct fs), Xa i =>
   if (fs.toList.all fun f=>(P.info? f.type).isSome)=Xc then
   match i.zero with
   | some z =>
    match ZfX z.cells.toList with
    | some zc =>
     match Zfl (fun i=>(fs[i]?).map fun f=>(f.offset,P.cellsOf f.type)) zc (parts.toList.map fun p=>(p.1,JF P g p.2)) with
     | some cs => k (.agg cs) [] [] n
     | none => .stuck 35
    | none => .stuck 36
   | none => .stuck 37
   else .stuck 39
  | _, _ => .stuck 38
 | .buildSlice T len parts =>
  match P.underlying T with
  | some (.slice e) =>
   match P.info? e with
   | some i =>
    match i.zero with
    | some z =>
     match ZfX z.cells.toList with
     | some zc =>
      if z.cells.size=i.size∧0 < i.size∧len*i.size≤1048576 then
       match Zfl (fun j=>Xa (j*i.size,i.size)) ((Xv len zc).flatten) (parts.toList.map fun p=>(p.1,JF P g p.2)),Kp P 8 e with
       | some cs, Xa sh =>
        match YY ((Xv len sh).flatten) cs with
        | some cs' => k (.own (E.exO o) e (lOf i.size cs' len)) [] [] n
        | none => .stuck 46
       | _, _ => .stuck 40
      else .stuck 41
     | none => .stuck 42
    | none => .stuck 43
   | none => .stuck 44
  | _ => .stuck 45
 | .load T a =>
  match JU P T,JF P g a with
  | some Xc, .ptr d off =>
   match g d with
   | .box cs => if off + P.cellsOf T ≤ cs.length ∧ Wi ((cs.drop off).take (P.cellsOf T)) = Xc ∧ Zbe ((cs.drop off).take (P.cellsOf T)) = Xc then k (.agg (((cs.drop off).take (P.cellsOf T)).map (ZdP P))) [] (fpL r d off (P.cellsOf T)) n else .stuck 50
   | _ => .stuck 51
  | some Xb, .ptr d off =>
   match g d with
   | .box cs =>
    match cs[off]? with
    | some (.own b e xs) =>
     match b with
     | true =>
      match w,Zlv r g E.top d with
      | true, Xa us => if mvB P e xs = Xc then k (.own Xc e xs) (us ++ [(d, .box (cs.set off .gone))]) [d] n else .stuck 138
      | _, _ => k (.mref d (off + 1)) [] [d] n
     | false => if w = Xc then k (.own Xb e xs) [(d, .box (cs.set off (.c (.slice Xb (P.cellsOf e) xs))))] [d] n else k (.c (.slice Xb (P.cellsOf e) xs)) [] [d] n
    | some (.c x) => k (.c x) [] (fpL r d off 1) n
    | some .gone => .stuck 64
    | none => .stuck 52
   | _ => .stuck 53
  | some agg, .eref d q i s off =>
   match JD (g d) q with
   | some (e, l) =>
    match Kp P 8 e with
    | some sh =>
     if s=P.cellsOf e∧sh.length=s∧off+P.cellsOf T≤s∧0 < P.cellsOf T∧Zv P e=Xb then
      .elem l i sh n (k (match agg with | true=>.agg (((Z9 sh n).drop off).take (P.cellsOf T)) | false=>match (Z9 sh n)[off]? with | some x=>.c x | none=>.dead) [] [d] (n+sh.length))
     else .stuck 59
    | none => .stuck 157
   | none => .stuck 158
  | some Xc, .eptr cs => if P.cellsOf T ≤ cs.length then k (.agg (cs.take (P.cellsOf T))) [] [] n else .stuck 54
  | some Xb, .eptr cs =>
   match cs with
   | x :: _ => k (.c x) [] [] n
   | [] => .stuck 55
  | _, _ => .stuck 56
 | .store T a x =>
  match JF P g a with
  | .ptr d off =>
   match g d with
   | .box cs =>
    match Z8 x,(Z8 x).map g with
    | some t, Xa (.own b e xs) =>
     match KG P r g E.top t b e xs with
     | some us =>
      if P.cellsOf T=1∧off < cs.length∧(Wi ((cs.drop off).take 1)||Zfh r g E.top d)=Xc then
       k .dead (us++[(d,.box (cs.set off (.own b e xs)))]) [d] n
      else .stuck 60
     | none => .stuck 159
    | some t, Xa (.aggo vc) =>
     if vc.length=P.cellsOf T∧0 < P.cellsOf T∧off+P.cellsOf T≤cs.length∧Wi ((cs.drop off).take (P.cellsOf T))=Xc then
      k .dead [(t,.dead),(d,.box (cs.take off++vc++cs.drop (off+P.cellsOf T)))] [d] n
     else .stuck 135
    | _, _ =>
     match (JF P g x).cells with
     | some vc =>
      if vc.length=P.cellsOf T∧0 < P.cellsOf T∧off+P.cellsOf T≤cs.length∧(Wi ((cs.drop off).take (P.cellsOf T))||Zfh r g E.top d)=Xc then
       k .dead [(d,.box (cs.take off++YR (cs.drop off) (nrm P T vc)++cs.drop (off+P.cellsOf T)))] [d] n
      else .stuck 61
     | none => .stuck 62
   | _ => .stuck 63
  | .eref d q i s off =>
   match JD (g d) q,(JF P g x).cells with
   | some (e, l), Xa vc =>
    match Kp P 8 T with
    | some sh =>
     match YY sh vc with
     | some vc' =>
      if s=P.cellsOf e∧vc.length=P.cellsOf T∧0 < P.cellsOf T∧off+P.cellsOf T≤P.cellsOf e∧(g d).isG=Xb∧Zv P e=Xb then
       .req (.le (.lit 0) i) (.req (.lt i (.len l)) (k .dead [(d,KA (g d) q Xc e (.setAt l i off (ZkE vc')))] [d] n))
      else .stuck 160
     | none => .stuck 161
    | none => .stuck 162
   | _, _ => .stuck 163
  | _ => .stuck 64
 | .nilCheck x =>
  match JF P g x with
  | .ptr d off => k (.ptr d off) [] [] n
  | .eptr cs => k (.eptr cs) [] [] n
  | .eref d q i s off => (match JD (g d) q with | some (e, _) => if Zv P e = Xb then k (.eref d q i s off) [] [d] n else .stuck 141 | none => .stuck 141)
  | _ => .stuck 65
 | .binOp op T x y _ =>
  match Zqd P op T (JF P g x) y with
  | some b => k (.c (.bool (.lit b))) [] [] n
  | none => bin P E.plain op T (JF P g x) (JF P g y) fun v => k v [] [] n
 | .unOp op _ x =>
  match op,JF P g x with
  | .not, .c (.bool b) => k (.c (.bool (Zlk b))) [] [] n
  | .neg, .c (.int kd e) => k (.c (.int kd (.bin .sub kd (.lit 0) e))) [] [] n
  | .xor, .c (.int kd e) => k (.c (.int kd (.bin .xor kd (.lit (if kd.signed = Xc then -1 else kd.max)) e))) [] [] n
  | _, _ => .stuck 66
 | .convert src dst x =>
  match P.underlying src,P.underlying dst,JF P g x with
  | some (.int _), Xa (.int kd), .c (.int _ e) => k (.c (.int kd (.conv kd e))) [] [] n
  | some (.slice e), Xa .string, .c (.slice _ s xs) =>
   match P.underlying e with
   | some (.int .u8) => if s = 1 then .req (.bytes xs) (k (.c (.str (.bytes xs))) [] [] n) else .stuck 67
   | _ => .stuck 68
  | _, _, _ => .stuck 69
 | .fieldAddr T x f =>
  match Yo P T f,JF P g x with
  | some off, .ptr d o => k (.ptr d (o + off)) [] [] n
  | some off, .eptr cs => k (.eptr (cs.drop off)) [] [] n
  | some off, .eref d q i s o => (match JD (g d) q with | some (e, _) => if Zv P e = Xb then k (.eref d q i s (o + off)) [] [d] n else .stuck 141 | none => .stuck 141)
  | _, _ => .stuck 70
 | .field T x f =>
  match Yo P T f,Zft P T f,JF P g x with
  | some off, Xa (agg, sz), .agg cs =>
   if off+sz≤cs.length∧0 < sz then
    match agg with
    | true => k (.agg ((cs.drop off).take sz)) [] [] n
    | false => match cs[off]? with | some c => k (.c c) [] [] n | none => .stuck 195
   else .stuck 196
  | _, _, _ => .stuck 197
 | .indexAddr T x i =>
  match P.underlying T,JF P g x,JF P g i with
  | some (.slice e), .c (.slice _ s xs), .c (.int _ ix) =>
   match Kp P 8 e with
   | some sh => if s = P.cellsOf e ∧ sh.length = s ∧ 0 < s then .elem xs ix sh n (k (.eptr (Z9 sh n)) [] [] (n + sh.length)) else .stuck 71
   | none => .stuck 72
  | some (.array m e), .ptr d off, .c (.int _ ix) =>
   if 0 < P.cellsOf e∧2≤m then
    match ix with
    | .lit z => if 0 ≤ z ∧ z < (m : Int) then k (.ptr d (off + z.toNat * P.cellsOf e)) [] [] n else .stuck 193
    | ix => Zri ix d off (P.cellsOf e) m (fun x => k x [] [] n) m
   else .stuck 194
  | some (.slice e), .mref d q, .c (.int _ ix) =>
   match JD (g d) q with
   | some (e', l) => if e' = e ∧ 0 < P.cellsOf e ∧ Zv P e = Xb then .req (.le (.lit 0) ix) (.req (.lt ix (.len l)) (k (.eref d q ix (P.cellsOf e) 0) [] [d] n)) else .stuck 164
   | none => .stuck 165
  | _, _, _ => .stuck 73
 | .makeSlice T a b =>
  match JF P g a,JF P g b with
  | .c (.int .i64 m), .c (.int .i64 m') =>
   match P.underlying T with
   | some (.slice e) =>
    match P.info? e with
    | some i =>
     match i.zero with
     | some z =>
      match ZfX z.cells.toList,Kp P 8 e with
      | some zc, Xa sh =>
       match YY sh zc with
       | some zc' => if z.cells.size = i.size then .req (.make m i.bytes) (.req (.le m m') (.req (.le m' m) (k (.own (!(E.exO o)) e (.rep m (ZkE zc'))) [] [] n))) else .stuck 166
       | none => .stuck 167
      | _, _ => .stuck 168
     | none => .stuck 169
    | none => .stuck 170
   | _ => .stuck 171
  | _, _ => .stuck 172
 | .slice T x lo hi mx =>
  match P.underlying T,JF P g x with
  | some (.slice e), .c (.slice full s xs) => if s = P.cellsOf e ∧ 0 < s then Znw full s xs (lo.map (JF P g)) (hi.map (JF P g)) (mx.map (JF P g)) fun v => k v [] [] n else .stuck 75
  | some (.slice e), .mref d q =>
   match lo,hi.map (JF P g),mx.map (JF P g) with
   | none, Xa (.c (.int _ (.lit 0))), Xa (.c (.int _ (.lit 0))) => (match JD (g d) q with | some (e', _) => if 0 < P.cellsOf e ∧ Zv P e' = Xb then k (.c (.slice Xc (P.cellsOf e) .nil)) [] [d] n else .stuck 75 | none => .stuck 75)
   | _, _, _ =>
   if q=0 then
   match lo,hi.map (JF P g),mx,g d with
   | none, Xa (.c (.int _ h)), Xe, .own Xc e' l =>
    match KG P r g E.top d Xc e' l with
    | some us => if e' = e ∧ 0 < P.cellsOf e ∧ Zv P e = Xb then .req (.le (.lit 0) h) (.req (.le h (.len l)) (k (.own Xc e (.take l h)) us [d] n)) else .stuck 137
    | none => .stuck 138
   | _, _, _, _ => .stuck 139
   else .stuck 138
  | _, _ => .stuck 76
 | .extract x i =>
  match Z8 x,(Z8 x).map g with
  | some t, Xa (.tuple vs) =>
   match vs[i]? with
   | some (.own b e xs) => if (!b || mvB P e xs) = Xc then k (.own b e xs) [(t, .tuple (vs.set i (match b with | true => .gone | false => .c (.slice Xb (P.cellsOf e) xs))))] [] n else .stuck 138
   | some (.c x) => k (.c x) [] [] n
   | some (.agg cs) => k (.agg cs) [] [] n
   | some .gone => .stuck 79
   | none => .stuck 77
  | _, _ => .stuck 78
 | .makeMap T x =>
  match x,Wz P T with
  | none, Xa _ => k (.own Xc (T + 1048576) Zur) [] [] n
  | _, _ => .stuck 140
 | .lookup T m kx ok => match ok with | false => ZiF P w g T m kx n k | true => .stuck 139
 | .insert T m kx v => Zbs P g T m kx v n k
 | .mapUpdate T m kx v => Zbs P g T m kx v n k
 | .makeFunc fn first captured =>
  match fn,first.toList,ZdZ (captured.toList.map (JF P g)) with
  | .func f, [], Xa ds => if ds.all (fun d => match g d with | .box _ => Xc | _ => Xb) = Xc then k (.clo f ds) [] ds n else .stuck 180
  | _, _, _ => .stuck 181
 | .call c =>
  match c.callee with
  | .builtin .len =>
   match c.args.toList,c.argTypes.toList with
   | [x], [T] =>
    match JF P g x with
    | .mref d q =>
     match P.underlying T,JD (g d) q with
     | some (.slice _), Xa (e', l) => if Zv P e' = Xb then k (.c (.int .i64 (.len l))) [] [d] n else .stuck 173
     | _, _ => .stuck 173
    | v => Zuv P T v fun v => k v [] [] n
   | _, _ => .stuck 80
  | .builtin .copy =>
   match c.args.toList,c.argTypes.toList with
   | [x, y], [T, _] =>
    match P.underlying T,JF P g x,JF P g y with
    | some (.slice e), .mref d q, .c (.slice _ s ys) =>
     match JD (g d) q with
     | some (e', l) => if e' = e ∧ P.cellsOf e = 1 ∧ s = 1 ∧ (g d).isG = Xb ∧ Zv P e = Xb then k .dead [(d, KA (g d) q Xc e (.spl l ys))] [d] n else .stuck 174
     | none => .stuck 175
    | _, _, _ => .stuck 176
   | _, _ => .stuck 177
  | .builtin .append =>
   match c.args.toList,c.argTypes.toList with
   | [x, y], [T, T'] =>
    if T=T' then
     match JF P g y with
     | .mref d q =>
      match Z8 x with
      | some t => Zap P T r g E.top (E.exO o) (Xa t) (g t) (JD (g d) q) fun v us => k v us [d] n
      | none => Zap P T r g E.top (E.exO o) Xe (JF P g x) (JD (g d) q) fun v us => k v us [d] n
     | _ =>
     match Z8 x with
     | some t => Zbw P T r g E.top (E.exO o) (Xa t) (g t) (JF P g y) fun v us => k v us [] n
     | none => Zbw P T r g E.top (E.exO o) Xe (JF P g x) (JF P g y) fun v us => k v us [] n
    else .stuck 81
   | _, _ => .stuck 82
  | .builtin .min =>
   match c.args.toList.map (JF P g) with
   | [.c (.int ka a), .c (.int kb b)] => if ka = kb then k (.c (.int ka (.bin .min ka a b))) [] [] n else .stuck 83
   | _ => .stuck 84
  | .builtin .max =>
   match c.args.toList.map (JF P g) with
   | [.c (.int ka a), .c (.int kb b)] => if ka = kb then k (.c (.int ka (.bin .max ka a b))) [] [] n else .stuck 85
   | _ => .stuck 86
  | .value (.func f) =>
   match Zit P E g f c.args.toList with
   | some (d, gf, l) => .req (.mq .any l (.lit 0)) (k (.eref d 0 (.lit 0) 0 gf) [] [d] n)
   | none =>
   match ZbA P E g f c.args.toList with
   | some (d, l) => .req (.mq .keys l (.lit 0)) (k (.c (.slice Xb 1 (.mkeys l))) [] [d] n)
   | none =>
   match ZbL E r g (E.rfs f) c.args.toList with
   | [] =>
    match Zce P g (E.rfs f) c.args.toList 0 with
    | some aZ => ZgJ P E r g f (Wu P g (E.rfs f) c.args.toList 0) (ZaR g (Zw5 P f) aZ) n k
    | none => .stuck 88
   | kl =>
    if (kl.all fun u=>!(Vh o).contains u.1)=Xc then
     match Zce P (ZgC kl g) (E.rfs f) c.args.toList 0 with
     | some aZ => ZgJ P E r (ZgC kl g) f (Wu P (ZgC kl g) (E.rfs f) c.args.toList 0) (ZaR (ZgC kl g) (Zw5 P f) aZ) n fun x us A C => k x (kl ++ us) A C
     | none => .stuck 88
    else .stuck 88
  | .value (.tmp t) =>
   match g t,Zce P g [] c.args.toList 0 with
   | .clo f ds, Xa aZ =>
    match WZ g Xb ds with
    | some cs => ZgJ P E r g f (Wu P g [] c.args.toList 0) (ZaR g (Zw5 P f) (aZ ++ cs)) n k
    | none => .stuck 182
   | _, _ => .stuck 183
  | _ => .stuck 89
 | _ => .stuck 90
def Zbh (a b:SV):Bool:=
 match a,b with
 | .gbox _, _ => Xb
 | _, .gbox _ => Xb
 | .box _, _ => Xb
 | .own Xc _ _, _ => Xb
 | .dead, .box _ => Xc
 | _, .box _ => Xb
 | _, _ => Xc
def JO:Ups→Tr→Tr
 | [], s => s
 | (d, x) :: us, s => JO us (s.set depth d x)
structure Log where
 i:Nat
 F:List Nat
 D:List Nat
def Zp5 (x:SV):Bool:=match x with | .box _=>Xc | _=>Xb
def ZcH (a:Odr) (i:Nat) (x:SV):Bool:=
 match x with
 | .mref d _ => !a.nr d i
 | .eref d _ _ _ _ => !a.nr d i
 | _ => Xc
def ZiA (a:Odr) (o:Oper) (x:SV):Bool:=match o.dst with | some d=>ZcH a d x | none=>Xc
def Zbo (a:Nat→Bool):Nat→List BC→List BC→Option (List BC×List (IE×IE))
 | _, [], [] => Xa ([], [])
 | j, b :: cs', c :: cs =>
  match Zbo a (j+1) cs' cs with
  | some (r, q) =>
   match a j with
   | true =>
    match b,c with
    | .c (.int k' e'), .c (.int k e) => if k' = k then Xa (.c (.int k e) :: r, (e', e) :: q) else Xe
    | _, _ => Xe
   | false => Xa (b :: r, q)
  | none => Xe
 | _, _, _ => Xe
def Odr.kpAt:Odr→Nat→Bool
 | .text, _ => Xb
 | .any _ _ K, d => K.any fun p => p.1 == d
def ZmM (a:Odr) (g:Nat→SV) (u:Nat×SV):Option ((Nat×SV)×List (IE×IE)):=
 match a.kpAt u.1 with
 | true =>
  match u.2,g u.1 with
  | .box cs', .box cs => match Zbo (a.kp u.1) 0 cs' cs with | some (r, q) => Xa ((u.1, .box r), q) | none => Xe
  | _, _ => Xe
 | false => Xa (u, [])
def ZaY (a:Odr) (g:Nat→SV):Ups→Option (Ups×List (IE×IE))
 | [] => Xa ([], [])
 | u :: us =>
  match ZmM a g u,ZaY a g us with
  | some (b, q), Xa (us', q') => Xa (b :: us', q ++ q')
  | _, _ => Xe
def Zmw:List (IE×IE)→STree→STree
 | [], t => t
 | (a, b) :: q, t => .req (.le a b) (.req (.le b a) (Zmw q t))
def ZkC (P:Program) (E:Env) (a:Odr) (h:Bool) (B:Nat→Bool) (o:Oper) (i:Nat) (s:Tr) (e:List Nat) (n:Nat) (b:Tr→Nat→Log→STree):STree:=
 J6 P E a h (gE E s) o n fun x c f g=>
  match ZaY a (gE E s) c with
  | some (us, qs) => Zmw qs (
   if us.all (fun u=>(decide (u.1 < E.top)&&(!B u.1||Zp5 u.2))&&ZcH a u.1 u.2)=Xc∧ZiA a o x=Xc then
    match o.dst with
    | some d =>
     if d < E.nt∧Zbh (gE E (JO us s) d) x=Xc∧B d=Xb then
      b ((JO us s).set depth d x) g ⟨i,(Vh o).filter (fun t=>!B t)++e++f++us.map (·.1)++[d],us.map (·.1)++[d]⟩
     else .stuck 100
    | none => b (JO us s) g ⟨i, (Vh o).filter (fun t => !B t) ++ e ++ f ++ us.map (·.1), us.map (·.1)⟩
   else .stuck 104)
  | none => .stuck 137
def ZbQ (E:Env) (B:Nat→Bool) (o:Oper) (i:Nat) (s:Tr) (b:List Nat) (n:Nat) (a:Tr→Nat→Log→STree):STree:=
 match o.dst with
 | some d => if d < E.nt ∧ Zbh (gE E s d) .dead = Xc ∧ B d = Xb then a (s.set depth d (.tuple [])) n ⟨i, b ++ [d], [d]⟩ else .stuck 101
 | none => a s n ⟨i, b, []⟩
def Zma (P:Program) (E:Env) (d:Odr) (e:Bool) (B:Nat→Bool) (ops:Array Oper) (o:Oper) (i:Nat) (s:Tr) (n:Nat) (a:Tr→Nat→Log→STree):STree:=
 match o.guard with
 | none => ZkC P E d e B o i s [] n a
 | some (j, want) =>
  match (ops[j]?).bind (·.dst) with
  | none => .stuck 102
  | some gd =>
   match gE E s gd with
   | .tuple [] => ZbQ E B o i s [gd] n a
   | .c (.bool (.lit b)) => if want = b then ZkC P E d e B o i s [gd] n a else ZbQ E B o i s [gd] n a
   | .c (.bool b) =>
    .branch b (if want=Xc then ZkC P E d e B o i (s.set depth gd (.c (.bool (.lit Xc)))) [gd] n a else ZbQ E B o i (s.set depth gd (.c (.bool (.lit Xc)))) [gd] n a)
     (if want=Xb then ZkC P E d e B o i (s.set depth gd (.c (.bool (.lit Xb)))) [gd] n a else ZbQ E B o i (s.set depth gd (.c (.bool (.lit Xb)))) [gd] n a)
   | _ => .stuck 103
def ZpH (P:Program) (E:Env) (a:Odr) (b:Nat→Bool) (B:Nat→Bool) (ops:Array Oper):List Oper→Nat→Tr→Nat→List Log→(Tr→Nat→List Log→STree)→STree
 | [], _, s, n, logs, k => k s n logs
 | o :: rest, i, s, n, logs, k => Zma P E a (b i) B ops o i s n fun c d e => ZpH P E a b B ops rest (i + 1) c d (e :: logs) k
def ZlR (t:Nat) (x:Operand):Bool:=
 match x with
 | .tmp t' => t' == t
 | _ => Xb
def Zsm (E:Env) (t:Nat) (o:Oper):Bool:=
 match o.op with
 | .call c =>
  match c.callee with
  | .builtin .append => match c.args.toList with | x :: _ => ZlR t x | [] => Xb
  | .value (.func f) => c.args.toList.zipIdx.any fun p => ZlR t p.1 && E.cons f p.2
  | _ => Xb
 | .assign x => ZlR t x && (match o.dst with | some d => E.res.contains d | none => Xb)
 | _ => Xb
def ZzL (E:Env) (ops:Array Oper) (i:Nat):Bool:=
 match ops[i]? with
 | some o =>
  match o.op with
  | .assign _ => Xc
  | .move _ => match o.dst with | some t => ops.toList.any (Zsm E t) | none => Xb
  | .load _ _ => match o.dst with | some t => ops.toList.any (Zsm E t) | none => Xb
  | .lookup _ _ _ _ => match o.dst with | some t => ops.toList.any (Zsm E t) | none => Xb
  | _ => Xb
 | none => Xb
def ZwJ (a b:List Nat):Bool:=a.all fun x=>!b.contains x
def ZhV (ops:Array Oper) (c:List Log):Bool:=
 let B:=CheckFast.beforeF ops
 (ops.toList.zipIdx.all fun p=>p.1.after.all fun e=>!Region.binds .any e||decide (e.on < p.2))&&c.all fun a=>c.all fun b=>!(decide (b.i < a.i))||(B.getD a.i 0).testBit b.i||(ZwJ b.D a.F&&ZwJ a.D b.F)
def Jo:Code→Nat
 | .region id _ _ => id
 | .seq a _ => Jo a
 | .block _ c => Jo c
 | .loop c => Jo c
 | .scope c => Jo c
 | .cond _ a _ => Jo a
 | _ => 0
def Sh.imm:Sh→Bool
 | .own _ _ => Xb
 | _ => Xc
def Zqz (s:Sh) (x:SC):Option VE:=
 match s,x with
 | .int k, .int k' e => if k' = k then Xa (.i e) else Xe
 | .bool, .bool e => Xa (.b e)
 | .str, .str e => Xa (.s e)
 | .slice s, .slice _ s' l => if s' = s then Xa (.l l) else (match l with | .nil => Xa (.l .nil) | _ => Xe)
 | .own _ _, .slice Xc _ l => (match l with | .nil => Xa (.l .nil) | _ => Xe)
 | _, _ => Xe
def Zhd:List Sh→List SC→Option (List VE)
 | [], [] => Xa []
 | s :: ss, c :: cs => match Zqz s c, Zhd ss cs with | some v, Xa vs => Xa (v :: vs) | _, _ => Xe
 | _, _ => Xe
def LE.isNil:LE→Bool
 | .nil => Xc
 | _ => Xb
def ZcI (P:Program) (s:Sh) (x:Bool) (e:TypeId) (l:LE):Option VE:=
 match s with
 | .own x' e' => if e = e' ∧ (x = x' ∨ l.isNil = Xc) then Xa (.l l) else Xe
 | .slice s => if P.cellsOf e = s ∧ (x = Xb ∨ l.isNil = Xc) then Xa (.l l) else Xe
 | _ => Xe
def Zx0 (P:Program) (s:Sh) (x:BC):Option VE:=
 match x with
 | .c x => Zqz s x
 | .own x e l => ZcI P s x e l
 | .gone => Xe
def ZbW (P:Program):List Sh→List BC→Option (List VE)
 | [], [] => Xa []
 | s :: ss, c :: cs => match Zx0 P s c, ZbW P ss cs with | some v, Xa vs => Xa (v :: vs) | _, _ => Xe
 | _, _ => Xe
def Zi8 (P:Program) (h:HP) (x:SV):Option (List VE):=
 match h,x with
 | .c s, .c x => (Zqz s x).map fun v => [v]
 | .c s, .own x e l => (ZcI P s x e l).map fun v => [v]
 | .agg l, .agg cs => if l.all Sh.imm = Xc then Zhd l cs else Xe
 | .box l, .box cs => ZbW P l cs
 | .mref d k, .mref d' k' => if d' = d ∧ k' = k then Xa [] else Xe
 | .ptr d o, .ptr d' o' => if d' = d ∧ o' = o then Xa [] else Xe
 | .dead, _ => Xa []
 | .gbox l, .gbox cs => ZbW P l cs
 | .clo g ds, .clo g' ds' => if g' = g ∧ ds' = ds then Xa [] else Xe
 | _, _ => Xe
def ZnT (h:HP) (n:Nat):SV:=
 match h with
 | .c (.own x e) => .own x e (.var n)
 | .c s => .c (YT s n)
 | .agg l => .agg (Z9 l n)
 | .box l => .box (KI l n)
 | .mref d k => .mref d k
 | .ptr d o => .ptr d o
 | .dead => .dead
 | .gbox l => .gbox (KI l n)
 | .clo g ds => .clo g ds
def HP.n:HP→Nat
 | .c _ => 1
 | .agg l => l.length
 | .box l => l.length
 | .mref _ _ => 0
 | .ptr _ _ => 0
 | .dead => 0
 | .gbox l => l.length
 | .clo _ _ => 0
def Y3 (P:Program) (g:Nat→SV):List (Nat×HP)→Option (List VE)
 | [] => Xa []
 | p :: r => match Zi8 P p.2 (g p.1), Y3 P g r with | some v, Xa vs => Xa (v ++ vs) | _, _ => Xe
def Jb:List (Nat×HP)→Nat→Ups×Nat
 | [], n => ([], n)
 | p :: r, n => let x := Jb r (n + p.2.n); ((p.1, ZnT p.2 n) :: x.1, x.2)
def HP.isBox:HP→Bool
 | .box _ => Xc
 | _ => Xb
def HP.isPl (h:HP) (k:Nat):Bool:=
 match h,k with
 | .c (.own Xc _), 0 => Xc
 | .box l, k + 1 => match l[k]? with | some (.own Xc _) => Xc | _ => Xb
 | .gbox l, k + 1 => match l[k]? with | some (.own Xc _) => Xc | _ => Xb
 | _, _ => Xb
def HP.isG:HP→Bool
 | .gbox _ => Xc
 | _ => Xb
def HP.place (E:Env) (d:Nat) (h:HP):Bool:=
 match h with
 | .gbox _ => decide (E.nt ≤ d) && decide (d < E.top)
 | _ => decide (d < E.nt)
def ZfO (E:Env) (a:List (Nat×HP)):Bool:=
 ZdT (a.map (·.1))&&a.all (fun p=>p.2.place E p.1&&match p.2 with | .ptr d _=>a.any (fun q=>decide (q.1=d)&&q.2.isBox) | .mref d k=>a.any (fun q=>decide (q.1=d)&&q.2.isPl k) | .clo _ ds=>ds.all (fun d=>a.any fun q=>decide (q.1=d)&&(q.2.isBox||q.2.isG)) | _=>Xc)&&
  E.pins.all (fun d=>a.any fun q=>decide (q.1=d)&&q.2.isBox)&&(XK E.ng).all fun j=>a.any fun q=>decide (q.1=E.nt+j)&&q.2.isG
def ZhW (P:Program) (g:Nat→SV):List (Nat×HP)→Nat
 | [] => 3000
 | p :: r => match Zi8 P p.2 (g p.1) with | some _ => ZhW P g r | none => 2000 + p.1
def Zh2 (ops:Array Oper):Option (Nat×Nat×Nat×TypeId×Bool):=
 match ops.toList with
 | [o, p] =>
  if o.guard.isNone=Xc∧p.guard.isNone=Xc then
   match o.op,o.dst,p.op,p.dst with
   | .move (.tmp x), Xa a, .binOp .eql T (.tmp b) (.const (.slice Xe 0 0)) _, Xa d => if b = a then Xa (x, a, d, T, Xb) else Xe
   | .move (.tmp x), Xa a, .binOp .neq T (.tmp b) (.const (.slice Xe 0 0)) _, Xa d => if b = a then Xa (x, a, d, T, Xc) else Xe
   | _, _, _, _ => Xe
  else Xe
 | _ => Xe
def Zlu (P:Program) (g:Nat→SV) (x:SV):Option LE:=
 match x with
 | .c (.slice _ _ l) => Xa l
 | .own _ e l => if Zv P e = Xb then Xa l else Xe
 | .mref d q => (match JD (g d) q with | some (e, l) => if Zv P e = Xb then Xa l else Xe | none => Xe)
 | _ => Xe
def Zb1 (ops:Array Oper):Option (Nat×Nat×Nat×Nat×Nat×TypeId):=
 match ops.toList with
 | [o, p, q, r] =>
  if o.guard.isNone=Xc∧p.guard.isNone=Xc∧q.guard.isNone=Xc∧r.guard.isNone=Xc then
   match o.op,o.dst,p.op,p.dst with
   | .move (.tmp x), Xa a, .move (.tmp i), Xa b =>
    match q.op,q.dst,r.op,r.dst with
    | .slice T (.tmp a') (Xa (.tmp b')) Xe Xe, Xa c, .call cl, Xe =>
     match cl.callee,cl.args.toList,cl.argTypes.toList with
     | .builtin .clear, [.tmp c'], [T'] => if a' = a ∧ b' = b ∧ c' = c ∧ T' = T then Xa (x, i, a, b, c, T) else Xe
     | _, _, _ => Xe
    | _, _, _, _ => Xe
   | _, _, _, _ => Xe
  else Xe
 | _ => Xe
def Zlf (E:Env) (s:Tr) (x i a b c:Nat):Bool:=
 decide (x < E.nt∧a < E.nt∧b < E.nt∧c < E.nt∧x≠a∧x≠b∧x≠c∧i≠a∧a≠b∧a≠c∧b≠c)&&(Zbh (gE E s a) .dead&&(Zbh (gE E s b) .dead&&Zbh (gE E s c) .dead))
def ZAp (ops:Array Oper):List Nat:=ops.toList.filterMap (·.dst)
def ZhB (ops:Array Oper):List Nat:=ops.toList.flatMap Vh
def ZrW (E:Env) (ops:Array Oper):List Nat:=
 ops.toList.zipIdx.flatMap fun p=>match p.1.op with
  | .move (.tmp t) => if ZzL E ops p.2 = Xc then [t] else []
  | .assign (.tmp t) => [t]
  | .store _ _ (.tmp t) => [t]
  | .call c => (match c.callee with | .builtin .append => (match c.args.toList with | .tmp t :: _ => [t] | _ => []) | .value _ => c.args.toList.filterMap Z8 | _ => [])
  | _ => []
def ZvO (ops:Array Oper):List Nat:=
 if ops.toList.any (fun o=>match o.op with | .store _ _ (.tmp v)=>ops.toList.any (fun p=>decide (p.dst=Xa v)&&match p.op with | .buildSlice _ _ _=>Xc | _=>Xb) | _=>Xb)=Xc then
  ops.toList.filterMap fun o=>match o.op with | .move (.tmp t)=>Xa t | _=>Xe
 else []
def Zn9 (E:Env) (ops:Array Oper) (s:Tr):List Nat:=
 (ops.toList.flatMap fun o=>match o.op with
  | .call c => (match c.callee with | .value _ => c.args.toList.filterMap Z8 | _ => [])
  | _ => []).filterMap fun a => (ops.toList.find? fun p => decide (p.dst = Xa a)).bind fun p => match p.op with
   | .move (.tmp t) => (match gE E s t with | .ptr d _ => Xa d | .box _ => Xa t | _ => Xe)
   | _ => Xe
def Znf (E:Env) (ops:Array Oper) (s:Tr):Nat→Nat→Option Nat
 | 0, _ => Xe
 | k + 1, a =>
  match (ops.toList.find? fun (p:Oper)=>decide (p.dst=Xa a)).map Oper.op with
  | some (.move (.tmp t)) => Znf E ops s k t
  | some (.nilCheck (.tmp t)) => Znf E ops s k t
  | some (.fieldAddr _ (.tmp t) _) => Znf E ops s k t
  | some _ => Xe
  | none => match gE E s a with | .ptr d _ => Xa d | .box _ => Xa a | _ => Xe
def Zqg (E:Env) (ops:Array Oper) (s:Tr):List (Nat×Nat):=
 ops.toList.flatMap fun o=>match o.op with
  | .call c => (match c.callee with
   | .value (.func f) => (match E.rfs f with
    | [] => []
    | rf => c.args.toList.zipIdx.filterMap fun p => if rf.contains p.2 = Xc then (Z8 p.1).bind fun t => (match (ops.toList.find? fun (p : Oper) => decide (p.dst = Xa t)).map Oper.op with | some (.load _ (.tmp a)) => (Znf E ops s 8 a).map fun d => (d, t) | _ => Xe) else Xe)
   | _ => [])
  | _ => []
def ZoF (E:Env) (ops:Array Oper) (s:Tr):List Nat:=
 ops.toList.zipIdx.filterMap fun p=>match p.1.op with
  | .load _ (.tmp a) => if (ZzL E ops p.2 && ops.toList.any fun o => match o.op, p.1.dst with | .call c, Xa t => (match c.callee, c.args.toList with | .builtin .append, .tmp t' :: _ => t' == t | _, _ => Xb) | _, _ => Xb) = Xc then Znf E ops s 8 a else Xe
  | _ => Xe
def ZlC (P:Program) (E:Env) (ops:Array Oper) (s:Tr):Nat→Nat→Option (Nat×Nat)
 | 0, _ => Xe
 | k + 1, a =>
  match (ops.toList.find? fun (p:Oper)=>decide (p.dst=Xa a)).map Oper.op with
  | some (.move (.tmp t)) => ZlC P E ops s k t
  | some (.nilCheck (.tmp t)) => ZlC P E ops s k t
  | some (.fieldAddr T (.tmp t) f) => (match ZlC P E ops s k t, Yo P T f with | some (d, o), Xa off => Xa (d, o + off) | _, _ => Xe)
  | some _ => Xe
  | none => match gE E s a with | .ptr d o => Xa (d, o) | .box _ => Xa (a, 0) | _ => Xe
def ZBG (P:Program) (E:Env) (ops:Array Oper) (s:Tr):List (Nat×Nat):=
 match ops.toList.zipIdx.flatMap fun p=>(match p.1.op with
  | .call c => (match c.callee with | .value _ => (c.args.toList.filterMap Z8).filterMap fun a => (ZlC P E ops s 8 a).map fun q => (p.2, q.1) | _ => [])
  | _ => []) with
 | [] => []
 | cs => ops.toList.zipIdx.flatMap fun p => match p.1.op with
  | .load T (.tmp a) => (match ZlC P E ops s 8 a with
   | some (d, off) => if (Zp5 (gE E s d) && cs.any fun c => c.2 == d && (!((CheckFast.beforeF ops).getD c.1 0).testBit p.2 && !((CheckFast.beforeF ops).getD p.2 0).testBit c.1)) = Xc then (XK (P.cellsOf T)).map fun j => (d, off + j) else []
   | none => [])
  | _ => []
def ZnA (P:Program) (E:Env) (a:Bool) (ops:Array Oper) (s:Tr):Odr:=
 match a with
 | false => .text
 | true => .any (fun d => ((ZrW E ops).contains d || (Zp5 (gE E s d) && ((ZvO ops).contains d || (Zn9 E ops s).contains d || (ZoF E ops s).contains d))) && (Jx (gE E s) d E.top).isEmpty && !(Zqg E ops s).any fun p => p.1 == d)
  (fun d=>if (Jx (gE E s) d E.top).isEmpty=Xc then ((Zqg E ops s).find? fun p=>p.1 == d).map (·.2) else Xe)
  ((ZBG P E ops s).filter fun p=>Zp5 (gE E s p.1))
def ZaC (E:Env) (a:List Nat) (s:Tr) (d:Nat):Tr:=
 match gE E s d with
 | .own Xc _ _ => if d < E.nt ∧ a.contains d = Xb then JO ((d, .dead) :: Jx (gE E s) d E.top) s else s
 | _ => s
def KV (P:Program) (g:Nat→SV) (d q:Nat) (e:TypeId) (l:LE):Nat→Ups
 | 0 => []
 | i + 1 =>
  match g i with
  | .mref d' q' => if d' = d ∧ q' = q then (i, .c (.slice Xb (P.cellsOf e) l)) :: KV P g d q e l i else KV P g d q e l i
  | .eref d' q' _ _ _ => if d' = d ∧ q' = q then (i, .dead) :: KV P g d q e l i else KV P g d q e l i
  | _ => KV P g d q e l i
def Zia (P:Program) (x:SV) (k:Nat):Option SV:=
 match x,k with
 | .box cs, k + 1 => match cs[k]? with | some (.own Xb e l) => Xa (.box (cs.set k (.c (.slice Xb (P.cellsOf e) l)))) | _ => Xe
 | _, _ => Xe
def KT (P:Program) (E:Env) (s:Tr) (p:Nat×Nat):Tr:=
 match JD (gE E s p.1) p.2 with
 | some (e, l) => if p.1 < E.nt ∧ 0 < P.cellsOf e ∧ (gE E s p.1).isG = Xb ∧ Zv P e = Xb then JO ((p.1, KA (gE E s p.1) p.2 Xb e l) :: KV P (gE E s) p.1 p.2 e l E.top) s else s
 | none => match Zia P (gE E s p.1) p.2 with
  | some x => if p.1 < E.nt then JO [(p.1, x)] s else s
  | none => s
def Ztt (P:Program) (E:Env) (id:Nat) (ops:Array Oper) (s:Tr):Tr:=
 (ZAp ops).foldl (ZaC E (ZhB ops)) ((E.fz id).foldl (KT P E) s)
def ev (P:Program) (E:Env):Nat→Code→Tr→Nat→(Tr→Nat→STree)→(Nat→Tr→Nat→STree)→(Tr→Nat→STree)→STree
  | _, .skip, s, n, kn, _, _ => kn s n
  | _, .label _, s, n, kn, _, _ => kn s n
  | lv, .seq a b, s, n, kn, kx, kr => ev P E lv a s n (fun f g => ev P E lv b f g kn kx kr) kx kr
  | lv, .cond c a b, s, n, kn, kx, kr =>
    match Z8 c with
    | some t =>
      match gE E s t with
      | .c (.bool (.lit v)) => if v = Xc then ev P E lv a s n kn kx kr else ev P E lv b s n kn kx kr
      | .c (.bool v) => .branch v (ev P E lv a (s.set depth t (.c (.bool (.lit Xc)))) n kn kx kr) (ev P E lv b (s.set depth t (.c (.bool (.lit Xb)))) n kn kx kr)
      | _ => .stuck 110
    | none => .stuck 111
  | lv, .block id c, s, n, kn, kx, kr => ev P E lv c s n kn (fun i f g => if i = id then kn f g else kx i f g) kr
  | lv, .scope c, s, n, kn, kx, kr => ev P E lv c s n kn kx kr
  | lv, .loop c, s, _, _, kx, kr =>
    let hs:=E.keep (Jo c)
    if ZfO E hs=Xc then
      match Y3 P (gE E s) hs with
      | some init => .loop lv init 0 (ev P E (lv + 1) c (JO (Jb hs 0).1 (.leaf .dead)) (Jb hs 0).2 (fun f _ => match Y3 P (gE E f) hs with | some vals => .again lv vals | none => .stuck (ZhW P (gE E f) hs)) kx kr)
      | none => .stuck (ZhW P (gE E s) hs)
    else .stuck 113
  | _, .exit id, s, n, _, kx, _ => kx id s n
  | _, .ret, s, n, _, _, kr => kr s n
  | _, .region id ops draw, s0, n, kn, _, _ =>
    let s:=Ztt P E id ops s0
    match draw,Zh2 ops with
    | false, Xa (x, a, d, T, neg) =>
      match P.underlying T,Zlu P (gE E s) (gE E s x) with
      | some (.slice _), Xa l =>
        if a < E.nt∧d < E.nt∧Zbh (gE E s a) .dead=Xc∧Zbh (gE E s d) .dead=Xc∧a≠d∧x≠a then
          .nilq l n (kn ((s.set depth a .dead).set depth d (.c (.bool (if neg=Xc then .not (.var n) else .var n)))) (n+1))
        else .stuck 116
      | _, _ => .stuck 117
    | _, _ =>
     match draw,Zb1 ops with
     | false, Xa (x, i, a, b, c, T) =>
      match P.underlying T,gE E s x,gE E s i with
      | some (.slice e), .own Xc e' l, .c (.int .i64 ie) =>
        match P.info? e with
        | some inf =>
          match inf.zero with
          | some z =>
            match ZfX z.cells.toList,Kp P 8 e with
            | some zc, Xa sh =>
              match YY sh zc with
              | some zc' =>
                if e'=e∧z.cells.size=inf.size∧(0 < inf.size∧Zv P e=Xb)∧Zlf E s x i a b c=Xc then
                  .req (.le (.lit 0) ie) (.req (.le ie (.len l)) (kn ((((s.set depth x (.own Xc e (.app (.take l ie) (.rep (.bin .sub .i64 (.len l) ie) (ZkE zc'))))).set depth a .dead).set depth b .dead).set depth c .dead) n))
                else .stuck 180
              | none => .stuck 181
            | _, _ => .stuck 182
          | none => .stuck 183
        | none => .stuck 184
      | _, _, _ => .stuck 185
     | _, _ =>
      ZpH P E (ZnA P E draw ops s) (ZzL E ops) (fun d=>Zp5 (gE E s d)) ops ops.toList 0 s n [] fun f g h=>if draw=Xc then (if ZhV ops h=Xc then kn f g else .stuck 114) else kn f g
  | _, _, _, _, _, _, _ => .stuck 115
def ZdG (P:Program) (g:Nat→SV):ResultVar→Option TC
 | .tmp t =>
  match g t with
  | .c x => Xa (.c x)
  | .agg cs => Xa (.agg cs)
  | .own x e xs => Xa (.own x e xs)
  | _ => Xe
 | .cell t T =>
  match JU P T,g t with
  | some Xc, .box cs => if cs.length = P.cellsOf T ∧ Wi cs = Xc ∧ Zbe cs = Xc then Xa (.agg (cs.map (ZdP P))) else Xe
  | some Xb, .box [.own x e xs] => Xa (.own x e xs)
  | some Xb, .box [.c x] => Xa (.c x)
  | _, _ => Xe
def Zd2 (P:Program) (g:Nat→SV):List ResultVar→Option (List TC)
 | [] => Xa []
 | r :: rs =>
  match ZdG P g r,Zd2 P g rs with
  | some x, Xa xs => Xa (x :: xs)
  | _, _ => Xe
def Zpr (P:Program) (g:Nat→SV) (a:List ResultVar):Option SV:=
 match a with
 | [r] => (ZdG P g r).map Zxh
 | a => (Zd2 P g a).map .tuple
def Wc (g:Nat→SV):List SV→Nat→List SV
 | [], _ => []
 | .box _ :: aZ, i => g i :: Wc g aZ (i + 1)
 | .gbox _ :: aZ, i => g i :: Wc g aZ (i + 1)
 | _ :: aZ, i => .dead :: Wc g aZ (i + 1)
def Vw:List SV→Nat→Ups
 | [], _ => []
 | a :: aZ, i => (i, a) :: Vw aZ (i + 1)
def JG (E:Env):List SV→Nat→Bool
 | [], _ => Xc
 | .box _ :: aZ, i => decide (i < E.nt) && E.pins.contains i && JG E aZ (i + 1)
 | .gbox _ :: aZ, i => decide (E.nt ≤ i) && JG E aZ (i + 1)
 | .dead :: aZ, i => decide (i < E.nt) && JG E aZ (i + 1)
 | .c _ :: aZ, i => decide (i < E.nt) && JG E aZ (i + 1)
 | .agg _ :: aZ, i => decide (i < E.nt) && JG E aZ (i + 1)
 | .own _ _ _ :: aZ, i => decide (i < E.nt) && JG E aZ (i + 1)
 | .clo _ _ :: aZ, i => decide (i < E.nt) && JG E aZ (i + 1)
 | .mref _ _ :: aZ, i => decide (i < E.nt) && JG E aZ (i + 1)
 | _, _ => Xb
def Yj:ResultVar→Nat
 | .tmp t => t
 | .cell t _ => t
def Ze5 (args:List SV) (a:List ResultVar):Bool:=
 ZdT (a.map Yj)&&a.all fun r=>match args[Yj r]? with | some (.box _)=>Xb | some (.gbox _)=>Xb | _=>Xc
def Zyg:Option SV→Bool
 | some (.box _) => Xb
 | some (.gbox _) => Xb
 | _ => Xc
def ZmS (g:Nat→SV) (args:List SV) (a:List ResultVar):Option (Nat×List BC):=
 match a with
 | [.tmp t] =>
  match g t with
  | .ptr d 0 =>
   match g d with
   | .box cs => if Zyg args[d]? = Xc then Xa (d, cs) else Xe
   | _ => Xe
  | _ => Xe
 | _ => Xe
def ZwR (P:Program) (E:Env) (a:Func) (args:List SV) (n:Nat):STree:=
 match a.body with
 | some c =>
  let fin:Tr→Nat→STree:=fun b _=>
   let s:=Ztt P E 1000000 #[] b
   match ZmS (gE E s) args a.results.toList with
   | some (_, cs) => .ret (.box cs) (Wc (gE E s) args 0)
   | none =>
   match Zpr P (gE E s) a.results.toList with
   | some r => if Ze5 args a.results.toList = Xc then .ret r (Wc (gE E s) args 0) else .stuck 124
   | none => .stuck 120
  if E.top≤1024∧a.ntmps=E.nt∧args.length≤E.top∧(E.ng=0∨args.length=E.top)∧JG E args 0=Xc∧args.all (Zpc P)=Xc then ev P E 0 c (JO (Vw args 0) (.leaf .dead)) n fin (fun _ _ _=>.stuck 121) fin else .stuck 123
 | none => .stuck 122
inductive V where
 | i (z : Int)
 | b (b : Bool)
 | s (s : ByteArray)
 | l (xs : List (List AV))
def V.int:V→Int
 | .i z => z
 | _ => 0
def V.bool:V→Bool
 | .b z => z
 | _ => Xb
def V.str:V→ByteArray
 | .s z => z
 | _ => ⟨#[]⟩
def V.list:V→List (List AV)
 | .l xs => xs
 | _ => []
def Zqp:List AV→Option UInt8
 | [.val (.int .u8 n)] => Xa (UInt8.ofNat n.toNat)
 | _ => Xe
def ZeD (xs:List (List AV)):ByteArray:=⟨(xs.map fun e=>(Zqp e).getD 0).toArray⟩
def P1 (op:IOp) (k:IntKind) (a b:Int):Int:=
 match op with
 | .add => k.wrap (a + b)
 | .sub => k.wrap (a - b)
 | .mul => k.wrap (a * b)
 | .quo => k.wrap (a.tdiv b)
 | .rem => a.tmod b
 | .and => k.wrap (BitVec.ofInt k.bits a &&& BitVec.ofInt k.bits b).toNat
 | .or => k.wrap (BitVec.ofInt k.bits a ||| BitVec.ofInt k.bits b).toNat
 | .xor => k.wrap (BitVec.ofInt k.bits a ^^^ BitVec.ofInt k.bits b).toNat
 | .andNot => k.wrap (BitVec.ofInt k.bits a &&& ~~~BitVec.ofInt k.bits b).toNat
 | .shl => k.wrap (a * 2 ^ (min b.toNat k.bits))
 | .shr => a.fdiv (2 ^ (min b.toNat k.bits))
 | .min => min a b
 | .max => max a b
def P0 (op:COp) (a b:Int):Bool:=
 match op with
 | .eql => a == b
 | .neq => a != b
 | .lss => decide (a < b)
 | .leq => decide (a ≤ b)
 | .gtr => decide (a > b)
 | .geq => decide (a ≥ b)
def setCells (x:List AV) (o:Nat) (e:List AV):List AV:=x.take o++e++x.drop (o+e.length)
def Zw (l:List (List AV)) (i o:Nat) (e:List AV):List (List AV):=l.modify i fun x=>setCells x o e
def ZpM (l a:List (List AV)):List (List AV):=a.take l.length++l.drop a.length
mutual
def IE.den (ρ:Nat→V):IE→Int
 | .var n => (ρ n).int
 | .lit z => z
 | .bin op k a b => P1 op k (a.den ρ) (b.den ρ)
 | .conv k a => k.wrap (a.den ρ)
 | .len l => ((l.den ρ).length : Int)
 | .slen s => ((s.den ρ).size : Int)
 | .getc s i => (((s.den ρ).data.toList.getD (i.den ρ).toNat 0).toNat : Int)
def BE.den (ρ:Nat→V):BE→Bool
 | .var n => (ρ n).bool
 | .lit b => b
 | .cmp op a b => P0 op (a.den ρ) (b.den ρ)
 | .beq a b => a.den ρ == b.den ρ
 | .seq a b => (a.den ρ).toList == (b.den ρ).toList
 | .and a b => a.den ρ && b.den ρ
 | .not a => !a.den ρ
def SE.den (ρ:Nat→V):SE→ByteArray
 | .var n => (ρ n).str
 | .lit s => s
 | .bytes l => ZeD (l.den ρ)
def LE.den (ρ:Nat→V):LE→List (List AV)
 | .var n => (ρ n).list
 | .nil => []
 | .snoc l e => l.den ρ ++ [e.den ρ]
 | .app a b => a.den ρ ++ b.den ρ
 | .take l i => (l.den ρ).take (i.den ρ).toNat
 | .drop l i => (l.den ρ).drop (i.den ρ).toNat
 | .rep i e => Xv (i.den ρ).toNat (e.den ρ)
 | .setAt l i o e => Zw (l.den ρ) (i.den ρ).toNat o (e.den ρ)
 | .spl l a => ZpM (l.den ρ) (a.den ρ)
 | .mget l k => J4 (l.den ρ) (k.den ρ)
 | .mhole l k => YW (l.den ρ) (k.den ρ)
 | .mset l k s v => KQ (l.den ρ) (k.den ρ) s (v.den ρ)
 | .mkeys l => VR (l.den ρ)
def CE.den (ρ:Nat→V):CE→List AV
 | .nil => []
 | .cons c r => c.den ρ :: r.den ρ
def SC.den (ρ:Nat→V):SC→AV
 | .int k e => .val (.int k (e.den ρ))
 | .bool b => .val (.bool (b.den ρ))
 | .str s => .val (.string (s.den ρ))
 | .slice f s l => .slice f s (l.den ρ)
end
def TC.den (ρ:Nat→V):TC→AV
 | .c x => x.den ρ
 | .agg cs => .agg (cs.map (SC.den ρ))
 | .own x e l => .own x e (l.den ρ)
 | .gone => .gone
def BC.den (ρ:Nat→V):BC→AV
 | .c x => x.den ρ
 | .own x e l => .own x e (l.den ρ)
 | .gone => .gone
def SV.den (ρ:Nat→V):SV→AV
 | .dead => .dead
 | .gone => .gone
 | .c x => x.den ρ
 | .agg cs => .agg (cs.map (SC.den ρ))
 | .tuple vs => .tuple (vs.map (TC.den ρ))
 | .aggo cs => .aggo (cs.map (BC.den ρ))
 | .own x e l => .own x e (l.den ρ)
 | .box cs => .box (cs.map (BC.den ρ))
 | .ptr d off => .ptr d off
 | .eptr cs => .eptr (cs.map (SC.den ρ))
 | .mref d k => .mref d k
 | .eref d k i s o => .eref d k ((i.den ρ).toNat * s + o)
 | .gbox cs => .gbox (cs.map (BC.den ρ))
 | .clo g ds => .clo g ds
def Jr:Nat:=1099511627776
def PE.den (ρ:Nat→V):PE→Prop
 | .le a b => a.den ρ ≤ b.den ρ
 | .lt a b => a.den ρ < b.den ρ
 | .make a k => 0 ≤ a.den ρ ∧ (a.den ρ).toNat * (k + 1) ≤ Jr
 | .ne0 a => a.den ρ ≠ 0
 | .bytes l => ∀ e ∈ l.den ρ, ∃ n : Int, 0 ≤ n ∧ n ≤ 255 ∧ e = [.val (.int .u8 n)]
 | .room a b k => ((a.den ρ).length + (b.den ρ).length) * (k + 1) ≤ Jr
 | .cons l => l.den ρ ≠ []
 | .mq q l k => Zbz q (l.den ρ) (k.den ρ) = Xc
def ZwU:List AV→Bool
 | [.val (.int .u8 n)] => decide (0 ≤ n ∧ n ≤ 255)
 | _ => Xb
def ZjB (e:List AV):ZwU e=Xc↔∃ n:Int,0≤n∧n≤255∧e = [.val (.int .u8 n)]:=by
 constructor
 ·intro h;unfold ZwU at h;split at h
  ·rename_i n;have:=of_decide_eq_true h;exact ⟨n,this.1,this.2,rfl⟩
  ·cases h
 ·rintro ⟨n,a,b,rfl⟩;simp only [ZwU,a,b,and_self,decide_true]
def Zis (l:List (List AV)):Decidable (∀ e∈l,∃ n:Int,0≤n∧n≤255∧e = [.val (.int .u8 n)]):=
 if h:l.all ZwU=Xc then isTrue (fun e a=>(ZjB e).1 (XE.1 h e a)) else isFalse (fun b=>h (XE.2 fun e a=>(ZjB e).2 (b e a)))
def ZlM:(l:List (List AV))→Decidable (l≠[])
 | [] => isFalse (fun h => h rfl)
 | _ :: _ => isTrue (fun h => by cases h)
def PE.decDen (ρ:Nat→V):(p:PE)→Decidable (p.den ρ)
 | .le a b => inferInstanceAs (Decidable (a.den ρ ≤ b.den ρ))
 | .lt a b => inferInstanceAs (Decidable (a.den ρ < b.den ρ))
 | .make a k => inferInstanceAs (Decidable (0 ≤ a.den ρ ∧ (a.den ρ).toNat * (k + 1) ≤ Jr))
 | .ne0 a => inferInstanceAs (Decidable (a.den ρ ≠ 0))
 | .bytes l => Zis (l.den ρ)
 | .room a b k => inferInstanceAs (Decidable (((a.den ρ).length + (b.den ρ).length) * (k + 1) ≤ Jr))
 | .cons l => ZlM (l.den ρ)
 | .mq q l k => inferInstanceAs (Decidable (Zbz q (l.den ρ) (k.den ρ) = Xc))
def VE.den (ρ:Nat→V):VE→V
 | .i e => .i (e.den ρ)
 | .b e => .b (e.den ρ)
 | .s e => .s (e.den ρ)
 | .l e => .l (e.den ρ)
def ZfZ:Nat→V:=fun _=>.i 0
def bind (ρ:Nat→V) (n:Nat) (vs:List V):Nat→V:=fun m=>if m < n then ρ m else (vs[m-n]?).getD (ρ m)
mutual
def IE.bd (n:Nat):IE→Prop
 | .var m => m < n
 | .lit _ => True
 | .bin _ _ a b => a.bd n ∧ b.bd n
 | .conv _ a => a.bd n
 | .len l => l.bd n
 | .slen s => s.bd n
 | .getc s i => s.bd n ∧ i.bd n
def BE.bd (n:Nat):BE→Prop
 | .var m => m < n
 | .lit _ => True
 | .cmp _ a b => a.bd n ∧ b.bd n
 | .beq a b => a.bd n ∧ b.bd n
 | .seq a b => a.bd n ∧ b.bd n
 | .and a b => a.bd n ∧ b.bd n
 | .not a => a.bd n
def SE.bd (n:Nat):SE→Prop
 | .var m => m < n
 | .lit _ => True
 | .bytes l => l.bd n
def LE.bd (n:Nat):LE→Prop
 | .var m => m < n
 | .nil => True
 | .snoc l e => l.bd n ∧ e.bd n
 | .app a b => a.bd n ∧ b.bd n
 | .take l i => l.bd n ∧ i.bd n
 | .drop l i => l.bd n ∧ i.bd n
 | .rep i e => i.bd n ∧ e.bd n
 | .setAt l i _ e => l.bd n ∧ i.bd n ∧ e.bd n
 | .spl l a => l.bd n ∧ a.bd n
 | .mget l k => l.bd n ∧ k.bd n
 | .mhole l k => l.bd n ∧ k.bd n
 | .mset l k _ v => l.bd n ∧ k.bd n ∧ v.bd n
 | .mkeys l => l.bd n
def CE.bd (n:Nat):CE→Prop
 | .nil => True
 | .cons c r => c.bd n ∧ r.bd n
def SC.bd (n:Nat):SC→Prop
 | .int _ e => e.bd n
 | .bool b => b.bd n
 | .str s => s.bd n
 | .slice _ _ l => l.bd n
end
def TC.bd (n:Nat):TC→Prop
 | .c x => x.bd n
 | .agg cs => ∀ c ∈ cs, c.bd n
 | .own _ _ l => l.bd n
 | .gone => True
def BC.bd (n:Nat):BC→Prop
 | .c x => x.bd n
 | .own _ _ l => l.bd n
 | .gone => True
def SV.bd (n:Nat):SV→Prop
 | .dead => True
 | .gone => True
 | .c x => x.bd n
 | .agg cs => ∀ c ∈ cs, c.bd n
 | .tuple vs => ∀ c ∈ vs, c.bd n
 | .aggo cs => ∀ c ∈ cs, c.bd n
 | .own _ _ l => l.bd n
 | .box cs => ∀ c ∈ cs, c.bd n
 | .ptr _ _ => True
 | .eptr cs => ∀ c ∈ cs, c.bd n
 | .mref _ _ => True
 | .eref _ _ i _ _ => i.bd n
 | .gbox cs => ∀ c ∈ cs, c.bd n
 | .clo _ _ => True
def VE.bd (n:Nat):VE→Prop
 | .i e => e.bd n
 | .b e => e.bd n
 | .s e => e.bd n
 | .l e => e.bd n
mutual
def IE.den_congr {n:Nat} {ρ d:Nat→V} (c:∀ m,m < n→d m=ρ m):∀ (x:IE),x.bd n→x.den d=x.den ρ
 | .var m, h => by simp only [IE.den, c m h]
 | .lit _, _ => rfl
 | .bin _ _ a b, h => by simp only [IE.den, IE.den_congr c a h.1, IE.den_congr c b h.2]
 | .conv _ a, h => by simp only [IE.den, IE.den_congr c a h]
 | .len l, h => by simp only [IE.den, LE.den_congr c l h]
 | .slen s, h => by simp only [IE.den, SE.den_congr c s h]
 | .getc s i, h => by simp only [IE.den, SE.den_congr c s h.1, IE.den_congr c i h.2]
def BE.den_congr {n:Nat} {ρ d:Nat→V} (c:∀ m,m < n→d m=ρ m):∀ (x:BE),x.bd n→x.den d=x.den ρ
 | .var m, h => by simp only [BE.den, c m h]
 | .lit _, _ => rfl
 | .cmp _ a b, h => by simp only [BE.den, IE.den_congr c a h.1, IE.den_congr c b h.2]
 | .beq a b, h => by simp only [BE.den, BE.den_congr c a h.1, BE.den_congr c b h.2]
 | .seq a b, h => by simp only [BE.den, SE.den_congr c a h.1, SE.den_congr c b h.2]
 | .and a b, h => by simp only [BE.den, BE.den_congr c a h.1, BE.den_congr c b h.2]
 | .not a, h => by simp only [BE.den, BE.den_congr c a h]
def SE.den_congr {n:Nat} {ρ a:Nat→V} (b:∀ m,m < n→a m=ρ m):∀ (x:SE),x.bd n→x.den a=x.den ρ
 | .var m, h => by simp only [SE.den, b m h]
 | .lit _, _ => rfl
 | .bytes l, h => by simp only [SE.den, LE.den_congr b l h]
def LE.den_congr {n:Nat} {ρ d:Nat→V} (c:∀ m,m < n→d m=ρ m):∀ (x:LE),x.bd n→x.den d=x.den ρ
 | .var m, h => by simp only [LE.den, c m h]
 | .nil, _ => rfl
 | .snoc l e, h => by simp only [LE.den, LE.den_congr c l h.1, CE.den_congr c e h.2]
 | .app a b, h => by simp only [LE.den, LE.den_congr c a h.1, LE.den_congr c b h.2]
 | .take l i, h => by simp only [LE.den, LE.den_congr c l h.1, IE.den_congr c i h.2]
 | .drop l i, h => by simp only [LE.den, LE.den_congr c l h.1, IE.den_congr c i h.2]
 | .rep i e, h => by simp only [LE.den, IE.den_congr c i h.1, CE.den_congr c e h.2]
 | .setAt l i o e, h => by simp only [LE.den, LE.den_congr c l h.1, IE.den_congr c i h.2.1, CE.den_congr c e h.2.2]
 | .spl l a, h => by simp only [LE.den, LE.den_congr c l h.1, LE.den_congr c a h.2]
 | .mget l k, h => by simp only [LE.den, LE.den_congr c l h.1, IE.den_congr c k h.2]
 | .mhole l k, h => by simp only [LE.den, LE.den_congr c l h.1, IE.den_congr c k h.2]
 | .mset l k _ v, h => by simp only [LE.den, LE.den_congr c l h.1, IE.den_congr c k h.2.1, LE.den_congr c v h.2.2]
 | .mkeys l, h => by simp only [LE.den, LE.den_congr c l h]
def CE.den_congr {n:Nat} {ρ a:Nat→V} (b:∀ m,m < n→a m=ρ m):∀ (x:CE),x.bd n→x.den a=x.den ρ
 | .nil, _ => rfl
 | .cons c r, h => by simp only [CE.den, SC.den_congr b c h.1, CE.den_congr b r h.2]
def SC.den_congr {n:Nat} {ρ c:Nat→V} (a:∀ m,m < n→c m=ρ m):∀ (x:SC),x.bd n→x.den c=x.den ρ
 | .int _ e, h => by simp only [SC.den, IE.den_congr a e h]
 | .bool b, h => by simp only [SC.den, BE.den_congr a b h]
 | .str s, h => by simp only [SC.den, SE.den_congr a s h]
 | .slice _ _ l, h => by simp only [SC.den, LE.den_congr a l h]
end
def JM {b:Type} {n:Nat} {ρ a:Nat→V} {f:(Nat→V)→b→AV} {bd:Nat→b→Prop} (h:∀ x,bd n x→f a x=f ρ x) :
  ∀ (l:List b),(∀ x∈l,bd n x)→l.map (f a)=l.map (f ρ)
 | [], _ => rfl
 | x :: xs, hx => by
  simp only [Xn];rw [h x (hx x (by simp)),JM h xs fun y c=>hx y (by simp [c])]
def TC.den_congr {n:Nat} {ρ b:Nat→V} (a:∀ m,m < n→b m=ρ m):∀ (x:TC),x.bd n→x.den b=x.den ρ
 | .c x, h => SC.den_congr a x h
 | .agg cs, h => by simp only [TC.den, JM (f := SC.den) (bd := SC.bd) (SC.den_congr a) cs h]
 | .own _ _ l, h => by simp only [TC.den, LE.den_congr a l h]
 | .gone, _ => rfl
def BC.den_congr {n:Nat} {ρ a:Nat→V} (b:∀ m,m < n→a m=ρ m):∀ (x:BC),x.bd n→x.den a=x.den ρ
 | .c x, h => SC.den_congr b x h
 | .own _ _ l, h => by simp only [BC.den, LE.den_congr b l h]
 | .gone, _ => rfl
def SV.den_congr {n:Nat} {ρ b:Nat→V} (a:∀ m,m < n→b m=ρ m):∀ (x:SV),x.bd n→x.den b=x.den ρ
 | .dead, _ => rfl
 | .gone, _ => rfl
 | .c x, h => SC.den_congr a x h
 | .agg cs, h => by simp only [SV.den, JM (f := SC.den) (bd := SC.bd) (SC.den_congr a) cs h]
 | .tuple vs, h => by simp only [SV.den, JM (f := TC.den) (bd := TC.bd) (TC.den_congr a) vs h]
 | .aggo cs, h => by simp only [SV.den, JM (f := BC.den) (bd := BC.bd) (BC.den_congr a) cs h]
 | .own _ _ l, h => by simp only [SV.den, LE.den_congr a l h]
 | .box cs, h => by simp only [SV.den, JM (f := BC.den) (bd := BC.bd) (BC.den_congr a) cs h]
 | .ptr _ _, _ => rfl
 | .eptr cs, h => by simp only [SV.den, JM (f := SC.den) (bd := SC.bd) (SC.den_congr a) cs h]
 | .mref _ _, _ => rfl
 | .eref _ _ i _ _, h => by simp only [SV.den, IE.den_congr a i h]
 | .gbox cs, h => by simp only [SV.den, JM (f := BC.den) (bd := BC.bd) (BC.den_congr a) cs h]
 | .clo _ _, _ => rfl
def VE.den_congr {n:Nat} {ρ c:Nat→V} (a:∀ m,m < n→c m=ρ m):∀ (x:VE),x.bd n→x.den c=x.den ρ
 | .i e, h => by simp only [VE.den, IE.den_congr a e h]
 | .b e, h => by simp only [VE.den, BE.den_congr a e h]
 | .s e, h => by simp only [VE.den, SE.den_congr a e h]
 | .l e, h => by simp only [VE.den, LE.den_congr a e h]
def Zfc (ρ:Nat→V) (n:Nat) (vs:List V):∀ m,m < n→bind ρ n vs m=ρ m:=fun m h=>by simp [bind,h]
mutual
def IE.bd_mono {n d:Nat} (c:n≤d):∀ (x:IE),x.bd n→x.bd d
 | .var _, h => Uj h c
 | .lit _, _ => trivial
 | .bin _ _ a b, h => ⟨IE.bd_mono c a h.1, IE.bd_mono c b h.2⟩
 | .conv _ a, h => IE.bd_mono c a h
 | .len l, h => LE.bd_mono c l h
 | .slen s, h => SE.bd_mono c s h
 | .getc s i, h => ⟨SE.bd_mono c s h.1, IE.bd_mono c i h.2⟩
def BE.bd_mono {n d:Nat} (c:n≤d):∀ (x:BE),x.bd n→x.bd d
 | .var _, h => Uj h c
 | .lit _, _ => trivial
 | .cmp _ a b, h => ⟨IE.bd_mono c a h.1, IE.bd_mono c b h.2⟩
 | .beq a b, h => ⟨BE.bd_mono c a h.1, BE.bd_mono c b h.2⟩
 | .seq a b, h => ⟨SE.bd_mono c a h.1, SE.bd_mono c b h.2⟩
 | .and a b, h => ⟨BE.bd_mono c a h.1, BE.bd_mono c b h.2⟩
 | .not a, h => BE.bd_mono c a h
def SE.bd_mono {n a:Nat} (b:n≤a):∀ (x:SE),x.bd n→x.bd a
 | .var _, h => Uj h b
 | .lit _, _ => trivial
 | .bytes l, h => LE.bd_mono b l h
def LE.bd_mono {n d:Nat} (c:n≤d):∀ (x:LE),x.bd n→x.bd d
 | .var _, h => Uj h c
 | .nil, _ => trivial
 | .snoc l e, h => ⟨LE.bd_mono c l h.1, CE.bd_mono c e h.2⟩
 | .app a b, h => ⟨LE.bd_mono c a h.1, LE.bd_mono c b h.2⟩
 | .take l i, h => ⟨LE.bd_mono c l h.1, IE.bd_mono c i h.2⟩
 | .drop l i, h => ⟨LE.bd_mono c l h.1, IE.bd_mono c i h.2⟩
 | .rep i e, h => ⟨IE.bd_mono c i h.1, CE.bd_mono c e h.2⟩
 | .setAt l i _ e, h => ⟨LE.bd_mono c l h.1, IE.bd_mono c i h.2.1, CE.bd_mono c e h.2.2⟩
 | .spl l a, h => ⟨LE.bd_mono c l h.1, LE.bd_mono c a h.2⟩
 | .mget l k, h => ⟨LE.bd_mono c l h.1, IE.bd_mono c k h.2⟩
 | .mhole l k, h => ⟨LE.bd_mono c l h.1, IE.bd_mono c k h.2⟩
 | .mset l k _ v, h => ⟨LE.bd_mono c l h.1, IE.bd_mono c k h.2.1, LE.bd_mono c v h.2.2⟩
 | .mkeys l, h => LE.bd_mono c l h
def CE.bd_mono {n a:Nat} (b:n≤a):∀ (x:CE),x.bd n→x.bd a
 | .nil, _ => trivial
 | .cons c r, h => ⟨SC.bd_mono b c h.1, CE.bd_mono b r h.2⟩
def SC.bd_mono {n c:Nat} (a:n≤c):∀ (x:SC),x.bd n→x.bd c
 | .int _ e, h => IE.bd_mono a e h
 | .bool b, h => BE.bd_mono a b h
 | .str s, h => SE.bd_mono a s h
 | .slice _ _ l, h => LE.bd_mono a l h
end
def TC.bd_mono {n b:Nat} (a:n≤b):∀ (x:TC),x.bd n→x.bd b
 | .c x, h => SC.bd_mono a x h
 | .agg _, h => fun c d => SC.bd_mono a c (h c d)
 | .own _ _ l, h => LE.bd_mono a l h
 | .gone, _ => trivial
def BC.bd_mono {n a:Nat} (b:n≤a):∀ (x:BC),x.bd n→x.bd a
 | .c x, h => SC.bd_mono b x h
 | .own _ _ l, h => LE.bd_mono b l h
 | .gone, _ => trivial
def SV.bd_mono {n d:Nat} (b:n≤d):∀ (x:SV),x.bd n→x.bd d
 | .dead, _ => trivial
 | .gone, _ => trivial
 | .c x, h => SC.bd_mono b x h
 | .agg _, h => fun c a => SC.bd_mono b c (h c a)
 | .tuple _, h => fun c a => TC.bd_mono b c (h c a)
 | .aggo _, h => fun c a => BC.bd_mono b c (h c a)
 | .own _ _ l, h => LE.bd_mono b l h
 | .box _, h => fun c a => BC.bd_mono b c (h c a)
 | .ptr _ _, _ => trivial
 | .eptr _, h => fun c a => SC.bd_mono b c (h c a)
 | .mref _ _, _ => trivial
 | .eref _ _ i _ _, h => IE.bd_mono b i h
 | .gbox _, h => fun c a => BC.bd_mono b c (h c a)
 | .clo _ _, _ => trivial
def upd (σ:Nat→AV) (d:Nat) (x:AV):Nat→AV:=fun i=>if i=d then x else σ i
def JV:(Nat→AV)→List (Nat×AV)→(Nat→AV)
 | σ, [] => σ
 | σ, (d, x) :: us => JV (upd σ d x) us
def Jl (σ:Nat→AV) (d:Nat) (x:AV):upd σ d x d=x:=by simp [upd]
def Zp (σ:Nat→AV) {d i:Nat} (x:AV) (h:i≠d):upd σ d x i=σ i:=by simp [upd,h]
def Zaz (X:Nat→Nat→Option Nat) (d:Nat) (r:Nat→Option Nat):Nat→Nat→Option Nat:=fun i=>if i=d then r else X i
def Zx (X:Nat→Nat→Option Nat) (d:Nat) (r:Nat→Option Nat):Zaz X d r d=r:=by simp [Zaz]
def ZC (X:Nat→Nat→Option Nat) {d i:Nat} (r:Nat→Option Nat) (h:i≠d):Zaz X d r i=X i:=by simp [Zaz,h]
def YX:Nat→Option Nat:=fun _=>Xe
def Vi (ob:Option Nat):Nat→Option Nat:=fun k=>if k=0 then ob else Xe
structure Jc (w:World) (lim:Nat→Nat) (w':World) (lim':Nat→Nat) (S:Nat→Prop):Prop where
 os:w'.os=w.os
 tape:w'.tape=w.tape
 output:w'.output=w.output
 size:w.heap.size≤w'.heap.size
 frz:∀ a:Addr,a.block < w.heap.size→w'.frozen? a=w.frozen? a
 blk:∀ b,b < w.heap.size→¬ S b→ZpT w lim w' lim' b
 ext:Ext w lim w' lim'
def Jc.refl (w:World) (lim:Nat→Nat) (S:Nat→Prop):Jc w lim w lim S:=
 ⟨rfl,rfl,rfl,Xt _,fun _ _=>rfl,fun _ _ _=>⟨rfl,rfl⟩,Ext.refl w lim⟩
def Jc.drew {w:World} {lim:Nat→Nat} {w':World} {a:Nat→Nat} {S:Nat→Prop} (h:Jc w lim w' a S):Jc w lim w'.drew a S:=
 ⟨h.os,h.tape,h.output,h.size,h.frz,h.blk,h.ext⟩
def Frm.step {c:Ctx} {w:World} {lim:Nat→Nat} {w':World} {d:Nat→Nat} {S:Nat→Prop} (h:Frm c w lim) (e:Jc w lim w' d S)
  (j:∀ b,S b→c.A b∨c.w0.heap.size≤b):Frm c w' d where
 os:=e.os.trans h.os
 tape:=e.tape.trans h.tape
 output:=e.output.trans h.output
 size:=XN h.size e.size
 frz a ha:=(e.frz a (Uj ha h.size)).trans (h.frz a ha)
 blk b hb hA:=by
  have f:¬ S b:=fun k=>(j b k).elim hA (fun h=>by omega);have g:=h.blk b hb hA;have i:=e.blk b (by have:=h.size;omega) f;exact ⟨i.1.trans g.1,i.2.trans g.2⟩
 ext:=h.ext.trans e.ext h.size
def Zla {x:AV} (h:x.isB=Xc):(∃ cs,x = .box cs)∨x.isG=Xc:=by
 cases x<;>simp [AV.isB] at h
 ·exact .inl ⟨_,rfl⟩
 ·exact .inr rfl
def ZaE {x:AV} (h:x.isG=Xc):x.isB=Xc:=by
 cases x<;>simp [AV.isG] at h
 rfl
def ZiN {X X':Nat→Nat→Option Nat} {σ c:Nat→AV} {d b:Nat} (i:∀ a cs,σ a = .box cs→(∃ e,c a = .box e)∧X' a 0=X a 0)
  (j:∀ a,(σ a).isG=Xc→(c a).isG=Xc∧X' a 0=X a 0) (h:X d 0=Xa b∧(σ d).isB=Xc):X' d 0=Xa b∧(c d).isB=Xc:=by
 rcases Zla h.2 with ⟨cs,hcs⟩ | hcs
 ·obtain ⟨⟨e,f⟩,g⟩:=i d cs hcs;exact ⟨g.trans h.1,by rw [f];rfl⟩
 ·obtain ⟨f,g⟩:=j d hcs;exact ⟨g.trans h.1,ZaE f⟩
def Z2.chg {P:Program} {w:World} {lim:Nat→Nat} {X X':Nat→Nat→Option Nat} {σ m:Nat→AV} {d:Nat} {x:AV} {v:Value}
  (h:Z2 P w lim X σ d x v) (q:X' d=X d) (u:∀ a cs,σ a = .box cs→(∃ n,m a = .box n)∧X' a 0=X a 0)
  (z:∀ a,(σ a).isG=Xc→(m a).isG=Xc∧X' a 0=X a 0) (y:∀ a k,Jz x a k→Wg (σ a) (m a) k∧X' a k=X a k):Z2 P w lim X' m d x v:=by
 cases x with
 | gbox cs =>
  obtain ⟨A,h⟩:=h;exact ⟨A,by rw [q];exact h⟩
 | clo g ds =>
  obtain ⟨C,c,j,l⟩:=h;exact ⟨C,c,j,fun i a b D E=>ZiN u z (l i a b D E)⟩
 | ptr a off =>
  obtain ⟨b,cs,c,j,l⟩:=h;obtain ⟨⟨n,p⟩,r⟩:=u a cs j;exact ⟨b,n,r.trans c,p,l⟩
 | mref a k =>
  obtain ⟨e,xs,c,j⟩:=h;obtain ⟨l,p⟩:=y a k (.inl rfl);obtain ⟨xs',r,t⟩:=l e xs c;exact ⟨e,xs',r,by rw [p,t];exact j⟩
 | eref a k o =>
  obtain ⟨b,e,xs,c,j,l⟩:=h;obtain ⟨p,r⟩:=y a k (.inr ⟨o,rfl⟩);obtain ⟨xs',t,_⟩:=p e xs c;exact ⟨b,e,xs',t,r.trans j,l⟩
 | own x e xs => show Jt P w lim x e xs v (X' d 0); rw [q]; exact h
 | box cs => show ZK P w lim (X' d) cs v; rw [q]; exact h
 | aggo cs =>
  obtain ⟨us,c,j,p,l⟩:=h;refine ⟨us,c,j,p,?_⟩;rw [q];exact l
 | tuple vs => 
  obtain ⟨us,c,j,l⟩:=h;refine ⟨us,c,j,?_⟩;rw [q];exact l
 | dead => trivial
 | gone => trivial
 | eptr cs => exact h
 | val v => exact h
 | agg cs => exact h
 | slice f s xs => exact h
def ZlW (σ:Nat→AV) (d:Nat):Prop:=∀ i k,i≠d→¬ Jz (σ i) d k
def VC {c:Ctx} {σ:Nat→AV} {f:Array Value} {w:World} {lim:Nat→Nat} {X:Nat→Nat→Option Nat} (h:Sim c σ f w lim X) {i d k:Nat} (g:Jz (σ i) d k):∃ p,Zy (σ d) k=Xa p:=by
 have a:=h.rel i;rcases g with e | ⟨o,e⟩
 ·rw [e] at a;obtain ⟨t,xs,b,_⟩:=a;exact ⟨_,b⟩
 ·rw [e] at a;obtain ⟨_,t,xs,b,_⟩:=a;exact ⟨_,b⟩
def Sim.noRefs {c:Ctx} {σ:Nat→AV} {b:Array Value} {w:World} {lim:Nat→Nat} {X:Nat→Nat→Option Nat} (h:Sim c σ b w lim X) {d:Nat} (e:∀ k,Zy (σ d) k=Xe):ZlW σ d:=by
 intro i k _ f;obtain ⟨p,a⟩:=VC h f;rw [e k] at a
 cases a
def We (y:AV):Prop:=(∀ cs,y≠.box cs)∧(∀ e xs,y≠.own Xc e xs)∧∀ cs,y≠.gbox cs
def We.none {y:AV} (h:We y) (k:Nat):Zy y k=Xe:=by
 unfold Zy;split
 ·exact (h.2.1 _ _ rfl).elim
 ·exact (h.1 _ rfl).elim
 ·exact (h.2.2 _ rfl).elim
 ·rfl
def Sim.world {c:Ctx} {σ:Nat→AV} {n:Array Value} {w:World} {lim:Nat→Nat} {X:Nat→Nat→Option Nat} (h:Sim c σ n w lim X)
  {w':World} {f:Nat→Nat} {S:Nat→Prop} (g:Jc w lim w' f S) (m:∀ b,S b→(c.A b∨c.w0.heap.size≤b)∧∀ i j,X i j≠Xa b):Sim c σ n w' f X where
 rel d:=(h.rel d).mono g.ext (fun k b a=>g.blk b (h.ours d k b a).1 fun l=>(m b l).2 d k a) fun o k b _ a=>.of (g.blk b (h.ours o k b a).1 fun l=>(m b l).2 o k a).1
 size:=h.size
 out:=h.out
 ghost:=h.ghost
 dist:=h.dist
 ours d k b a:=⟨Uj (h.ours d k b a).1 g.size,(h.ours d k b a).2⟩
 frm:=h.frm.step g fun b l=>(m b l).1
 pin:=h.pin
 mp d e xs hd:=(h.mp d e xs hd).mono g.ext fun k b a=>g.blk b (h.ours d k b a).1 fun l=>(m b l).2 d k a
 gpin:=h.gpin
def Sim.putRow {c:Ctx} {σ:Nat→AV} {G:Array Value} {w:World} {lim:Nat→Nat} {X:Nat→Nat→Option Nat} (h:Sim c σ G w lim X)
  {w':World} {l:Nat→Nat} {S:Nat→Prop} {d:Nat} {x:AV} {tm':Array Value} (r:Nat→Option Nat) (u:Jc w lim w' l S) (H:∀ b,S b→∃ k,X d k=Xa b)
  (W:d < c.nt) (J:tm'.size=G.size) (t:∀ i,i≠d→tm'.getD i undef=G.getD i undef)
  (o:(∀ cs,σ d≠.box cs)∨((∃ cs,x = .box cs)∧r 0=X d 0∧tm'.getD d undef=G.getD d undef))
  (C:∀ i k,i≠d→Jz (σ i) d k→Wg (σ d) x k∧r k=X d k∧∀ b,X d k=Xa b→ZaN w w' b)
  (O:Z2 c.P w' l (Zaz X d r) (upd σ d x) d x (tm'.getD d undef))
  (s:∀ k b,r k=Xa b→b < w'.heap.size∧(c.A b∨c.w0.heap.size≤b)∧∀ i j,i≠d→X i j≠Xa b)
  (L:∀ k n b,r k=Xa b→r n=Xa b→k=n) (M:x.isG=Xb:=by rfl) (hmp:∀ e xs,x = .own Xc e xs→Zgi c.P w' l e xs r:=by intro e xs h;cases h):Sim c (upd σ d x) tm' w' l (Zaz X d r) where
 rel i:=by
  by_cases a:i=d
  ·subst a;rw [Jl];exact O
  ·rw [Zp σ x a,t i a]
   have f:=(h.rel i).mono u.ext (fun k b o=>u.blk b (h.ours i k b o).1 fun y=>by
    obtain ⟨n,p⟩:=H b y
    exact a (h.dist i k d n b o p).1) fun g k b Q z=>by
    by_cases hdd:g=d
    ·subst hdd;exact (C i k a (.inl Q)).2.2 b z
    ·exact .of (u.blk b (h.ours g k b z).1 fun y=>by
      obtain ⟨n,p⟩:=H b y;exact hdd (h.dist g k d n b z p).1).1
   have D:∀ g,(σ g).isG=Xc→g≠d:=fun g E e=>by have:=h.ghost g E;omega
   refine f.chg (ZC X r a) (fun g cs q=>?_) (fun g E=>⟨by rw [Zp σ x (D g E)];exact E,by rw [ZC X r (D g E)]⟩) fun g k N=>?_
   ·by_cases hdd:g=d
    ·subst hdd;rcases o with o | ⟨⟨cs',hx'⟩,N,_⟩
     ·exact (o cs q).elim
     ·exact ⟨⟨cs',by rw [Jl,hx']⟩,by rw [Zx,N]⟩
    ·exact ⟨⟨cs,by rw [Zp σ x hdd,q]⟩,by rw [ZC X r hdd]⟩
   ·by_cases hdd:g=d
    ·subst hdd;obtain ⟨R,T,_⟩:=C i k a N;exact ⟨by rw [Jl];exact R,by rw [Zx];exact T⟩
    ·exact ⟨by rw [Zp σ x hdd];exact Wg.refl _ _,by rw [ZC X r hdd]⟩
 size:=J.trans h.size
 out i a:=by rw [Zp σ x (by omega)];exact h.out i a
 ghost i a:=by
  by_cases q:i=d
  ·subst q;rw [Jl,M] at a
   cases a
  ·rw [Zp σ x q] at a;exact h.ghost i a
 dist i k i' n b f m:=by
  by_cases a:i=d<;>by_cases hi':i'=d
  ·subst a;subst hi';rw [Zx] at f m;exact ⟨rfl,L k n b f m⟩
  ·subst a;rw [Zx] at f;rw [ZC X r hi'] at m;exact ((s k b f).2.2 i' n hi' m).elim
  ·subst hi';rw [Zx] at m;rw [ZC X r a] at f;exact ((s n b m).2.2 i k a f).elim
  ·rw [ZC X r a] at f;rw [ZC X r hi'] at m;exact h.dist i k i' n b f m
 ours i k b f:=by
  by_cases a:i=d
  ·subst a;rw [Zx] at f;exact ⟨(s k b f).1,(s k b f).2.1⟩
  ·rw [ZC X r a] at f;exact ⟨Uj (h.ours i k b f).1 u.size,(h.ours i k b f).2⟩
 frm:=h.frm.step u fun b y=>by
  obtain ⟨k,U⟩:=H b y;exact (h.ours d k b U).2
 pin i v hv:=by
  obtain ⟨f,cs,m⟩:=h.pin i v hv;by_cases a:i=d
  ·subst a;rcases o with o | ⟨⟨cs',rfl⟩,_,hv2⟩
   ·exact (o cs m).elim
   ·exact ⟨hv2.trans f,cs',Jl _ _ _⟩
  ·exact ⟨(t i a).trans f,cs,by rw [Zp σ x a,m]⟩
 mp i e xs hi':=by
  by_cases a:i=d
  ·subst a;rw [Jl] at hi';rw [Zx];exact hmp e xs hi'
  ·rw [Zp σ x a] at hi';rw [show Zaz X d r i=X i from ZC X r a]
   exact (h.mp i e xs hi').mono u.ext fun k b o=>u.blk b (h.ours i k b o).1 fun y=>by
    obtain ⟨n,p⟩:=H b y;exact a (h.dist i k d n b o p).1
 gpin i b hb':=by
  obtain ⟨f,m⟩:=h.gpin i b hb';have a:i≠d:=fun e=>by have:=h.ghost i m;omega
  exact ⟨by rw [ZC X r a];exact f,by rw [Zp σ x a];exact m⟩
def AV.plain:AV→Bool
 | .own _ _ _ => Xb
 | .box _ => Xb
 | .tuple _ => Xb
 | .aggo _ => Xb
 | .gbox _ => Xb
 | _ => Xc
def ZdS {x:AV} (h:x.plain=Xc):x.isG=Xb:=by
 cases x<;>first | rfl | simp [AV.plain] at h
def Z2.plain {P:Program} {w:World} {lim:Nat→Nat} {X X':Nat→Nat→Option Nat} {σ c:Nat→AV} {d a:Nat} {x:AV} {v:Value}
  (h:Z2 P w lim X σ d x v) (p:x.plain=Xc) (u:∀ i cs,σ i = .box cs→(∃ j,c i = .box j)∧X' i 0=X i 0)
  (z:∀ a,(σ a).isG=Xc→(c a).isG=Xc∧X' a 0=X a 0) (y:∀ a k,Jz x a k→Wg (σ a) (c a) k∧X' a k=X a k):Z2 P w lim X' c a x v:=by
 cases x with
 | gbox cs => simp [AV.plain] at p
 | clo g ds =>
  obtain ⟨A,l,m,n⟩:=h;exact ⟨A,l,m,fun i a b C D=>ZiN u z (n i a b C D)⟩
 | ptr i off =>
  obtain ⟨b,cs,l,m,n⟩:=h;obtain ⟨⟨j,q⟩,r⟩:=u i cs m;exact ⟨b,j,r.trans l,q,n⟩
 | mref i k =>
  obtain ⟨e,xs,l,m⟩:=h;obtain ⟨n,q⟩:=y i k (.inl rfl);obtain ⟨xs',r,t⟩:=n e xs l;exact ⟨e,xs',r,by rw [q,t];exact m⟩
 | eref i k o =>
  obtain ⟨b,e,xs,l,m,n⟩:=h;obtain ⟨q,r⟩:=y i k (.inr ⟨o,rfl⟩);obtain ⟨xs',t,_⟩:=q e xs l;exact ⟨b,e,xs',t,r.trans m,n⟩
 | own x e xs => simp [AV.plain] at p
 | box cs => simp [AV.plain] at p
 | tuple vs => simp [AV.plain] at p
 | aggo cs => simp [AV.plain] at p
 | dead => trivial
 | gone => trivial
 | eptr cs => exact h
 | val v => exact h
 | agg cs => exact h
 | slice f s xs => exact h
def Yr (a:Array Value) (d:Nat) (v:Value) (h:d < a.size):(a.setIfInBounds d v).getD d undef=v:=by
 simp [Ux,h]
def Jj (a:Array Value) (d i:Nat) (v:Value) (h:i≠d):(a.setIfInBounds d v).getD i undef=a.getD i undef:=by
 by_cases hi:i < a.size
 ·simp [Ux,hi,Ne.symm h]
 ·simp [Ux,hi]
def Zln {P:Program} {w:World} {lim:Nat→Nat} {X:Nat→Nat→Option Nat} {σ:Nat→AV} {k d q:Nat} {x:AV} {v:Value} (h:Z2 P w lim X σ k x v) (b:Jz x d q):∃ p,Zy (σ d) q=Xa p:=by
 rcases b with rfl | ⟨o,rfl⟩
 ·obtain ⟨e,xs,a,_⟩:=h;exact ⟨_,a⟩
 ·obtain ⟨_,e,xs,a,_⟩:=h;exact ⟨_,a⟩
def Sim.put {c:Ctx} {σ:Nat→AV} {n:Array Value} {w:World} {lim:Nat→Nat} {X:Nat→Nat→Option Nat} (h:Sim c σ n w lim X)
  {d k:Nat} {x:AV} {v:Value} (t:d < c.nt) (o:We (σ d)) (g:x.plain=Xc) (u:Z2 c.P w lim X σ k x v) :
  Sim c (upd σ d x) (n.setIfInBounds d v) w lim (Zaz X d YX):=by
 refine h.putRow YX (Jc.refl w lim (fun _=>False)) (fun _ y=>y.elim) t (by simp) (fun i j=>Jj n d i v j) (.inl o.1) (fun i q j r=>(h.noRefs o.none i q j r).elim) ?_
  (fun k b s=>by simp [YX] at s) (fun k A b s=>by simp [YX] at s) (ZdS g) (fun e xs z=>by rw [z] at g;simp [AV.plain] at g)
 rw [Yr n d v (by rw [h.size];exact t)];have l:∀ f,(σ f).isG=Xc→f≠d:=fun f m e=>by have:=h.ghost f m;omega
 refine u.plain g (fun i cs j=>?_) (fun f m=>⟨by rw [Zp σ x (l f m)];exact m,by rw [ZC X YX (l f m)]⟩) fun f q r=>?_
 ·have a:i≠d:=fun e=>o.1 cs (e ▸ j);exact ⟨⟨cs,by rw [Zp σ x a,j]⟩,by rw [ZC X YX a]⟩
 ·have a:f≠d:=by
   intro e;subst e;obtain ⟨p,g⟩:=Zln u r;rw [o.none] at g
   cases g
  exact ⟨by rw [Zp σ x a];exact Wg.refl _ _,by rw [ZC X YX a]⟩
def Sim.weaken {c:Ctx} {σ:Nat→AV} {n:Array Value} {w:World} {lim:Nat→Nat} {X:Nat→Nat→Option Nat} (h:Sim c σ n w lim X)
  {d k:Nat} {x:AV} (u:d < c.nt) (t:∀ cs,σ d≠.box cs) (o:ZlW σ d) (m:x.plain=Xc) (p:∀ i q,¬ Jz x i q) (v:Z2 c.P w lim X σ k x (n.getD d undef)) :
  Sim c (upd σ d x) n w lim (Zaz X d YX):=by
 refine h.putRow YX (Jc.refl w lim (fun _=>False)) (fun _ y=>y.elim) u rfl (fun i f=>rfl) (.inl t) (fun i q f r=>(o i q f r).elim) ?_
  (fun k b s=>by simp [YX] at s) (fun k A b s=>by simp [YX] at s) (ZdS m) (fun e xs z=>by rw [z] at m;simp [AV.plain] at m)
 have g:∀ a,(σ a).isG=Xc→a≠d:=fun a j e=>by have:=h.ghost a j;omega
 refine v.plain m (fun i cs f=>?_) (fun a j=>⟨by rw [Zp σ x (g a j)];exact j,by rw [ZC X YX (g a j)]⟩) fun a q r=>(p a q r).elim;have l:i≠d:=fun e=>t cs (e ▸ f);exact ⟨⟨cs,by rw [Zp σ x l,f]⟩,by rw [ZC X YX l]⟩
def Sim.putOwn {c:Ctx} {σ:Nat→AV} {g:Array Value} {w:World} {lim:Nat→Nat} {X:Nat→Nat→Option Nat} (h:Sim c σ g w lim X)
  {d:Nat} {x:Bool} {e:TypeId} {xs:List (List AV)} {v:Value} {ob:Option Nat} (n:d < c.nt) (o:We (σ d)) (p:Jt c.P w lim x e xs v ob)
  (r:∀ b,ob=Xa b→(c.A b∨c.w0.heap.size≤b)∧∀ i j,i≠d→X i j≠Xa b) (l:x=Xc→Zgi c.P w lim e xs (Vi ob)) :
  Sim c (upd σ d (.own x e xs)) (g.setIfInBounds d v) w lim (Zaz X d (Vi ob)):=by
 refine h.putRow (Vi ob) (Jc.refl w lim (fun _=>False)) (fun _ s=>s.elim) n (by simp) (fun i m=>Jj g d i v m) (.inl o.1) (fun i q m t=>(h.noRefs o.none i q m t).elim) ?_
  (fun k b a=>?_) (fun k y b a f=>?_) (by rfl) (fun e' xs' u=>by injection u with h1 h2 h3;subst h1;subst h2;subst h3;exact l rfl)
 ·rw [Yr g d v (by rw [h.size];exact n)];show Jt c.P w lim x e xs v (Zaz X d (Vi ob) d 0);rw [Zx];exact p
 ·unfold Vi at a;split at a
  ·subst a;exact ⟨p.lt,(r b rfl).1,(r b rfl).2⟩
  ·simp at a
 ·unfold Vi at a f;split at a<;>split at f
  ·omega
  ·simp at f
  ·simp at a
  ·simp at a
def Zs (xs:List (List AV)) (s:Nat) (h:∀ x∈xs,x.length=s):xs.flatten.length=xs.length*s:=by
 induction xs with
 | nil => simp
 | cons x xs ih =>
  simp only [Un,XD,XO];rw [h x (by simp),ih fun y a=>h y (by simp [a]),XY];omega
def Jt.rep {P:Program} {w:World} {lim:Nat→Nat} {e:TypeId} {xs:List (List AV)} {v:Value} {ob:Option Nat} (h:Jt P w lim Xb e xs v ob) (f:Bool) (i:f=Xb) :
  Rep w lim (.slice f (P.cellsOf e) xs) v:=by
 subst i;rcases h with ⟨us,h1,h2,h3,h4,h5,h6⟩ | ⟨rfl,_,a,rfl⟩ | ⟨hx,_⟩
 case inr.inl=>exact .sliceE (fun h=>by simp at h)
 case inr.inr=>cases hx
 rcases h1.2 with ⟨hv,hn⟩ | ⟨g,cap,cur,hv,hbg,hg,hnc,hcm,hcs,htake⟩
 ·have:xs = []:=Uh hn;subst this;rw [hv];exact .sliceN
 ·rw [hv];have d:ob=Xa g:=by rw [← h2,hv];rfl
  refine .sliceC h4 h5 (fun h=>by simp at h) hnc (fun _=>?_) h1.1 (fun j u k=>?_) h6
  ·rw [h3 g d,P3 (by simp)];omega
  ·have b:=h1.cells (g:=g) (by rw [hv];rfl) j u k;have c:(⟨g,0,Xe⟩:Addr).add j=⟨g,0+j,Xe⟩:=by unfold Addr.add;split<;>simp_all
   rw [c] at b;exact b
def Zs4:Value→Option AV
 | .slice Xe 0 0 => Xa (.slice Xc 0 [])
 | .bool b => Xa (.val (.bool b))
 | .int k n => Xa (.val (.int k n))
 | .string s => Xa (.val (.string s))
 | _ => Xe
def ZaL:List Value→Option (List AV)
 | [] => Xa []
 | v :: vs =>
  match Zs4 v,ZaL vs with
  | some c, Xa cs => Xa (c :: cs)
  | _, _ => Xe
def ZqP:Value→AV
 | .agg cs => match ZaL cs.toList with | some l => .agg l | none => .dead
 | v => match Zs4 v with | some c => c | none => .dead
def getS (P:Program) (σ:Nat→AV):Operand→AV
 | .tmp t =>
  match σ t with
  | .box _ => .ptr t 0
  | .own x e xs => match x with | true => .mref t 0 | false => .slice Xb (P.cellsOf e) xs
  | .tuple _ => .dead
  | .aggo _ => .dead
  | .gbox _ => .dead
  | x => x
 | .const v => ZqP v
 | .func f => .clo f []
 | _ => .dead
def Wx (a b:AV):Bool:=
 match a,b with
 | .gbox _, _ => Xb
 | _, .gbox _ => Xb
 | .box _, _ => Xb
 | .own Xc _ _, _ => Xb
 | .dead, .box _ => Xc
 | _, .box _ => Xb
 | _, _ => Xc
def Z3 {a b:AV} (h:Wx a b=Xc):We a:=by
 refine ⟨fun cs e=>?_,fun e' xs e=>?_,fun cs e=>?_⟩ <;> subst e<;>cases b<;>simp [Wx] at h
def Zmo (c:Ctx) (e:Option Tmp) (b:Nat→AV) (x:AV) (f:Array Value) (v:Value) (w':World):Prop:=
 match e with
 | some d => d < c.nt → Wx (b d) x = Xc → ∃ a X', Sim c (upd b d x) (f.setIfInBounds d v) w' a X'
 | none => ∃ a X', Sim c b f w' a X'
def ZdD (x:AV):Prop:=∃ cs,x = .box cs
def Zd9 (x y:AV):Prop:=y=x∨(ZdD x∧ZdD y)
def Zd9.eq {x y:AV} (h:Zd9 x y) (a:∀ cs,x≠.box cs):y=x:=by
 rcases h with h | ⟨⟨cs,h⟩,_⟩
 ·exact h
 ·exact (a cs h).elim
def Vr (T:Odr) (P:Program) (o:Oper) (σ:Nat→AV) (x:AV) (us:List (Nat×AV)) (f:List Nat):Prop:=
 ∀ (c:Ctx),c.P=P→∀ (a:Nat→AV) (e:Array Value) (w:World) (lim:Nat→Nat) (X:Nat→Nat→Option Nat),
  (∀ d∈Vh o,Zd9 (σ d) (a d))→(∀ d∈f++us.map (·.1),a d=σ d)→T.rel σ a→Sim c a e w lim X→∀ (b:Act→World→Prop) (Q:Exit→Act→World→Prop),
   (∀ v w',Zmo c o.dst (JV a us) x e v w'→b (Act.put ⟨e,[]⟩ o.dst v) w')→o.wp P ⟨e,[]⟩ w b Q
def J3 (P:Program) (o:Oper) (σ:Nat→AV) (x:AV) (us:List (Nat×AV)) (f:List Nat):Prop:=
 ∀ (c:Ctx),c.P=P→∀ (a:Nat→AV) (e:Array Value) (w:World) (lim:Nat→Nat) (X:Nat→Nat→Option Nat),
  (∀ d∈Vh o,Zd9 (σ d) (a d))→(∀ d∈f++us.map (·.1),a d=σ d)→Sim c a e w lim X→∀ (b:Act→World→Prop) (Q:Exit→Act→World→Prop),
   (∀ v w',Zmo c o.dst (JV a us) x e v w'→b (Act.put ⟨e,[]⟩ o.dst v) w')→o.wp P ⟨e,[]⟩ w b Q
def J3.t {T:Odr} {P:Program} {o:Oper} {σ:Nat→AV} {x:AV} {us:List (Nat×AV)} {b:List Nat} (h:J3 P o σ x us b):Vr T P o σ x us b:=
 fun c d a e w lim X f g _ i=>h c d a e w lim X f g i
def Jt.sliceV {P:Program} {w:World} {lim:Nat→Nat} {x:Bool} {e:TypeId} {xs:List (List AV)} {v:Value} {ob:Option Nat} (h:Jt P w lim x e xs v ob):ZdH P w ob e xs.length v:=by
 rcases h with ⟨us,h1,h2,_⟩ | ⟨rfl,h2,a,rfl⟩ | ⟨_,h0,b,es,clock,kvs,_,_,h1,h2,h3,_⟩
 ·rcases h1.2 with ⟨hv,hn⟩ | ⟨g,cap,cur,hv,_,hg,_,_,hcs,_⟩
  ·exact .inl ⟨by rw [← h2,hv];rfl,hn,.inl hv⟩
  ·exact .inr (.inl ⟨g,cur,cap,by rw [← h2,hv];rfl,hg,hcs,hv⟩)
 ·exact .inl ⟨h2,rfl,.inr ⟨a,rfl⟩⟩
 ·exact .inr (.inr ⟨h0,b,es,clock,h1,h3,h2⟩)
def Zr {P:Program} {o:Oper} {a:Act} {w w':World} {v:Value} {b:Act→World→Prop} {Q:Exit→Act→World→Prop}
  (c:(execOp a.eval o).run P w = .ok (.value v) w') (h:b (a.put o.dst v) w'):o.wp P a w b Q:=by
 unfold Oper.wp;rw [c];exact h
def ZH {c:Ctx} {b:Option Tmp} {a:Nat→AV} {x:AV} {e:Array Value} {v:Value} {w:World} {lim:Nat→Nat} {X:Nat→Nat→Option Nat} {k:Nat}
  (h:Sim c a e w lim X) (f:x.plain=Xc) (g:Z2 c.P w lim X a k x v):Zmo c b a x e v w:=by
 cases b with
 | none => exact ⟨lim, X, h⟩
 | some d => exact fun i j => ⟨lim, _, h.put i (Z3 j) f g⟩
def Zaj {w:World} {lim:Nat→Nat} {v:Value} {c:AV} (h:Zs4 v=Xa c):c.isCell=Xc∧Rep w lim c v:=by
 unfold Zs4 at h;split at h<;>simp at h<;>subst h
 ·exact ⟨rfl,.sliceN⟩
 ·exact ⟨rfl,.val rfl⟩
 ·exact ⟨rfl,.val rfl⟩
 ·exact ⟨rfl,.val rfl⟩
def Zan {w:World} {lim:Nat→Nat} : ∀ {vs:List Value} {cs:List AV},ZaL vs=Xa cs→cs.length=vs.length∧(∀ c∈cs,c.isCell=Xc)∧
  ∀ (i:Nat) (c:AV) (v:Value),cs[i]? = Xa c→vs[i]? = Xa v→Rep w lim c v
 | [], cs, h => by
  simp [ZaL] at h;subst h;simp
 | v :: vs, cs, h => by
  simp only [ZaL] at h;split at h
  ·rename_i c f e b;simp at h;subst h;obtain ⟨g,j,k⟩:=Zan (w:=w) (lim:=lim) b;refine ⟨by simp [g],fun x a=>?_,fun i x u a d=>?_⟩
   ·rcases Xr.1 a with rfl | a
    ·exact (Zaj (w:=w) (lim:=lim) e).1
    ·exact j x a
   ·cases i with
    | zero => simp at a d; subst a; subst d; exact (Zaj e).2
    | succ i => exact k i x u (by simpa using a) (by simpa using d)
  ·simp at h
def ZoY {P:Program} {w:World} {lim:Nat→Nat} {X:Nat→Nat→Option Nat} {σ:Nat→AV} {k:Nat} (v:Value) :
  (ZqP v).plain=Xc∧Z2 P w lim X σ k (ZqP v) v:=by
 unfold ZqP;split
 ·rename_i cs;split
  ·rename_i l d;obtain ⟨b,a,e⟩:=Zan (w:=w) (lim:=lim) d;refine ⟨rfl,?_⟩;have:cs=cs.toList.toArray:=by simp
   show Rep w lim (.agg l) (.agg cs);rw [this];exact .agg b a e
  ·exact ⟨rfl,trivial⟩
 ·split
  ·rename_i c f;obtain ⟨b,a⟩:=Zaj (w:=w) (lim:=lim) f
   cases c<;>simp [AV.isCell] at b
   ·exact ⟨rfl,a⟩
   ·exact ⟨rfl,a⟩
  ·exact ⟨rfl,trivial⟩
def Kz {c:Ctx} {σ:Nat→AV} {i:Array Value} {w:World} {lim:Nat→Nat} {X:Nat→Nat→Option Nat} (h:Sim c σ i w lim X) (x:Operand) (k:Nat) :
  (getS c.P σ x).plain=Xc∧Z2 c.P w lim X σ k (getS c.P σ x) (Act.eval ⟨i,[]⟩ x):=by
 cases x with
 | tmp t =>
  have a:=h.rel t;have j:Act.eval ⟨i,[]⟩ (.tmp t)=i.getD t undef:=rfl;rw [j]
  cases hs:σ t with
  | box cs =>
   rw [hs] at a;obtain ⟨b,arr,ty,l,m,_⟩:=(show ZK c.P w lim (X t) cs (i.getD t undef) from a);simp only [getS,hs];exact ⟨rfl,b,cs,l,hs,m⟩
  | mref d k => rw [hs] at a; simp only [getS, hs]; exact ⟨rfl, a⟩
  | eref d k o => rw [hs] at a; simp only [getS, hs]; exact ⟨rfl, a⟩
  | gbox cs => simp only [getS, hs]; exact ⟨rfl, trivial⟩
  | clo g ds => rw [hs] at a; simp only [getS, hs]; exact ⟨rfl, a⟩
  | own x e xs =>
   rw [hs] at a;simp only [getS,hs]
   cases x with
   | true => exact ⟨rfl, e, xs, by rw [hs]; rfl, Jt.sliceV a⟩
   | false => exact ⟨rfl, Jt.rep a Xb rfl⟩
  | tuple vs => simp only [getS, hs]; exact ⟨rfl, trivial⟩
  | aggo cs => simp only [getS, hs]; exact ⟨rfl, trivial⟩
  | dead => simp only [getS, hs]; exact ⟨rfl, trivial⟩
  | gone => simp only [getS, hs]; exact ⟨rfl, trivial⟩
  | ptr d off => rw [hs] at a; simp only [getS, hs]; exact ⟨rfl, a⟩
  | eptr cs => rw [hs] at a; simp only [getS, hs]; exact ⟨rfl, a⟩
  | val v => rw [hs] at a; simp only [getS, hs]; exact ⟨rfl, a⟩
  | agg cs => rw [hs] at a; simp only [getS, hs]; exact ⟨rfl, a⟩
  | slice f s xs => rw [hs] at a; simp only [getS, hs]; exact ⟨rfl, a⟩
 | const v => exact ZoY v
 | global g => exact ⟨rfl, trivial⟩
 | func f => exact ⟨rfl, [], rfl, rfl, by simp⟩
def ZA {o:Oper} {x:Operand} {t:Nat} (a:x∈o.op.operands) (b:Z8 x=Xa t):t∈Vh o:=
 List.mem_filterMap.2 ⟨x,by simpa using a,b⟩
def ZL {P:Program} {σ a:Nat→AV} {x:Operand} (h:∀ t,Z8 x=Xa t→Zd9 (σ t) (a t)):getS P a x=getS P σ x:=by
 cases x with
 | tmp t =>
  rcases h t rfl with h1 | ⟨⟨cs,h1⟩,cs',h3⟩
  ·simp only [getS,h1]
  ·simp only [getS,h1,h3]
 | const v => rfl
 | global g => rfl
 | func f => rfl
def ZD {P:Program} {o:Oper} {σ:Nat→AV} {x:AV} (i:List Nat) (m:x.plain=Xc)
  (h:∀ (c:Ctx),c.P=P→∀ (a:Nat→AV) (e:Array Value) (w:World) (lim:Nat→Nat) (X:Nat→Nat→Option Nat),
   (∀ y∈o.op.operands,getS P a y=getS P σ y)→(∀ d∈i,a d=σ d)→Sim c a e w lim X→
   ∃ v,(execOp (Act.eval ⟨e,[]⟩) o).run P w = .ok (.value v) w∧Z2 P w lim X a 0 x v):J3 P o σ x [] i:=by
 intro c j a e w lim X f g b l Q n;obtain ⟨v,p,q⟩:=h c j a e w lim X (fun y r=>ZL fun t s=>f t (by simp [ZA r s])) (fun d u=>g d (by simp [u])) b;exact Zr p (n v w (ZH b m (k:=0) (by rw [j];exact q)))
def VQ {w:World} {lim:Nat→Nat} {u v:Value} (h:Rep w lim (.val u) v):v=u:=by cases h;rfl
def ZfQ {P:Program} {o:Oper} {σ:Nat→AV} {x:Operand} (a:o.op = .move x∨o.op = .assign x):J3 P o σ (getS P σ x) [] []:=by
 have d:x∈o.op.operands:=by rcases a with a | a<;>rw [a]<;>simp [Op.operands]
 intro c g e l w lim X f m b h Q n;have p:getS P e x=getS P σ x:=ZL fun t q=>f t (by simp [ZA d q]);obtain ⟨i,j⟩:=Kz b x 0;rw [g,p] at i j;refine Zr (v:=Act.eval ⟨l,[]⟩ x) ?_ (n _ w (ZH b i (k:=0) (by rw [g];exact j)));rcases a with a | a<;>simp [execOp,a]
def YU {P:Program} {c:Ctx} (d:c.P=P) {σ a:Nat→AV} {b:Array Value} {w:World} {lim:Nat→Nat} {X:Nat→Nat→Option Nat} (h:Sim c a b w lim X) {x:Operand} {y:AV}
  (e:getS P σ x=y) (f:getS P a x=getS P σ x):Z2 P w lim X a 0 y (Act.eval ⟨b,[]⟩ x):=by
 have:=(Kz h x 0).2;rw [d,f,e] at this;exact this
def Jq {P:Program} {c:Ctx} (d:c.P=P) {σ a:Nat→AV} {b:Array Value} {w:World} {lim:Nat→Nat} {X:Nat→Nat→Option Nat} (h:Sim c a b w lim X) {x:Operand} {u:Value}
  (e:getS P σ x = .val u) (f:getS P a x=getS P σ x):Act.eval ⟨b,[]⟩ x=u:=VQ (YU d h e f)
def Zm1 {P:Program} {o:Oper} {σ:Nat→AV} {l a b:Operand} {v:Bool} (m:o.op = .pick l a b) (x:getS P σ l = .val (.bool v)) :
  J3 P o σ (if v=Xc then getS P σ a else getS P σ b) [] []:=by
 intro c e n q w lim X p z d r Q s;have f:∀ y∈o.op.operands,getS P n y=getS P σ y:=fun y A=>ZL fun t C=>p t (by simp [ZA A C]);rw [m] at f;simp only [Op.operands] at f;have u:=Jq e d x (f l (by simp));obtain ⟨g,h⟩:=Kz d a 0;obtain ⟨i,j⟩:=Kz d b 0;rw [e,f a (by simp)] at g h;rw [e,f b (by simp)] at i j
 cases v with
 | true =>
  refine Zr (v:=Act.eval ⟨q,[]⟩ a) ?_ (s _ w (ZH d g (k:=0) (by rw [e];exact h)));simp [execOp,m,u,asBool]
 | false =>
  refine Zr (v:=Act.eval ⟨q,[]⟩ b) ?_ (s _ w (ZH d i (k:=0) (by rw [e];exact j)));simp [execOp,m,u,asBool]
def JC {P:Program} {o:Oper} {σ:Nat→AV} {v:Value} (d:Zdn v=Xc)
  (h:∀ (a:Act) (w:World),(∀ y∈o.op.operands,∀ u,getS P σ y = .val u→a.eval y=u)→(execOp a.eval o).run P w = .ok (.value v) w):J3 P o σ (.val v) [] []:=by
 refine ZD [] rfl fun c e f g w lim X i _ b=>⟨v,h ⟨g,[]⟩ w fun y j u k=>Jq e b k (i y j),.val d⟩
def ZsL:BinOp→Option IOp
 | .add => Xa .add
 | .sub => Xa .sub
 | .mul => Xa .mul
 | .quo => Xa .quo
 | .rem => Xa .rem
 | .and => Xa .and
 | .or => Xa .or
 | .xor => Xa .xor
 | .andNot => Xa .andNot
 | _ => Xe
def ZpC {P:Program} {o:Oper} {σ:Nat→AV} {op:BinOp} {i:IOp} {T T':TypeId} {x y:Operand} {k:IntKind} {a b:Int} (c:o.op = .binOp op T x y T')
  (d:ZsL op=Xa i) (e:getS P σ x = .val (.int k a)) (f:getS P σ y = .val (.int k b)) (g:i = .quo∨i = .rem→b≠0):J3 P o σ (.val (.int k (P1 i k a b))) [] []:=by
 refine JC rfl fun n w h=>?_;rw [c] at h;simp only [Op.operands] at h;have j:=h x (by simp) _ e;have l:=h y (by simp) _ f
 cases op<;>simp [ZsL] at d<;>subst d <;>
  simp [execOp,c,j,l,eqGuard,binOp,Op.intArith,Op.intDiv,Op.intBits,P1]<;>exact fun m=>(g (by simp) m).elim
def ZqD:BinOp→Option COp
 | .eql => Xa .eql
 | .neq => Xa .neq
 | .lss => Xa .lss
 | .leq => Xa .leq
 | .gtr => Xa .gtr
 | .geq => Xa .geq
 | _ => Xe
def Zou {P:Program} {o:Oper} {σ:Nat→AV} {op:BinOp} {i:COp} {T T':TypeId} {x y:Operand} {k:IntKind} {a b:Int} (c:o.op = .binOp op T x y T')
  (d:ZqD op=Xa i) (e:getS P σ x = .val (.int k a)) (f:getS P σ y = .val (.int k b)):J3 P o σ (.val (.bool (P0 i a b))) [] []:=by
 refine JC rfl fun l w h=>?_;rw [c] at h;simp only [Op.operands] at h;have g:=h x (by simp) _ e;have j:=h y (by simp) _ f
 cases op<;>simp [ZqD] at d<;>subst d <;>
  simp [execOp,c,g,j,eqGuard,binOp,Op.intCmp,P0]
def ZdF {P:Program} {o:Oper} {σ:Nat→AV} {op:BinOp} {i:IOp} {T T':TypeId} {x y:Operand} {k d:IntKind} {a b:Int} (c:o.op = .binOp op T x y T')
  (e:(op = .shl∧i = .shl)∨(op = .shr∧i = .shr)) (f:getS P σ x = .val (.int k a)) (g:getS P σ y = .val (.int d b)) (j:0≤b):J3 P o σ (.val (.int k (P1 i k a b))) [] []:=by
 refine JC rfl fun n w h=>?_;rw [c] at h;simp only [Op.operands] at h;have l:=h x (by simp) _ f;have m:=h y (by simp) _ g;rcases e with ⟨rfl,rfl⟩ | ⟨rfl,rfl⟩ <;> simp [execOp,c,l,m,eqGuard,binOp,Op.shift,P1,Int.not_lt.2 j]
def ZjE {P:Program} {o:Oper} {σ:Nat→AV} {op:BinOp} {T T':TypeId} {x y:Operand} {a b:ByteArray} (d:o.op = .binOp op T x y T')
  (c:op = .eql∨op = .neq) (e:getS P σ x = .val (.string a)) (f:getS P σ y = .val (.string b)) :
  J3 P o σ (.val (.bool (if op = .eql then a.toList == b.toList else !(a.toList == b.toList)))) [] []:=by
 refine JC rfl fun j w h=>?_;rw [d] at h;simp only [Op.operands] at h;have g:=h x (by simp) _ e;have i:=h y (by simp) _ f;rcases c with rfl | rfl<;>simp [execOp,d,g,i,eqGuard,binOp,Op.stringOp]
def Zf0 {P:Program} {o:Oper} {σ:Nat→AV} {op:BinOp} {T T':TypeId} {x y:Operand} {a b:Bool} (d:o.op = .binOp op T x y T') (e:P.underlying T=Xa .bool)
  (c:op = .eql∨op = .neq) (f:getS P σ x = .val (.bool a)) (g:getS P σ y = .val (.bool b)) :
  J3 P o σ (.val (.bool (if op = .eql then a == b else !(a == b)))) [] []:=by
 refine JC rfl fun l w h=>?_;rw [d] at h;simp only [Op.operands] at h;have i:=h x (by simp) _ f;have j:=h y (by simp) _ g;have k:(Op.equal T (.bool a) (.bool b)).run P w = .ok (a == b) w:=run_equalIn_bool' w 9999 T a b e;rcases c with rfl | rfl<;>simp [execOp,d,i,j,eqGuard,binOp,k]
def Zpa {P:Program} {o:Oper} {σ:Nat→AV} {T:TypeId} {x:Operand} {b:Bool} (a:o.op = .unOp .not T x) (c:getS P σ x = .val (.bool b)) :
  J3 P o σ (.val (.bool !b)) [] []:=by
 refine JC rfl fun e w h=>?_;rw [a] at h;simp only [Op.operands] at h;have d:=h x (by simp) _ c;simp [execOp,a,d,Op.unary]
def Zn0 {P:Program} {o:Oper} {σ:Nat→AV} {T:TypeId} {x:Operand} {k:IntKind} {n:Int} (a:o.op = .unOp .neg T x) (b:getS P σ x = .val (.int k n)) :
  J3 P o σ (.val (.int k (P1 .sub k 0 n))) [] []:=by
 refine JC rfl fun d w h=>?_;rw [a] at h;simp only [Op.operands] at h;have c:=h x (by simp) _ b;simp [execOp,a,c,Op.unary,Op.intArith,P1]
def Zkg {P:Program} {o:Oper} {σ:Nat→AV} {T:TypeId} {x:Operand} {k:IntKind} {n:Int} (a:o.op = .unOp .xor T x) (b:getS P σ x = .val (.int k n)) :
  J3 P o σ (.val (.int k (P1 .xor k (if k.signed=Xc then -1 else k.max) n))) [] []:=by
 refine JC rfl fun d w h=>?_;rw [a] at h;simp only [Op.operands] at h;have c:=h x (by simp) _ b;simp [execOp,a,c,Op.unary,Op.intBits,P1]
def ZkL {P:Program} {o:Oper} {σ:Nat→AV} {S T:TypeId} {x:Operand} {k c a:IntKind} {n:Int} (b:o.op = .convert S T x) (d:P.underlying S=Xa (.int c)) (e:P.underlying T=Xa (.int a))
  (f:getS P σ x = .val (.int k n)):J3 P o σ (.val (.int a (a.wrap n))) [] []:=by
 refine JC rfl fun i w h=>?_;rw [b] at h;simp only [Op.operands] at h;have g:=h x (by simp) _ f;simp [execOp,b,g,convert,run_underlying d,run_underlying e,Conv.intToInt]
def Zcg {P:Program} {o:Oper} {σ:Nat→AV} {cl:Call} {mn:Bool} {x y:Operand} {k:IntKind} {a b:Int} (f:o.op = .call cl) (d:cl.callee = .builtin (if mn=Xc then .min else .max))
  (e:cl.args.toList = [x,y]) (j:getS P σ x = .val (.int k a)) (l:getS P σ y = .val (.int k b)) :
  J3 P o σ (.val (.int k (P1 (if mn=Xc then .min else .max) k a b))) [] []:=by
 refine JC rfl fun m w h=>?_
 have c:cl.args = #[x,y]:=by
  apply XZ.1;rw [e]
 rw [f] at h;simp only [Op.operands,Call.operands,c,d] at h;have g:=h x (by simp) _ j;have i:=h y (by simp) _ l
 cases mn
 ·simp [execOp,f,d,resolve,c,g,i,invoke,builtin,Builtin.max_,Builtin.max2,P1];omega
 ·simp [execOp,f,d,resolve,c,g,i,invoke,builtin,Builtin.min_,Builtin.min2,P1];omega
def Yu (P:Program):AV→AV
 | .own _ e xs => .slice Xb (P.cellsOf e) xs
 | .gone => .slice Xc 0 []
 | x => x
def Zb2 (x:AV):Prop:=x.isCell=Xc∨(∃ b e xs,x = .own b e xs)∨x = .gone
def J1 (b o n:Nat):(⟨b,o,Xe⟩:Addr).add n=⟨b,o+n,Xe⟩:=by
 unfold Addr.add;split
 ·rename_i h;subst h;rfl
 ·rfl
def Zak {P:Program} {T:TypeId} {d:TypeDesc} (h:P.underlying T=Xa d):∃ i,P.info? T=Xa i:=by
 unfold Program.underlying at h;split at h
 ·rename_i a;exact ⟨_,a⟩
 ·rename_i i a;exact ⟨_,a⟩
 ·cases h
def ZF {P:Program} {T:TypeId} {i:TypeInfo} (h:P.info? T=Xa i):P.cellsOf T=i.size:=by simp [Program.cellsOf,h]
def Zt {P:Program} {T:TypeId} {i:TypeInfo} (h:P.info? T=Xa i) (w:World):(sizeOf T).run P w = .ok (P.cellsOf T) w:=by
 simp [sizeOf,typeInfo,h,ZF h]
def ZJ {P:Program} {T:TypeId} (h:P.cellsOf T≠0):∃ i,P.info? T=Xa i:=by
 cases hi:P.info? T with
 | none => simp [Program.cellsOf, hi] at h
 | some i => exact ⟨i, rfl⟩
def ZaA {P:Program} {T:TypeId} (h:JU P T=Xa Xc) (w:World):(isAgg T).run P w = .ok Xc w:=by
 unfold JU at h;split at h<;>simp at h
 ·rename_i a;simp [isAgg,run_underlying a]
 ·rename_i a;simp [isAgg,run_underlying a]
def KY {P:Program} {T:TypeId} (h:JU P T=Xa Xb) (w:World):(isAgg T).run P w = .ok Xb w:=by
 unfold JU at h;split at h<;>simp at h;rename_i d b c a;simp only [isAgg,Sem.run_bind,run_underlying a,Result.andThen_ok];rfl
def Zec {P:Program} {T:TypeId} {b:Bool} (h:JU P T=Xa b):∃ i,P.info? T=Xa i:=by
 unfold JU at h;split at h<;>simp at h<;>(rename_i a;exact Zak a)
def Yn.strip {P:Program} {w:World} {lim:Nat→Nat} {ob:Option Nat} {x:AV} {v:Value} (h:Yn P w lim ob x v) (a:Zb2 x) (c:∀ e xs,x≠.own Xc e xs) (d:x≠.gone) :
  (Yu P x).isCell=Xc∧Rep w lim (Yu P x) v:=by
 rcases a with a | ⟨b,e,xs,rfl⟩ | rfl
 ·cases x<;>simp [AV.isCell] at a
  ·exact ⟨rfl,h⟩
  ·exact ⟨rfl,h⟩
 ·cases b with
  | true => exact (c e xs rfl).elim
  | false => exact ⟨rfl, Jt.rep h Xb rfl⟩
 ·exact (d rfl).elim
def Je {w:World} {b o:Nat} {arr:Array Value} {t:TypeId} {a:Nat×Nat} (h:w.heap[b]? = Xa (.cells arr t a)):w.cell? ⟨b,o,Xe⟩=arr[o]?:=by
 simp [World.cell?,h]
def ZK.part {P:Program} {w:World} {lim:Nat→Nat} {X:Nat→Option Nat} {cs:List AV} {v:Value} (h:ZK P w lim X cs v) (off n:Nat) (C:off+n≤cs.length) (o:ZcG ((cs.drop off).take n)) (g:Whole ((cs.drop off).take n)) :
  ∃ (b:Nat) (us:List Value),X 0=Xa b∧v = .pointer (Xa ⟨b,0,Xe⟩)∧us.length=n∧(∀ (j:Nat) (u:Value),us[j]? = Xa u→w.cell? ⟨b,off+j,Xe⟩=Xa u)∧
   (∀ c∈((cs.drop off).take n).map (Yu P),c.isCell=Xc)∧
   ∀ (i:Nat) (c:AV) (u:Value),(((cs.drop off).take n).map (Yu P))[i]? = Xa c→us[i]? = Xa u→Rep w lim c u:=by
 obtain ⟨b,arr,t,r,s,y,z,D,q,A⟩:=h;refine ⟨b,(arr.toList.drop off).take n,r,s,by simp [z];omega,fun j u l=>?_,fun c a=>?_,fun i c u a m=>?_⟩
 ·rw [Je y];rw [XI] at l;split at l
  ·simpa using l
  ·cases l
 ·obtain ⟨x,d,rfl⟩:=Xs.1 a;have p:x∈cs:=XR (XL d);rcases q x p with h | ⟨b,e,xs,rfl⟩ | rfl
  ·cases x<;>simp [AV.isCell] at h<;>rfl
  ·rfl
  ·exact (g _ d rfl).elim
 ·rw [Xp,XI] at a;rw [XI] at m;split at a
  ·rename_i f;rw [P4 f] at m;simp only [X4] at a m
   cases d:cs[off+i]? with
   | none => simp [d] at a
   | some x =>
    simp [d] at a;subst a;have k:x∈cs:=Xo d;exact ((A (off+i) x u d (by simpa using m)).strip (q x k) (o x (Xo (i:=i) (by rw [XI,P4 f,X4];exact d))) (g x (Xo (i:=i) (by rw [XI,P4 f,X4];exact d)))).2
  ·simp at a
def VS {c:Ctx} {σ:Nat→AV} {g:Array Value} {w:World} {lim:Nat→Nat} {X:Nat→Nat→Option Nat} (h:Sim c σ g w lim X) {d off k:Nat} {cs:List AV} {v:Value}
  (j:σ d = .box cs) (l:Z2 c.P w lim X σ k (.ptr d off) v):∃ b,X d 0=Xa b∧v = .pointer (Xa ⟨b,off,Xe⟩)∧ZK c.P w lim (X d) cs (.pointer (Xa ⟨b,0,Xe⟩)):=by
 obtain ⟨b,m,e,q,n⟩:=l;have i:=h.rel d;rw [j] at i;have a:ZK c.P w lim (X d) cs (g.getD d undef):=i;have f:=a;obtain ⟨b',arr,t,o,p,_⟩:=f;have:b'=b:=by rw [o] at e;exact Uo e
 subst this;refine ⟨b',e,n,?_⟩;rw [p] at a;exact a
def WG {P:Program} {T:TypeId} {w:World} {b off:Nat} {us:List Value} (a:JU P T=Xa Xc) (d:us.length=P.cellsOf T)
  (e:∀ (j:Nat) (u:Value),us[j]? = Xa u→w.cell? ⟨b,off+j,Xe⟩=Xa u):(Instr.loadAt T (.pointer (Xa ⟨b,off,Xe⟩))).run P w = .ok (.agg us.toArray) w:=by
 obtain ⟨i,f⟩:=Zec a;have c:=run_loadCells_list (P:=P) w ⟨b,off,Xe⟩ us (fun j v g=>by rw [J1];exact e j v g);rw [d] at c;simp [Instr.loadAt,Instr.sureAddr,loadVar,ZaA a,Zt f,c]
def Ye {P:Program} {T:TypeId} {w:World} {b off:Nat} {u:Value} (a:JU P T=Xa Xb)
  (c:w.cell? ⟨b,off,Xe⟩=Xa u):(Instr.loadAt T (.pointer (Xa ⟨b,off,Xe⟩))).run P w = .ok u w:=by
 simp [Instr.loadAt,Instr.sureAddr,loadVar,KY a,c]
def VV {P:Program} {w:World} {lim:Nat→Nat} {X:Nat→Nat→Option Nat} {σ:Nat→AV} {k:Nat} {x:AV} {v:Value} (a:x.isCell=Xc) (h:Rep w lim x v) :
  x.plain=Xc∧Z2 P w lim X σ k x v:=by
 cases x<;>simp [AV.isCell] at a
 ·exact ⟨rfl,h⟩
 ·exact ⟨rfl,h⟩
def WO {P:Program} {o:Oper} {σ:Nat→AV} {T:TypeId} {a:Operand} {d off:Nat} {cs:List AV} (l:o.op = .load T a) (q:JU P T=Xa Xc)
  (r:getS P σ a = .ptr d off) (s:σ d = .box cs) (t:off+P.cellsOf T≤cs.length) (f:ZcG ((cs.drop off).take (P.cellsOf T))) (g:Whole ((cs.drop off).take (P.cellsOf T))):J3 P o σ (.agg (((cs.drop off).take (P.cellsOf T)).map (Yu P))) [] [d]:=by
 refine ZD [d] rfl fun c h i y w lim X m j e=>?_;rw [l] at m;have n:=YU h e r (m a (by simp [Op.operands]));have k:i d = .box cs:=by rw [j d (by simp),s]
 rw [← h] at n;obtain ⟨b,p,u,v⟩:=VS e k n;obtain ⟨b',us,x,z,g3,g4,g5,g6⟩:=v.part off (P.cellsOf T) t f g;have:b'=b:=by rw [x] at p;exact Uo p
 subst this;refine ⟨.agg us.toArray,?_,?_⟩
 ·simp [execOp,l,u,WG q g3 g4]
 ·rw [h] at g5 g6;exact .agg (by simp [g3];omega) g5 g6
def KH {P:Program} {o:Oper} {σ:Nat→AV} {T:TypeId} {a:Operand} {d off:Nat} {cs:List AV} {x:AV} (A:o.op = .load T a) (J:JU P T=Xa Xb)
  (L:getS P σ a = .ptr d off) (M:σ d = .box cs) (C:cs[off]? = Xa x) (n:∀ e xs,x≠.own Xc e xs) (p:x≠.gone):J3 P o σ (Yu P x) [] [d]:=by
 intro c m h tm w lim X q r f D Q N;have O:getS P h a=getS P σ a:=ZL fun t R=>q t (by simp [ZA (o:=o) (x:=a) (by rw [A];simp [Op.operands]) R]);have E:=YU m f L O;have s:h d = .box cs:=by rw [r d (by simp),M]
 rw [← m] at E;obtain ⟨b,G,S,U⟩:=VS f s E;have W:off < cs.length:=(Xx.1 C).1
 have i:(cs.drop off).take 1 = [x]:=by
  rw [List.take_one,List.head?_drop,C];rfl
 obtain ⟨b',us,Y,g2,g3,g4,g5,g6⟩:=U.part off 1 (by omega) (by
  rw [i];intro y z e xs H;rw [XF.1 z] at H
  exact n e xs H) (by
  rw [i];intro y z;rw [XF.1 z];exact p)
 have:b'=b:=by rw [Y] at G;exact Uo G
 subst this;obtain ⟨u,rfl⟩:∃ u,us = [u]:=List.length_eq_one_iff.1 g3;have g:=g4 0 u rfl;rw [UN] at g
 have Z:((cs.drop off).take 1).map (Yu c.P) = [Yu c.P x]:=by
  rw [i];rfl
 rw [Z] at g5 g6;have j:=g5 (Yu c.P x) (by simp);have l:=g6 0 (Yu c.P x) u rfl rfl;rw [m] at j l;obtain ⟨p1,p2⟩:=VV (P:=P) (X:=X) (σ:=h) (k:=0) j l;refine Zr (v:=u) ?_ (N u w (ZH f p1 (k:=0) (by rw [m];exact p2)));simp [execOp,A,S,Ye J g]
def Zi6 {T:Odr} {σ b:Nat→AV} {d j:Nat} {cs:List AV} {x:AV} (f:T.rel σ b) (g:σ d = .box cs) (e:T.kp d j=Xc) (i:cs[j]? = Xa x):∃ a,b d = .box a∧a[j]? = Xa x:=by
 cases T with
 | text => cases e
 | any N M K =>
  have h:=f.2 d j e;rw [g] at h;have c:Js (b d) j=Xa x:=h.trans i;unfold Js at c;split at c
  ·rename_i a k;exact ⟨a,k,c⟩
  ·cases c
def ZgI {T':Odr} {P:Program} {o:Oper} {σ:Nat→AV} {x:AV} {d:Nat} {cs:List AV} (y:σ d = .box cs)
  (h:∀ a,T'.rel σ a→∃ e,a d = .box e∧∀ f,(∀ i,i≠d→f i=σ i)→f d = .box e→J3 P o f x [] [d]):Vr T' P o σ x [] []:=by
 intro c n a p w lim X l q g j k Q r;obtain ⟨e,s,u⟩:=h a g;refine u (fun i=>if i=d then a d else σ i) (fun i v=>P3 v) (by simp [s]) c n a p w lim X (fun t m=>?_) (fun t m=>?_) j k Q r
 ·by_cases b:t=d
  ·subst b;simp only [if_true];exact .inl rfl
  ·simp only [P3 b];exact l t m
 ·have b:t=d:=by simpa using m
  subst b;simp
def Zf2 {P:Program} {σ b:Nat→AV} {d:Nat} {cs c:List AV} (e:σ d = .box cs) (f:∀ i,i≠d→b i=σ i) (g:b d = .box c) (a:Operand):getS P b a=getS P σ a:=
 ZL fun t _=>by
  by_cases htd:t=d
  ·subst htd;exact .inr ⟨⟨cs,e⟩,⟨c,g⟩⟩
  ·exact .inl (f t htd)
def W6 {T':Odr} {P:Program} {o:Oper} {σ:Nat→AV} {T:TypeId} {a:Operand} {d off:Nat} {cs:List AV} (r:o.op = .load T a) (s:JU P T=Xa Xc)
  (t:getS P σ a = .ptr d off) (m:σ d = .box cs) (C:off+P.cellsOf T≤cs.length) (e:ZcG ((cs.drop off).take (P.cellsOf T))) (f:Whole ((cs.drop off).take (P.cellsOf T))) (D:P.cellsOf T≠0) (u:∀ j,j < P.cellsOf T→T'.kp d (off+j)=Xc) :
  Vr T' P o σ (.agg (((cs.drop off).take (P.cellsOf T)).map (Yu P))) [] []:=by
 refine ZgI m fun n g=>?_
 have h:∀ j,j < P.cellsOf T→∃ b,n d = .box b∧b[off+j]? = cs[off+j]?:=fun j i=>by
  obtain ⟨b,l,v⟩:=Zi6 g m (u j i) (Xm (show off+j < cs.length by omega));exact ⟨b,l,v.trans (Xm (by omega)).symm⟩
 obtain ⟨b,l,_⟩:=h 0 (by omega)
 have c:∀ j,j < P.cellsOf T→b[off+j]? = cs[off+j]?:=fun j i=>by
  obtain ⟨w,p,x⟩:=h j i;rw [l] at p
  cases p
  exact x
 have k:off+P.cellsOf T≤b.length:=by
  have:=c (P.cellsOf T-1) (by omega);rw [Xm (show off+(P.cellsOf T-1) < cs.length by omega)] at this;have:=(Xx.1 this).1;omega
 have y:(b.drop off).take (P.cellsOf T)=(cs.drop off).take (P.cellsOf T):=by
  apply UO;intro j;rw [XI,XI];split
  ·rename_i i;rw [X4,X4];exact c j i
  ·rfl
 refine ⟨b,l,fun z A q=>?_⟩;rw [← y] at e f ⊢;exact WO r s ((Zf2 m A q a).trans t) q k e f
def Ws {T':Odr} {P:Program} {o:Oper} {σ:Nat→AV} {T:TypeId} {a:Operand} {d off:Nat} {cs:List AV} {x:AV} (j:o.op = .load T a) (k:JU P T=Xa Xb)
  (l:getS P σ a = .ptr d off) (c:σ d = .box cs) (m:cs[off]? = Xa x) (f:∀ e xs,x≠.own Xc e xs) (g:x≠.gone) (n:T'.kp d off=Xc):Vr T' P o σ (Yu P x) [] []:=by
 refine ZgI c fun p b=>?_;obtain ⟨h,q,r⟩:=Zi6 b c n m;exact ⟨h,q,fun s t i=>KH j k ((Zf2 c t i a).trans l) i r f g⟩
def ZaB {P:Program} {w:World} {lim:Nat→Nat} {X:Nat→Nat→Option Nat} {σ:Nat→AV} {k:Nat} {cs:List AV} {v:Value} (h:Z2 P w lim X σ k (.eptr cs) v) :
  ∃ (b o:Nat) (us:List Value),v = .pointer (Xa ⟨b,o,Xe⟩)∧us.length=cs.length∧(us≠[]→o+us.length≤lim b)∧
   (∀ (j:Nat) (u:Value),us[j]? = Xa u→w.cell? ⟨b,o+j,Xe⟩=Xa u)∧(∀ c∈cs,c.isCell=Xc)∧
   ∀ (j:Nat) (c:AV) (u:Value),cs[j]? = Xa c→us[j]? = Xa u→Rep w lim c u:=h
def Zdc {P:Program} {o:Oper} {σ:Nat→AV} {T:TypeId} {a:Operand} {cs:List AV} (k:o.op = .load T a) (n:JU P T=Xa Xc)
  (p:getS P σ a = .eptr cs) (A:P.cellsOf T≤cs.length):J3 P o σ (.agg (cs.take (P.cellsOf T))) [] []:=by
 refine ZD [] rfl fun c q r C w lim X l s e=>?_;rw [k] at l;obtain ⟨b,off,us,t,m,D,v,y,z⟩:=ZaB (YU q e p (l a (by simp [Op.operands])));refine ⟨.agg (us.take (P.cellsOf T)).toArray,?_,?_⟩
 ·have:=WG (w:=w) (b:=b) (off:=off) (us:=us.take (P.cellsOf T)) n (by simp [m];omega) (fun j u f=>v j u (by
   rw [XI] at f;split at f
   ·exact f
   ·cases f))
  simp [execOp,k,t,this]
 ·refine .agg (by simp [m]) (fun x d=>y x (XL d)) fun i x u d g=>?_;rw [XI] at d g;split at d
  ·rename_i h;rw [P4 h] at g;exact z i x u d g
  ·cases d
def Zcm {P:Program} {o:Oper} {σ:Nat→AV} {T:TypeId} {a:Operand} {x:AV} {cs:List AV} (i:o.op = .load T a) (m:JU P T=Xa Xb)
  (n:getS P σ a = .eptr (x::cs)):J3 P o σ x [] []:=by
 intro c j g H w lim X h p f l Q q;have r:getS P g a=getS P σ a:=ZL fun t s=>h t (by simp [ZA (o:=o) (x:=a) (by rw [i];simp [Op.operands]) s]);obtain ⟨b,off,us,y,z,J,A,C,D⟩:=ZaB (YU j f n r)
 obtain ⟨u,e,rfl⟩:∃ u e,us=u::e:=by
  cases us with
  | nil => simp at z
  | cons u e => exact ⟨u, e, rfl⟩
 have d:=A 0 u rfl;rw [UN] at d;obtain ⟨E,G⟩:=VV (P:=P) (X:=X) (σ:=g) (k:=0) (C x (by simp)) (D 0 x u rfl rfl);refine Zr (v:=u) ?_ (q u w (ZH f E (k:=0) (by rw [j];exact G)));simp [execOp,i,y,Ye m d]
def Zag {P:Program} {T:TypeId} {f off:Nat} (h:Yo P T f=Xa off) :
  ∃ b a,P.underlying T=Xa (.struct b)∧b[f]? = Xa a∧a.offset=off∧P.cellsOf a.type≠0:=by
 unfold Yo at h;split at h
 ·rename_i b c;split at h
  ·rename_i a d;split at h
   ·cases h
   ·rename_i e;exact ⟨b,a,c,d,by simpa using h,e⟩
  ·cases h
 ·cases h
def WH {P:Program} {T:TypeId} {f off b o:Nat} (h:Yo P T f=Xa off) (w:World) :
  (Instr.fieldAt T (.pointer (Xa ⟨b,o,Xe⟩)) f).run P w = .ok (.pointer (Xa ⟨b,o+off,Xe⟩)) w:=by
 obtain ⟨j,k,c,d,e,a⟩:=Zag h;obtain ⟨i,g⟩:=ZJ a;simp [Instr.fieldAt,run_underlying c,d,Instr.sureAddr,fieldPlace,Zt g,a,J1,e]
def Zc7 {P:Program} {o:Oper} {σ:Nat→AV} {T:TypeId} {x:Operand} {f off d p:Nat} (e:o.op = .fieldAddr T x f) (h:Yo P T f=Xa off)
  (i:getS P σ x = .ptr d p):J3 P o σ (.ptr d (p+off)) [] []:=by
 refine ZD [] rfl fun c j k r w lim X g l a=>?_;rw [e] at g;obtain ⟨b,cs,m,n,q⟩:=YU j a i (g x (by simp [Op.operands]));exact ⟨.pointer (Xa ⟨b,p+off,Xe⟩),by simp [execOp,e,q,WH h],b,cs,m,n,rfl⟩
def ZbM {P:Program} {o:Oper} {σ:Nat→AV} {T e:TypeId} {x:Operand} {f off d k p:Nat} {xs:List (List AV)} (j:o.op = .fieldAddr T x f) (r:Yo P T f=Xa off)
  (s:getS P σ x = .eref d k p) (t:Zy (σ d) k=Xa (e,xs)) (l:Zv P e=Xb):J3 P o σ (.eref d k (p+off)) [] [d]:=by
 refine ZD [d] rfl fun c u g z w lim X m h a=>?_;rw [j] at m;obtain ⟨b,e',xs',n,v,y⟩:=YU u a s (m x (by simp [Op.operands]));have i:Zy (g d) k=Xa (e,xs):=by rw [h d (by simp),t]
 have q:=n.symm.trans i;simp only [Xf,Xw] at q;obtain ⟨rfl,rfl⟩:=q;exact ⟨.pointer (Xa ⟨b,p+off,Xe⟩),by simp [execOp,j,y.ptr l,WH r],b,_,_,n,v,.inl ⟨l,rfl⟩⟩
def Zcv {P:Program} {o:Oper} {σ:Nat→AV} {T:TypeId} {x:Operand} {f off:Nat} {cs:List AV} (i:o.op = .fieldAddr T x f) (n:Yo P T f=Xa off)
  (q:getS P σ x = .eptr cs):J3 P o σ (.eptr (cs.drop off)) [] []:=by
 refine ZD [] rfl fun c r s H w lim X k t a=>?_;rw [i] at k;obtain ⟨b,p,us,v,z,A,C,D,E⟩:=ZaB (YU r a q (k x (by simp [Op.operands])));refine ⟨.pointer (Xa ⟨b,p+off,Xe⟩),by simp [execOp,i,v,WH n],b,p+off,us.drop off,rfl,by simp [z],fun g=>?_,fun j u l=>?_,fun y d=>D y (XR d),fun j y u d m=>?_⟩
 ·have G:off < us.length:=by
   rcases XS off us.length with h | h
   ·exact h
   ·exact (g (List.drop_eq_nil_of_le h)).elim
  have:=A (by intro e;subst e;simp at G);simp only [XV];omega
 ·rw [X4] at l;have:=C _ u l
  rwa [← Uy] at this
 ·rw [X4] at d m;exact E _ y u d m
def K0 {P:Program} {o:Oper} {σ:Nat→AV} {x:Operand} {y:AV} (m:o.op = .nilCheck x) (s:getS P σ x=y) {i:List Nat} (n:(∃ d p,y = .ptr d p)∨(∃ cs,y = .eptr cs)∨∃ d k p e xs,y = .eref d k p∧Zy (σ d) k=Xa (e,xs)∧Zv P e=Xb∧d∈i):J3 P o σ y [] i:=by
 have t:y.plain=Xc:=by rcases n with ⟨d,p,rfl⟩ | ⟨cs,rfl⟩ | ⟨d,k,p,e,xs,rfl,_⟩ <;> rfl
 refine ZD i t fun c u v q w lim X r j g=>?_;rw [m] at r;have h:=YU u g s (r x (by simp [Op.operands]));refine ⟨Act.eval ⟨q,[]⟩ x,?_,h⟩
 have:∃ a,Act.eval ⟨q,[]⟩ x = .pointer (Xa a):=by
  rcases n with ⟨d,p,rfl⟩ | ⟨cs,rfl⟩ | ⟨d,k,p,e,xs,rfl,hd,hm,hfd⟩
  ·obtain ⟨b,cs,f,z,l⟩:=h;exact ⟨_,l⟩
  ·obtain ⟨b,p,us,f,_⟩:=h;exact ⟨_,f⟩
  ·obtain ⟨b,e',xs',f,z,l⟩:=h;rw [j d (by simp [hfd]),hd] at f;simp only [Xf,Xw] at f;obtain ⟨rfl,rfl⟩:=f;exact ⟨_,l.ptr hm⟩
 obtain ⟨a,A⟩:=this;simp [execOp,m,A]
def Zdh {P:Program} {o:Oper} {σ:Nat→AV} {cl:Call} {x:Operand} {T e:TypeId} {f:Bool} {s:Nat} {xs:List (List AV)} (m:o.op = .call cl) (g:cl.callee = .builtin .len)
  (d:cl.args.toList = [x]) (k:cl.argTypes.toList = [T]) (p:P.underlying T=Xa (.slice e)) (q:getS P σ x = .slice f s xs):J3 P o σ (.val (.int .i64 xs.length)) [] []:=by
 have b:cl.args = #[x]:=by apply XZ.1;rw [d]
 have h:cl.argTypes = #[T]:=by apply XZ.1;rw [k]
 refine ZD [] rfl fun c r t l w lim X n v i=>⟨.int .i64 xs.length,?_,.val rfl⟩;rw [m] at n;have y:=YU r i q (n x (by simp [Op.operands,Call.operands,b,g]))
 have:∃ a cap,Act.eval ⟨l,[]⟩ x = .slice a xs.length cap:=by
  have j:Rep w lim (.slice f s xs) (Act.eval ⟨l,[]⟩ x):=y;generalize Act.eval ⟨l,[]⟩ x=u at j
  cases j with
  | sliceN => exact ⟨Xe, 0, rfl⟩
  | sliceE _ => exact ⟨_, _, rfl⟩
  | sliceC => exact ⟨_, _, rfl⟩
 obtain ⟨a,cap,z⟩:=this;simp [execOp,m,g,resolve,b,h,invoke,builtin,Builtin.len_,run_underlying p,z,goInt]
def Zf1 {P:Program} {o:Oper} {σ:Nat→AV} {cl:Call} {x:Operand} {T:TypeId} {s:ByteArray} (h:o.op = .call cl) (d:cl.callee = .builtin .len)
  (b:cl.args.toList = [x]) (g:cl.argTypes.toList = [T]) (j:P.underlying T=Xa .string) (k:getS P σ x = .val (.string s)):J3 P o σ (.val (.int .i64 s.size)) [] []:=by
 have a:cl.args = #[x]:=by apply XZ.1;rw [b]
 have e:cl.argTypes = #[T]:=by apply XZ.1;rw [g]
 refine ZD [] rfl fun c l m q w lim X i n f=>⟨.int .i64 s.size,?_,.val rfl⟩;rw [h] at i;have p:=Jq l f k (i x (by simp [Op.operands,Call.operands,a,d]));simp [execOp,h,d,resolve,a,e,invoke,builtin,Builtin.len_,run_underlying j,p,goInt]
def Vg (xs:List (List AV)) (s:Nat) (a:∀ x∈xs,x.length=s):∀ (n:Nat) (e:List AV),xs[n]? = Xa e→∀ j,j < s→xs.flatten[n*s+j]? = e[j]?:=by
 induction xs with
 | nil => intro n e h; simp at h
 | cons x xs ih =>
  intro n e h j c;have b:x.length=s:=a x (by simp)
  cases n with
  | zero =>
   simp at h;subst h;simp only [Un,Nat.zero_mul,XW];rw [XH (by omega)]
  | succ n =>
   simp only [Un];rw [XG (by rw [b,XY];omega)];have:(n+1)*s+j-x.length=n*s+j:=by rw [b,XY];omega
   rw [this];exact ih (fun y d=>a y (by simp [d])) n e (by simpa using h) j c
def Zgt {P:Program} {T:TypeId} {f off e:Nat} {agg:Bool} (h:Yo P T f=Xa off) (b:Zft P T f=Xa (agg,e)) :
  ∃ d c,P.underlying T=Xa (.struct d)∧d[f]? = Xa c∧c.offset=off∧JU P c.type=Xa agg∧P.cellsOf c.type=e:=by
 obtain ⟨d,c,g,i,j,k⟩:=Zag h;unfold Zft at b;simp only [g,i] at b
 cases ha:JU P c.type with
 | none => rw [ha] at b; simp at b
 | some a =>
  rw [ha] at b;simp only [XA,Xf,Xw] at b;exact ⟨d,c,g,i,j,by rw [ha,b.1],b.2⟩
def Zb4 {P:Program} {o:Oper} {σ:Nat→AV} {T:TypeId} {x:Operand} {f off d:Nat} {agg:Bool} {cs:List AV} {y:AV} (m:o.op = .field T x f) (C:Yo P T f=Xa off) (D:Zft P T f=Xa (agg,d))
  (E:getS P σ x = .agg cs) (U:off+d≤cs.length) (G:0 < d) (g:(agg=Xc∧y = .agg ((cs.drop off).take d))∨(agg=Xb∧cs[off]? = Xa y∧y.plain=Xc)):J3 P o σ y [] []:=by
 obtain ⟨W,H,p,q,r,s,J⟩:=Zgt C D
 have L:y.plain=Xc:=by
  rcases g with ⟨_,rfl⟩ | ⟨_,_,h⟩
  ·rfl
  ·exact h
 refine ZD [] L fun c M N t w lim X z O j=>?_;rw [m] at z;have A:Rep w lim (.agg cs) (Act.eval ⟨t,[]⟩ x):=YU M j E (z x (by simp [Op.operands]));generalize hu:Act.eval ⟨t,[]⟩ x=u at A
 cases A with
 | @agg _ vs hl' hcell hr =>
  obtain ⟨Q,k⟩:=ZJ (show P.cellsOf H.type≠0 by omega);rcases g with ⟨rfl,rfl⟩ | ⟨rfl,g,_⟩
  ·refine ⟨.agg (vs.toArray.extract off (off+d)),by simp [execOp,m,hu,Instr.field,run_underlying p,q,part,ZaA s,Zt k,r,J,asAgg],?_⟩
   have e:(vs.toArray.extract off (off+d))=((vs.drop off).take d).toArray:=by
    apply XZ.1;simp [List.take_drop]
   rw [e];refine Rep.agg (by simp;omega) (fun y g=>hcell y (XR (XL g))) fun i Y Z a b=>?_;rw [XI] at a b;split at a
   ·rename_i R;rw [P4 R] at b;rw [X4] at a b;exact hr _ _ _ a b
   ·cases a
  ·obtain ⟨v,l⟩:∃ v,vs[off]? = Xa v:=⟨_,Xm (by omega)⟩;refine ⟨v,by simp [execOp,m,hu,Instr.field,run_underlying p,q,part,KY s,r,asAgg,l],?_⟩;have S:=hr off y v g l;have n:=hcell y (Xo g)
   cases y<;>first | exact S | (simp [AV.isCell] at n)
def Wk {P:Program} {o:Oper} {σ:Nat→AV} {T f:TypeId} {x i:Operand} {m d p:Nat} {kd:IntKind} {z:Int} (k:o.op = .indexAddr T x i) (n:P.underlying T=Xa (.array m f)) (g:P.cellsOf f≠0)
  (q:getS P σ x = .ptr d p) (r:getS P σ i = .val (.int kd z)) (s:0≤z) (t:z < (m:Int)):J3 P o σ (.ptr d (p+z.toNat*P.cellsOf f)) [] []:=by
 refine ZD [] rfl fun c l u E w lim X h v a=>?_;rw [k] at h;obtain ⟨b,cs,y,A,g3⟩:=YU l a q (h x (by simp [Op.operands]));have j:=Jq l a r (h i (by simp [Op.operands]));obtain ⟨C,e⟩:=ZJ g;have D:0≤z∧z < (m:Int):=⟨s,t⟩;exact ⟨.pointer (Xa ⟨b,p+z.toNat*P.cellsOf f,Xe⟩),by simp [execOp,k,g3,j,Instr.indexAt,Instr.sureAddr,asIntOf,run_underlying n,D,Zt e,J1],b,cs,y,A,rfl⟩
def Zkl {P:Program} {o:Oper} {σ:Nat→AV} {T a:TypeId} {x i:Operand} {f:Bool} {s:Nat} {xs:List (List AV)} {k:IntKind} {n:Int} {e:List AV} (D:o.op = .indexAddr T x i)
  (L:P.underlying T=Xa (.slice a)) (M:s=P.cellsOf a) (v:P.cellsOf a≠0) (N:getS P σ x = .slice f s xs) (O:getS P σ i = .val (.int k n)) (Q:0≤n) (t:xs[n.toNat]? = Xa e) :
  J3 P o σ (.eptr e) [] []:=by
 refine ZD [] rfl fun c E R G w lim X z S g=>?_;rw [D] at z;have H:Rep w lim (.slice f s xs) (Act.eval ⟨G,[]⟩ x):=YU E g N (z x (by simp [Op.operands]));have A:=Jq E g O (z i (by simp [Op.operands]));generalize hu:Act.eval ⟨G,[]⟩ x=u at H;have l:n.toNat < xs.length:=(Xx.1 t).1
 cases H with
 | sliceN => simp at l
 | sliceE _ => simp at l
 | @sliceC _ _ _ b p cap us hls hc1 hf hle hlim hus hcell hrep =>
  subst M;obtain ⟨U,m⟩:=ZJ v;have C:e.length=P.cellsOf a:=hls e (Xo t)
  have J:n.toNat*P.cellsOf a+P.cellsOf a≤xs.length*P.cellsOf a:=by
   rw [← UY];exact XP _ l
  refine ⟨.pointer (Xa ⟨b,p+n.toNat*P.cellsOf a,Xe⟩),?_,b,p+n.toNat*P.cellsOf a,(us.drop (n.toNat*P.cellsOf a)).take (P.cellsOf a),rfl,?_,fun _=>?_,fun j w' q=>?_,hc1 e (Xo t),fun j y w' W d=>?_⟩
  ·have Y:0≤n∧n < (xs.length:Int):=⟨Q,by omega⟩;simp [execOp,D,hu,A,Instr.indexAt,asIntOf,run_underlying L,Y,Zt m,J1]
  ·simp [hus,C];omega
  ·have:=hlim (by intro h;rw [h] at hus;simp at hus;omega);simp only [Xu,XV,hus] at this ⊢;omega
  ·rw [XI] at q;split at q
   ·rw [X4] at q;have:=hcell _ w' q
    rwa [← Uy] at this
   ·cases q
  ·rw [XI] at d;split at d
   ·rename_i r;rw [X4] at d;exact hrep _ y w' (by rw [Vg xs _ hls n.toNat e t j r];exact W) d
   ·cases d
def KE (s:Nat):∀ (xs:List (List AV)) (l:Nat),(∀ x∈xs,x.length=s)→(xs.drop l).flatten=xs.flatten.drop (l*s)
 | xs, 0, _ => by simp
 | [], l + 1, _ => by simp
 | x :: xs, l + 1, h => by
  have a:=h x (by simp);have ih:=KE s xs l fun y b=>h y (by simp [b]);simp only [List.drop_succ_cons,Un,ih];have c:(l+1)*s=x.length+l*s:=by rw [a,XY];omega
  rw [c,← List.drop_drop];simp
def Ks (s:Nat):∀ (xs:List (List AV)) (l:Nat),(∀ x∈xs,x.length=s)→(xs.take l).flatten=xs.flatten.take (l*s)
 | xs, 0, _ => by simp
 | [], l + 1, _ => by simp
 | x :: xs, l + 1, h => by
  have a:=h x (by simp);have ih:=Ks s xs l fun y b=>h y (by simp [b]);simp only [List.take_succ_cons,Un,ih];have c:(l+1)*s=x.length+l*s:=by rw [a,XY];omega
  rw [c,List.take_length_add_append]
def ZrJ {w:World} {lim:Nat→Nat} {f f':Bool} {s:Nat} {xs:List (List AV)} {a:Option Addr} {n cap:Nat} (h:Rep w lim (.slice f s xs) (.slice a n cap)) (l d:Nat)
  (H:l≤d) (A:d≤xs.length) (r:f'=Xc→cap=d):n=xs.length∧xs.length≤cap∧
  Rep w lim (.slice f' s ((xs.take d).drop l)) (.slice (if cap=l then a else a.map (·.add (l*s))) (d-l) (cap-l)):=by
 cases h with
 | sliceN =>
  have k:d=0:=by simpa using A
  subst k;have m:l=0:=by omega
  subst m;exact ⟨rfl,Xt _,.sliceN⟩
 | @sliceE _ _ a _ hf =>
  have k:d=0:=by simpa using A
  subst k;have m:l=0:=by omega
  subst m;refine ⟨rfl,X7 _,?_⟩
  have p:(if cap=0 then Xa a else (Xa a).map (·.add (0*s)))=Xa a:=by
   split
   ·rfl
   ·simp [Addr.add]
  rw [p];exact .sliceE fun h=>by simpa using r h
 | @sliceC _ _ _ b o _ us hs hc hf hle hlim hus hcell hr =>
  refine ⟨rfl,hle,?_⟩;have g:((xs.take d).drop l).length=d-l:=by simp;omega
  have C:∀ e∈(xs.take d).drop l,e.length=s:=fun e p=>hs e (XL (XR p));have D:∀ e∈(xs.take d).drop l,∀ c∈e,c.isCell=Xc:=fun e p=>hc e (XL (XR p));rw [← g];by_cases hcl:cap=l
  ·have t:(xs.take d).drop l = []:=Uh (by rw [g];omega);rw [P4 hcl,t];exact .sliceC (xs:=[]) (us:=[]) (by simp) (by simp) (fun h=>by simp;omega) (by simp) (fun h=>(h rfl).elim) (by simp) (by simp) (by simp)
  ·rw [P3 hcl];simp only [XA,J1]
   have E:((xs.take d).drop l).flatten=(xs.flatten.take (d*s)).drop (l*s):=by
    rw [KE s _ l fun e p=>hs e (XL p),Ks s xs d hs]
   have J:l*s≤d*s:=XP _ H;have L:d*s≤xs.length*s:=XP _ A;refine .sliceC (us:=(us.take (d*s)).drop (l*s)) C D (fun h=>by rw [g,r h]) (by rw [g];omega) (fun v=>?_) ?_ (fun j u z=>?_) fun j c u i q=>?_
   ·have x:us≠[]:=by intro e;subst e;simp at v
    have:=hlim x;have y:0 < ((us.take (d*s)).drop (l*s)).length:=TB.2 v;simp only [XV,Xu] at y ⊢;omega
   ·rw [g,Nat.sub_mul];simp only [XV,Xu];omega
   ·rw [X4,XI] at z;split at z
    ·have:=hcell _ u z
     rwa [← Uy] at this
    ·cases z
   ·rw [E,X4,XI] at i;rw [X4,XI] at q;split at i
    ·rename_i G;rw [P4 G] at q;exact hr _ c u i q
    ·cases i
def Zdg {w:World} {lim:Nat→Nat} {f:Bool} {s:Nat} {xs:List (List AV)} {v:Value} (h:Rep w lim (.slice f s xs) v) :
  ∃ a cap,v = .slice a xs.length cap∧(f=Xc→cap=xs.length):=by
 cases h with
 | sliceN => exact ⟨Xe, 0, rfl, fun _ => rfl⟩
 | sliceE hf => exact ⟨_, _, rfl, hf⟩
 | sliceC hs hc hf => exact ⟨_, _, rfl, hf⟩
def ZbI {P:Program} {o:Oper} {σ:Nat→AV} {T e:TypeId} {x:Operand} {r t:Option Operand} {f f':Bool} {s:Nat} {xs:List (List AV)} {l h:Nat} (i:o.op = .slice T x r t Xe)
  (u:P.underlying T=Xa (.slice e)) (v:s=P.cellsOf e) (C:P.cellsOf e≠0) (Q:getS P σ x = .slice f s xs) (D:l≤h) (R:h≤xs.length)
  (E:(r=Xe∧l=0)∨∃ y k,r=Xa y∧getS P σ y = .val (.int k l)) (G:(t=Xe∧h=xs.length)∨∃ y k,t=Xa y∧getS P σ y = .val (.int k h))
  (N:f'=Xc→f=Xc∧h=xs.length):J3 P o σ (.slice f' s ((xs.take h).drop l)) [] []:=by
 refine ZD [] rfl fun c H S J w lim X A U d=>?_;rw [i] at A;have L:Rep w lim (.slice f s xs) (Act.eval ⟨J,[]⟩ x):=YU H d Q (A x (by simp [Op.operands]));obtain ⟨a,cap,j,m⟩:=Zdg L;rw [j] at L;obtain ⟨_,W,Y⟩:=ZrJ (f':=f') L l h D R (fun n=>by rw [m (N n).1,(N n).2]);obtain ⟨Z,b⟩:=ZJ C;refine ⟨_,?_,Y⟩;have p:∀ y k,r=Xa y→getS P σ y = .val (.int k l)→Act.eval ⟨J,[]⟩ y = .int k l:=fun y k g M=>Jq H d M (A y (by simp [Op.operands,g]));have q:∀ y k,t=Xa y→getS P σ y = .val (.int k h)→Act.eval ⟨J,[]⟩ y = .int k h:=fun y k g M=>Jq H d M (A y (by simp [Op.operands,g]));have O:h≤cap:=by omega
 rcases E with ⟨rfl,rfl⟩ | ⟨y,k,rfl,g⟩ <;> rcases G with ⟨rfl,rfl⟩ | ⟨z,k',rfl,hz⟩
 ·simp [execOp,i,j,Instr.sliceAt,Instr.slice,Instr.sliceBounds,run_underlying u,Zt b,v]
 ·simp [execOp,i,j,Instr.sliceAt,Instr.slice,Instr.sliceBounds,Instr.sliceBound,asIntOf,run_underlying u,Zt b,q z k' rfl hz,O,v]
 ·simp [execOp,i,j,Instr.sliceAt,Instr.slice,Instr.sliceBounds,Instr.sliceBound,asIntOf,run_underlying u,Zt b,p y k rfl g,D,v]
 ·simp [execOp,i,j,Instr.sliceAt,Instr.slice,Instr.sliceBounds,Instr.sliceBound,asIntOf,run_underlying u,Zt b,p y k rfl g,q z k' rfl hz,O,D,v]
def Zj9 {P:Program} {o:Oper} {σ:Nat→AV} {T e:TypeId} {x y z:Operand} {f:Bool} {s:Nat} {xs:List (List AV)} {k A:IntKind} (l:o.op = .slice T x Xe (Xa y) (Xa z))
  (n:P.underlying T=Xa (.slice e)) (q:P.cellsOf e≠0) (C:getS P σ x = .slice f s xs) (D:getS P σ y = .val (.int k 0)) (E:getS P σ z = .val (.int A 0)):J3 P o σ (.slice Xc s []) [] []:=by
 refine ZD [] rfl fun c r G t w lim X m H d=>?_;rw [l] at m;have v:Rep w lim (.slice f s xs) (Act.eval ⟨t,[]⟩ x):=YU r d C (m x (by simp [Op.operands]));have i:=Jq r d D (m y (by simp [Op.operands]));have j:=Jq r d E (m z (by simp [Op.operands]));obtain ⟨J,g⟩:=ZJ q;generalize hu:Act.eval ⟨t,[]⟩ x=u at v
 cases v with
 | sliceN =>
  refine ⟨.slice Xe 0 0,?_,.sliceN⟩;simp [execOp,l,hu,i,j,Instr.sliceAt,Instr.slice,Instr.sliceBounds,Instr.sliceBound,asIntOf,run_underlying n,Zt g]
 | @sliceE _ _ a cap hf =>
  refine ⟨.slice (Xa a) 0 0,?_,.sliceE (fun _=>rfl)⟩;simp [execOp,l,hu,i,j,Instr.sliceAt,Instr.slice,Instr.sliceBounds,Instr.sliceBound,asIntOf,run_underlying n,Zt g]
 | @sliceC _ _ _ b p cap us hls hc1 hf hle hlim hus hcell hrep =>
  refine ⟨.slice (Xa ⟨b,p,Xe⟩) 0 0,?_,.sliceC (xs:=[]) (us:=[]) (by simp) (by simp) (fun _=>rfl) (by simp) (fun h=>(h rfl).elim) (by simp) (by simp) (by simp)⟩;simp [execOp,l,hu,i,j,Instr.sliceAt,Instr.slice,Instr.sliceBounds,Instr.sliceBound,asIntOf,run_underlying n,Zt g]
def ZnN (xs:List (List AV)):Prop:=∀ e∈xs,∃ n:Int,0≤n∧n≤255∧e = [.val (.int .u8 n)]
def ZbT {w:World} {lim:Nat→Nat} : ∀ (xs:List (List AV)) (us:List Value),ZnN xs→us.length=xs.length→
  (∀ (j:Nat) (c:AV) (u:Value),xs.flatten[j]? = Xa c→us[j]? = Xa u→Rep w lim c u)→
  ∃ a:List Int,us=a.map (Value.int .u8)∧xs.map (fun e=>(Zqp e).getD 0)=a.map fun n=>UInt8.ofNat n.toNat
 | [], us, _, hl, _ => by
  have:us = []:=Uh (by simpa using hl);subst this;exact ⟨[],rfl,rfl⟩
 | x :: xs, us, hb, hl, hr => by
  obtain ⟨n,k,l,rfl⟩:=hb x (by simp)
  cases us with
  | nil => simp at hl
  | cons u us =>
   obtain ⟨a,b,d⟩:=ZbT (w:=w) (lim:=lim) xs us (fun e f=>hb e (by simp [f])) (by simpa using hl) (fun j c g h i=>hr (j+1) c g (by simpa using h) (by simpa using i));have:=VQ (hr 0 (.val (.int .u8 n)) u (by simp) rfl);exact ⟨n::a,by simp [this,b],by rw [Xn,Xn,d];rfl⟩
def Zke (a:List Int):∀ (s:ByteArray),a.foldl (fun r n=>r.push (UInt8.ofNat n.toNat)) s=⟨s.data++(a.map fun n=>UInt8.ofNat n.toNat).toArray⟩:=by
 induction a with
 | nil => intro s; simp
 | cons n a ih =>
  intro s;simp only [Tm,ih,Xn];congr 1;show (s.data.push (UInt8.ofNat n.toNat))++_=_;apply XZ.1;simp
def Zj5 {P:Program} {o:Oper} {σ:Nat→AV} {S T e:TypeId} {x:Operand} {f:Bool} {xs:List (List AV)} (h:o.op = .convert S T x)
  (k:P.underlying S=Xa (.slice e)) (d:P.underlying e=Xa (.int .u8)) (l:P.underlying T=Xa .string) (t:getS P σ x = .slice f 1 xs) (y:ZnN xs) :
  J3 P o σ (.val (.string (ZeD xs))) [] []:=by
 refine ZD [] rfl fun c z A n w lim X q C g=>⟨.string (ZeD xs),?_,.val rfl⟩;rw [h] at q;have r:Rep w lim (.slice f 1 xs) (Act.eval ⟨n,[]⟩ x):=YU z g t (q x (by simp [Op.operands]));generalize hu:Act.eval ⟨n,[]⟩ x=u at r
 cases r with
 | sliceN =>
  simp only [execOp,h,hu,Sem.run_bind,run_convert_bytes_string w S T e Xe 0 0 k d l];rfl
 | @sliceE _ _ a cap hf =>
  have i:=run_loadCells_list (P:=P) w a [] (fun j v m=>by simp at m);simp only [execOp,h,hu,Sem.run_bind,run_convert_bytes_string w S T e _ _ _ k d l,run_bytesToString w a 0 cap [] i,Result.andThen_ok,Sem.run_pure];rfl
 | @sliceC _ _ _ b p cap us hls hc1 hf hle hlim hus hcell hrep =>
  obtain ⟨s,D,E⟩:=ZbT xs us y (by rw [hus];omega) hrep;subst D;have i:=run_loadCells_list (P:=P) w ⟨b,p,Xe⟩ (s.map (Value.int .u8)) (fun j v m=>by rw [J1];exact hcell j v m);rw [hus,Nat.mul_one] at i;simp only [execOp,h,hu,Sem.run_bind,run_convert_bytes_string w S T e _ _ _ k d l,run_bytesToString w ⟨b,p,Xe⟩ xs.length cap s i,Result.andThen_ok,Sem.run_pure];rw [Zke];have d:ByteArray.empty.data = #[]:=rfl;simp only [ZeD,E,d,Array.empty_append]
def Km (w:World) (lim:Nat→Nat) (arr:Array Value) (t:TypeId) (n:Nat) (S:Nat→Prop) :
  Jc w lim (w.alloc (.cells arr t)) (fun b=>if b=w.heap.size then n else lim b) S where
 os:=rfl
 tape:=rfl
 output:=rfl
 size:=by simp
 frz a _:=RowKit.frozen?_alloc_cells w arr t a
 blk b hb _:=⟨heap_alloc_old w _ hb,P3 (by omega)⟩
 ext b hb:=⟨by show lim b≤if b=w.heap.size then n else lim b;rw [P3 (by omega)];exact Xt _,fun o u _ c=>by rw [World.cell?_alloc_lt w _ _ hb];exact c⟩
def Y6 (w:World) (arr:Array Value) (t:TypeId):(w.alloc (.cells arr t)).heap[w.heap.size]? = Xa (.cells arr t (0,0)):=heap_alloc_new w _
def Ys (w:World) (lim:Nat→Nat) (cs:List AV) (us:List Value):Prop:=
 cs.length=us.length∧(∀ c∈cs,c.isCell=Xc)∧∀ (i:Nat) (c:AV) (u:Value),cs[i]? = Xa c→us[i]? = Xa u→Rep w lim c u
def Ys.nil (w:World) (lim:Nat→Nat):Ys w lim [] []:=⟨rfl,by simp,by simp⟩
def Ys.one {w:World} {lim:Nat→Nat} {c:AV} {u:Value} (d:c.isCell=Xc) (h:Rep w lim c u):Ys w lim [c] [u]:=
 ⟨rfl,by simp [d],fun i e f a b=>by
  cases i with
  | zero => simp at a b; subst a; subst b; exact h
  | succ i => simp at a⟩
def Ys.append {w:World} {lim:Nat→Nat} {cs ds:List AV} {us vs:List Value} (h:Ys w lim cs us) (k:Ys w lim ds vs):Ys w lim (cs++ds) (us++vs):=by
 refine ⟨by simp [h.1,k.1],fun c a=>(Xq.1 a).elim (h.2.1 c) (k.2.1 c),fun i c u a b=>?_⟩;by_cases hi:i < cs.length
 ·rw [XH hi] at a;rw [XH (by rw [← h.1];exact hi)] at b;exact h.2.2 i c u a b
 ·rw [XG (by omega)] at a;rw [XG (by rw [← h.1];omega)] at b;rw [← h.1] at b;exact k.2.2 _ c u a b
def Ys.take {w:World} {lim:Nat→Nat} {cs:List AV} {us:List Value} (h:Ys w lim cs us) (n:Nat):Ys w lim (cs.take n) (us.take n):=by
 refine ⟨by simp [h.1],fun c a=>h.2.1 c (XL a),fun i c u a b=>?_⟩;rw [XI] at a b;split at a
 ·rename_i d;rw [P4 d] at b;exact h.2.2 i c u a b
 ·cases a
def Ys.drop {w:World} {lim:Nat→Nat} {cs:List AV} {us:List Value} (h:Ys w lim cs us) (n:Nat):Ys w lim (cs.drop n) (us.drop n):=by
 refine ⟨by simp [h.1],fun c a=>h.2.1 c (XR a),fun i c u a b=>?_⟩;rw [X4] at a b;exact h.2.2 _ c u a b
def Ys.mono {w w':World} {lim a:Nat→Nat} {cs:List AV} {us:List Value} (h:Ys w lim cs us) (b:Ext w lim w' a):Ys w' a cs us:=
 ⟨h.1,h.2.1,fun i c u d e=>(h.2.2 i c u d e).mono b⟩
def AV.cells? : AV→Option (List AV)
 | .agg cs => Xa cs
 | .val v => Xa [.val v]
 | .slice f s xs => Xa [.slice f s xs]
 | _ => Xe
def W3 {P:Program} {w:World} {lim:Nat→Nat} {X:Nat→Nat→Option Nat} {σ:Nat→AV} {k:Nat} {x:AV} {v:Value} {cs:List AV} (a:x.cells? = Xa cs) (h:Z2 P w lim X σ k x v) :
  ∃ us:List Value,v.cells=us.toArray∧Ys w lim cs us:=by
 cases x with
 | agg ds =>
  simp only [AV.cells?,Xf] at a;subst a;have b:Rep w lim (.agg ds) v:=h
  cases b with
  | agg hl hc hr => exact ⟨_, rfl, hl, hc, hr⟩
 | val u =>
  simp only [AV.cells?,Xf] at a;subst a;have b:Rep w lim (.val u) v:=h;refine ⟨[v],?_,Ys.one rfl b⟩
  cases b with
  | val hs => cases v <;> simp [Zdn] at hs <;> rfl
 | slice f s xs =>
  simp only [AV.cells?,Xf] at a;subst a;have b:Rep w lim (.slice f s xs) v:=h;refine ⟨[v],?_,Ys.one rfl b⟩
  cases b<;>rfl
 | _ => simp [AV.cells?] at a
def Kb {w:World} {lim:Nat→Nat} {vs:List Value} {cs:List AV} (h:ZaL vs=Xa cs):Ys w lim cs vs:=Zan h
def ZgH (off:Nat):∀ (l:List Value) (k:Nat) (cs:Array Value),off+k+l.length≤cs.size→
  (l.zipIdx k).foldl (fun cs p=>cs.setIfInBounds (off+p.2) p.1) cs=(cs.toList.take (off+k)++l++cs.toList.drop (off+k+l.length)).toArray
 | [], k, cs, _ => by simp
 | v :: l, k, cs, h => by
  simp only [List.zipIdx_cons,Tm];simp only [XO] at h;rw [ZgH off l (k+1) (cs.setIfInBounds (off+k) v) (by simp;omega)];simp only [Array.toList_setIfInBounds];congr 1;have:=list_seg_step cs.toList (off+k) v l (by simp;omega);rw [← Uy];exact this
def ZjD (off:Nat) (l:List Value) (cs:Array Value) (h:off+l.length≤cs.size) :
  (l.toArray.zipIdx.foldl (fun cs (p:Value×Nat)=>cs.setIfInBounds (off+p.2) p.1) cs)=(cs.toList.take off++l++cs.toList.drop (off+l.length)).toArray:=by
 rw [← Array.foldl_toList];have:=ZgH off l 0 cs (by simpa using h);simpa using this
def ZbY (place:Nat→Option (Nat×Nat)):List AV→List (Nat×AV)→Option (List AV)
 | cells, [] => Xa cells
 | cells, (i, v) :: rest =>
  match place i,v.cells? with
  | some (off, size), Xa vc =>
   if vc.length=size∧off+size≤cells.length then ZbY place (cells.take off++vc++cells.drop (off+size)) rest else Xe
  | _, _ => Xe
def Zfk {P:Program} {w:World} {lim:Nat→Nat} {X:Nat→Nat→Option Nat} {σ:Nat→AV} {k:Nat} {place:Nat→Option (Nat×Nat)} :
  ∀ (c:List (Nat×AV)) (a:List (Nat×Value)) (b:List AV) (us:List Value) (f:List AV),Ys w lim b us→
   c.length=a.length→(∀ (i:Nat) (p:Nat×AV) (q:Nat×Value),c[i]? = Xa p→a[i]? = Xa q→p.1=q.1∧Z2 P w lim X σ k p.2 q.2)→
   ZbY place b c=Xa f→∃ l,Instr.fill place us.toArray a=Xa l.toArray∧Ys w lim f l
 | [], a, b, us, f, hr, hl, _, hf => by
  have:a = []:=Uh (by simpa using hl.symm);subst this;simp only [ZbY,Xf] at hf;subst hf;exact ⟨us,rfl,hr⟩
 | (i, x) :: c, a, b, us, f, hr, hl, hp, hf => by
  cases a with
  | nil => simp at hl
  | cons q a =>
   obtain ⟨u,v⟩:=q;obtain ⟨rfl,y⟩:=hp 0 (i,x) (u,v) rfl rfl;simp only [ZbY] at hf;split at hf
   ·rename_i off d vc r s;split at hf
    ·rename_i g;obtain ⟨us1,n,h⟩:=W3 s y;have e:us1.length=d:=by rw [← h.1];exact g.1
     have m:off+us1.length≤us.length:=by rw [e,← hr.1];exact g.2
     have t:=ZjD off us1 us.toArray (by simpa using m);simp only at t;rw [e] at t;have o:Ys w lim (b.take off++vc++b.drop (off+d)) (us.take off++us1++us.drop (off+d)):=((hr.take off).append h).append (hr.drop (off+d));obtain ⟨l,z,A⟩:=Zfk c a _ _ f o (by simpa using hl) (fun j p q C D=>hp (j+1) p q (by simpa using C) (by simpa using D)) hf;refine ⟨l,?_,A⟩;simp only [Instr.fill,r,n];rw [P3 (by simp [e];rw [← e];exact m)];rw [t];exact z
    ·cases hf
   ·cases hf
def Zdp {P:Program} (w:World) (a:Array Field) (h:(a.toList.all fun f=>(P.info? f.type).isSome)=Xc) :
  (a.mapM fun f=>do pure (f.offset,← sizeOf f.type):Sem (Array (Nat×Nat))).run P w = .ok (a.map fun f=>(f.offset,P.cellsOf f.type)) w:=by
 rw [Array.mapM_eq_mapM_toList]
 have b:∀ (l:List Field),(l.all fun f=>(P.info? f.type).isSome)=Xc→
   (l.mapM fun f=>do pure (f.offset,← sizeOf f.type):Sem (List (Nat×Nat))).run P w = .ok (l.map fun f=>(f.offset,P.cellsOf f.type)) w:=by
  intro l
  induction l with
  | nil => intro _; simp
  | cons f l ih =>
   intro c;simp only [List.all_cons,Bool.and_eq_true] at c;obtain ⟨i,e⟩:=Option.isSome_iff_exists.1 c.1;have d:=ih c.2;simp only [List.mapM_cons,Sem.run_bind,Zt e,Result.andThen_ok,Sem.run_pure,Xn];rw [d];rfl
 simp only [Sem.run_map,b a.toList h,Result.andThen_ok];congr 1;apply XZ.1;simp
def Zdx {P:Program} {c:Ctx} (g:c.P=P) {σ b:Nat→AV} {f:Array Value} {w:World} {lim:Nat→Nat} {X:Nat→Nat→Option Nat} (h:Sim c b f w lim X) (a:Array (Nat×Operand))
  (j:∀ p∈a.toList,getS P b p.2=getS P σ p.2) :
  (a.toList.map fun p=>(p.1,getS P σ p.2)).length=((a.map fun p=>(p.1,Act.eval ⟨f,[]⟩ p.2)).toList).length∧
  ∀ (i:Nat) (p:Nat×AV) (q:Nat×Value),(a.toList.map fun p=>(p.1,getS P σ p.2))[i]? = Xa p→((a.map fun p=>(p.1,Act.eval ⟨f,[]⟩ p.2)).toList)[i]? = Xa q→p.1=q.1∧Z2 P w lim X b 0 p.2 q.2:=by
 refine ⟨by simp,fun i p q d e=>?_⟩;rw [Array.toList_map] at e;rw [Xp] at d e
 cases hx:a.toList[i]? with
 | none => rw [hx] at d; cases d
 | some x =>
  rw [hx] at d e;simp only [XA,Xf] at d e;subst d;subst e;have k:x∈a.toList:=Xo hx;have:=(Kz h x.2 0).2;rw [g,j x k] at this;exact ⟨rfl,this⟩
def Zj7 {P:Program} {o:Oper} {σ:Nat→AV} {T:TypeId} {a:Array (Nat×Operand)} {b:Array Field} {i:TypeInfo} {z:Value} {zc cs:List AV} (r:o.op = .build T a)
  (u:P.underlying T=Xa (.struct b)) (v:P.info? T=Xa i) (x:i.zero=Xa z) (j:ZaL z.cells.toList=Xa zc) (d:(b.toList.all fun f=>(P.info? f.type).isSome)=Xc)
  (y:ZbY (fun i=>(b[i]?).map fun f=>(f.offset,P.cellsOf f.type)) zc (a.toList.map fun p=>(p.1,getS P σ p.2))=Xa cs):J3 P o σ (.agg cs) [] []:=by
 refine ZD [] rfl fun c A e C w lim X s D g=>?_;rw [r] at s
 have l:∀ p∈a.toList,getS P e p.2=getS P σ p.2:=fun p m=>s p.2 (by
  simp only [Op.operands,List.mem_toArray];exact Xs.2 ⟨p,m,rfl⟩)
 obtain ⟨E,G⟩:=Zdx A g a l;obtain ⟨h,t,n⟩:=Zfk (P:=P) (X:=X) (σ:=e) (k:=0) _ _ _ _ _ (Kb (w:=w) (lim:=lim) j) E G y;refine ⟨.agg h.toArray,?_,.agg n.1 n.2.1 n.2.2⟩
 have q:(fun (i:Nat)=>(b.map fun (f:Field)=>(f.offset,P.cellsOf f.type))[i]?)=fun (i:Nat)=>(b[i]?).map fun (f:Field)=>(f.offset,P.cellsOf f.type):=by
  funext i;simp
 have H:(Instr.build T (a.map fun p=>(p.1,Act.eval ⟨C,[]⟩ p.2))).run P w = .ok (.agg h.toArray) w:=by
  simp only [Instr.build,Sem.run_bind,zeroValue,typeInfo,run_program,v,x,Result.andThen_ok,Sem.run_pure,run_underlying u];have m:=Zdp (P:=P) w b d;rw [m];simp only [Result.andThen_ok];rw [q];rw [Array.toArray_toList] at t;rw [t];rfl
 simp only [execOp,r,Sem.run_bind,H,Result.andThen_ok,Sem.run_pure]
def ZcE {x:AV} {cs:List AV} (h:Wx x (.box cs)=Xc):We x:=Z3 h
def KC {c:Ctx} {σ:Nat→AV} {a:Array Value} {w:World} {lim:Nat→Nat} {X:Nat→Nat→Option Nat} (h:Sim c σ a w lim X) (i j:Nat):X i j≠Xa w.heap.size:=by
 intro e;have:=(h.ours i j _ e).1;omega
def ZfW {c:Ctx} {σ:Nat→AV} {l:Array Value} {w:World} {lim:Nat→Nat} {X:Nat→Nat→Option Nat} (h:Sim c σ l w lim X) {m:Option Tmp} {cs:List AV} {us:List Value} {t:TypeId}
  (z:cs.length=us.length) (A:∀ x∈cs,Zb2 x) (p:∀ (i:Nat) (x:AV) (u:Value),cs[i]? = Xa x→us[i]? = Xa u→(x.isCell=Xc∧Rep w lim x u)∨(∃ b e,x = .own b e []∧u = .slice Xe 0 0)) :
  Zmo c m σ (.box cs) l (.pointer (Xa ⟨w.heap.size,0,Xe⟩)) (w.alloc (.cells us.toArray t)):=by
 have a:=Km w lim us.toArray t 0 (fun _=>False)
 cases m with
 | none => exact ⟨_, X, h.world a fun _ n => n.elim⟩
 | some d =>
  intro s v;have y:=h.world a fun _ n=>n.elim;refine ⟨_,_,y.putRow (Vi (Xa w.heap.size)) (Jc.refl _ _ (fun _=>False)) (fun _ n=>n.elim) s (tm':=l.setIfInBounds d (.pointer (Xa ⟨w.heap.size,0,Xe⟩))) (by simp) (fun i r=>Jj l d i _ r) (.inl (ZcE v).1) (fun i q r p=>(y.noRefs (ZcE v).none i q r p).elim) ?_ (fun k b f=>?_) (fun k G b f g=>?_)⟩
  ·rw [Yr l d _ (by rw [h.size];exact s)];refine ⟨w.heap.size,us.toArray,t,?_,rfl,Y6 w _ t,by simp [z],P4 rfl,A,fun i x u C D=>?_⟩
   ·rw [Zx];rfl
   ·have o:Zaz X d (Vi (Xa w.heap.size)) d (i+1)=Xe:=by rw [Zx];simp [Vi]
    rw [o];rcases p i x u C (by simpa using D) with ⟨h2,h3⟩ | ⟨b,e,rfl,rfl⟩
    ·have E:=h3.mono a.ext
     cases x<;>simp [AV.isCell] at h2<;>exact E
    ·exact .inl ⟨[],World.ownsRow_nil _ 0 e _,rfl,by simp,by simp,by simp,by simp⟩
  ·unfold Vi at f;split at f
   ·simp only [Xf] at f;subst f;exact ⟨by simp,.inr h.frm.size,fun i j _=>KC h i j⟩
   ·cases f
  ·unfold Vi at f g;split at f<;>split at g
   ·omega
   ·cases g
   ·cases f
   ·cases f
def Zpo {P:Program} {o:Oper} {σ:Nat→AV} {T:TypeId} {x:Operand} {y:AV} {cs:List AV} (h:o.op = .box T x) (k:getS P σ x=y) (e:y.cells? = Xa cs) :
  J3 P o σ (.box cs) [] []:=by
 intro c l f A w lim X g m a j Q n;have p:getS P f x=getS P σ x:=ZL fun t q=>g t (by simp [ZA (o:=o) (x:=x) (by rw [h];simp [Op.operands]) q]);obtain ⟨us,r,b⟩:=W3 e (YU l a k p);refine Zr (v:=.pointer (Xa ⟨w.heap.size,0,Xe⟩)) (w':=w.alloc (.cells us.toArray T)) ?_ (n _ _ (ZfW a b.1 (fun z d=>.inl (b.2.1 z d)) fun i z u d s=>.inl ⟨b.2.1 z (Xo d),b.2.2 i z u d s⟩));simp [execOp,h,Instr.box,newVar,newRow,r]
def Zp8 (cs:List AV) (us:List Value):Prop:=
 cs.length=us.length∧∀ (i:Nat) (x:AV) (u:Value),cs[i]? = Xa x→us[i]? = Xa u→Zs4 u=Xa x∨(∃ b e,x = .own b e []∧u = .slice Xe 0 0)
def ZjZ {P:Program} {o:Oper} {σ:Nat→AV} {T:TypeId} {i:TypeInfo} {z:Value} {cs:List AV} (m:o.op = .alloc T) (n:P.info? T=Xa i) (p:i.zero=Xa z)
  (a:Zp8 cs z.cells.toList):J3 P o σ (.box cs) [] []:=by
 intro c A q C w lim X r s d k Q t;refine Zr (v:=.pointer (Xa ⟨w.heap.size,0,Xe⟩)) (w':=w.alloc (.cells z.cells.toList.toArray T)) ?_ (t _ _ (ZfW d a.1 (fun x f=>?_) fun j x u f y=>?_))
 ·simp [execOp,m,Instr.alloc,zeroValue,typeInfo,n,p,newVar,newRow]
 ·obtain ⟨j,l⟩:=X6.1 f;have g:j < z.cells.toList.length:=by rw [← a.1];exact (Xx.1 l).1
  rcases a.2 j x _ l (Xm g) with h | ⟨b,e,h,_⟩
  ·exact .inl (Zaj (w:=w) (lim:=lim) h).1
  ·exact .inr (.inl ⟨b,e,[],h⟩)
 ·rcases a.2 j x u f y with h | h
  ·exact .inl (Zaj h)
  ·exact .inr h
def replicate_zero (zs:List Value) (a:Nat):((Array.range (a*zs.length)).map fun i=>zs.toArray[i % zs.toArray.size]!)=((Xv a zs).flatten).toArray:=by
 by_cases hz:zs = []
 ·subst hz;have:(Xv a ([] : List Value)).flatten = []:=by simp
  simp [this]
 ·have c:0 < zs.length:=TB.2 hz;apply XZ.1;rw [Array.toList_map];apply UO;intro j;by_cases hj:j < a*zs.length
  ·have e:((Array.range (a*zs.length)).toList)[j]? = Xa j:=by simp [hj]
   rw [Xp,e];simp only [XA,Up];have d:j % zs.length < zs.length:=Nat.mod_lt _ c;have g:j / zs.length < a:=Nat.div_lt_of_lt_mul (by rw [Nat.mul_comm];exact hj)
   have b:∀ (n:Nat) (k:Nat),k < n→∀ m,m < zs.length→((Xv n zs).flatten)[k*zs.length+m]? = zs[m]?:=by
    intro n
    induction n with
    | zero => intro k h; omega
    | succ n ih =>
     intro k h m d;simp only [List.replicate_succ,Un]
     cases k with
     | zero => rw [Nat.zero_mul, XW, XH d]
     | succ k =>
      rw [XG (by rw [XY];omega)];have:(k+1)*zs.length+m-zs.length=k*zs.length+m:=by rw [XY];omega
      rw [this];exact ih k (by omega) m d
   have:=b a (j / zs.length) g (j % zs.length) d;have f:j / zs.length*zs.length+j % zs.length=j:=by rw [Nat.mul_comm];exact Nat.div_add_mod j zs.length
   rw [f] at this;show Xa _=((Xv a zs).flatten)[j]?;rw [this];simp [d]
  ·have e:((Array.range (a*zs.length)).toList)[j]? = Xe:=by simp;omega
   rw [Xp,e];have:((Xv a zs).flatten).length≤j:=by simp;omega
   show Xe=((Xv a zs).flatten)[j]?;rw [Ur this]
def YH {w:World} {lim:Nat→Nat} {cs:List AV} {us:List Value} (h:Ys w lim cs us):∀ (n:Nat),Ys w lim ((Xv n cs).flatten) ((Xv n us).flatten)
 | 0 => Ys.nil w lim
 | n + 1 => by
  simp only [List.replicate_succ,Un];exact h.append (YH h n)
def WP (a:Nat) (cs:List AV) (n:Nat):List (List AV):=(XK n).map fun j=>(cs.drop (j*a)).take a
def ZeJ (a:Nat):∀ (n:Nat) (cs:List AV),cs.length=n*a→(WP a cs n).flatten=cs:=by
 intro n
 induction n with
 | zero => intro cs h; simp at h; subst h; simp [WP]
 | succ n ih =>
  intro cs h;have c:(cs.take (n*a)).length=n*a:=by simp [h,XY]
  have d:WP a cs (n+1)=WP a (cs.take (n*a)) n++[(cs.drop (n*a)).take a]:=by
   simp only [WP,List.range_succ,List.map_append,Xn,List.map_nil];congr 1;apply List.map_congr_left;intro j e;have b:j < n:=List.mem_range.1 e;have f:j*a+a≤n*a:=by rw [← UY];exact XP _ b
   rw [List.drop_take,List.take_take];congr 1;omega
  rw [d,U0,ih _ c];simp only [Un,List.flatten_nil,UG];have:(cs.drop (n*a)).take a=cs.drop (n*a):=List.take_of_length_le (by simp [h,XY]);rw [this,List.take_append_drop]
def Ka {P:Program} {o:Oper} {a:Act} {w w':World} {b:Act→World→Prop} {Q:Exit→Act→World→Prop}
  (c:(execOp a.eval o).run P w = .ok .skip w') (h:b (a.put o.dst undef) w'):o.wp P a w b Q:=by
 unfold Oper.wp;rw [c];exact h
def W9 (w:World) (g:Nat) (b cs:Array Value) (t:TypeId) (c:w.heap[g]? = Xa (.cells b t (0,0))) (a:Addr):(w.setRow g cs).frozen? a=w.frozen? a:=by
 by_cases h:a.block=g
 ·have d:=setRow_heap w g b cs t (0,0) c;unfold World.frozen?;rw [h,d,c]
 ·unfold World.frozen?;rw [setRow_other w g a.block cs h]
def JA {w:World} {lim:Nat→Nat} {g:Nat} {c cs:Array Value} {t:TypeId} (e:w.heap[g]? = Xa (.cells c t (0,0))) (f:lim g=0) :
  Jc w lim (w.setRow g cs) lim (fun b=>b=g) where
 os:=rfl
 tape:=rfl
 output:=rfl
 size:=by simp
 frz a _:=W9 w g c cs t e a
 blk b _ hb:=⟨setRow_other w g b cs hb,rfl⟩
 ext b _:=⟨Xt _,fun o u i d=>by
  by_cases h:b=g
  ·subst h;rw [f] at i;omega
  ·unfold World.cell? at d ⊢;rw [setRow_other w g b cs h];exact d⟩
def Zar (r:Nat→Option Nat) (off n:Nat) (a:Nat→Option Nat):Nat→Option Nat:=fun k=>if k=0 then r 0 else if off < k∧k≤off+n then a (k-1-off) else r k
def Sim.setCells {c:Ctx} {σ:Nat→AV} {tm:Array Value} {w:World} {lim:Nat→Nat} {X:Nat→Nat→Option Nat} (h:Sim c σ tm w lim X) {d off b:Nat} {cs vc:List AV} {us:List Value} {arr:Array Value} {t:TypeId}
  (o:Nat→Option Nat) (M:σ d = .box cs) (hX:X d 0=Xa b) (ab:off+vc.length≤cs.length) (hl:vc.length=us.length) (O:∀ x∈vc,Zb2 x)
  (N:∀ (i:Nat) (x:AV) (u:Value),vc[i]? = Xa x→us[i]? = Xa u→Yn c.P w lim (o i) x u) (r:w.heap[b]? = Xa (.cells arr t (0,0)))
  (Q:∀ k,off≤k→k < off+vc.length→∀ i,i≠d→¬ Jz (σ i) d (k+1))
  (y:∀ i b',o i=Xa b'→i < vc.length∧(c.A b'∨c.w0.heap.size≤b')∧b' < w.heap.size∧(∀ j k,X j k≠Xa b')∧∀ i',o i'=Xa b'→i=i') :
  Sim c (upd σ d (.box (cs.take off++vc++cs.drop (off+vc.length)))) tm (w.setRow b (arr.toList.take off++us++arr.toList.drop (off+us.length)).toArray) lim (Zaz X d (Zar (X d) off vc.length o)):=by
 have z:=h.rel d;rw [M] at z;obtain ⟨G,a,t0,H,g2,g3,g4,g5,g6,g7⟩:=(show ZK c.P w lim (X d) cs _ from z);have R:G=b:=by rw [H] at hX;exact Uo hX
 subst R;rw [g3] at r;simp only [Xf,Obj.cells.injEq,and_true] at r;obtain ⟨rfl,rfl⟩:=r;have g:=JA (cs:=(a.toList.take off++us++a.toList.drop (off+us.length)).toArray) g3 g5
 have T:d < c.nt:=by
  rcases XS d c.nt with C | hge
  ·exact C
  ·have:=h.out d hge;rw [M] at this;rcases this with h0 | h0<;>cases h0
 have ad:a.toList.length=cs.length:=by simpa using g4
 refine h.putRow (S:=fun b=>b=G) _ g (fun b' m=>⟨0,by rw [m];exact H⟩) T rfl (fun i _=>rfl) (.inr ⟨⟨_,rfl⟩,rfl,rfl⟩) (fun i q J N=>?_) ?_ (fun k b' l=>?_) (fun k U b' l f=>?_)
 ·obtain ⟨p,W⟩:=VC h N;rw [M] at W
  cases q with
  | zero => simp [Zy] at W
  | succ q =>
   have hq:q < off∨off+vc.length≤q:=by
    rcases XS q off with h1 | h1
    ·exact .inl h1
    ·rcases XS q (off+vc.length) with h2 | h2
     ·exact (Q q h1 h2 i J N).elim
     ·exact .inr h2
   have C:q < cs.length:=by
    rcases XS q cs.length with h1 | h1
    ·exact h1
    ·simp [Zy,Ur h1] at W
   have D:(cs.take off++vc++cs.drop (off+vc.length))[q]? = cs[q]?:=by
    rcases hq with h1 | h1
    ·rw [XB,XH (by simp;omega),XI,P4 h1]
    ·rw [XG (by simp;omega),X4];congr 1;simp<;>omega
   refine ⟨fun e xs E=>⟨xs,?_,rfl⟩,?_,fun b' m=>.of (setRow_other w G b' _ fun e=>?_)⟩
   ·rw [M] at E;simp only [Zy,D] at E ⊢;exact E
   ·unfold Zar;rw [P3 (by omega),P3 (by omega)]
   ·have:=(h.dist d (q+1) d 0 b' m (by rw [e];exact H)).2;omega
 ·refine ⟨G,(a.toList.take off++us++a.toList.drop (off+us.length)).toArray,t0,?_,g2,setRow_heap w G a _ t0 _ g3,?_,g5,fun x n=>?_,fun i x u n hu=>?_⟩
  ·rw [Zx];exact H
  ·simp only [Up,XD,Xu,XV];omega
  ·rcases Xq.1 n with n | n
   ·rcases Xq.1 n with n | n
    ·exact g6 x (XL n)
    ·exact O x n
   ·exact g6 x (XR n)
  ·rw [Zx];have s:(a.toList.take off++us++a.toList.drop (off+us.length))[i]? = Xa u:=by simpa using hu
   have L:∀ j,i=j→cs[j]? = Xa x→a[j]? = Xa u→(j < off∨off+vc.length≤j)→Yn c.P (w.setRow G (a.toList.take off++us++a.toList.drop (off+us.length)).toArray) lim (Zar (X d) off vc.length o (i+1)) x u:=by
    intro j Y Z aa ac;subst Y
    have v:Zar (X d) off vc.length o (i+1)=X d (i+1):=by
     unfold Zar;rw [P3 (by omega),P3 (by omega)]
    rw [v];refine (g7 i x u Z aa).mono g.ext fun b' m=>g.blk b' (h.ours d (i+1) b' m).1 fun e=>?_;have:=h.dist d (i+1) d 0 b' m (by rw [e];exact H);omega
   by_cases h1:i < off
   ·rw [XB,XH (by simp;omega),XI,P4 h1] at n;rw [XB,XH (by simp;omega),XI,P4 h1] at s;exact L i rfl n (by simpa using s) (.inl h1)
   ·by_cases h2:i < off+vc.length
    ·rw [XB,XG (by simp;omega),XH (by simp;omega)] at n;rw [XB,XG (by simp;omega),XH (by simp;omega)] at s;have e1:i-(cs.take off).length=i-off:=by simp<;>omega
     have e2:i-(a.toList.take off).length=i-off:=by simp<;>omega
     rw [e1] at n;rw [e2] at s
     have v:Zar (X d) off vc.length o (i+1)=o (i-off):=by
      unfold Zar;rw [P3 (by omega),P4 (by omega)];congr 1<;>omega
     rw [v];refine (N (i-off) x u n s).mono g.ext fun b' m=>g.blk b' (y _ b' m).2.2.1 fun e=>(y _ b' m).2.2.2.1 d 0 (by rw [e];exact H)
    ·have C:i < cs.length:=by
      have:=(Xx.1 n).1;simp at this;omega
     have e1:(cs.take off++vc++cs.drop (off+vc.length))[i]? = cs[i]?:=by
      rw [XG (by simp;omega),X4];congr 1;simp<;>omega
     have e2:(a.toList.take off++us++a.toList.drop (off+us.length))[i]? = a.toList[i]?:=by
      rw [XG (by simp;omega),X4];congr 1;simp<;>omega
     rw [e1] at n;rw [e2] at s;exact L i rfl n (by simpa using s) (.inr (by omega))
 ·unfold Zar at l;split at l
  ·exact ⟨by simp;exact (h.ours d 0 b' l).1,(h.ours d 0 b' l).2,fun i j J e=>J (h.dist i j d 0 b' e l).1⟩
  ·split at l
   ·have:=y _ b' l;exact ⟨by simp;exact this.2.2.1,this.2.1,fun i j _=>this.2.2.2.1 i j⟩
   ·exact ⟨by simp;exact (h.ours d k b' l).1,(h.ours d k b' l).2,fun i j J e=>J (h.dist i j d k b' e l).1⟩
 ·unfold Zar at l f;split at l<;>split at f
  ·omega
  ·split at f
   ·exact ((y _ b' f).2.2.2.1 d 0 l).elim
   ·have:=h.dist d 0 d U b' l f;omega
  ·split at l
   ·exact ((y _ b' l).2.2.2.1 d 0 f).elim
   ·have:=h.dist d k d 0 b' l f;omega
  ·split at l<;>split at f
   ·have:=(y _ b' l).2.2.2.2 _ f;omega
   ·exact ((y _ b' l).2.2.2.1 d U f).elim
   ·exact ((y _ b' f).2.2.2.1 d k l).elim
   ·have:=h.dist d k d U b' l f;omega
def K6 {P:Program} {T:TypeId} {w:World} {b off:Nat} {arr:Array Value} {t:TypeId} {v:Value} {us:List Value} {i:TypeInfo} (d:P.info? T=Xa i) (e:v.cells=us.toArray) (f:us.length=P.cellsOf T)
  (g:w.heap[b]? = Xa (.cells arr t (0,0))) (a:off+us.length≤arr.size) (h:∀ u∈us,u.oneCell'=Xc) :
  (Instr.storeAt T (.pointer (Xa ⟨b,off,Xe⟩)) v).run P w = .ok () (w.setRow b (arr.toList.take off++us++arr.toList.drop (off+us.length)).toArray):=by
 have c:=run_storeCells_at P b off t us 0 arr w g (by simpa using a) h;simp only [UN] at c;simp [Instr.storeAt,Instr.sureAddr,storeVar,Zt d,e,f,c]
def Zcx {c:Ctx} {σ:Nat→AV} {b:Array Value} {w:World} {lim:Nat→Nat} {X:Nat→Nat→Option Nat} (h:Sim c σ b w lim X) {d off n k i:Nat} {cs:List AV} (f:σ d = .box cs)
  (g:ZcG ((cs.drop off).take n)) (m:off≤k) (o:k < off+n) (j:Jz (σ i) d (k+1)):False:=by
 obtain ⟨p,a⟩:=VC h j;rw [f] at a;simp only [Zy] at a;split at a
 ·rename_i e xs l;refine g (.own Xc e xs) (Xo (i:=k-off) ?_) e xs rfl;rw [XI,P4 (by omega),X4,show off+(k-off)=k by omega];exact l
 ·cases a
def Jp {c:Ctx} {a:Nat→AV} {k:Array Value} {w:World} {lim:Nat→Nat} {X:Nat→Nat→Option Nat} (h:Sim c a k w lim X) {f:Option Tmp} {x:Bool} {e:TypeId} {xs:List (List AV)} {v:Value} {ob:Option Nat}
  (n:Jt c.P w lim x e xs v ob) (l:∀ b,ob=Xa b→(c.A b∨c.w0.heap.size≤b)∧∀ i j,X i j≠Xa b) (g:x=Xc→Zgi c.P w lim e xs (Vi ob)):Zmo c f a (.own x e xs) k v w:=by
 cases f with
 | none => exact ⟨lim, X, h⟩
 | some d => exact fun o p => ⟨lim, _, h.putOwn o (Z3 p) n (fun b m => ⟨(l b m).1, fun i j _ => (l b m).2 i j⟩) g⟩
def Zao (P:Program) (x:Bool) (e:TypeId) (xs:List (List AV)):AV:=match x with | true=>.dead | false=>.slice Xb (P.cellsOf e) xs
def Sim.free {c:Ctx} {σ:Nat→AV} {g:Array Value} {w:World} {lim:Nat→Nat} {X:Nat→Nat→Option Nat} (h:Sim c σ g w lim X) {t:Nat} {x:Bool} {e:TypeId} {xs:List (List AV)} (m:σ t = .own x e xs) (n:ZlW σ t) :
  Sim c (upd σ t (Zao c.P x e xs)) g w lim (Zaz X t YX)∧Jt c.P w lim x e xs (g.getD t undef) (X t 0)∧
   ∀ b,X t 0=Xa b→(c.A b∨c.w0.heap.size≤b)∧∀ i j,Zaz X t YX i j≠Xa b:=by
 have p:=h.rel t;rw [m] at p;have d:Jt c.P w lim x e xs (g.getD t undef) (X t 0):=p
 have o:t < c.nt:=by
  rcases XS t c.nt with hlt | hge
  ·exact hlt
  ·have:=h.out t hge;rw [m] at this;rcases this with h0 | h0<;>cases h0
 refine ⟨h.weaken (k:=0) o (fun cs f=>by rw [m] at f;cases f) n (by cases x<;>rfl) (fun i q l=>by cases x<;>rcases l with l | ⟨_,l⟩ <;> cases l) ?_,d,fun b r=>⟨(h.ours t 0 b r).2,fun i j a=>?_⟩⟩
 ·cases x with
  | true => trivial
  | false => exact Jt.rep d Xb rfl
 ·by_cases hi:i=t
  ·subst hi;rw [Zx] at a;cases a
  ·rw [ZC X YX hi] at a;exact hi (h.dist i j t 0 b a r).1
def K5 (σ:Nat→AV) (t:Nat) (us:List (Nat×AV)):Prop:=(∀ u∈us,u.1≠t∧u.2 = .dead∧∃ k,Jz (σ u.1) t k)∧∀ i k,i≠t→Jz (σ i) t k→i∈us.map (·.1)
def Yv (T:Odr) (σ:Nat→AV) (t:Nat) (us:List (Nat×AV)):Prop:=(T = .text∧K5 σ t us)∨∃ N M K,T = .any N M K∧N t=Xc∧us = []
def Yv.all {T:Odr} {σ a:Nat→AV} {t:Nat} {us:List (Nat×AV)} (h:Yv T σ t us) (b:T.rel σ a):K5 a t us:=by
 rcases h with ⟨rfl,h⟩ | ⟨N,M,K,rfl,h1,rfl⟩
 ·have:a=σ:=b;rw [this];exact h
 ·exact ⟨by simp,fun i k _ c=>(b.1 t i k (by simp [Odr.nr,h1]) c).elim⟩
def Zky {T':Odr} {P:Program} {o:Oper} {σ:Nat→AV} {T:TypeId} {a x:Operand} {d off:Nat} {cs f vc:List AV} {y:AV} (G:o.op = .store T a x) (ha:getS P σ a = .ptr d off) (hd:σ d = .box cs)
  (hx:getS P σ x=y) (hy:y.cells? = Xa f) (m:f.length=P.cellsOf T) (h0:P.cellsOf T≠0) (h:off+P.cellsOf T≤cs.length) (g:ZcG ((cs.drop off).take (P.cellsOf T))∨Yv T' σ d [])
  (n:vc.length=f.length∧∀ (w:World) (lim:Nat→Nat) (us:List Value),Ys w lim f us→(∀ z∈vc,Zb2 z)∧∀ (j:Nat) (z:AV) (u:Value),vc[j]? = Xa z→us[j]? = Xa u→Yn P w lim Xe z u) :
  Vr T' P o σ .dead [(d,.box (cs.take off++vc++cs.drop (off+P.cellsOf T)))] [d]:=by
 intro c D p tm w lim X s H hT e aa Q J;have L:getS P p a=getS P σ a:=ZL fun t M=>s t (by simp [ZA (o:=o) (x:=a) (by rw [G];simp [Op.operands]) M]);have N:getS P p x=getS P σ x:=ZL fun t M=>s t (by simp [ZA (o:=o) (x:=x) (by rw [G];simp [Op.operands]) M]);have q:p d = .box cs:=by rw [H d (by simp),hd]
 have A:=YU D e ha L;rw [← D] at A;obtain ⟨b,E,O,h3⟩:=VS e q A;obtain ⟨us,h4,r⟩:=W3 hy (YU D e hx N);have h6:=n.2 w lim us r;have R:vc.length=P.cellsOf T:=n.1.trans m;obtain ⟨S,arr,t,g1,g2,g3,g4,g5,g6,g7⟩:=h3;have U:S=b:=by rw [g1] at E;exact Uo E
 subst U;obtain ⟨i,W⟩:=ZJ h0
 have l:=e.setCells (off:=off) (vc:=vc) (us:=us) (fun _=>Xe) q g1 (by rw [R];exact h) (n.1.trans r.1) h6.1 (fun j z u hz Y=>by rw [D];exact h6.2 j z u hz Y) g3 (fun k E O i W hr=>by
   rcases g with g | hdr
   ·exact Zcx e q (by rw [← R] at g;exact g) E O hr
   ·have:=(hdr.all hT).2 i (k+1) W hr;simp at this) (fun _ _ he=>by cases he)
 refine Ka (w':=w.setRow S (arr.toList.take off++us++arr.toList.drop (off+us.length)).toArray) ?_ (J undef _ ?_)
 ·have Z:=K6 (P:=P) (T:=T) (w:=w) (b:=S) (off:=off) (v:=Act.eval ⟨tm,[]⟩ x) W h4 (by rw [← r.1,m]) g3 (by rw [← r.1,m,g4];exact h) (fun u Y=>by
   obtain ⟨j,hj⟩:=X6.1 Y;have C:j < f.length:=by rw [r.1];exact (Xx.1 hj).1
   exact (r.2.2 j _ u (Xm C) hj).oneCell (r.2.1 _ (XC C)))
  simp only [execOp,G,O,Sem.run_bind,Z,Result.andThen_ok,Sem.run_pure]
 ·rw [R] at l;exact ZH l rfl (k:=0) trivial
def K3 (σ:Nat→AV):∀ (us vs:List (Nat×AV)),JV σ (us++vs)=JV (JV σ us) vs
 | [], _ => rfl
 | (d, x) :: us, vs => by
  simp only [X8,JV];exact K3 _ us vs
def Zae:∀ (us:List (Nat×AV)) (σ:Nat→AV) (i:Nat),(∀ u∈us,u.2 = .dead)→JV σ us i=if i∈us.map (·.1) then .dead else σ i
 | [], σ, i, _ => by simp [JV]
 | (d, x) :: us, σ, i, h => by
  have a:x = .dead:=h (d,x) (by simp);subst a;rw [JV,Zae us _ i fun u b=>h u (by simp [b])];by_cases hm:i∈us.map (·.1)
  ·rw [P4 hm,P4 (by simp only [Xn,Xr];exact .inr hm)]
  ·rw [P3 hm];by_cases hi:i=d
   ·subst hi;rw [Jl,P4 (by simp)]
   ·rw [Zp _ _ hi,P3 (by simp only [Xn,Xr];exact fun h=>h.elim hi hm)]
def V8 {x:AV} {d k:Nat} (h:Jz x d k):(∀ cs,x≠.box cs)∧We x∧x.isG=Xb:=by
 rcases h with rfl | ⟨o,rfl⟩ <;> exact ⟨fun _ h=>(by cases h),⟨fun _ h=>(by cases h),fun _ _ h=>(by cases h),fun _ h=>(by cases h)⟩,rfl⟩
def Sim.drops {c:Ctx} {f:Array Value} {w:World} {lim:Nat→Nat} : ∀ (us:List (Nat×AV)) {σ:Nat→AV} {X:Nat→Nat→Option Nat},Sim c σ f w lim X→(∀ u∈us,u.2 = .dead∧We (σ u.1)∧u.1 < c.nt)→
  ∃ X',Sim c (JV σ us) f w lim X'∧∀ i,i∉us.map (·.1)→X' i=X i
 | [], _, X, h, _ => ⟨X, h, fun _ _ => rfl⟩
 | (d, x) :: us, σ, X, h, hu => by
  obtain ⟨b,g,j⟩:=hu (d,x) (by simp);have b:x = .dead:=b;subst b;have l:=h.weaken (k:=0) j g.1 (h.noRefs g.none) (x:=.dead) rfl (fun i q a=>by rcases a with a | ⟨_,a⟩ <;> cases a) trivial
  obtain ⟨X',m,n⟩:=Sim.drops us l fun u o=>by
   obtain ⟨p,r,s⟩:=hu u (by simp [o]);refine ⟨p,?_,s⟩;by_cases he:u.1=d
   ·rw [he,Jl];exact ⟨fun _ h=>(by cases h),fun _ _ h=>(by cases h),fun _ h=>(by cases h)⟩
   ·rw [Zp _ _ he];exact r
  refine ⟨X',m,fun i e=>?_⟩;simp only [Xn,Xr,not_or] at e;rw [n i e.2,ZC X YX e.1]
def ZaX {c:Ctx} {σ:Nat→AV} {a:Array Value} {w:World} {lim:Nat→Nat} {X:Nat→Nat→Option Nat} (h:Sim c σ a w lim X) {t:Nat} (b:σ t≠.dead) (d:(σ t).isG=Xb):t < c.nt:=by
 rcases XS t c.nt with hlt | hge
 ·exact hlt
 ·rcases h.out t hge with h0 | h0
  ·exact (b h0).elim
  ·rw [d] at h0;cases h0
def Sim.freeAll {c:Ctx} {σ:Nat→AV} {n:Array Value} {w:World} {lim:Nat→Nat} {X:Nat→Nat→Option Nat} (h:Sim c σ n w lim X) {t:Nat} {x:Bool} {e:TypeId} {xs:List (List AV)} {us:List (Nat×AV)} (o:σ t = .own x e xs)
  (p:(x=Xb∧us = [])∨K5 σ t us) :
  ∃ X',Sim c (JV σ ((t,Zao c.P x e xs)::us)) n w lim X'∧Jt c.P w lim x e xs (n.getD t undef) (X t 0)∧∀ b,X t 0=Xa b→(c.A b∨c.w0.heap.size≤b)∧∀ i j,X' i j≠Xa b:=by
 rcases p with ⟨rfl,rfl⟩ | ⟨hd1,hd2⟩
 ·obtain ⟨y,z,C⟩:=h.free o (h.noRefs fun k=>by rw [o];rfl);exact ⟨_,y,z,C⟩
 ·obtain ⟨X1,D,E⟩:=h.drops us fun u l=>by
   obtain ⟨N,G,k,g⟩:=hd1 u l;obtain ⟨O,H,J⟩:=V8 g;exact ⟨G,H,ZaX h (fun e=>by rw [e] at g;rcases g with g | ⟨_,g⟩ <;> cases g) J⟩
  have d:t∉us.map (·.1):=by
   intro q;obtain ⟨u,l,rfl⟩:=Xs.1 q;exact (hd1 u l).1 rfl
  have a:∀ (σ:Nat→AV) (i:Nat),JV σ us i=if i∈us.map (·.1) then .dead else σ i:=fun σ i=>Zae us σ i fun u l=>(hd1 u l).2.1;have r:JV σ us t = .own x e xs:=by rw [a,P3 d,o]
  obtain ⟨L,s,v⟩:=D.free r (fun i k m f=>by
   rw [a] at f;split at f
   ·rcases f with f | ⟨_,f⟩ <;> cases f
   ·rename_i q;exact q (hd2 i k m f))
  rw [E t d] at s v;refine ⟨_,?_,s,v⟩
  have M:JV σ ((t,Zao c.P x e xs)::us)=upd (JV σ us) t (Zao c.P x e xs):=by
   funext i;simp only [JV];rw [a];by_cases m:i=t
   ·subst m;rw [P3 d,Jl,Jl]
   ·rw [Zp _ _ m,Zp _ _ m,a]
  rw [M];exact L
def ZgB {T:Odr} {P:Program} {o:Oper} {σ:Nat→AV} {t:Nat} {x:Bool} {e:TypeId} {xs:List (List AV)} {us:List (Nat×AV)} (b:o.op = .move (.tmp t)∨o.op = .assign (.tmp t)) (n:σ t = .own x e xs)
  (d:(x=Xb∧us = [])∨Yv T σ t us) (f:x=Xc→Mv P e xs):Vr T P o σ (.own x e xs) ((t,Zao P x e xs)::us) []:=by
 intro c k g p w lim X q i r a l Q s;have j:g t = .own x e xs:=by rw [i t (by simp),n]
 obtain ⟨X',m,u,y⟩:=a.freeAll (us:=us) j (d.imp id fun h=>h.all r);rw [k] at m;refine Zr (v:=p.getD t undef) (w':=w) ?_ (s _ w (Jp m u y fun z=>.mv (by rw [k];exact f z)));rcases b with b | b<;>simp [execOp,b,Act.eval]
def Zpv {P:Program} {o:Oper} {σ:Nat→AV} {x:Bool} {e:TypeId} (d:o.op = .assign (.const (.slice Xe 0 0))):J3 P o σ (.own x e []) [] []:=by
 intro c j f k w lim X g h a b Q i;refine Zr (v:=.slice Xe 0 0) (w':=w) (by simp [execOp,d,Act.eval]) (i _ w (Jp (ob:=Xe) a (.inl ⟨[],World.ownsRow_nil _ 0 e _,rfl,by simp,by simp,by simp,by simp⟩) (by simp) fun _=>.none rfl))
def Zku {P:Program} {o:Oper} {σ:Nat→AV} {t:Nat} {vs:List AV} (D:o.op = .move (.tmp t)) (E:σ t = .tuple vs):J3 P o σ (.tuple vs) [(t,.gone)] []:=by
 intro c O l h w lim X G s a z Q H;have e:l t = .tuple vs:=by rw [s t (by simp),E]
 have u:t < c.nt:=by
  rcases XS t c.nt with hlt | hge
  ·exact hlt
  ·have:=a.out t hge;rw [e] at this;rcases this with h0 | h0<;>cases h0
 have x:Sim c (upd l t .gone) h w lim (Zaz X t YX):=a.weaken (k:=0) u (fun cs m=>by rw [e] at m;cases m) (a.noRefs fun k=>by rw [e];rfl) rfl (fun i q p=>by rcases p with p | ⟨_,p⟩ <;> cases p) trivial;have r:=a.rel t;rw [e] at r;obtain ⟨us,J,L,g3⟩:=r;refine Zr (v:=h.getD t undef) (w':=w) (by simp [execOp,D,Act.eval]) (H _ w ?_)
 cases hdst:o.dst with
 | none => exact ⟨lim, _, x⟩
 | some d =>
  intro A C;refine ⟨lim,_,x.putRow (X t) (Jc.refl w lim (fun _=>False)) (fun _ M=>M.elim) A (tm':=h.setIfInBounds d (h.getD t undef)) (by simp) (fun i g=>Jj h d i _ g) (.inl (Z3 C).1) (fun i q g r=>(x.noRefs (Z3 C).none i q g r).elim) ?_ (fun k b n=>⟨(a.ours t k b n).1,(a.ours t k b n).2,fun i j _ f=>?_⟩) (fun k N b n y=>(a.dist t k t N b n y).2)⟩
  ·rw [Yr h d _ (by rw [a.size];exact A)];refine ⟨us,J,L,?_⟩;rw [Zx];exact g3
  ·by_cases g:i=t
   ·subst g;rw [Zx] at f;cases f
   ·rw [ZC X YX g] at f;exact g (a.dist i j t k b f n).1
def Zbc {P:Program} {o:Oper} {σ:Nat→AV} {t i:Nat} {vs:List AV} {x:AV} (s:o.op = .extract (.tmp t) i) (u:σ t = .tuple vs) (y:vs[i]? = Xa x) (z:x.plain=Xc) (g:∀ d p,x≠.ptr d p) (h:∀ cs,x≠.eptr cs) (j:x≠.dead) (l:x≠.gone):J3 P o σ x [] []:=by
 intro c N m D w lim X n E a A Q G;have q:m t = .tuple vs:=by rw [(n t (ZA (o:=o) (x:=.tmp t) (t:=t) (by rw [s];simp [Op.operands]) rfl)).eq fun cs e=>(by rw [u] at e;cases e),u]
 have C:=a.rel t;rw [q] at C;obtain ⟨us,H,J,g3⟩:=C;have b:i < us.length:=by rw [J];exact (Xx.1 y).1
 have L:=Xm b;have f:=g3 i x _ y L;refine Zr (v:=us[i]) (w':=w) ?_ (G _ w (ZH a z (k:=0) ?_))
 ·have r:Act.eval ⟨D,[]⟩ (.tmp t) = .tuple us.toArray:=H;simp [execOp,s,r,Instr.extract,b]
 ·cases x<;>first | (simp [AV.plain] at z;done) | (exact (g _ _ rfl).elim) | (exact (h _ rfl).elim) | (exact (j rfl).elim) | (exact (l rfl).elim) | (have M:Rep w lim _ _:=f;cases M;done) | exact f
def ZuQ (P:Program) (x:Bool) (e:TypeId) (xs:List (List AV)):AV:=match x with | true=>.gone | false=>.slice Xb (P.cellsOf e) xs
def Zbm {P:Program} {o:Oper} {σ:Nat→AV} {t i:Nat} {vs:List AV} {x:Bool} {e:TypeId} {xs:List (List AV)} (Z:o.op = .extract (.tmp t) i) (ht:σ t = .tuple vs) (D:vs[i]? = Xa (.own x e xs)) (G:x=Xc→Mv P e xs) :
  J3 P o σ (.own x e xs) [(t,.tuple (vs.set i (ZuQ P x e xs)))] []:=by
 intro c O s R w lim X aa H d T Q hn;have g:s t = .tuple vs:=by rw [H t (by simp),ht]
 have J:t < c.nt:=by
  rcases XS t c.nt with l | hge
  ·exact l
  ·have:=d.out t hge;rw [g] at this;rcases this with h0 | h0<;>cases h0
 have E:=d.rel t;rw [g] at E;obtain ⟨us,U,W,g3⟩:=E;have l:i < us.length:=by rw [W];exact (Xx.1 D).1
 have Y:=Xm l;have p:Jt c.P w lim x e xs us[i] (X t (i+1)):=g3 i _ _ D Y
 have h1:Sim c (upd s t (.tuple (vs.set i (ZuQ P x e xs)))) R w lim (Zaz X t fun k=>if k=i+1 then Xe else X t k):=by
  refine d.putRow (S:=fun _=>False) _ (Jc.refl w lim _) (fun _ hs=>hs.elim) J rfl (fun j _=>rfl) (.inl fun cs z=>by rw [g] at z;cases z) (fun i q hi E=>(d.noRefs (fun k=>by rw [g];rfl) i q hi E).elim) ?_ (fun k b m=>?_) (fun k k' b m r=>?_)
  ·refine ⟨us,U,by simp [W],fun j y u A n=>?_⟩;rw [Zx];by_cases hji:j=i
   ·subst hji;rw [UP (by omega)] at A;simp only [Xf] at A;subst A;rw [Y] at n;simp only [Xf] at n;subst n
    cases x with
    | true => trivial
    | false =>
     have:=Jt.rep p Xb rfl;rw [O] at this;exact this
   ·rw [UI (fun h=>hji h.symm)] at A;rw [P3 (by omega)];exact g3 j y u A n
  ·split at m
   ·cases m
   ·exact ⟨(d.ours t k b m).1,(d.ours t k b m).2,fun a j C hj=>C (d.dist a j t k b hj m).1⟩
  ·split at m<;>split at r
   ·omega
   ·cases m
   ·cases r
   ·exact (d.dist t k t k' b m r).2
 refine Zr (v:=us[i]) (w':=w) ?_ (hn _ w (Jp h1 p (fun b L=>⟨(d.ours t _ b L).2,fun a j f=>?_⟩) fun D=>.mv (by rw [O];exact G D)))
 ·have M:Act.eval ⟨R,[]⟩ (.tmp t) = .tuple us.toArray:=U;simp [execOp,Z,M,Instr.extract,l]
 ·by_cases C:a=t
  ·subst C;rw [Zx] at f;split at f
   ·cases f
   ·rename_i N;exact N (d.dist a j a (i+1) b f L).2
  ·rw [ZC X _ C] at f;exact C (d.dist a j t (i+1) b f L).1
def ZI {y:AV} {k:Nat} {e:TypeId} {xs:List (List AV)} (h:Zy y k=Xa (e,xs)) :
  (y = .own Xc e xs∧k=0)∨(∃ cs q,y = .box cs∧k=q+1∧cs[q]? = Xa (.own Xc e xs))∨∃ cs q,y = .gbox cs∧k=q+1∧cs[q]? = Xa (.own Xc e xs):=by
 unfold Zy at h;split at h
 ·simp only [Xf,Xw] at h;obtain ⟨rfl,rfl⟩:=h;exact .inl ⟨rfl,rfl⟩
 ·rename_i cs q;split at h
  ·rename_i e' xs' a;simp only [Xf,Xw] at h;obtain ⟨rfl,rfl⟩:=h;exact .inr (.inl ⟨cs,q,rfl,rfl,a⟩)
  ·cases h
 ·rename_i cs q;split at h
  ·rename_i e' xs' a;simp only [Xf,Xw] at h;obtain ⟨rfl,rfl⟩:=h;exact .inr (.inr ⟨cs,q,rfl,rfl,a⟩)
  ·cases h
 ·cases h
def VJ {c:Ctx} {σ:Nat→AV} {g:Array Value} {w:World} {lim:Nat→Nat} {X:Nat→Nat→Option Nat} (h:Sim c σ g w lim X) {d k:Nat} {e:TypeId} {xs:List (List AV)} (i:Zy (σ d) k=Xa (e,xs)) :
  ∃ v,Jt c.P w lim Xc e xs v (X d k):=by
 have a:=h.rel d;rcases ZI i with ⟨h1,rfl⟩ | ⟨cs,q,h1,rfl,h2⟩ | ⟨cs,q,h1,rfl,h2⟩
 ·rw [h1] at a;exact ⟨_,a⟩
 ·rw [h1] at a;obtain ⟨b,arr,t,j,l,g3,g4,g5,g6,g7⟩:=(show ZK c.P w lim (X d) cs _ from a);have f:=(Xx.1 h2).1;exact ⟨arr[q]'(by omega),g7 q _ _ h2 (Uz (by omega))⟩
 ·rw [h1] at a;obtain ⟨m,b,arr,t,j,l,g3,g4,g5,g6,g7⟩:=a;have f:=(Xx.1 h2).1;exact ⟨arr[q]'(by omega),g7 q _ _ h2 (Uz (by omega))⟩
def VF {P:Program} {w:World} {lim:Nat→Nat} {e:TypeId} {xs:List (List AV)} {v:Value} {b:Nat} (h:Jt P w lim Xc e xs v (Xa b)) (a:Zv P e=Xb∨∃ arr t i,w.heap[b]? = Xa (.cells arr t i)) :
  ∃ arr cap,v = .slice (Xa ⟨b,0,Xe⟩) xs.length cap∧w.heap[b]? = Xa (.cells arr e (0,0))∧lim b=0∧xs.length≤cap∧cap≤maxLen∧arr.size=cap*P.cellsOf e∧
   (∀ x∈xs,x.length=P.cellsOf e)∧(∀ x∈xs,∀ z∈x,z.isCell=Xc)∧∀ (j:Nat) (z:AV) (u:Value),xs.flatten[j]? = Xa z→arr[j]? = Xa u→Rep w lim z u:=by
 rcases h with ⟨us,h1,h2,h3,h4,h5,h6⟩ | ⟨_,h,_⟩ | ⟨_,h,_,_,_,_,_,_,hb,_,hh,_⟩
 ·rcases h1.2 with ⟨hv,hn⟩ | ⟨g,cap,cur,hv,hbg,hg,hnc,hcm,hcs,htake⟩
  ·rw [hv] at h2;cases h2
  ·have c:g=b:=by rw [hv] at h2;exact Uo h2
   subst c;refine ⟨cur,cap,hv,hg,by rw [h3 g rfl];rfl,hnc,hcm,hcs,h4,h5,fun j z u d k=>h6 j z u d ?_⟩;have f:=(Xx.1 d).1;rw [Zs xs _ h4] at f;rw [← htake,XI,P4 f];simpa using k
 ·cases h
 ·rcases a with a | ⟨_,_,_,a⟩
  ·rw [a] at h;cases h
  ·cases hb;rw [a] at hh;cases hh
def ZaZ {P:Program} {w:World} {lim:Nat→Nat} {e:TypeId} {xs:List (List AV)} {b cap:Nat} {arr:Array Value} (i:w.heap[b]? = Xa (.cells arr e (0,0))) (k:lim b=0) (g:xs.length≤cap) (l:cap≤maxLen)
  (h:arr.size=cap*P.cellsOf e) (m:∀ x∈xs,x.length=P.cellsOf e) (n:∀ x∈xs,∀ z∈x,z.isCell=Xc) (o:∀ (j:Nat) (z:AV) (u:Value),xs.flatten[j]? = Xa z→arr[j]? = Xa u→Rep w lim z u) :
  Jt P w lim Xc e xs (.slice (Xa ⟨b,0,Xe⟩) xs.length cap) (Xa b):=by
 have c:xs.length*P.cellsOf e≤cap*P.cellsOf e:=XP _ g;refine .inl ⟨arr.toList.take (xs.length*P.cellsOf e),⟨?_,.inr ⟨b,cap,arr,rfl,X7 _,i,g,l,h,rfl⟩⟩,rfl,fun b' d=>?_,m,n,fun j z u p a=>o j z u p ?_⟩
 ·have f:arr.toList.length=cap*P.cellsOf e:=by simpa using h
  rw [Xu,f];exact Nat.min_eq_left c
 ·cases d
  rw [P4 rfl];exact k
 ·rw [XI] at a;split at a
  ·simpa using a
  ·cases a
def ZeN (cs:List AV) (off:Nat) (x:AV) (h:off < cs.length):cs.take off++[x]++cs.drop (off+1)=cs.set off x:=by
 rw [List.set_eq_take_append_cons_drop,P4 h];simp
def ZgU (σ:Nat→AV) (us:List (Nat×AV)) (d:Nat) (x:AV):JV σ (us++[(d,x)])=upd (JV σ us) d x:=by
 induction us generalizing σ with
 | nil => rfl
 | cons u us ih => obtain ⟨e, y⟩ := u; simp only [X8, JV]; exact ih _
def Zl5:∀ (us:List (Nat×AV)) (σ:Nat→AV) (i:Nat),JV σ us i=σ i∨∃ u∈us,JV σ us i=u.2
 | [], _, _ => .inl rfl
 | (d, x) :: us, σ, i => by
  simp only [JV];rcases Zl5 us (upd σ d x) i with h | ⟨v,hv,h⟩
  ·by_cases hi:i=d
   ·subst hi;exact .inr ⟨(i,x),by simp,by rw [h,Jl]⟩
   ·exact .inl (by rw [h,Zp _ _ hi])
  ·exact .inr ⟨v,by simp [hv],h⟩
def Zml (us:List (Nat×AV)) (σ:Nat→AV) (d:Nat) (h:d∉us.map (·.1)):JV σ us d=σ d:=by
 induction us generalizing σ with
 | nil => rfl
 | cons u us ih =>
  obtain ⟨e,y⟩:=u;simp only [Xn,Xr,not_or] at h;simp only [JV];rw [ih _ h.2,Zp _ _ h.1]
def ZkY {σ:Nat→AV} {t d:Nat} {us:List (Nat×AV)} {cs:List AV} (a:σ d = .box cs) (h:us = []∨K5 σ t us):d∉us.map (·.1):=by
 rcases h with rfl | ⟨h,_⟩
 ·simp
 ·intro b;obtain ⟨u,c,rfl⟩:=Xs.1 b;obtain ⟨_,_,k,e⟩:=h u c;exact (V8 e).1 cs a
def Zdf {T':Odr} {P:Program} {o:Oper} {σ:Nat→AV} {T:TypeId} {a:Operand} {t d off:Nat} {cs:List AV} {x:Bool} {e:TypeId} {xs:List (List AV)} {us:List (Nat×AV)} (ho:o.op = .store T a (.tmp t)) (ha:getS P σ a = .ptr d off) (hd:σ d = .box cs)
  (R:σ t = .own x e xs) (hn:P.cellsOf T=1) (G:off < cs.length) (D:ZcG ((cs.drop off).take 1)∨Yv T' σ d []) (S:(x=Xb∧us = [])∨Yv T' σ t us) :
  Vr T' P o σ .dead (((t,Zao P x e xs)::us)++[(d,.box (cs.set off (.own x e xs)))]) [d]:=by
 intro c U m A w lim X W H hT f ae Q Y;have Z:getS P m a=getS P σ a:=ZL fun t R=>W t (by simp [ZA (o:=o) (x:=a) (by rw [ho];simp [Op.operands]) R]);have n:m d = .box cs:=by rw [H d (by simp),hd]
 have J:m t = .own x e xs:=by rw [H t (by simp),R]
 have aa:d≠t:=fun h=>by rw [h,J] at n;cases n
 have q:(x=Xb∧us = [])∨K5 m t us:=S.imp id fun h=>h.all hT;have L:=YU U f ha Z;rw [← U] at L;obtain ⟨b,h1,h2,h3⟩:=VS f n L;obtain ⟨i,hi⟩:=ZJ (P:=P) (T:=T) (by omega);have M:=f.rel d;rw [n] at M;obtain ⟨b9,_,_,m1,m2,_⟩:=(show ZK c.P w lim (X d) cs _ from M);obtain ⟨X1,k1,k2,k3⟩:=f.freeAll (us:=us) J q
 have E:JV m ((t,Zao c.P x e xs)::us) d = .box cs:=by
  rw [Zml _ _ _ ?_,n];simp only [Xn,Xr,not_or];exact ⟨aa,ZkY n (q.imp (fun h=>h.2) id)⟩
 have N:=k1.rel d;rw [E] at N;obtain ⟨b0,arr,ty,g1,g2,g3,g4,g5,g6,g7⟩:=(show ZK c.P w lim (X1 d) cs _ from N)
 have ab:b0=b:=by
  rw [h1] at m1;rw [m2] at g2;simp only [Value.pointer.injEq,Xf,Addr.mk.injEq,and_true] at g2;have:=Uo m1;omega
 subst ab
 have C:=k1.setCells (off:=off) (vc:=[.own x e xs]) (us:=[A.getD t undef]) (fun i=>if i=0 then X t 0 else Xe) E g1 (by simp;omega) rfl
  (fun z y=>by simp at y;subst y;exact .inr (.inl ⟨x,e,xs,rfl⟩)) (fun j z u y s=>by
   cases j with
   | zero =>
    simp only [List.getElem?_cons_zero,Xf] at y s;subst y;subst s;show Jt c.P w lim x e xs _ (if 0=0 then X t 0 else Xe);rw [P4 rfl];exact k2
   | succ j => simp at y) g3 (fun k h1 h2 i hi l => by
   rcases D with D | hdr
   ·exact Zcx k1 E D h1 (by simpa using h2) l
   ·rcases Zl5 ((t,Zao c.P x e xs)::us) m i with h | ⟨u,s,h⟩
    ·rw [h] at l;have:=(hdr.all hT).2 i (k+1) hi l;simp at this
    ·rw [h] at l;rcases Xr.1 s with rfl | s
     ·cases x<;>rcases l with l | ⟨_,l⟩ <;> cases l
     ·rcases q with ⟨_,rfl⟩ | hda
      ·simp at s
      ·rw [(hda.1 u s).2.1] at l
       rcases l with l | ⟨_,l⟩ <;> cases l) (fun j b' p=>by
   by_cases hj:j=0
   ·subst hj;rw [P4 rfl] at p
    exact ⟨by simp,(k3 b' p).1,(f.ours t 0 b' p).1,(k3 b' p).2,fun i' O=>by
     by_cases y:i'=0
     ·exact y.symm
     ·rw [P3 y] at O;cases O⟩
   ·rw [P3 hj] at p;cases p)
 refine Ka (w':=w.setRow b0 (arr.toList.take off++[A.getD t undef]++arr.toList.drop (off+1)).toArray) ?_ (Y undef _ ?_)
 ·have r:(A.getD t undef).cells = [A.getD t undef].toArray∧(A.getD t undef).oneCell'=Xc:=by
   rcases k2 with ⟨us,l,_⟩ | ⟨_,_,b1,hv⟩ | ⟨_,_,b1,_,_,_,_,_,_,hv,_⟩
   ·rcases l.2 with ⟨hv,_⟩ | ⟨g,cap,cur,hv,_⟩ <;> rw [hv]<;>exact ⟨rfl,rfl⟩
   ·rw [hv];exact ⟨rfl,rfl⟩
   ·rw [hv];exact ⟨rfl,rfl⟩
  have ac:=K6 (P:=P) (T:=T) (w:=w) (b:=b0) (off:=off) (v:=A.getD t undef) hi r.1 (by simp [hn]) g3 (by simp [g4];omega) (fun u s=>by
   simp at s;subst s;simpa using r.2)
  have ad:Act.eval ⟨A,[]⟩ (.tmp t)=A.getD t undef:=rfl;simp only [execOp,ho,h2,ad,Sem.run_bind,ac,Result.andThen_ok,Sem.run_pure];rfl
 ·have hl:cs.take off++[.own x e xs]++cs.drop (off + [AV.own x e xs].length)=cs.set off (.own x e xs):=ZeN cs off _ G;rw [hl,U] at C;rw [ZgU];exact ZH C rfl (k:=0) trivial
def Ze0 {P:Program} {o:Oper} {σ:Nat→AV} {T:TypeId} {a:Operand} {d off:Nat} {cs:List AV} {e:TypeId} {xs:List (List AV)} (n:o.op = .load T a) (u:JU P T=Xa Xb)
  (v:getS P σ a = .ptr d off) (x:σ d = .box cs) (i:cs[off]? = Xa (.own Xc e xs)):J3 P o σ (.mref d (off+1)) [] [d]:=by
 refine ZD [d] rfl fun c j k D w lim X p l f=>?_;rw [n] at p;have q:=YU j f v (p a (by simp [Op.operands]));have h:k d = .box cs:=by rw [l d (by simp),x]
 rw [← j] at q;obtain ⟨b,r,y,z⟩:=VS f h q;have A:off < cs.length:=(Xx.1 i).1;obtain ⟨s,arr,ty,C,E,g3,g4,g5,g6,g7⟩:=z;have m:s=b:=by rw [C] at r;exact Uo r
 subst m;have t:arr[off]? = Xa arr[off]:=Uz (by omega);refine ⟨arr[off],?_,e,xs,by rw [h];simp only [Zy,i],?_⟩
 ·have g:w.cell? ⟨s,off,Xe⟩=Xa arr[off]:=by rw [Je g3];exact t
  simp [execOp,n,y,Ye u g]
 ·have:=Jt.sliceV (show Jt c.P w lim Xc e xs arr[off] (X d (off+1)) from g7 off _ _ i t);rw [j] at this;exact this
def ZeP {P:Program} {o:Oper} {σ:Nat→AV} {T:TypeId} {a:Operand} {d off:Nat} {cs:List AV} {e:TypeId} {xs:List (List AV)} (ho:o.op = .load T a) (hT:JU P T=Xa Xb)
  (A:getS P σ a = .ptr d off) (hd:σ d = .box cs) (L:cs[off]? = Xa (.own Xb e xs)):J3 P o σ (.own Xb e xs) [(d,.box (cs.set off (.slice Xb (P.cellsOf e) xs)))] [d]:=by
 intro c N C tm w lim X O R f ae Q hn;have hg:getS P C a=getS P σ a:=ZL fun t ht=>O t (by simp [ZA (o:=o) (x:=a) (by rw [ho];simp [Op.operands]) ht]);have hv:=YU N f A hg;have l:C d = .box cs:=by rw [R d (by simp),hd]
 rw [← N] at hv;obtain ⟨b,h1,h2,h3⟩:=VS f l hv;have m:off < cs.length:=(Xx.1 L).1;have s:=f.rel d;rw [l] at s;obtain ⟨U,arr,ty,g1,g2,g3,g4,g5,g6,g7⟩:=(show ZK c.P w lim (X d) cs _ from s);have W:U=b:=by rw [g1] at h1;exact Uo h1
 subst W;have M:off < arr.size:=by omega
 have Y:arr[off]? = Xa arr[off]:=Uz M;have z:Jt c.P w lim Xb e xs arr[off] (X d (off+1)):=g7 off _ _ L Y
 have Z:d < c.nt:=by
  rcases XS d c.nt with m | hge
  ·exact m
  ·have:=f.out d hge;rw [l] at this;rcases this with h0 | h0<;>cases h0
 have aa:Sim c (upd C d (.box (cs.set off (.slice Xb (P.cellsOf e) xs)))) tm w lim (Zaz X d fun k=>if k=off+1 then Xe else X d k):=by
  refine f.putRow (S:=fun _=>False) _ (Jc.refl w lim _) (fun _ hs=>hs.elim) Z rfl (fun j _=>rfl) (.inr ⟨⟨_,rfl⟩,by rw [P3 (by omega)],rfl⟩) (fun i q hi hr=>?_) ?_ (fun k b n=>?_) (fun k k' b n D=>?_)
  ·obtain ⟨p,hp⟩:=VC f hr;rw [l] at hp
   cases q with
   | zero => simp [Zy] at hp
   | succ q =>
    have ab:q≠off:=by
     intro he;subst he;simp [Zy,L] at hp
    refine ⟨fun e2 ac E=>⟨ac,?_,rfl⟩,by rw [P3 (by omega)],fun _ _=>.of rfl⟩;rw [l] at E;simp only [Zy,UI (Ne.symm ab)] at E ⊢;exact E
  ·refine ⟨U,arr,ty,by rw [Zx];exact g1,g2,g3,by simp [g4],g5,fun y G=>?_,fun j y u G r=>?_⟩
   ·obtain ⟨j,H⟩:=X6.1 G;by_cases hji:j=off
    ·subst hji;rw [UP m] at H;simp only [Xf] at H;subst H;exact .inl rfl
    ·rw [UI (fun h=>hji h.symm)] at H;exact g6 y (Xo H)
   ·rw [Zx];by_cases hji:j=off
    ·subst hji;rw [UP m] at G;simp only [Xf] at G;subst G;rw [Y] at r;simp only [Xf] at r;subst r;have:=Jt.rep z Xb rfl;rw [N] at this;exact this
    ·rw [UI (fun h=>hji h.symm)] at G;rw [P3 (by omega)];exact g7 j y u G r
  ·split at n
   ·cases n
   ·exact ⟨(f.ours d k b n).1,(f.ours d k b n).2,fun a j A H=>A (f.dist a j d k b H n).1⟩
  ·split at n<;>split at D
   ·omega
   ·cases n
   ·cases D
   ·exact (f.dist d k d k' b n D).2
 refine Zr (v:=arr[off]) (w':=w) ?_ (hn _ w (Jp aa z (fun b hb=>⟨(f.ours d _ b hb).2,fun a j g=>?_⟩) fun L=>by cases L))
 ·have J:w.cell? ⟨U,off,Xe⟩=Xa arr[off]:=by rw [Je g3];exact Y
  simp [execOp,ho,h2,Ye hT J]
 ·by_cases A:a=d
  ·subst A;rw [Zx] at g;split at g
   ·cases g
   ·rename_i ad;exact ad (f.dist a j a (off+1) b g hb).2
  ·rw [ZC X _ A] at g;exact A (f.dist a j d (off+1) b g hb).1
def Zdd {T':Odr} {P:Program} {o:Oper} {σ:Nat→AV} {T:TypeId} {a:Operand} {d off:Nat} {cs:List AV} {e:TypeId} {xs:List (List AV)} {us:List (Nat×AV)} (ho:o.op = .load T a) (hT:JU P T=Xa Xb)
  (D:getS P σ a = .ptr d off) (hd:σ d = .box cs) (hx:cs[off]? = Xa (.own Xc e xs)) (Y:Yv T' σ d us) (Z:Mv P e xs):Vr T' P o σ (.own Xc e xs) (us++[(d,.box (cs.set off .gone))]) [d]:=by
 intro c hc l tm w lim X aa ab ac f al Q hn;have hg:getS P l a=getS P σ a:=ZL fun t ht=>aa t (by simp [ZA (o:=o) (x:=a) (by rw [ho];simp [Op.operands]) ht]);have hv:=YU hc f D hg;have E:l d = .box cs:=by rw [ab d (by simp),hd]
 rw [← hc] at hv;obtain ⟨b,h1,h2,h3⟩:=VS f E hv;have p:off < cs.length:=(Xx.1 hx).1;have ad:=Y.all ac;obtain ⟨G,ae⟩:=ad
 obtain ⟨X1,r,k2⟩:=f.drops us fun u A=>by
  obtain ⟨m0,m1,k,M⟩:=G u A;obtain ⟨p1,p2,p3⟩:=V8 M;exact ⟨m1,p2,ZaX f (fun e=>by rw [e] at M;rcases M with M | ⟨_,M⟩ <;> cases M) p3⟩
 have N:d∉us.map (·.1):=by
  intro hm;obtain ⟨u,A,rfl⟩:=Xs.1 hm;exact (G u A).1 rfl
 have m:∀ (σ:Nat→AV) (i:Nat),JV σ us i=if i∈us.map (·.1) then .dead else σ i:=fun σ i=>Zae us σ i fun u A=>(G u A).2.1;have af:JV l us d = .box cs:=by rw [m,P3 N,E]
 have O:∀ i k,i≠d→Jz (JV l us i) d k→False:=fun i k hi s=>by
  rw [m] at s;split at s
  ·rcases s with s | ⟨_,s⟩ <;> cases s
  ·rename_i hm;exact hm (ae i k hi s)
 have ag:X1 d=X d:=k2 d N;have C:=r.rel d;rw [af] at C;obtain ⟨b0,arr,ty,g1,g2,g3,g4,g5,g6,g7⟩:=(show ZK c.P w lim (X1 d) cs _ from C);have ah:b0=b:=by rw [ag] at g1;rw [g1] at h1;exact Uo h1
 subst ah;have R:off < arr.size:=by omega
 have A:arr[off]? = Xa arr[off]:=Uz R;have U:Jt c.P w lim Xc e xs arr[off] (X1 d (off+1)):=g7 off _ _ hx A
 have ai:d < c.nt:=by
  rcases XS d c.nt with p | hge
  ·exact p
  ·have:=f.out d hge;rw [E] at this;rcases this with h0 | h0<;>cases h0
 have W:Sim c (upd (JV l us) d (.box (cs.set off .gone))) tm w lim (Zaz X1 d fun k=>if k=off+1 then Xe else X1 d k):=by
  refine r.putRow (S:=fun _=>False) _ (Jc.refl w lim _) (fun _ hs=>hs.elim) ai rfl (fun j _=>rfl) (.inr ⟨⟨_,rfl⟩,by rw [P3 (by omega)],rfl⟩) (fun i q hi s=>(O i q hi s).elim) ?_ (fun k b n=>?_) (fun k k' b n z=>?_)
  ·refine ⟨b0,arr,ty,by rw [Zx];exact g1,g2,g3,by simp [g4],g5,fun y H=>?_,fun j y u H aj=>?_⟩
   ·obtain ⟨j,J⟩:=X6.1 H;by_cases hji:j=off
    ·subst hji;rw [UP p] at J;simp only [Xf] at J;subst J;exact .inr (.inr rfl)
    ·rw [UI (fun h=>hji h.symm)] at J;exact g6 y (Xo J)
   ·rw [Zx];by_cases hji:j=off
    ·subst hji;rw [UP p] at H;simp only [Xf] at H;subst H;exact trivial
    ·rw [UI (fun h=>hji h.symm)] at H;rw [P3 (by omega)];exact g7 j y u H aj
  ·split at n
   ·cases n
   ·exact ⟨(r.ours d k b n).1,(r.ours d k b n).2,fun a j D J=>D (r.dist a j d k b J n).1⟩
  ·by_cases e1:k=off+1
   ·rw [P4 e1] at n;cases n
   ·by_cases e2:k'=off+1
    ·rw [P4 e2] at z;cases z
    ·rw [P3 e1] at n;rw [P3 e2] at z;exact (r.dist d k d k' b n z).2
 rw [← ZgU] at W;refine Zr (v:=arr[off]) (w':=w) ?_ (hn _ w (Jp W U (fun b hb=>⟨(r.ours d _ b hb).2,fun a j g=>?_⟩) fun _=>.mv (by rw [hc];exact Z)))
 ·have L:w.cell? ⟨b0,off,Xe⟩=Xa arr[off]:=by rw [Je g3];exact A
  simp [execOp,ho,h2,Ye hT L]
 ·by_cases D:a=d
  ·subst D;rw [Zx] at g;split at g
   ·cases g
   ·rename_i ak;exact ak (r.dist a j a (off+1) b g hb).2
  ·rw [ZC X1 _ D] at g;exact D (r.dist a j d (off+1) b g hb).1
def ZcA {P:Program} {T ty e:TypeId} {i:TypeInfo} (b:P.underlying T=Xa (.slice e)) (d:P.info? e=Xa i) (w:World) (base:Option Addr) (n cap:Nat) (f:n≤cap) (a:Option Addr) (c:Nat) :
  (Builtin.append_ #[T,T] ty #[.slice base n cap,.slice a 0 c]).run P w = .ok (.slice base n cap) w:=by
 cases a<;>cases base <;>
  simp [Builtin.append_,run_underlying b,sizeOf,typeInfo,d,Builtin.lenOf,f,Builtin.firstCells,loadCells,loadCellsFrom,storeCells]
def ZsH {P:Program} {w:World} {lim:Nat→Nat} (x:Bool) {e:TypeId} {zs:List (List AV)} {us:List Value} {arr:Array Value} {cap:Nat} (d:us.length=zs.length*P.cellsOf e) (g:zs.length≤cap) (h:cap≤maxLen)
  (i:arr.size=cap*P.cellsOf e) (k:arr.toList.take us.length=us) (l:∀ x∈zs,x.length=P.cellsOf e) (m:∀ x∈zs,∀ c∈x,c.isCell=Xc)
  (n:∀ (j:Nat) (c:AV) (u:Value),zs.flatten[j]? = Xa c→us[j]? = Xa u→Rep w lim c u) (S:Nat→Prop) :
  Jt P (w.drew.alloc (.cells arr e)) (fun b=>if b=w.heap.size then (if x=Xc then 0 else us.length) else lim b) x e zs (.slice (Xa ⟨w.heap.size,0,Xe⟩) zs.length cap) (Xa w.heap.size)∧
  Jc w lim (w.drew.alloc (.cells arr e)) (fun b=>if b=w.heap.size then (if x=Xc then 0 else us.length) else lim b) S:=by
 have a:Jc w lim (w.drew.alloc (.cells arr e)) (fun b=>if b=w.heap.size then (if x=Xc then 0 else us.length) else lim b) S:=by
  have:=Km w.drew lim arr e (if x=Xc then 0 else us.length) S;exact ⟨this.os,this.tape,this.output,this.size,this.frz,this.blk,this.ext⟩
 refine ⟨.inl ⟨us,⟨d,.inr ⟨w.heap.size,cap,arr,rfl,X7 _,Y6 w.drew arr e,g,h,i,by rw [← d];exact k⟩⟩,rfl,fun b f=>?_,l,m,fun j c u o p=>(n j c u o p).mono a.ext⟩,a⟩;simp only [Xf] at f;subst f;exact P4 rfl
def RdS (w:World) (lim:Nat→Nat) (s:Nat) (d:List (List AV)) (v:Value):Prop:=
 (d = []∧∃ a c,v = .slice a 0 c)∨∃ (b o cap:Nat) (us:List Value),v = .slice (Xa ⟨b,o,Xe⟩) d.length cap∧(∀ e∈d,e.length=s)∧(∀ e∈d,∀ c∈e,c.isCell=Xc)∧us.length=d.length*s∧
  (∀ (j:Nat) (u:Value),us[j]? = Xa u→w.cell? ⟨b,o+j,Xe⟩=Xa u)∧∀ (j:Nat) (c:AV) (u:Value),d.flatten[j]? = Xa c→us[j]? = Xa u→Rep w lim c u
def RdS.of {w:World} {lim:Nat→Nat} {f:Bool} {s:Nat} {a:List (List AV)} {v:Value} (h:Rep w lim (.slice f s a) v):RdS w lim s a v:=by
 cases h with
 | sliceN => exact .inl ⟨rfl, _, _, rfl⟩
 | sliceE _ => exact .inl ⟨rfl, _, _, rfl⟩
 | @sliceC _ _ _ b o ycap news hs hcl hf hle hlim hnl hncell hnr => exact .inr ⟨b, o, ycap, news, rfl, hs, hcl, hnl, hncell, hnr⟩
def RdS.form {w:World} {lim:Nat→Nat} {s:Nat} {d:List (List AV)} {v:Value} (h:RdS w lim s d v):∃ a c,v = .slice a d.length c:=by
 rcases h with ⟨rfl,a,c,h⟩ | ⟨b,o,cap,us,h,_⟩
 ·exact ⟨a,c,h⟩
 ·exact ⟨_,_,h⟩
def KN {P:Program} {T ty e:TypeId} {i:TypeInfo} {z:Value} {w:World} {lim:Nat→Nat} {xs f:List (List AV)} {v yv:Value} {ob:Option Nat} {x:Bool} (hT:P.underlying T=Xa (.slice e)) (hi:P.info? e=Xa i)
  (hz:i.zero=Xa z) (ag:z.cells.size=i.size) (hx:Jt P w lim x e xs v ob) (hy:RdS w lim (P.cellsOf e) f yv) (L:(xs.length+f.length)*(i.bytes+1)≤Jr) (N:Zv P e=Xb) :
  ∃ v' w' l U,(Builtin.append_ #[T,T] ty #[v,yv]).run P w = .ok v' w'∧Jt P w' l x e (xs++f) v' U∧Jc w lim w' l (fun b=>ob=Xa b)∧(U=ob∨U=Xa w.heap.size):=by
 have m:P.cellsOf e=i.size:=ZF hi
 have au:xs.length+f.length≤1099511627776:=by
  have:(xs.length+f.length)*1≤(xs.length+f.length)*(i.bytes+1):=Tc _ (by omega);unfold Jr at L;omega
 have ab:(xs.length+f.length)*i.bytes≤1099511627776:=by
  have:(xs.length+f.length)*i.bytes≤(xs.length+f.length)*(i.bytes+1):=Tc _ (by omega);unfold Jr at L;omega
 have O:∃ base cap,v = .slice base xs.length cap∧xs.length≤cap:=by
  rcases hx.noMap N with ⟨us,hr,_⟩ | ⟨rfl,_,a,rfl⟩
  ·rcases hr.2 with ⟨C,hn⟩ | ⟨g,cap,cur,C,_,_,hnc,_⟩
   ·exact ⟨Xe,0,by rw [C,hn],by omega⟩
   ·exact ⟨_,cap,C,hnc⟩
  ·exact ⟨_,0,rfl,Xt _⟩
 by_cases hm:f = []
 ·subst hm;obtain ⟨base,cap,C,ah⟩:=O;obtain ⟨a,c,ai⟩:=hy.form;refine ⟨v,w,lim,ob,?_,by rw [UG];exact hx,Jc.refl w lim _,.inl rfl⟩;rw [C,ai];exact ZcA hT hi w base xs.length cap ah a c
 ·have aj:0 < f.length:=TB.2 hm;rcases hy with ⟨hye,_⟩ | ⟨b,o,ycap,d,rfl,hs,hcl,hnl,hncell,hnr⟩
  ·exact (hm hye).elim
  ·have q:∀ (j:Nat) (u:Value),d[j]? = Xa u→w.cell? ((⟨b,o,Xe⟩:Addr).add j)=Xa u:=fun j u hj=>by rw [J1];exact hncell j u hj
   have D:∀ x∈xs++f,x.length=P.cellsOf e:=by
    intro x W;rcases Xq.1 W with h | h
    ·rcases hx.noMap N with ⟨_,_,_,_,h4,_⟩ | ⟨rfl,_⟩
     ·exact h4 x h
     ·simp at h
    ·exact hs x h
   have ac:∀ x∈xs++f,∀ c∈x,c.isCell=Xc:=by
    intro x W;rcases Xq.1 W with h | h
    ·rcases hx.noMap N with ⟨_,_,_,_,_,h5,_⟩ | ⟨rfl,_⟩
     ·exact h5 x h
     ·simp at h
    ·exact hcl x h
   have X:∀ u∈d,u.oneCell'=Xc:=by
    intro u G;obtain ⟨j,hj⟩:=X6.1 G
    have ad:j < f.flatten.length:=by
     rw [Zs f _ hs,← hnl];exact (Xx.1 hj).1
    have Y:=hnr j _ u (Xm ad) hj;obtain ⟨y,ak,al⟩:=List.mem_flatten.1 (XC ad);exact Y.oneCell (hcl y ak _ al)
   have R:∀ (us:List Value),us.length=xs.length*P.cellsOf e→(∀ x∈xs,x.length=P.cellsOf e)→(∀ (j:Nat) (c:AV) (u:Value),xs.flatten[j]? = Xa c→us[j]? = Xa u→Rep w lim c u)→
     ∀ (j:Nat) (c:AV) (u:Value),(xs++f).flatten[j]? = Xa c→(us++d)[j]? = Xa u→Rep w lim c u:=by
    intro us r H J j c u Z G;have am:xs.flatten.length=us.length:=by rw [Zs xs _ H,r]
    rw [U0] at Z;by_cases hj:j < us.length
    ·rw [XH (by omega)] at Z;rw [XH hj] at G;exact J j c u Z G
    ·rw [XG (by omega),am] at Z;rw [XG (by omega)] at G;exact hnr _ c u Z G
   have A:∀ (us:List Value) (s:Nat),us.length=xs.length*P.cellsOf e→(∀ (j:Nat) (c:AV) (u:Value),xs.flatten[j]? = Xa c→us[j]? = Xa u→Rep w lim c u)→(∀ x∈xs,x.length=P.cellsOf e)→
     ∃ l,Jt P (w.drew.alloc (.cells (us.toArray++d.toArray++Builtin.zeroCells z.cells (grownCap w (xs.length+f.length) s e-(xs.length+f.length))) e)) l x e (xs++f) (.slice (Xa ⟨w.heap.size,0,Xe⟩) (xs.length+f.length) (grownCap w (xs.length+f.length) s e)) (Xa w.heap.size)∧
      Jc w lim (w.drew.alloc (.cells (us.toArray++d.toArray++Builtin.zeroCells z.cells (grownCap w (xs.length+f.length) s e-(xs.length+f.length))) e)) l (fun b=>ob=Xa b):=by
    intro us s r J H;have an:=grownCap_ge w (xs.length+f.length) s e;have ao:=grownCap_le_maxLen w (xs.length+f.length) s e (by simp only [maxLen];omega)
    have:=ZsH (P:=P) (w:=w) (lim:=lim) x (e:=e) (zs:=xs++f) (us:=us++d) (arr:=us.toArray++d.toArray++Builtin.zeroCells z.cells (grownCap w (xs.length+f.length) s e-(xs.length+f.length)))
     (cap:=grownCap w (xs.length+f.length) s e) (by rw [XD,XD,r,hnl,XY]) (by rw [XD];exact an) ao ?_ ?_ D ac (R us r H J) (fun b=>ob=Xa b)
    ·have ap:(xs++f).length=xs.length+f.length:=XD;rw [ap] at this;exact ⟨_,this.1,this.2⟩
    ·simp only [Array.size_append,Up,size_zeroCells,ag,r,hnl,m,← XY];congr 1;omega
    ·simp only [Array.toList_append];exact List.take_left
   rcases hx.noMap N with ⟨us,hr,hob,hlimo,H,hxc,J⟩ | ⟨rfl,hob,b',C⟩
   ·rcases hr.2 with ⟨C,hn⟩ | ⟨g,cap,cur,C,hbg,hg,hnc,hcm,hcs,htake⟩
    ·have aq:xs = []:=Uh hn;have ar:us = []:=Uh (by rw [hr.1,hn];simp);subst aq;subst ar;have n:=run_append_nil (P:=P) w T ty e i z hT hi hz ⟨b,o,Xe⟩ f.length ycap d (by rw [hnl,m]) q aj (by omega) (by simp only [Ui,XW] at ab;omega);obtain ⟨l,Q,h2⟩:=A [] 0 (by simp) (by simp) (by simp);simp only [Ui,XW] at Q h2;have ae:([] : List Value).toArray++d.toArray=d.toArray:=by simp
     rw [ae] at Q h2;rw [C];exact ⟨_,_,l,_,n,Q,h2,.inr rfl⟩
    ·have t:ob=Xa g:=by rw [← hob,C];rfl
     by_cases hroom':xs.length+f.length≤cap
     ·have S:xs.length*i.size+d.length≤cur.size:=by rw [hnl,hcs,m,← XY];exact XP _ hroom'
      have n:=run_append_room (P:=P) w T ty e i hT hi g xs.length cap cur hg ⟨b,o,Xe⟩ f.length ycap d (by rw [hnl,m]) q X hroom' S;have E:cur.toList.take (xs.length*i.size)=us:=by rw [← m];exact htake
      rw [E] at n;have r:us.length=xs.length*i.size:=by rw [hr.1,m]
      have M:Jc w lim (w.setRow g (us++d++cur.toList.drop (xs.length*i.size+d.length)).toArray) (fun k=>if k=g then (if x=Xc then 0 else us.length+d.length) else lim k) (fun k=>ob=Xa k):=by
       refine ⟨rfl,rfl,rfl,by simp,fun a _=>W9 w g cur _ e hg a,fun k _ hk=>⟨setRow_other w g k _ (fun h=>hk (by rw [t,h])),P3 (fun h=>hk (by rw [t,h]))⟩,fun k hk=>⟨?_,fun p u hp G=>?_⟩⟩
       ·show lim k≤if k=g then (if x=Xc then 0 else us.length+d.length) else lim k;split
        ·rename_i h;subst h;rw [hlimo k t];split<;>omega
        ·exact Xt _
       ·by_cases h:k=g
        ·subst h
         have hp:p < us.length:=by
          rw [hlimo k t] at hp;split at hp<;>omega
         rw [Je (setRow_heap w k cur _ e (0,0) hg)];rw [Je hg] at G
         have Q:us[p]? = Xa u:=by
          rw [← E,XI,P4 (by omega)];simpa using G
         rw [List.getElem?_toArray,XB,XH hp];exact Q
        ·unfold World.cell? at G ⊢;rw [setRow_other w g k _ h];exact G
      refine ⟨_,_,_,Xa g,by rw [C];exact n,.inl ⟨us++d,⟨by rw [XD,XD,r,hnl,m,XY],.inr ⟨g,cap,_,?_,X7 _,setRow_heap w g cur _ e (0,0) hg,by rw [XD];exact hroom',hcm,?_,?_⟩⟩,rfl,fun b' af=>?_,D,ac,fun j c u Z G=>(R us hr.1 H J j c u Z G).mono M.ext⟩,M,.inl t.symm⟩
      ·rw [XD]
      ·simp only [Up,XD,XV,Array.length_toList];rw [hcs,m];rw [hcs,m] at S;omega
      ·have:(xs++f).length*P.cellsOf e=(us++d).length:=by rw [XD,XD,r,hnl,m,XY]
       rw [this];exact List.take_left
      ·simp only [Xf] at af;subst af;rw [XD];exact P4 rfl
     ·have aa:∀ (j:Nat) (u:Value),us[j]? = Xa u→w.cell? ((⟨g,0,Xe⟩:Addr).add j)=Xa u:=hr.cells (g:=g) (by rw [C];rfl);have n:=run_append_grow (P:=P) w T ty e i z hT hi hz ⟨g,0,Xe⟩ xs.length cap us (by rw [hr.1,m]) aa ⟨b,o,Xe⟩ f.length ycap d (by rw [hnl,m]) q (by omega) (by omega) (growslice_fits (by omega) (by omega));obtain ⟨l,Q,h2⟩:=A us cap hr.1 J H;exact ⟨_,_,l,_,by rw [C];exact n,Q,h2,.inr rfl⟩
   ·have n:=run_append_grow (P:=P) w T ty e i z hT hi hz b' 0 0 [] (by simp) (by simp) ⟨b,o,Xe⟩ f.length ycap d (by rw [hnl,m]) q (by omega) (by omega) (growslice_fits (by omega) (by simp only [Ui] at ab;omega));obtain ⟨l,Q,h2⟩:=A [] 0 (by simp) (by simp) (by simp);exact ⟨_,_,l,_,by rw [C];exact n,Q,h2,.inr rfl⟩
end Go.AM
