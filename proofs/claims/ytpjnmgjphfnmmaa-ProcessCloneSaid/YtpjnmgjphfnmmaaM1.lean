import Derived.WalkKit
import Derived.Laws.AppendOwnNone
import Derived.MapKept
import Derived.CheckFast
open Option renaming some→Xa,none→Xc,map_some→Xw
open Bool renaming true→Xb,false→Xe,and_eq_true→Xs
open Option.some renaming injEq→Xf,inj→XT
open List renaming replicate→Xg,map_cons→Xh,mem_map→Xj,getElem?_eq_some_iff→Xk,getElem?_map→Xl,mem_of_getElem?→Xm,append_assoc→Xo,getElem?_eq_getElem→Xp,mem_cons→Xq,length_append→Xu,mem_append→Xv,getElem?_append_left→Xx,getElem?_append_right→Xz,length_cons→XA,getElem?_take→XC,all_eq_true→XD,mem_singleton→XE,mem_iff_getElem?→XO,getElem?_drop→XP,mem_of_mem_take→XR,length_take→XU,mem_of_mem_drop→XY,eq_nil_of_length_eq_zero→X7,flatten_cons→X9,getElem?_set_self→Wi,getElem?_eq_none→Wl,getElem?_set_ne→Wn,ext_getElem?→Wo,range→Ua,length_drop→Ui,size_toArray→UB,length_pos_iff→U4
open Prod.mk renaming injEq→Xt
open Nat renaming le_refl→Xy,lt_or_ge→XG,zero_add→XH,le_trans→XI,lt_of_lt_of_le→XS,le_add_right→XX,mul_le_mul_right→XZ,zero_le→X5,add_mul→Wh,add_assoc→Wu,add_zero→Uh,succ_mul→Uk,add_sub_cancel_left→UI
open Array renaming toList_inj→XK,getElem?_eq_getElem→XV,getElem?_eq_some_iff→Wk,getD→Ub
set_option linter.unusedVariables false
set_option linter.unusedSimpArgs false
set_option linter.defProp false
namespace Go.AM
structure Lm where
 f:Nat→Nat
 t:Nat→Option (Nat×Nat×TypeId)
instance:CoeFun Lm (fun _=>Nat→Nat):=⟨Lm.f⟩
inductive AV where
 | dead
 | gone
 | val (v : Value)
 | agg (cs : List AV)
 | tuple (vs : List AV)
 | aggo (cs : List AV)
 | slice (full : Bool) (s : Nat) (xs : List (List AV))
 | own (x : Bool) (e : TypeId) (xs : List (List AV))
 | box (cs : List AV)
 | ptr (d off : Nat)
 | eptr (cs : List AV)
 | mref (d k : Nat)
 | eref (d k o : Nat)
 | gbox (cs : List AV)
 | clo (g : FuncId) (ds : List Nat)
 | nest (s : Nat) (o : Bool) (e : TypeId) (ys : List (List AV))
 | oref (j off : Nat)
 | osl (e : TypeId) (j n : Nat)
 | omap (j : Nat)
 | fnc (g : FuncId) (js : List Nat)
 | store (rows : List (List AV))
def AV.isSto:AV→Bool
 | .store _ => Xb
 | _ => Xe
def AV.isG:AV→Bool
 | .gbox _ => Xb
 | .store _ => Xb
 | _ => Xe
def AV.isB:AV→Bool
 | .box _ => Xb
 | .gbox _ => Xb
 | .store _ => Xb
 | _ => Xe
def ZfH:Value→Bool
 | .bool _ => Xb
 | .int _ _ => Xb
 | .string _ => Xb
 | _ => Xe
def AV.isCell:AV→Bool
 | .val _ => Xb
 | .slice _ _ _ => Xb
 | .nest _ _ _ _ => Xb
 | .oref _ _ => Xb
 | .osl _ _ _ => Xb
 | .omap _ => Xb
 | .fnc _ _ => Xb
 | _ => Xe
def AV.cells:AV→List AV
 | .agg cs => cs
 | x => [x]
inductive Rep (w:World) (lim:Lm):AV→Value→Prop
 | val {v : Value} (h : ZfH v = Xb) : Rep w lim (.val v) v
 | agg {cs : List AV} {vs : List Value} (hl : cs.length = vs.length) (hc : ∀ c ∈ cs, c.isCell = Xb)
   (h:∀ (i:Nat) (c:AV) (v:Value),cs[i]? = Xa c→vs[i]? = Xa v→Rep w lim c v):Rep w lim (.agg cs) (.agg vs.toArray)
 | sliceN {full : Bool} {s : Nat} : Rep w lim (.slice full s []) (.slice Xc 0 0)
 | sliceE {full : Bool} {s : Nat} {a : Addr} {cap : Nat} (hf : full = Xb → cap = 0) : Rep w lim (.slice full s []) (.slice (Xa a) 0 cap)
 | sliceC {full : Bool} {s : Nat} {xs : List (List AV)} {b o cap : Nat} {us : List Value} (hs : ∀ e ∈ xs, e.length = s)
   (hc:∀ e∈xs,∀ c∈e,c.isCell=Xb) (hf:full=Xb→cap=xs.length) (hle:xs.length≤cap) (hlim:us≠[]→o+us.length≤lim b)
   (hus:us.length=xs.length*s) (hcell:∀ (j:Nat) (u:Value),us[j]? = Xa u→w.cell? ⟨b,o+j,Xc⟩=Xa u)
   (h:∀ (j:Nat) (c:AV) (v:Value),xs.flatten[j]? = Xa c→us[j]? = Xa v→Rep w lim c v):Rep w lim (.slice full s xs) (.slice (Xa ⟨b,o,Xc⟩) xs.length cap)
 | nest {s : Nat} {o : Bool} {e : TypeId} {ys : List (List AV)} {a : Option Addr} {n cap : Nat} : Rep w lim (.nest s o e ys) (.slice a n cap)
 | oref0 : Rep w lim (.oref 0 0) (.pointer Xc)
 | oref {j off b cap : Nat} {ty : TypeId} (hj : 0 < j) (h : lim.t j = Xa (b, cap, ty)) : Rep w lim (.oref j off) (.pointer (Xa ⟨b, off, Xc⟩))
 | osl0 {e : TypeId} {a : Option Addr} : Rep w lim (.osl e 0 0) (.slice a 0 0)
 | osl {e : TypeId} {j n b cap : Nat} (hj : 0 < j) (h : lim.t j = Xa (b, cap, e)) (hn : n ≤ cap) : Rep w lim (.osl e j n) (.slice (Xa ⟨b, 0, Xc⟩) n cap)
 | omap {j b cap : Nat} {ty : TypeId} (hj : 0 < j) (h : lim.t j = Xa (b, cap, ty)) : Rep w lim (.omap j) (.map (Xa b))
 | fnc {g : FuncId} {js bs : List Nat} (hl : bs.length = js.length) (h : ∀ (i j b : Nat), js[i]? = Xa j → bs[i]? = Xa b → 0 < j ∧ ∃ cap ty, lim.t j = Xa (b, cap, ty)) :
   Rep w lim (.fnc g js) (.func (.func g) #[] (bs.map fun b=>Value.pointer (Xa ⟨b,0,Xc⟩)).toArray)
 | omap0 : Rep w lim (.omap 0) (.map Xc)
 | fncN {g : FuncId} : Rep w lim (.fnc g []) .nilFunc
theorem ZeM {v:Value} (h:ZfH v=Xb):v.oneCell'=Xb:=by cases v<;>simp_all [ZfH,Value.oneCell']
theorem Rep.oneCell {w:World} {lim:Lm} {x:AV} {v:Value} (h:Rep w lim x v) (hx:x.isCell=Xb):v.oneCell'=Xb:=by
 cases h with
 | val h => exact ZeM h
 | agg => simp [AV.isCell] at hx
 | sliceN => rfl
 | sliceE _ => rfl
 | sliceC => rfl
 | nest => rfl
 | oref0 => rfl
 | oref => rfl
 | osl0 => rfl
 | osl => rfl
 | omap => rfl
 | fnc => rfl
 | omap0 => rfl
 | fncN => rfl
structure Ext (w:World) (lim:Lm) (w':World) (lim':Lm):Prop where
 old:∀ (b:Nat),b < w.heap.size→lim b≤lim' b∧∀ (o:Nat) (u:Value),o < lim b→w.cell? ⟨b,o,Xc⟩=Xa u→w'.cell? ⟨b,o,Xc⟩=Xa u
 t:∀ j p,lim.t j=Xa p→lim'.t j=Xa p
instance {w:World} {lim:Lm} {w':World} {lim':Lm} : CoeFun (Ext w lim w' lim') (fun _=>∀ (b:Nat),b < w.heap.size→lim b≤lim' b∧∀ (o:Nat) (u:Value),o < lim b→w.cell? ⟨b,o,Xc⟩=Xa u→w'.cell? ⟨b,o,Xc⟩=Xa u):=⟨Ext.old⟩
theorem Ext.refl (w:World) (lim:Lm):Ext w lim w lim:=⟨fun _ _=>⟨Xy _,fun _ _ _ h=>h⟩,fun _ _ h=>h⟩
theorem Ext.trans {w1 w2 w3:World} {l1 l2 l3:Lm} (h:Ext w1 l1 w2 l2) (k:Ext w2 l2 w3 l3) (hz:w1.heap.size≤w2.heap.size):Ext w1 l1 w3 l3:=
 ⟨fun b hb=>⟨XI (h b hb).1 (k b (by omega)).1,fun o u ho hu=>(k b (by omega)).2 o u (XS ho (h b hb).1) ((h b hb).2 o u ho hu)⟩,fun j p hp=>k.t j p (h.t j p hp)⟩
theorem Zb9 {w:World} {b o:Nat} {u:Value} (h:w.cell? ⟨b,o,Xc⟩=Xa u):b < w.heap.size:=World.block_lt_of_cell? w ⟨b,o,Xc⟩ h
theorem Rep.mono {w w':World} {lim lim':Lm} (he:Ext w lim w' lim') {x:AV} {v:Value} (h:Rep w lim x v):Rep w' lim' x v:=by
 induction h with
 | val h => exact .val h
 | agg hl hc _ ih => exact .agg hl hc ih
 | sliceN => exact .sliceN
 | nest => exact .nest
 | oref0 => exact .oref0
 | oref hj h => exact .oref hj (he.t _ _ h)
 | osl0 => exact .osl0
 | osl hj h hn => exact .osl hj (he.t _ _ h) hn
 | omap hj h => exact .omap hj (he.t _ _ h)
 | omap0 => exact .omap0
 | fncN => exact .fncN
 | fnc hl h => exact .fnc hl fun i j b h1 h2 => ⟨(h i j b h1 h2).1, (h i j b h1 h2).2.imp fun _ hc => hc.imp fun _ hc => he.t _ _ hc⟩
 | sliceE hf => exact .sliceE hf
 | @sliceC full s xs b o cap us hs hc hf hle hlim hus hcell _ ih =>
  by_cases hne:us = []
  ·subst hne;exact .sliceC (us:=[]) hs hc hf hle (fun h=>(h rfl).elim) hus (by simp) (by simp)
  ·have hl:=hlim hne;obtain ⟨u,rest,rfl⟩:∃ u rest,us=u::rest:=by cases us with | nil=>exact (hne rfl).elim | cons u rest=>exact ⟨u,rest,rfl⟩
   have hb:=Zb9 (hcell 0 u rfl)
   exact .sliceC hs hc hf hle (fun _=>XI hl (he b hb).1) hus
    (fun j u' hj=>(he b hb).2 _ _ (by have:=(Xk.1 hj).1;omega) (hcell j u' hj)) ih
def Ze2 (l:List (List AV)):List (List AV):=match l with | (.slice _ _ kvs::_)::_=>kvs | _=>[]
def Zl (r:List AV):Option Int:=match r with | .val (.int .i64 z)::_=>Xa z | _=>Xc
def ZvY (r:List AV):List (List AV):=match r with | _ :: .slice _ _ ys::_=>ys | _=>[]
def Zvr (l:List (List AV)) (k:Int):List (List AV):=match (Ze2 l).find? (fun r=>Zl r == Xa k) with | some r=>ZvY r | none=>[]
def ZsA (l:List (List AV)) (k:Int):List (List AV):=[[.slice Xe 2 (Ze2 l),.val (.int .i64 k)]]
def Yz (kvs:List (List AV)) (k:Int) (c:AV):List (List AV):=
 if (kvs.any fun r=>Zl r == Xa k)=Xb then kvs.map fun r=>if Zl r == Xa k then [.val (.int .i64 k),c] else r else kvs++[[.val (.int .i64 k),c]]
def Zvd (l:List (List AV)) (k:Int) (s:Nat) (v:List (List AV)):List (List AV):=[[.slice Xe 2 (Yz (Ze2 l) k (.slice Xe s v))]]
def Zs8 (l:List (List AV)):List (List AV):=(((Ze2 l).filterMap Zl).mergeSort fun a b=>decide (a≤b)).map fun z=>[.val (.int .i64 z)]
inductive MQ where
 | any
 | full
 | at
 | keys
 deriving DecidableEq,Repr
def Zwt (k:Int) (x:AV):Bool:=match x with | .val (.int .i64 z)=>z == k | _=>Xe
def Znq (r:List AV):Bool:=match Zl r with | some z=>decide (-9223372036854775808≤z)&&decide (z≤9223372036854775807) | none=>Xe
def Zw3 (q:MQ) (l:List (List AV)) (k:Int):Bool:=
 match l with
 | [.slice Xe 2 kvs :: tl] =>
  match q with
  | .any => Xb
  | .full => tl.isEmpty
  | .at => tl.all (Zwt k)
  | .keys => tl.isEmpty && (decide (kvs.length ≤ 1048576) && kvs.all Znq)
 | _ => Xe
def Zvt (P:Program) (T:TypeId):Option Value:=
 match P.underlying T with
 | some (.map kt vt) =>
  match P.underlying kt,P.info? vt with
  | some (.int .i64), Xa i => (match i.zero with | some (.bool b) => Xa (.bool b) | some (.int k z) => Xa (.int k z) | _ => Xc)
  | _, _ => Xc
 | _ => Xc
def Zry (u v:Value):Bool:=
 match u,v with
 | .bool _, .bool _ => Xb
 | .int k _, .int k' _ => decide (k = k')
 | _, _ => Xe
def Zd5 (P:Program) (T:TypeId):Bool:=
 match P.underlying T with
 | some (.map kt vt) => (match P.underlying kt, P.underlying vt, (P.info? vt).bind (·.zero) with | some (.int .i64), Xa (.pointer _), Xa (.pointer Xc) => Xb | _, _, _ => Xe)
 | _ => Xe
def ZbX (P:Program) (T:TypeId):Option TypeId:=
 match P.underlying T with
 | some (.map kt vt) => (match P.underlying kt, P.underlying vt with | some (.int .i64), Xa (.slice et) => Xa et | _, _ => Xc)
 | _ => Xc
def Zm (_:Program) (e:TypeId):Bool:=decide (1048576≤e)
def Zr6 (P:Program) (w:World) (lim:Lm) (et:TypeId) (en:MapEntry) (row:List AV):Prop:=
 ∃ (z:Int) (ys:List (List AV)),row = [.val (.int .i64 z),.slice Xe (P.cellsOf et) ys]∧en.key = .int .i64 z∧Rep w lim (.slice Xe (P.cellsOf et) ys) en.val
def Zwc (P:Program) (w:World) (lim:Lm) (e:TypeId) (xs:List (List AV)) (v:Value) (ob:Option Nat):Prop:=
 Zm P e=Xb∧∃ (b:Nat) (es:Array MapEntry) (clock:Nat) (kvs:List (List AV)) (et:TypeId),ZbX P (e-1048576)=Xa et∧ob=Xa b∧v = .map (Xa b)∧w.heap[b]? = Xa (.map es clock)∧lim b=0∧
  (∃ tl,xs = [.slice Xe 2 kvs::tl])∧es.size=kvs.length∧MapKept.Stamped es clock∧∀ (i:Nat) (en:MapEntry) (row:List AV),es[i]? = Xa en→kvs[i]? = Xa row→Zr6 P w lim et en row
theorem Zwc.mono {P:Program} {w w':World} {lim lim':Lm} {e:TypeId} {xs:List (List AV)} {v:Value} {ob:Option Nat} (h:Zwc P w lim e xs v ob) (he:Ext w lim w' lim')
  (hk:∀ b,ob=Xa b→w'.heap[b]? = w.heap[b]?∧lim' b=lim b):Zwc P w' lim' e xs v ob:=by
 obtain ⟨h0,b,es,clock,kvs,et,het,rfl,h2,h3,h4,h5,h6,h7,h8⟩:=h;refine ⟨h0,b,es,clock,kvs,et,het,rfl,h2,(hk b rfl).1.trans h3,(hk b rfl).2.trans h4,h5,h6,h7,fun i en row g1 g2=>?_⟩;obtain ⟨z,ys,k1,k2,k3⟩:=h8 i en row g1 g2;exact ⟨z,ys,k1,k2,k3.mono he⟩
def Zrl (P:Program) (w:World) (lim:Lm) (e:TypeId) (xs:List (List AV)) (v:Value) (ob:Option Nat):Prop:=
 Zm P e=Xb∧∃ (b:Nat) (es:Array MapEntry) (clock:Nat) (kvs:List (List AV)) (z:Value),(Zvt P (e-1048576)=Xa z∧ZbX P (e-1048576)=Xc∧e < 2097152)∧ob=Xa b∧v = .map (Xa b)∧w.heap[b]? = Xa (.map es clock)∧lim b=0∧
  xs = [[.slice Xe 2 kvs]]∧es.size=kvs.length∧MapKept.Stamped es clock∧∀ (i:Nat) (en:MapEntry) (row:List AV),es[i]? = Xa en→kvs[i]? = Xa row→
   ∃ (k:Int) (u:Value),row = [.val (.int .i64 k),.val u]∧en.key = .int .i64 k∧en.val=u∧Zry u z=Xb
theorem Zrl.mono {P:Program} {w w':World} {lim lim':Lm} {e:TypeId} {xs:List (List AV)} {v:Value} {ob:Option Nat} (h:Zrl P w lim e xs v ob)
  (hk:∀ b,ob=Xa b→w'.heap[b]? = w.heap[b]?∧lim' b=lim b):Zrl P w' lim' e xs v ob:=by
 obtain ⟨h0,b,es,clock,kvs,z,hz,rfl,h2,h3,h4,h5⟩:=h;exact ⟨h0,b,es,clock,kvs,z,hz,rfl,h2,(hk b rfl).1.trans h3,(hk b rfl).2.trans h4,h5⟩
def Zg0 (P:Program) (w:World) (lim:Lm) (x:Bool) (e:TypeId) (xs:List (List AV)) (v:Value) (ob:Option Nat):Prop:=
 (∃ us:List Value,w.ownsRow 0 e (P.cellsOf e) v xs.length us∧v.ownBlock=ob∧(∀ b,ob=Xa b→lim b=if x=Xb then 0 else us.length)∧
  (∀ x∈xs,x.length=P.cellsOf e)∧(∀ x∈xs,∀ c∈x,c.isCell=Xb)∧
  ∀ (j:Nat) (c:AV) (u:Value),xs.flatten[j]? = Xa c→us[j]? = Xa u→Rep w lim c u)∨
 (xs = []∧ob=Xc∧∃ a,v = .slice (Xa a) 0 0)
def Zn (P:Program) (e:TypeId):Bool:=decide (2097152≤e)&&(ZbX P (e-1048576)).isNone
theorem ZjB {P:Program} {e:TypeId} (h:Zn P e=Xb):Zm P e=Xb:=by
 simp only [Zn,Xs,decide_eq_true_eq] at h;exact decide_eq_true (XI (by decide) h.1)
theorem Jc {P:Program} {e:TypeId} (h:Zm P e=Xe):Zn P e=Xe:=by
 cases hd:Zn P e with
 | false => rfl
 | true => rw [ZjB hd] at h; cases h
theorem ZdC {P:Program} {e:TypeId} (h:Zn P e=Xb):ZbX P (e-1048576)=Xc:=by
 simp only [Zn,Xs,Option.isNone_iff_eq_none] at h;exact h.2
theorem ZhJ {P:Program} {e:TypeId} {et:TypeId} (h:ZbX P (e-1048576)=Xa et):Zn P e=Xe:=by
 cases hd:Zn P e with
 | false => rfl
 | true => rw [ZdC hd] at h; cases h
theorem WQ {P:Program} {e:TypeId} (h:e < 2097152):Zn P e=Xe:=by
 have:¬ 2097152≤e:=Nat.not_le_of_lt h;simp [Zn,this]
def bT (e:TypeId):TypeId:=if 2097152≤e then e-2097152 else e
theorem Zam {P:Program} {e:TypeId} (h:Zm P e=Xe):bT e=e:=by
 simp only [Zm,decide_eq_false_iff_not] at h;exact if_neg fun h'=>h (XI (by decide) h')
def Zwj (P:Program) (w:World) (lim:Lm) (e:TypeId) (xs:List (List AV)) (v:Value) (ob:Option Nat):Prop:=
 Zn P e=Xb∧Zm P (bT e)=Xe∧Zg0 P w lim Xb (bT e) xs v ob
def Jv (P:Program) (w:World) (lim:Lm) (x:Bool) (e:TypeId) (xs:List (List AV)) (v:Value) (ob:Option Nat):Prop:=
 (∃ us:List Value,w.ownsRow 0 e (P.cellsOf e) v xs.length us∧v.ownBlock=ob∧(∀ b,ob=Xa b→lim b=if x=Xb then 0 else us.length)∧
  (∀ x∈xs,x.length=P.cellsOf e)∧(∀ x∈xs,∀ c∈x,c.isCell=Xb)∧
  ∀ (j:Nat) (c:AV) (u:Value),xs.flatten[j]? = Xa c→us[j]? = Xa u→Rep w lim c u)∨
 (xs = []∧ob=Xc∧∃ a,v = .slice (Xa a) 0 0)∨(x=Xb∧(Zwc P w lim e xs v ob∨Zwj P w lim e xs v ob∨Zrl P w lim e xs v ob))
theorem Zg0.own {P:Program} {w:World} {lim:Lm} {x:Bool} {e:TypeId} {xs:List (List AV)} {v:Value} {ob:Option Nat} (h:Zg0 P w lim x e xs v ob):Jv P w lim x e xs v ob:=
 h.elim .inl fun h=>.inr (.inl h)
def Zrq (P:Program) (w:World) (lim:Lm) (xs:List (List AV)) (b:Nat) (Y:Nat→Option Nat):Prop:=
 ∀ (j s:Nat) (e:TypeId) (ys:List (List AV)) (u:Value),xs.flatten[j]? = Xa (.nest s Xb e ys)→w.cell? ⟨b,j,Xc⟩=Xa u→s=P.cellsOf e∧Zm P e=Xe∧Zg0 P w lim Xb e ys u (Y j)
def Zru (P:Program) (w:World) (e:TypeId) (ob:Option Nat):Prop:=Zn P e=Xb→∀ b,ob=Xa b→∃ arr,w.heap[b]? = Xa (.cells arr (bT e) (0,0))
def ZaO (P:Program) (w:World) (lim:Lm) (e:TypeId) (xs:List (List AV)) (b:Nat) (Y:Nat→Option Nat):Prop:=
 (∃ arr,w.heap[b]? = Xa (.cells arr (bT e) (0,0)))∧Zrq P w lim xs b Y
def ngN:Nat:=4294967296
def Jg (x:AV) (k:Nat):Option (TypeId×List (List AV)):=
 match x,k with
 | .own Xb e xs, 0 => Xa (e, xs)
 | .box cs, k + 1 => match cs[k]? with | some (.own Xb e xs) => Xa (e, xs) | _ => Xc
 | .gbox cs, k + 1 => match cs[k]? with | some (.own Xb e xs) => Xa (e, xs) | _ => Xc
 | .tuple cs, k + 1 => match cs[k]? with | some (.own Xb e xs) => Xa (e, xs) | _ => Xc
 | .aggo cs, k + 1 => match cs[k]? with | some (.own Xb e xs) => Xa (e, xs) | _ => Xc
 | _, _ => Xc
def ZhI (P:Program) (w:World) (lim:Lm) (e:TypeId) (xs:List (List AV)) (Xd:Nat→Option Nat):Prop:=
 Zm P e=Xb→∀ (b:Nat) (es:Array MapEntry) (clock:Nat) (kvs:List (List AV)) (tl:List AV) (et:TypeId),ZbX P (e-1048576)=Xa et→Xd 0=Xa b→w.heap[b]? = Xa (.map es clock)→xs = [.slice Xe 2 kvs::tl]→
  ∀ (i:Nat) (en:MapEntry) (row:List AV),es[i]? = Xa en→kvs[i]? = Xa row→(∀ k∈tl,row.head?≠Xa k)→
   ∃ (z:Int) (ys:List (List AV)),row = [.val (.int .i64 z),.slice Xe (P.cellsOf et) ys]∧Jv P w lim Xe et ys en.val (Xd (i+1))
theorem ZhI.noMap {P:Program} {w:World} {lim:Lm} {e:TypeId} {xs:List (List AV)} {Xd:Nat→Option Nat} (h:Zm P e=Xe):ZhI P w lim e xs Xd:=fun h'=>by rw [h] at h';cases h'
def Mv (P:Program) (e:TypeId) (xs:List (List AV)):Prop:=Zm P e=Xe∨Zn P e=Xb∨xs = [[.slice Xe 2 []]]∨ZbX P (e-1048576)=Xc
theorem ZhI.mv {P:Program} {w:World} {lim:Lm} {e:TypeId} {xs:List (List AV)} {Xd:Nat→Option Nat} (h:Mv P e xs):ZhI P w lim e xs Xd:=by
 rcases h with h | h | rfl | h
 ·exact .noMap h
 ·intro _ b es clock kvs tl et h1;rw [ZdC h] at h1
  cases h1
 rotate_left
 ·intro _ b es clock kvs tl et h1;rw [h] at h1
  cases h1
 ·intro _ b es clock kvs tl _ _ _ _ h3 i en row _ g2 _;simp only [List.cons.injEq,AV.slice.injEq,true_and,and_true] at h3;rw [← h3.1] at g2;simp at g2
theorem ZhI.cells {P:Program} {w:World} {lim:Lm} {e:TypeId} {xs:List (List AV)} {Xd:Nat→Option Nat} (h:∀ b,Xd 0=Xa b→∃ arr t fz,w.heap[b]? = Xa (.cells arr t fz)):ZhI P w lim e xs Xd:=fun _ b _ _ _ _ _ _ h1 h2=>by
 obtain ⟨arr,t,fz,h3⟩:=h b h1;rw [h3] at h2
 cases h2
theorem ZhI.none {P:Program} {w:World} {lim:Lm} {e:TypeId} {xs:List (List AV)} {Xd:Nat→Option Nat} (h:Xd 0=Xc):ZhI P w lim e xs Xd:=fun _ _ _ _ _ _ _ _ h1=>by rw [h] at h1;cases h1
def Yq (P:Program) (w:World) (lim:Lm) (ob:Option Nat) (x:AV) (v:Value):Prop:=
 match x with
 | .own x e xs => Jv P w lim x e xs v ob
 | .gone => True
 | x => Rep w lim x v
def Z0 (P:Program) (w:World) (lim:Lm) (X:Nat→Option Nat) (cs:List AV) (v:Value):Prop:=
 ∃ (b:Nat) (arr:Array Value) (t:TypeId),X 0=Xa b∧v = .pointer (Xa ⟨b,0,Xc⟩)∧w.heap[b]? = Xa (.cells arr t (0,0))∧
  arr.size=cs.length∧lim b=0∧(∀ c∈cs,c.isCell=Xb∨(∃ x e xs,c = .own x e xs)∨c = .gone)∧
  ∀ (i:Nat) (c:AV) (u:Value),cs[i]? = Xa c→arr[i]? = Xa u→Yq P w lim (X (i+1)) c u
def Zdg (cs:List AV):Prop:=∀ c∈cs,∀ e xs,c≠.own Xb e xs
def Whole (cs:List AV):Prop:=∀ c∈cs,c≠.gone
def Zy (y:AV) (k:Nat):Option (TypeId×List (List AV)):=
 match y,k with
 | .own Xb e xs, 0 => Xa (e, xs)
 | .box cs, k + 1 => match cs[k]? with | some (.own Xb e xs) => Xa (e, xs) | _ => Xc
 | .gbox cs, k + 1 => match cs[k]? with | some (.own Xb e xs) => Xa (e, xs) | _ => Xc
 | _, _ => Xc
def Zcx (P:Program) (w:World) (ob:Option Nat) (e:TypeId) (n:Nat) (v:Value):Prop:=
 (ob=Xc∧n=0∧(v = .slice Xc 0 0∨∃ a,v = .slice (Xa a) 0 0))∨
  (∃ b arr cap,ob=Xa b∧w.heap[b]? = Xa (.cells arr (bT e) (0,0))∧arr.size=cap*P.cellsOf (bT e)∧v = .slice (Xa ⟨b,0,Xc⟩) n cap)∨
  (Zm P e=Xb∧Zn P e=Xe∧∃ b arr cap,ob=Xa b∧w.heap[b]? = Xa (.cells arr e (0,0))∧v = .slice (Xa ⟨b,0,Xc⟩) n cap)∨
  (Zm P e=Xb∧Zn P e=Xe∧∃ b es clock,ob=Xa b∧w.heap[b]? = Xa (.map es clock)∧v = .map (Xa b))
theorem Zcx.noMap {P:Program} {w:World} {ob:Option Nat} {e:TypeId} {n:Nat} {v:Value} (h:Zcx P w ob e n v) (hm:Zm P e=Xe) :
  (ob=Xc∧n=0∧(v = .slice Xc 0 0∨∃ a,v = .slice (Xa a) 0 0))∨∃ b arr cap,ob=Xa b∧w.heap[b]? = Xa (.cells arr e (0,0))∧arr.size=cap*P.cellsOf e∧v = .slice (Xa ⟨b,0,Xc⟩) n cap:=by
 rcases h with h | h | ⟨h,_⟩ | ⟨h,_⟩
 ·exact .inl h
 ·rw [Zam hm] at h;exact .inr h
 ·rw [hm] at h;cases h
 ·rw [hm] at h;cases h
def Zoc (P:Program) (w:World) (lim:Lm) (row:List AV) (b cap:Nat) (t:TypeId):Prop:=
 lim b=0∧((∃ (arr:Array Value),cap≤maxLen∧w.heap[b]? = Xa (.cells arr t (0,0))∧arr.size=cap*P.cellsOf t∧row.length≤arr.size∧(∀ c∈row,c.isCell=Xb)∧
   ∀ (i:Nat) (c:AV) (u:Value),row[i]? = Xa c→arr[i]? = Xa u→Rep w lim c u)∨
  ∃ (es:Array MapEntry) (clock:Nat) (kvs0 kvs:List (List AV)),w.heap[b]? = Xa (.map es clock)∧row = [.dead,.slice Xe 2 kvs0]∧kvs.Perm kvs0∧es.size=kvs.length∧MapKept.Stamped es clock∧
   ∀ (i:Nat) (en:MapEntry) (kv:List AV),es[i]? = Xa en→kvs[i]? = Xa kv→∃ (k:Int) (q:Nat),kv = [.val (.int .i64 k),.oref q 0]∧en.key = .int .i64 k∧Rep w lim (.oref q 0) en.val)
def JC (P:Program) (w:World) (lim:Lm) (Xd:Nat→Option Nat) (rows:List (List AV)):Prop:=
 (∀ j,rows.length < j→lim.t j=Xc)∧Xd 0=Xc∧∀ (j:Nat) (row:List AV),rows[j]? = Xa row→row = []∨∃ b cap ty,lim.t (j+1)=Xa (b,cap,ty)∧Xd (j+1)=Xa b∧Zoc P w lim row b cap ty
def Zl5 (P:Program) (w:World) (lim:Lm) (e:TypeId) (b o:Nat) (v:Value):Prop:=
 ((Zm P e=Xe∨Zn P e=Xb)∧v = .pointer (Xa ⟨b,o,Xc⟩))∨
  (Zm P e=Xb∧Zn P e=Xe∧∃ B,v = .func (.func o) #[] #[.pointer (Xa ⟨B,0,Xc⟩)]∧0 < lim B∧w.cell? ⟨B,0,Xc⟩=Xa (.map (Xa b)))
theorem Zl5.mono {P:Program} {w w':World} {lim lim':Lm} {e:TypeId} {b o:Nat} {v:Value} (h:Zl5 P w lim e b o v) (he:Ext w lim w' lim'):Zl5 P w' lim' e b o v:=by
 rcases h with h | ⟨h0,hd,B,h1,h2,h3⟩
 ·exact .inl h
 ·have hB:=Zb9 h3;exact .inr ⟨h0,hd,B,h1,XS h2 (he B hB).1,(he B hB).2 0 _ h2 h3⟩
theorem Zl5.ptr {P:Program} {w:World} {lim:Lm} {e:TypeId} {b o:Nat} {v:Value} (h:Zl5 P w lim e b o v) (hm:Zm P e=Xe∨Zn P e=Xb):v = .pointer (Xa ⟨b,o,Xc⟩):=by
 rcases h with h | ⟨h,h',_⟩
 ·exact h.2
 ·rcases hm with hm | hm
  ·rw [hm] at h;cases h
  ·rw [hm] at h';cases h'
def ZS (P:Program) (w:World) (lim:Lm) (X:Nat→Nat→Option Nat) (σ:Nat→AV) (d:Nat) (x:AV) (v:Value):Prop:=
 match x with
 | .dead => True
 | .gone => True
 | .own x e xs => Jv P w lim x e xs v (X d 0)
 | .box cs => Z0 P w lim (X d) cs v
 | .ptr d' off => ∃ b cs, X d' 0 = Xa b ∧ σ d' = .box cs ∧ v = .pointer (Xa ⟨b, off, Xc⟩)
 | .mref d' k => ∃ e xs, Zy (σ d') k = Xa (e, xs) ∧ Zcx P w (X d' k) e xs.length v
 | .eref d' k o => ∃ b e xs, Zy (σ d') k = Xa (e, xs) ∧ X d' k = Xa b ∧ Zl5 P w lim e b o v
 | .eptr cs => ∃ (b o : Nat) (us : List Value), v = .pointer (Xa ⟨b, o, Xc⟩) ∧ us.length = cs.length ∧ (us ≠ [] → o + us.length ≤ lim b) ∧
   (∀ (j:Nat) (u:Value),us[j]? = Xa u→w.cell? ⟨b,o+j,Xc⟩=Xa u)∧(∀ c∈cs,c.isCell=Xb)∧
   ∀ (j:Nat) (c:AV) (u:Value),cs[j]? = Xa c→us[j]? = Xa u→Rep w lim c u
 | .tuple vs => ∃ us : List Value, v = .tuple us.toArray ∧ us.length = vs.length ∧
   ∀ (i:Nat) (c:AV) (u:Value),vs[i]? = Xa c→us[i]? = Xa u→Yq P w lim (X d (i+1)) c u
 | .aggo cs => ∃ us : List Value, v = .agg us.toArray ∧ us.length = cs.length ∧ ((∀ c ∈ cs, c.isCell = Xb ∨ (∃ x e xs, c = .own x e xs) ∨ c = .gone) ∧ ∀ u ∈ us, u.oneCell' = Xb) ∧
   ∀ (i:Nat) (c:AV) (u:Value),cs[i]? = Xa c→us[i]? = Xa u→Yq P w lim (X d (i+1)) c u
 | .gbox cs => ∃ v', Z0 P w lim (X d) cs v'
 | .store rows => JC P w lim (X d) rows
 | .clo g ds => ∃ bs : List Nat, v = .func (.func g) #[] (bs.map fun b => Value.pointer (Xa ⟨b, 0, Xc⟩)).toArray ∧ bs.length = ds.length ∧
   ∀ (i d' b:Nat),ds[i]? = Xa d'→bs[i]? = Xa b→X d' 0=Xa b∧(σ d').isB=Xb
 | x => Rep w lim x v
def JB (x:AV) (d k:Nat):Prop:=x = .mref d k∨∃ o,x = .eref d k o
inductive Odr where
 | text
 | any (N : Nat → Bool) (M : Nat → Option Nat) (K : List (Nat × Nat))
def Odr.nr:Odr→Nat→Nat→Bool
 | .text, _, _ => Xe
 | .any N M _, d, i => N d || match M d with | some t => t != i | none => Xe
def Odr.kp:Odr→Nat→Nat→Bool
 | .text, _, _ => Xe
 | .any _ _ K, d, j => K.contains (d, j)
def Yl (c:AV):AV:=match c with | .own Xb e _=>.own Xb e [] | c=>c
def cellAt (x:AV) (j:Nat):Option AV:=match x with | .box cs=>(cs[j]?).map Yl | _=>Xc
theorem ZlX {c x:AV} (hx:∀ e xs,x≠.own Xb e xs) (h:Yl c=Yl x):c=x:=by
 have h2:Yl x=x:=by
  unfold Yl;split
  ·rename_i e ys;exact (hx e ys rfl).elim
  ·rfl
 rw [h2] at h;unfold Yl at h;split at h
 ·exact (hx _ _ h.symm).elim
 ·exact h
theorem Zji {c:AV} {e:TypeId} {xs:List (List AV)} (h:Yl c=Yl (.own Xb e xs)):∃ ys,c = .own Xb e ys:=by
 change Yl c = .own Xb e [] at h;unfold Yl at h;split at h
 ·rename_i e' ys
  cases h
  exact ⟨ys,rfl⟩
 ·exact ⟨[],h⟩
def Odr.rel (T:Odr) (σ σ':Nat→AV):Prop:=
 match T with
 | .text => σ' = σ
 | .any N M K => (∀ d i k, (Odr.any N M K).nr d i = Xb → ¬ JB (σ' i) d k) ∧ ∀ d j, (Odr.any N M K).kp d j = Xb → cellAt (σ' d) j = cellAt (σ d) j
def Vm (y y':AV) (k:Nat):Prop:=∀ e xs,Zy y k=Xa (e,xs)→∃ xs',Zy y' k=Xa (e,xs')∧xs'.length=xs.length
theorem Vm.refl (y:AV) (k:Nat):Vm y y k:=fun _ xs h=>⟨xs,h,rfl⟩
def Zha (w:World) (lim:Lm) (w':World) (lim':Lm) (b:Nat):Prop:=w'.heap[b]? = w.heap[b]?∧lim' b=lim b
theorem Zg0.lt {P:Program} {w:World} {lim:Lm} {x:Bool} {e:TypeId} {xs:List (List AV)} {v:Value} {b:Nat} (h:Zg0 P w lim x e xs v (Xa b)):b < w.heap.size:=by
 rcases h with ⟨us,h1,h2,_⟩ | ⟨_,h,_⟩
 ·exact (h1.lt b h2).2
 ·cases h
theorem Jv.lt {P:Program} {w:World} {lim:Lm} {x:Bool} {e:TypeId} {xs:List (List AV)} {v:Value} {b:Nat} (h:Jv P w lim x e xs v (Xa b)):b < w.heap.size:=by
 rcases h with h | h | ⟨_,⟨_,b',es,clock,kvs,_,_,h1,_,h2,_⟩ | h | ⟨_,b',es,clock,kvs,_,_,h1,_,h2,_⟩⟩
 ·exact Zg0.lt (.inl h)
 ·cases h.2.1
 ·cases h1
  exact (Wk.1 h2).1
 ·exact h.2.2.lt
 ·cases h1
  exact (Wk.1 h2).1
theorem Jv.noMap {P:Program} {w:World} {lim:Lm} {x:Bool} {e:TypeId} {xs:List (List AV)} {v:Value} {ob:Option Nat} (h:Jv P w lim x e xs v ob) (hm:Zm P e=Xe) :
  (∃ us:List Value,w.ownsRow 0 e (P.cellsOf e) v xs.length us∧v.ownBlock=ob∧(∀ b,ob=Xa b→lim b=if x=Xb then 0 else us.length)∧
   (∀ x∈xs,x.length=P.cellsOf e)∧(∀ x∈xs,∀ c∈x,c.isCell=Xb)∧
   ∀ (j:Nat) (c:AV) (u:Value),xs.flatten[j]? = Xa c→us[j]? = Xa u→Rep w lim c u)∨
  (xs = []∧ob=Xc∧∃ a,v = .slice (Xa a) 0 0):=by
 rcases h with h | h | ⟨_,⟨h,_⟩ | ⟨h,_⟩ | ⟨h,_⟩⟩
 ·exact .inl h
 ·exact .inr h
 ·rw [hm] at h;cases h
 ·rw [Jc hm] at h;cases h
 ·rw [hm] at h;cases h
theorem Jv.one {P:Program} {w:World} {lim:Lm} {x:Bool} {e:TypeId} {xs:List (List AV)} {v:Value} {ob:Option Nat} (h:Jv P w lim x e xs v ob) (hm:Zm P e=Xe∨Zn P e=Xb) (hd:Zru P w e ob) :
  Zg0 P w lim x (bT e) xs v ob:=by
 rcases h with h | h | ⟨hx,⟨h,_,_,_,_,et,h1,_⟩ | h | ⟨h,_,_,_,_,_,⟨_,_,h1⟩,_⟩⟩
 ·rcases hm with hm | hm
  ·rw [Zam hm];exact .inl h
  ·obtain ⟨us,h1,h2,h3,h4,h5,h6⟩:=h;rcases h1.2 with ⟨hv,hn⟩ | ⟨g,cap,cur,hv,hb,hg,rest⟩
   ·have hx:xs = []:=X7 hn;subst hx;rw [hv] at h2 ⊢;exact .inl ⟨[],World.ownsRow_nil _ 0 _ _,h2,fun b hb=>(by rw [← h2] at hb;cases hb),by simp,by simp,by simp⟩
   ·obtain ⟨arr,ha⟩:=hd hm g (by rw [← h2,hv];rfl);rw [hg] at ha;simp only [Xf,Obj.cells.injEq,and_true] at ha;have h8:2097152≤e:=by simp only [Zn,Xs,decide_eq_true_eq] at hm;exact hm.1
    have h9:=ha.2;rw [bT,if_pos h8] at h9;exact absurd h9.symm (Nat.ne_of_lt (Nat.sub_lt (XS (by decide) h8) (by decide)))
 ·exact .inr h
 ·rcases hm with hm | hm
  ·rw [hm] at h;cases h
  ·rw [ZhJ h1] at hm;cases hm
 ·subst hx;exact h.2.2
 ·rcases hm with hm | hm
  ·rw [hm] at h;cases h
  ·rw [WQ h1] at hm;cases hm
theorem Zg0.mono {P:Program} {w w':World} {lim lim':Lm} {x:Bool} {e:TypeId} {xs:List (List AV)} {v:Value} {ob:Option Nat}
  (h:Zg0 P w lim x e xs v ob) (he:Ext w lim w' lim') (hk:∀ b,ob=Xa b→Zha w lim w' lim' b):Zg0 P w' lim' x e xs v ob:=by
 rcases h with ⟨us,h1,h2,h3,h4,h5,h6⟩ | h
 case inr=>exact .inr h
 refine .inl ⟨us,⟨h1.1,?_⟩,h2,fun b hb=>((hk b hb).2.trans (h3 b hb)),h4,h5,fun j c u hc hu=>(h6 j c u hc hu).mono he⟩;rcases h1.2 with h | ⟨g,cap,cur,rfl,hb,hg,rest⟩
 ·exact .inl h
 ·refine .inr ⟨g,cap,cur,rfl,hb,?_,rest⟩;rw [(hk g (by rw [← h2];rfl)).1];exact hg
theorem Jv.mono {P:Program} {w w':World} {lim lim':Lm} {x:Bool} {e:TypeId} {xs:List (List AV)} {v:Value} {ob:Option Nat}
  (h:Jv P w lim x e xs v ob) (he:Ext w lim w' lim') (hk:∀ b,ob=Xa b→Zha w lim w' lim' b):Jv P w' lim' x e xs v ob:=by
 rcases h with h | h | ⟨hx,h | h | h⟩
 ·exact (Zg0.mono (.inl h) he hk).own
 ·exact .inr (.inl h)
 ·exact .inr (.inr ⟨hx,.inl (h.mono he hk)⟩)
 ·exact .inr (.inr ⟨hx,.inr (.inl ⟨h.1,h.2.1,h.2.2.mono he hk⟩)⟩)
 ·exact .inr (.inr ⟨hx,.inr (.inr (h.mono hk))⟩)
theorem Zrq.mono {P:Program} {w w':World} {lim lim':Lm} {xs:List (List AV)} {b:Nat} {Y:Nat→Option Nat} (h:Zrq P w lim xs b Y) (he:Ext w lim w' lim') (hb:w'.heap[b]? = w.heap[b]?)
  (hk:∀ j b',Y j=Xa b'→Zha w lim w' lim' b'):Zrq P w' lim' xs b Y:=fun j s e ys u h1 h2=>by
 obtain ⟨k1,k2,k3⟩:=h j s e ys u h1 (by unfold World.cell? at h2 ⊢; rw [← hb];exact h2);exact ⟨k1,k2,k3.mono he (hk j)⟩
theorem ZaO.mono {P:Program} {w w':World} {lim lim':Lm} {e:TypeId} {xs:List (List AV)} {b:Nat} {Y:Nat→Option Nat} (h:ZaO P w lim e xs b Y) (he:Ext w lim w' lim') (hb:w'.heap[b]? = w.heap[b]?)
  (hk:∀ j b',Y j=Xa b'→Zha w lim w' lim' b'):ZaO P w' lim' e xs b Y:=⟨by rw [hb];exact h.1,h.2.mono he hb hk⟩
theorem ZhI.mono {P:Program} {w w':World} {lim lim':Lm} {e:TypeId} {xs:List (List AV)} {Xd:Nat→Option Nat} (h:ZhI P w lim e xs Xd) (he:Ext w lim w' lim')
  (hk:∀ k b,Xd k=Xa b→Zha w lim w' lim' b):ZhI P w' lim' e xs Xd:=fun hm b es clock kvs tl et h0 h1 h2 h3 i en row g1 g2 g3=>by
 obtain ⟨z,ys,k1,k2⟩:=h hm b es clock kvs tl et h0 h1 (((hk 0 b h1).1).symm.trans h2) h3 i en row g1 g2 g3;exact ⟨z,ys,k1,k2.mono he (hk (i+1))⟩
theorem Yq.mono {P:Program} {w w':World} {lim lim':Lm} {ob:Option Nat} {x:AV} {v:Value}
  (h:Yq P w lim ob x v) (he:Ext w lim w' lim') (hk:∀ b,ob=Xa b→Zha w lim w' lim' b):Yq P w' lim' ob x v:=by
 cases x<;>first | exact Jv.mono h he hk | trivial | exact Rep.mono he h
theorem Z0.mono {P:Program} {w w':World} {lim lim':Lm} {X:Nat→Option Nat} {cs:List AV} {v:Value}
  (h:Z0 P w lim X cs v) (he:Ext w lim w' lim') (hk:∀ k b,X k=Xa b→Zha w lim w' lim' b):Z0 P w' lim' X cs v:=by
 obtain ⟨b,arr,t,h1,h2,h3,h4,h5,h6,h7⟩:=h;exact ⟨b,arr,t,h1,h2,(hk 0 b h1).1.trans h3,h4,(hk 0 b h1).2.trans h5,h6,fun i c u hc hu=>(h7 i c u hc hu).mono he (hk (i+1))⟩
def ZbU (w w':World) (b:Nat):Prop:=(∀ arr e,w.heap[b]? = Xa (.cells arr e (0,0))→∃ arr',w'.heap[b]? = Xa (.cells arr' e (0,0))∧arr'.size=arr.size)∧
 ∀ es clock,w.heap[b]? = Xa (.map es clock)→∃ es' clock',w'.heap[b]? = Xa (.map es' clock')
theorem ZbU.of {w w':World} {b:Nat} (h:w'.heap[b]? = w.heap[b]?):ZbU w w' b:=⟨fun arr _ h1=>⟨arr,h.trans h1,rfl⟩,fun es clock h1=>⟨es,clock,h.trans h1⟩⟩
theorem Zcx.mono {P:Program} {w w':World} {ob:Option Nat} {e:TypeId} {n:Nat} {v:Value} (h:Zcx P w ob e n v) (hk:∀ b,ob=Xa b→ZbU w w' b):Zcx P w' ob e n v:=by
 rcases h with h | ⟨b,arr,cap,h1,h2,h3,h4⟩ | ⟨h0,hd,b,arr,cap,h1,h2,h3⟩ | ⟨h0,hd,b,es,clock,h1,h2,h3⟩
 ·exact .inl h
 ·obtain ⟨arr',k1,k2⟩:=(hk b h1).1 arr (bT e) h2;exact .inr (.inl ⟨b,arr',cap,h1,k1,by rw [k2,h3],h4⟩)
 ·obtain ⟨arr',k1,k2⟩:=(hk b h1).1 arr e h2;exact .inr (.inr (.inl ⟨h0,hd,b,arr',cap,h1,k1,h3⟩))
 ·obtain ⟨es',clock',k1⟩:=(hk b h1).2 es clock h2;exact .inr (.inr (.inr ⟨h0,hd,b,es',clock',h1,k1,h3⟩))
theorem Zoc.mono {P:Program} {w w':World} {lim lim':Lm} {row:List AV} {b cap:Nat} {ty:TypeId} (h:Zoc P w lim row b cap ty) (he:Ext w lim w' lim') (hk:Zha w lim w' lim' b):Zoc P w' lim' row b cap ty:=by
 obtain ⟨h0,h⟩:=h;refine ⟨hk.2.trans h0,?_⟩;rcases h with ⟨arr,h0,h1,h2,h3,h4,h5⟩ | ⟨es,clock,kvs0,kvs,h1,h2,hp,h3,h4,h5⟩
 ·exact .inl ⟨arr,h0,hk.1.trans h1,h2,h3,h4,fun i c u hc hu=>(h5 i c u hc hu).mono he⟩
 ·refine .inr ⟨es,clock,kvs0,kvs,hk.1.trans h1,h2,hp,h3,h4,fun i en kv m1 m2=>?_⟩;obtain ⟨k,q,g1,g2,g3⟩:=h5 i en kv m1 m2;exact ⟨k,q,g1,g2,g3.mono he⟩
theorem JC.mono {P:Program} {w w':World} {lim lim':Lm} {Xd:Nat→Option Nat} {rows:List (List AV)} (h:JC P w lim Xd rows) (he:Ext w lim w' lim') (hk:∀ k b,Xd k=Xa b→Zha w lim w' lim' b) (ht:lim'.t=lim.t):JC P w' lim' Xd rows:=by
 refine ⟨fun j hj=>by rw [ht];exact h.1 j hj,h.2.1,fun j row hr=>?_⟩;rcases h.2.2 j row hr with h | ⟨b,cap,ty,h1,h2,h3⟩
 ·exact .inl h
 ·exact .inr ⟨b,cap,ty,by rw [ht];exact h1,h2,h3.mono he (hk _ _ h2)⟩
theorem ZS.mono {P:Program} {w w':World} {lim lim':Lm} {X:Nat→Nat→Option Nat} {σ:Nat→AV} {d:Nat} {x:AV} {v:Value}
  (h:ZS P w lim X σ d x v) (he:Ext w lim w' lim') (hk:∀ k b,X d k=Xa b→Zha w lim w' lim' b)
  (hp:∀ d' k b,x = .mref d' k→X d' k=Xa b→ZbU w w' b) (ht:∀ rows,x = .store rows→lim'.t=lim.t):ZS P w' lim' X σ d x v:=by
 cases x with
 | dead => trivial
 | gone => trivial
 | own x e xs => exact Jv.mono h he (hk 0)
 | box cs => exact Z0.mono h he hk
 | ptr d' off => exact h
 | mref d' k =>
  obtain ⟨e,xs,h1,h2⟩:=h;exact ⟨e,xs,h1,h2.mono fun b hb=>hp d' k b rfl hb⟩
 | eref d' k o =>
  obtain ⟨b,e,xs,h1,h2,h3⟩:=h;exact ⟨b,e,xs,h1,h2,h3.mono he⟩
 | eptr cs =>
  obtain ⟨b,o,us,h1,h2,h3,h4,h5,h6⟩:=h;by_cases hne:us = []
  ·subst hne;exact ⟨b,o,[],h1,h2,fun h=>(h rfl).elim,by simp,h5,by simp⟩
  ·have hl:=h3 hne;obtain ⟨u,rest,rfl⟩:∃ u rest,us=u::rest:=by cases us with | nil=>exact (hne rfl).elim | cons u rest=>exact ⟨u,rest,rfl⟩
   have hb:=Zb9 (h4 0 u rfl);exact ⟨b,o,_,h1,h2,fun _=>XI hl (he b hb).1,fun j u' hj=>(he b hb).2 _ _ (by have:=(Xk.1 hj).1;omega) (h4 j u' hj),h5,fun j c u hc hu=>(h6 j c u hc hu).mono he⟩
 | tuple vs =>
  obtain ⟨us,h1,h2,h3⟩:=h;exact ⟨us,h1,h2,fun i c u hc hu=>(h3 i c u hc hu).mono he (hk (i+1))⟩
 | aggo cs =>
  obtain ⟨us,h1,h2,h4,h3⟩:=h;exact ⟨us,h1,h2,h4,fun i c u hc hu=>(h3 i c u hc hu).mono he (hk (i+1))⟩
 | gbox cs =>
  obtain ⟨v',h⟩:=h;exact ⟨v',Z0.mono h he hk⟩
 | clo g ds => exact h
 | val v => exact Rep.mono he h
 | agg cs => exact Rep.mono he h
 | slice f s xs => exact Rep.mono he h
 | nest s o e ys => exact Rep.mono he h
 | oref j off => exact Rep.mono he h
 | osl e j n => exact Rep.mono he h
 | omap j => exact Rep.mono he h
 | fnc g js => exact Rep.mono he h
 | store rows => exact JC.mono h he hk (ht rows rfl)
structure Ctx where
 P:Program
 w0:World
 lim0:Lm
 A:Nat→Prop
 nt:Nat
 /-- The slots of the callers' boxes. -/
 pin:Nat→Option Value
 /-- The blocks of the boxes that stand behind the activation's own slots. -/
 gpin:Nat→Option Nat
 /-- Has it a store? -/
 st:Bool:=Xe
structure Frm (c:Ctx) (w:World) (lim:Lm):Prop where
 os:w.os=c.w0.os
 tape:w.tape=c.w0.tape
 output:w.output=c.w0.output
 size:c.w0.heap.size≤w.heap.size
 frz:∀ a:Addr,a.block < c.w0.heap.size→w.frozen? a=c.w0.frozen? a
 blk:∀ b,b < c.w0.heap.size→¬ c.A b→Zha c.w0 c.lim0 w lim b
 ext:Ext c.w0 c.lim0 w lim
 t:c.st=Xe→lim.t=c.lim0.t
structure Sim (c:Ctx) (σ:Nat→AV) (tm:Array Value) (w:World) (lim:Lm) (X:Nat→Nat→Option Nat):Prop where
 rel:∀ d,ZS c.P w lim X σ d (σ d) (tm.getD d undef)
 size:tm.size=c.nt
 out:∀ d,c.nt≤d→σ d = .dead∨(σ d).isG=Xb
 ghost:∀ d,(σ d).isG=Xb→c.nt≤d
 dist:∀ d k d' k' b,X d k=Xa b→X d' k'=Xa b→d=d'∧k=k'
 ours:∀ d k b,X d k=Xa b→b < w.heap.size∧(c.A b∨c.w0.heap.size≤b)
 frm:Frm c w lim
 pin:∀ d v,c.pin d=Xa v→tm.getD d undef=v∧∃ cs,σ d = .box cs
 mp:∀ d e xs,σ d = .own Xb e xs→ZhI c.P w lim e xs (X d)
 gpin:∀ d b,c.gpin d=Xa b→X d 0=Xa b∧(σ d).isG=Xb
 ntN:c.nt≤ngN
 far:∀ d,ngN≤d→σ d = .dead
 nst:∀ d k e xs b,Jg (σ d) k=Xa (e,xs)→Zn c.P e=Xb→X d k=Xa b→ZaO c.P w lim e xs b (X (ngN+b))
 yfr:∀ b m b',X (ngN+b) m=Xa b'→b < w.heap.size
 stf:(c.st=Xe→∀ d,(σ d).isSto=Xe)∧∀ d d',(σ d).isSto=Xb→(σ d').isSto=Xb→d=d'
inductive IOp where
 | add | sub | mul | quo | rem | and | or | xor | andNot | shl | shr | min | max
 deriving DecidableEq,Repr
inductive COp where
 | eql | neq | lss | leq | gtr | geq
 deriving DecidableEq,Repr
inductive Zt9 where
 | pnil (k : Nat)
 | padd (o : Nat)
 | pidx (s : Nat)
 | pcut
 | plen
 | pnn
 | pisr
 | pisl
 | pis0
 | pisf (g : FuncId) (m : Nat)
 | pnew
 | parr (e : TypeId)
 | pmap
 | papp (e : TypeId)
 | pfnc (g : FuncId)
 | pcap (i : Nat)
 | get (n : Nat)
 | set
 | view (s : Nat)
 | vchk (e : TypeId) (s : Nat)
 | push
 | app (s : Nat)
 | sort
 | clr (s : Nat)
 | newm
 | mchk
 | mrows
 | mget
 | mput
 | mdel
 | mkeys
 deriving DecidableEq,Repr
inductive LOp where
 | dget (o : Nat)
 | dput (o s : Nat) (h : Bool) (e : TypeId)
 | dfz1 (o n : Nat)
 | dfrz
 | dclr
 | dcol (o n : Nat)
 | mrow
 | mput
 | dlft
 | dsort
 | sel (j : Nat)
 | st (o : Zt9)
 deriving DecidableEq,Repr
inductive QOp where
 | nst (o s : Nat) (e : TypeId)
 | mapv
 | ints
 deriving DecidableEq,Repr
mutual
inductive IE where
 | var (n : Nat)
 | lit (z : Int)
 | bin (op : IOp) (k : IntKind) (a b : IE)
 | conv (k : IntKind) (a : IE)
 | len (l : LE)
 | slen (s : SE)
 | getc (s : SE) (i : IE)
inductive BE where
 | var (n : Nat)
 | lit (b : Bool)
 | cmp (op : COp) (a b : IE)
 | beq (a b : BE)
 | seq (a b : SE)
 | and (a b : BE)
 | not (a : BE)
inductive SE where
 | var (n : Nat)
 | lit (s : ByteArray)
 | bytes (l : LE)
inductive LE where
 | var (n : Nat)
 | nil
 | snoc (l : LE) (e : CE)
 | app (a b : LE)
 | take (l : LE) (i : IE)
 | drop (l : LE) (i : IE)
 | rep (i : IE) (e : CE)
 | setAt (l : LE) (i : IE) (o : Nat) (e : CE)
 | spl (l a : LE)
 | mget (l : LE) (k : IE)
 | mhole (l : LE) (k : IE)
 | mset (l : LE) (k : IE) (s : Nat) (v : LE)
 | mkeys (l : LE)
 | fn (op : LOp) (l : LE) (i : IE) (v : LE) (c : CE)
inductive CE where
 | nil
 | cons (c : SC) (r : CE)
inductive SC where
 | int (k : IntKind) (e : IE)
 | bool (b : BE)
 | str (s : SE)
 | slice (full : Bool) (s : Nat) (l : LE)
 | cel (p : LE)
end
inductive TC where
 | c (x : SC)
 | agg (cs : List SC)
 | own (x : Bool) (e : TypeId) (l : LE)
 | gone
inductive BC where
 | c (x : SC)
 | own (x : Bool) (e : TypeId) (l : LE)
 | gone
inductive SV where
 | dead
 | gone
 | c (x : SC)
 | agg (cs : List SC)
 | tuple (vs : List TC)
 | aggo (cs : List BC)
 | own (x : Bool) (e : TypeId) (l : LE)
 | box (cs : List BC)
 | ptr (d off : Nat)
 | eptr (cs : List SC)
 | mref (d k : Nat)
 | eref (d k : Nat) (i : IE) (s o : Nat)
 | gbox (cs : List BC)
 | clo (g : FuncId) (ds : List Nat)
 | vptr (d off m : Nat) (i : IE)
 | store (l : LE)
inductive Tr where
 | leaf (v : SV)
 | node (l r : Tr)
def Tr.get:Tr→Nat→SV
 | .leaf v, _ => v
 | .node l r, n => match n % 2 with | 0 => l.get (n / 2) | _ => r.get (n / 2)
def Tr.set:Nat→Tr→Nat→SV→Tr
 | 0, _, _, v => .leaf v
 | d + 1, .node l r, n, v => match n % 2 with | 0 => .node (Tr.set d l (n / 2) v) r | _ => .node l (Tr.set d r (n / 2) v)
 | d + 1, .leaf x, n, v => match n % 2 with | 0 => .node (Tr.set d (.leaf x) (n / 2) v) (.leaf x) | _ => .node (.leaf x) (Tr.set d (.leaf x) (n / 2) v)
def depth:Nat:=10
inductive Sh where
 | int (k : IntKind)
 | bool
 | str
 | slice (s : Nat)
 | own (x : Bool) (e : TypeId)
 | cel
 deriving DecidableEq
inductive RSh where
 | c (s : Sh)
 | agg (l : List Sh)
 | box (l : List Sh)
 | aggo (l : List Sh)
inductive PE where
 | le (a b : IE)
 | lt (a b : IE)
 | make (a : IE) (bytes : Nat)
 | ne0 (a : IE)
 | bytes (l : LE)
 | room (a b : LE) (bytes : Nat)
 | cons (l : LE)
 | mq (q : MQ) (l : LE) (k : IE)
 | lq (op : QOp) (l : LE) (i : IE)
inductive VE where
 | i (e : IE)
 | b (e : BE)
 | s (e : SE)
 | l (e : LE)
inductive STree where
 | stuck (why : Nat)
 | branch (b : BE) (t e : STree)
 | req (p : PE) (t : STree)
 | elem (l : LE) (i : IE) (sh : List Sh) (n : Nat) (t : STree)
 | nilq (l : LE) (n : Nat) (t : STree)
 | call (f : FuncId) (args : List SV) (res : SV) (outs : List SV) (n : Nat) (sh : List Sh) (t : STree)
 | loop (lv : Nat) (init : List VE) (n : Nat) (t : STree)
 | again (lv : Nat) (vals : List VE)
 | ret (res : SV) (outs : List SV)
def Zgo (b:BE) (t e:STree):STree:=
 match b with
 | .lit Xb => t
 | .lit Xe => e
 | b => .branch b t e
def Zpq:BE→BE
 | .lit b => .lit (!b)
 | b => .not b
def ofC:Value→Option SC
 | .slice Xc 0 0 => Xa (.slice Xb 0 .nil)
 | .bool b => Xa (.bool (.lit b))
 | .int k n => Xa (.int k (.lit n))
 | .string s => Xa (.str (.lit s))
 | .pointer Xc => Xa (.cel (.fn (.st (.pnil 0)) .nil (.lit 0) .nil .nil))
 | .map Xc => Xa (.cel (.fn (.st (.pnil 2)) .nil (.lit 0) .nil .nil))
 | .nilFunc => Xa (.cel (.fn (.st (.pnil 3)) .nil (.lit 0) .nil .nil))
 | _ => Xc
def Zfp:List Value→Option (List SC)
 | [] => Xa []
 | v :: vs =>
  match ofC v,Zfp vs with
  | some c, Xa cs => Xa (c :: cs)
  | _, _ => Xc
def ofV:Value→SV
 | .agg cs => match Zfp cs.toList with | some l => .agg l | none => .dead
 | v => match ofC v with | some c => .c c | none => .dead
def Jk (P:Program) (g:Nat→SV):Operand→SV
 | .tmp t =>
  match g t with
  | .box _ => .ptr t 0
  | .own x e xs => match x with | true => .mref t 0 | false => .c (.slice Xe (P.cellsOf e) xs)
  | .tuple _ => .dead
  | .aggo _ => .dead
  | .gbox _ => .dead
  | .store _ => .dead
  | x => x
 | .const v => ofV v
 | .func f => .clo f []
 | _ => .dead
def SV.cells:SV→Option (List SC)
 | .c x => Xa [x]
 | .agg cs => Xa cs
 | _ => Xc
abbrev Ups:=List (Nat×SV)
abbrev K:=SV→Ups→List Nat→Nat→STree
def Ji (P:Program) (T:TypeId):Option Bool:=
 match P.underlying T with
 | some (.struct _) => Xa Xb
 | some (.array _ _) => Xa Xb
 | some _ => Xa Xe
 | none => Xc
def Yg (P:Program) (T:TypeId) (f:Nat):Option Nat:=
 match P.underlying T with
 | some (.struct fs) =>
  match fs[f]? with
  | some fd => if P.cellsOf fd.type = 0 then Xc else Xa fd.offset
  | none => Xc
 | _ => Xc
def ZfP (P:Program) (T:TypeId) (f:Nat):Option (Bool×Nat):=
 match P.underlying T with
 | some (.struct fs) =>
  match fs[f]? with
  | some fd => (Ji P fd.type).map fun a => (a, P.cellsOf fd.type)
  | none => Xc
 | _ => Xc
def Kx (P:Program):Nat→TypeId→Option (List Sh)
 | 0, _ => Xc
 | d + 1, T =>
  match P.underlying T with
  | some (.struct fs) => fs.toList.foldr (fun f acc => match Kx P d f.type, acc with | some a, Xa b => Xa (a ++ b) | _, _ => Xc) (Xa [])
  | some (.array n e) => (Kx P d e).map fun l => (Xg n l).flatten
  | some (.slice e) => Xa [.slice (P.cellsOf e)]
  | some (.int k) => Xa [.int k]
  | some .bool => Xa [.bool]
  | some .string => Xa [.str]
  | _ => Xc
def YZ (P:Program):Nat→TypeId→List (Option TypeId)
 | 0, _ => []
 | d + 1, T =>
  match P.underlying T with
  | some (.struct fs) => fs.toList.flatMap fun f => YZ P d f.type
  | some (.array n e) => (Xg n (YZ P d e)).flatten
  | some (.slice e) => [Xa e]
  | _ => [Xc]
def Yw:Sh→Nat→SC
 | .int k, n => .int k (.var n)
 | .bool, n => .bool (.var n)
 | .str, n => .str (.var n)
 | .slice s, n => .slice Xe s (.var n)
 | .own _ _, n => .slice Xe 0 (.var n)
 | .cel, n => .cel (.var n)
def ZH:List Sh→Nat→List SC
 | [], _ => []
 | s :: ss, n => Yw s n :: ZH ss (n + 1)
def Zc3 (e:Option TypeId) (c:SC):BC:=
 match e,c with
 | some e, .slice Xb _ .nil => .own Xe e .nil
 | _, c => .c c
def Zt8 (P:Program) (T:TypeId):Option (List BC):=
 match P.info? T with
 | some i =>
  match i.zero with
  | some z =>
   match Zfp z.cells.toList with
   | some cs => if (YZ P 8 T).length = cs.length then Xa (List.zipWith Zc3 (YZ P 8 T) cs) else Xc
   | none => Xc
  | none => Xc
 | none => Xc
def ZfK (P:Program):BC→SC
 | .c x => x
 | .own _ e l => .slice Xe (P.cellsOf e) l
 | .gone => .slice Xb 0 .nil
def WS (cs:List BC):Bool:=cs.all fun c=>match c with | .own Xb _ _=>Xe | _=>Xb
def Zaw (cs:List BC):Bool:=cs.all fun c=>match c with | .gone=>Xe | _=>Xb
def ZfF (d:Nat) (x:SV):Bool:=
 match x with
 | .mref d' _ => d' == d
 | .eref d' _ _ _ _ => d' == d
 | _ => Xe
def Jz (g:Nat→SV) (d:Nat):Nat→List (Nat×SV)
 | 0 => []
 | i + 1 => if i ≠ d ∧ ZfF d (g i) = Xb then (i, .dead) :: Jz g d i else Jz g d i
def SV.isG:SV→Bool
 | .gbox _ => Xb
 | .store _ => Xb
 | _ => Xe
def Jy (x:SV) (k:Nat):Option (TypeId×LE):=
 match x,k with
 | .own Xb e l, 0 => Xa (e, l)
 | .box cs, k + 1 => match cs[k]? with | some (.own Xb e l) => Xa (e, l) | _ => Xc
 | .gbox cs, k + 1 => match cs[k]? with | some (.own Xb e l) => Xa (e, l) | _ => Xc
 | _, _ => Xc
def Zak (x:SV) (k:Nat) (b:Bool) (e:TypeId) (l:LE):SV:=
 match x,k with
 | .own _ _ _, 0 => .own b e l
 | .box cs, k + 1 => .box (cs.set k (.own b e l))
 | x, _ => x
def ZeU (place:Nat→Option (Nat×Nat)):List SC→List (Nat×SV)→Option (List SC)
 | cells, [] => Xa cells
 | cells, (i, v) :: rest =>
  match place i,v.cells with
  | some (off, size), Xa vc =>
   if vc.length=size∧off+size≤cells.length then ZeU place (cells.take off++vc++cells.drop (off+size)) rest else Xc
  | _, _ => Xc
def Zb5:List SC→CE
 | [] => .nil
 | c :: cs => .cons c (Zb5 cs)
def lOf (size:Nat) (cs:List SC):Nat→LE
 | 0 => .nil
 | n + 1 => .snoc (lOf size cs n) (Zb5 ((cs.drop (n * size)).take size))
def Zo7 (s:Sh) (c:SC):Option SC:=
 match s,c with
 | .slice s, .slice _ s' l => if s' = s then Xa (.slice Xe s l) else (match l with | .nil => Xa (.slice Xe s .nil) | _ => Xc)
 | _, c => Xa c
def Kr:List Sh→List SC→Option (List SC)
 | [], [] => Xa []
 | s :: ss, c :: cs => match Zo7 s c, Kr ss cs with | some v, Xa vs => Xa (v :: vs) | _, _ => Xc
 | _, _ => Xc
def Zud (s:Sh) (c:SC):SC:=
 match s,c with
 | .slice s, .slice f _ .nil => .slice f s .nil
 | _, c => c
def Zrs:List Sh→List SC→List SC
 | s :: ss, c :: cs => Zud s c :: Zrs ss cs
 | _, cs => cs
def nrm (P:Program) (T:TypeId) (vc:List SC):List SC:=match Kx P 8 T with | some sh=>Zrs sh vc | none=>vc
def ZnX:SC→SC→Option BE
 | .int k a, .int k' b => if k = k' then Xa (.cmp .eql a b) else Xc
 | .bool a, .bool b => Xa (.beq a b)
 | _, _ => Xc
def ZcG:List SC→List SC→Option BE
 | [], [] => Xa (.lit Xb)
 | a :: aZ, b :: bs =>
  match ZnX a b,ZcG aZ bs with
  | some x, Xa y => Xa (.and x y)
  | _, _ => Xc
 | _, _ => Xc
def ZrQ (sh:Sh) (c:SC):Bool:=
 match sh,c with
 | .int k, .int k' _ => decide (k = k')
 | .bool, .bool _ => Xb
 | _, _ => Xe
def ZaX:List Sh→List SC→Bool
 | [], [] => Xb
 | s :: ss, c :: cs => ZrQ s c && ZaX ss cs
 | _, _ => Xe
def Zod (P:Program) (plain:List TypeId) (T:TypeId) (xs ys:List SC):Bool:=
 plain.contains T&&match Kx P 8 T with | some l=>ZaX l xs&&ZaX l ys | none=>Xe
def bin (P:Program) (plain:List TypeId) (op:BinOp) (T:TypeId) (x y:SV) (k:SV→STree):STree:=
 match x,y with
 | .c (.int kx a), .c (.int ky b) =>
  match op with
  | .shl => .req (.le (.lit 0) b) (k (.c (.int kx (.bin .shl kx a b))))
  | .shr => .req (.le (.lit 0) b) (k (.c (.int kx (.bin .shr kx a b))))
  | _ =>
   if kx=ky then
    match op with
    | .add => k (.c (.int kx (.bin .add kx a b)))
    | .sub => k (.c (.int kx (.bin .sub kx a b)))
    | .mul => k (.c (.int kx (.bin .mul kx a b)))
    | .quo => .req (.ne0 b) (k (.c (.int kx (.bin .quo kx a b))))
    | .rem => .req (.ne0 b) (k (.c (.int kx (.bin .rem kx a b))))
    | .and => k (.c (.int kx (.bin .and kx a b)))
    | .or => k (.c (.int kx (.bin .or kx a b)))
    | .xor => k (.c (.int kx (.bin .xor kx a b)))
    | .andNot => k (.c (.int kx (.bin .andNot kx a b)))
    | .eql => k (.c (.bool (.cmp .eql a b)))
    | .neq => k (.c (.bool (.cmp .neq a b)))
    | .lss => k (.c (.bool (.cmp .lss a b)))
    | .leq => k (.c (.bool (.cmp .leq a b)))
    | .gtr => k (.c (.bool (.cmp .gtr a b)))
    | .geq => k (.c (.bool (.cmp .geq a b)))
    | _ => .stuck 1
   else .stuck 2
 | .c (.str a), .c (.str b) =>
  match op with
  | .eql => k (.c (.bool (.seq a b)))
  | .neq => k (.c (.bool (.not (.seq a b))))
  | _ => .stuck 3
 | .c (.bool a), .c (.bool b) =>
  match P.underlying T with
  | some .bool =>
   match op with
   | .eql => k (.c (.bool (.beq a b)))
   | .neq => k (.c (.bool (.not (.beq a b))))
   | _ => .stuck 4
  | _ => .stuck 5
 | .agg xs, .agg ys =>
  match Zod P plain T xs ys,ZcG xs ys with
  | true, Xa e =>
   match op with
   | .eql => k (.c (.bool e))
   | .neq => k (.c (.bool (.not e)))
   | _ => .stuck 6
  | _, _ => .stuck 7
 | _, _ => .stuck 8
def ZnR (full:Bool) (s:Nat) (xs:LE) (lo hi mx:Option SV) (k:SV→STree):STree:=
 match lo,hi,mx with
 | none, Xa (.c (.int _ (.lit 0))), Xa (.c (.int _ (.lit 0))) => k (.c (.slice Xb s .nil))
 | none, Xc, Xc => k (.c (.slice full s xs))
 | some (.c (.int _ l)), Xc, Xc => .req (.le (.lit 0) l) (.req (.le l (.len xs)) (k (.c (.slice full s (.drop xs l)))))
 | none, Xa (.c (.int _ h)), Xc => .req (.le (.lit 0) h) (.req (.le h (.len xs)) (k (.c (.slice Xe s (.take xs h)))))
 | some (.c (.int _ l)), Xa (.c (.int _ h)), Xc =>
  .req (.le (.lit 0) l) (.req (.le l h) (.req (.le h (.len xs)) (k (.c (.slice Xe s (.drop (.take xs h) l))))))
 | _, _, _ => .stuck 10
def Zuv (P:Program) (T:TypeId) (x:SV) (k:SV→STree):STree:=
 match P.underlying T,x with
 | some (.slice _), .c (.slice _ _ xs) => k (.c (.int .i64 (.len xs)))
 | some .string, .c (.str s) => k (.c (.int .i64 (.slen s)))
 | _, _ => .stuck 11
def Zld (l:LE):Bool:=match l with | .snoc .nil (.cons (.slice Xe 2 .nil) .nil)=>Xb | _=>Xe
def mvB (P:Program) (e:TypeId) (l:LE):Bool:=!Zm P e||Zn P e||Zld l||(ZbX P (e-1048576)).isNone
def YX (P:Program) (txt:Odr) (g:Nat→SV) (nt t:Nat) (x:Bool) (e:TypeId) (l:LE):Option Ups:=
 match x with
 | false => Xa [(t, .c (.slice Xe (P.cellsOf e) l))]
 | true => if mvB P e l = Xb then (match txt with | .text => Xa ((t, .dead) :: Jz g t nt) | .any N _ _ => match N t with | true => Xa [(t, .dead)] | false => Xc) else Xc
def Zgv (txt:Odr) (g:Nat→SV) (top d:Nat):Bool:=
 match txt with
 | .text => (Jz g d top).isEmpty
 | .any N _ _ => N d
def ZpN (txt:Odr) (g:Nat→SV) (top d:Nat):Option Ups:=
 match txt with
 | .text => Xa (Jz g d top)
 | .any N _ _ => if N d = Xb then Xa [] else Xc
def Zad (P:Program) (T:TypeId) (txt:Odr) (g:Nat→SV) (nt:Nat) (ex:Bool) (src:Option Nat) (x y:SV) (k:SV→Ups→STree):STree:=
 match P.underlying T with
 | some (.slice e) =>
  match P.info? e with
  | some i =>
   match i.zero with
   | some z =>
    if z.cells.size=i.size∧0 < i.size∧Zm P e=Xe then
     match x,y with
     | .own b e' xs, .c (.slice _ s ys) =>
      match src with
      | some t =>
       match YX P txt g nt t b e' xs with
       | some us => if e' = e ∧ s = i.size then .req (.room xs ys i.bytes) (k (.own b e (.app xs ys)) us) else .stuck 20
       | none => .stuck 23
      | none => .stuck 21
     | .c (.slice Xb _ .nil), .c (.slice _ s ys) =>
      if s=i.size then .req (.room .nil ys i.bytes) (k (.own ex e ys) []) else .stuck 22
     | _, _ => .stuck 24
    else .stuck 25
   | none => .stuck 26
  | none => .stuck 27
 | _ => .stuck 28
def WV (P:Program) (T:TypeId) (txt:Odr) (g:Nat→SV) (nt:Nat) (ex:Bool) (src:Option Nat) (x:SV) (pl:Option (TypeId×LE)) (k:SV→Ups→STree):STree:=
 match P.underlying T with
 | some (.slice e) =>
  match P.info? e with
  | some i =>
   match i.zero with
   | some z =>
    if z.cells.size=i.size∧0 < i.size∧Zm P e=Xe then
     match x,pl with
     | .own b e' xs, Xa (e2, ys) =>
      match src with
      | some t =>
       match YX P txt g nt t b e' xs with
       | some us => if e' = e ∧ e2 = e then .req (.room xs ys i.bytes) (k (.own b e (.app xs ys)) us) else .stuck 20
       | none => .stuck 23
      | none => .stuck 21
     | .c (.slice Xb _ .nil), Xa (e', ys) => if e' = e then .req (.room .nil ys i.bytes) (k (.own ex e ys) []) else .stuck 22
     | _, _ => .stuck 24
    else .stuck 25
   | none => .stuck 26
  | none => .stuck 27
 | _ => .stuck 28
def ZY:Operand→Option Nat
 | .tmp t => Xa t
 | _ => Xc
def Vv (o:Oper):List Nat:=o.op.operands.toList.filterMap ZY
def ZpZ (gh:Bool) (cs:List BC):SV:=match gh with | true=>.gbox cs | false=>.box cs
inductive SAK where
 | imm (x : SV)
 | own (t : Nat) (x : Bool) (e : TypeId) (l : LE)
 | box (d : Nat) (fr to : Bool) (cs : List BC)
 | clo (g : FuncId) (ds gs : List Nat)
 | ref (t d q j : Nat)
 | pad
 | sto (d : Nat) (l : LE)
def SAK.sv:SAK→SV
 | .imm x => x
 | .own _ x e l => .own x e l
 | .box _ _ to cs => ZpZ to cs
 | .clo g _ gs => .clo g gs
 | .ref _ _ q j => .mref j q
 | .pad => .dead
 | .sto _ l => .store l
def SAK.slot:SAK→Option Nat
 | .imm _ => Xc
 | .own t _ _ _ => Xa t
 | .box d _ _ _ => Xa d
 | .clo _ _ _ => Xc
 | .ref t _ _ _ => Xa t
 | .pad => Xc
 | .sto d _ => Xa d
def ZtC (P:Program) (g:Nat→SV) (x:Operand):Option SAK:=
 match ZY x,(ZY x).map g with
 | some t, Xa (.own x e l) => Xa (.own t x e l)
 | _, _ =>
  match Jk P g x with
  | .c v => Xa (.imm (.c v))
  | .agg cs => Xa (.imm (.agg cs))
  | .ptr d 0 =>
   match g d with
   | .box cs => if Zaw cs = Xb then Xa (.box d Xe Xe cs) else Xc
   | _ => Xc
  | .clo h ds => Xa (.clo h ds [])
  | .mref d q =>
   match Jy (g d) q with
   | some (e, l) => if 0 < P.cellsOf e ∧ Zm P e = Xe then Xa (.imm (.c (.slice Xe (P.cellsOf e) l))) else Xc
   | none => Xc
  | _ => Xc
def ZcH (g:Nat→SV) (x:Operand):Option SAK:=
 match ZY x,(ZY x).map g with
 | some t, Xa (.mref d q) => Xa (.ref t d q 0)
 | _, _ => Xc
def Wy (P:Program) (g:Nat→SV) (rf:List Nat):List Operand→Nat→List (Nat×Nat)
 | [], _ => []
 | x :: rest, i =>
  if (rf.contains i&&(ZcH g x).isSome)=Xb then Wy P g rf rest (i+1)
  else
   match (ZY x).map g with
   | some (.own _ _ _) => Wy P g rf rest (i + 1)
   | _ => match Jk P g x with | .mref d q => (d, q) :: Wy P g rf rest (i + 1) | _ => Wy P g rf rest (i + 1)
def Zcu (x:SC):Bool:=match x with | .slice _ _ _=>Xe | .cel _=>Xe | _=>Xb
def Zm9 (x:BC):Bool:=match x with | .c x=>Zcu x | _=>Xe
def Zv5 (x:TC):Bool:=match x with | .c x=>Zcu x | .agg cs=>cs.all Zcu | _=>Xe
def Zki (x:SV):Bool:=
 match x with
 | .c x => Zcu x
 | .dead => Xb
 | .agg cs => cs.all Zcu
 | .box cs => cs.all Zm9
 | .gbox cs => cs.all Zm9
 | .tuple vs => vs.all Zv5
 | _ => Xe
def ZuH (bs:List (Nat×Nat)) (slots:List Nat) (res:SV) (outs:List SV):Bool:=
 match bs with
 | [] => Xb
 | p :: r => r.all (fun q => decide (q.1 = p.1) && decide (q.2 = p.2)) && !slots.contains p.1 && Zki res && outs.all Zki
def Zbe (P:Program) (g:Nat→SV) (rf:List Nat):List Operand→Nat→Option (List SAK)
 | [], _ => Xa []
 | x :: rest, i =>
  match (if (rf.contains i&&(ZcH g x).isSome)=Xb then ZcH g x else ZtC P g x),Zbe P g rf rest (i+1) with
  | some a, Xa aZ => Xa (a :: aZ)
  | _, _ => Xc
def Zt:List SAK→List Nat
 | [] => []
 | .clo _ ds _ :: aZ => (ds.filter fun d => !(Zt aZ).contains d).eraseDups ++ Zt aZ
 | .ref _ d _ _ :: aZ => if (Zt aZ).contains d = Xb then Zt aZ else d :: Zt aZ
 | _ :: aZ => Zt aZ
def Zp1 (d:Nat):List Nat→Nat
 | [] => 0
 | x :: xs => if x = d then 0 else Zp1 d xs + 1
def Ztk (g:Nat→SV) (to:Bool) (d:Nat):Option SAK:=
 match g d with
 | .box cs => if Zaw cs = Xb then Xa (.box d Xe to cs) else Xc
 | .gbox cs => if Zaw cs = Xb then Xa (.box d Xb to cs) else Xc
 | _ => Xc
def Zbp (g:Nat→SV) (to:Bool):List Nat→Option (List SAK)
 | [] => Xa []
 | d :: ds => match Ztk g to d, Zbp g to ds with | some a, Xa aZ => Xa (a :: aZ) | _, _ => Xc
def ZcM (base:Nat) (gh:List Nat):SAK→SAK
 | .clo g ds _ => .clo g ds (ds.map fun d => base + Zp1 d gh)
 | .ref t d q _ => .ref t d q (base + Zp1 d gh)
 | a => a
def VP (g:Nat→SV) (nt:Nat) (aZ:List SAK):Option (List SAK):=
 match Zt aZ with
 | [] => Xa aZ
 | gh => if aZ.length ≤ nt then (Zbp g Xb gh).map fun gs => aZ.map (ZcM nt gh) ++ Xg (nt - aZ.length) .pad ++ gs else Xc
def ZfB:List Nat→Bool
 | [] => Xb
 | x :: xs => !xs.contains x && ZfB xs
def Zwf (fr to:Bool) (o:SV):SV:=
 match to,o with
 | true, .gbox cs => ZpZ fr cs
 | false, .box cs => ZpZ fr cs
 | _, _ => .dead
def Za6:List SAK→List SV→Ups
 | .own t _ _ _ :: aZ, _ :: os => (t, .gone) :: Za6 aZ os
 | .box d fr to _ :: aZ, o :: os => (d, Zwf fr to o) :: Za6 aZ os
 | .imm _ :: aZ, _ :: os => Za6 aZ os
 | .clo _ _ _ :: aZ, _ :: os => Za6 aZ os
 | .ref t _ _ _ :: aZ, _ :: os => (t, .dead) :: Za6 aZ os
 | .pad :: aZ, _ :: os => Za6 aZ os
 | .sto d _ :: aZ, o :: os => (d, o) :: Za6 aZ os
 | _, _ => []
def Zqh (o:BC) (x:SC):BC:=
 match o,x with
 | .own Xb e _, .slice Xb _ .nil => .own Xb e .nil
 | _, _ => .c x
def Kk:List BC→List SC→List BC
 | o :: os, x :: xs => Zqh o x :: Kk os xs
 | [], xs => xs.map .c
 | _ :: _, [] => []
def ZqN:BC→Sh
 | .c (.int k _) => .int k
 | .c (.bool _) => .bool
 | .c (.str _) => .str
 | .c (.slice _ s _) => .slice s
 | .c (.cel _) => .cel
 | .own x e _ => .own x e
 | .gone => .bool
def ZqZ:Sh→Nat→BC
 | .own x e, n => .own x e (.var n)
 | s, n => .c (Yw s n)
def KT:List Sh→Nat→List BC
 | [], _ => []
 | s :: ss, n => ZqZ s n :: KT ss (n + 1)
def Jd:List SV→Nat→List SV×List Sh×Nat
 | [], n => ([], [], n)
 | .box cs :: aZ, n =>
  let sh:=cs.map ZqN
  let r:=Jd aZ (n+sh.length)
  (.box (KT sh n)::r.1,sh++r.2.1,r.2.2)
 | .gbox cs :: aZ, n =>
  let sh:=cs.map ZqN
  let r:=Jd aZ (n+sh.length)
  (.gbox (KT sh n)::r.1,sh++r.2.1,r.2.2)
 | .store _ :: aZ, n =>
  let r:=Jd aZ (n+1)
  (.store (.var n)::r.1,.cel::r.2.1,r.2.2)
 | _ :: aZ, n =>
  let r:=Jd aZ n
  (.dead::r.1,r.2.1,r.2.2)
def ZqW (P:Program) (fresh:Nat) (T:TypeId):Option RSh:=
 match P.underlying T with
 | some (.struct _) => (Kx P 8 T).map .agg
 | some (.array _ _) => (Kx P 8 T).map .agg
 | some (.slice e) => Xa (.c (match fresh with | 0 => .slice (P.cellsOf e) | 1 => .own Xe e | 4 => .cel | _ => .own Xb e))
 | some (.pointer _) => Xa (.c .cel)
 | some (.func _ _ _) => Xa (.c .cel)
 | some (.int k) => Xa (.c (.int k))
 | some .bool => Xa (.c .bool)
 | some .string => Xa (.c .str)
 | some (.map _ _) => if (Zvt P T).isSome = Xb ∧ (ZbX P T).isNone = Xb ∧ T + 1048576 < 2097152 then Xa (.c (.own Xb (T + 1048576))) else Xc
 | _ => Xc
def ZtT (r:RSh) (n:Nat):TC×List Sh:=
 match r with
 | .c (.own x e) => (.own x e (.var n), [.own x e])
 | .c s => (.c (Yw s n), [s])
 | .agg l => (.agg (ZH l n), l)
 | .box l => (.agg (ZH l n), l)
 | .aggo l => (.agg (ZH l n), l)
def ZbF (P:Program) (fresh:Nat):List TypeId→Nat→Option (List TC×List Sh×Nat)
 | [], n => Xa ([], [], n)
 | T :: Ts, n =>
  match ZqW P fresh T with
  | some r =>
   let x:=ZtT r n
   match ZbF P fresh Ts (n+x.2.length) with
   | some (vs, sh, n') => Xa (x.1 :: vs, x.2 ++ sh, n')
   | none => Xc
  | none => Xc
def ZvC:TC→SV
 | .c x => .c x
 | .agg cs => .agg cs
 | .own x e l => .own x e l
 | .gone => .gone
def ZgQ (P:Program) (fresh:Nat) (Ts:List TypeId) (n:Nat):Option (SV×List Sh×Nat):=
 match ZbF P fresh Ts n with
 | some ([x], sh, n') => Xa (ZvC x, sh, n')
 | some (vs, sh, n') => Xa (.tuple vs, sh, n')
 | none => Xc
inductive HP where
 | c (s : Sh)
 | agg (l : List Sh)
 | box (l : List Sh)
 | mref (d k : Nat)
 | ptr (d off : Nat)
 | dead
 | gbox (l : List Sh)
 | clo (g : FuncId) (ds : List Nat)
 | eref (d k s o : Nat)
 | sto
structure Env where
 nt:Nat
 cons:FuncId→Nat→Bool
 fresh:FuncId→Nat
 plain:List TypeId
 res:List Nat
 keep:Nat→List (Nat×HP)
 pins:List Nat
 ng:Nat
 ex:List Nat
 fz:Nat→List (Nat×Nat)
 rb:FuncId→Option (List Sh):=fun _=>Xc
 rfs:FuncId→List Nat:=fun _=>[]
 ks:List (FuncId×FuncId×FuncId):=[]
 srt:List FuncId:=[]
 st:Option Nat:=Xc
 scel:List TypeId:=[]
 wst:FuncId→Bool:=fun _=>Xe
 fnv:Nat→Option (FuncId×Nat):=fun _=>Xc
 wraw:FuncId→Bool:=fun _=>Xe
abbrev Env.top (E:Env):Nat:=E.nt+E.ng
def gE (E:Env) (s:Tr):Nat→SV:=fun d=>if d < E.top then s.get d else .dead
def Zff:List SV→Option (List Nat)
 | [] => Xa []
 | .ptr d 0 :: r => (Zff r).map fun ds => d :: ds
 | _ => Xc
def Zuc (P:Program) (f:FuncId):Nat:=match P.funcs[f]? with | some fn=>fn.ntmps | none=>0
def ZgG (txt:Odr) (g:Nat→SV) (top:Nat) (saks:List SAK):Bool:=
 saks.all fun a=>match a with
  | .own t Xb _ _ => (match txt with | .text => (Jz g t top).isEmpty | .any N _ _ => N t)
  | .box d _ _ cs => WS cs || (match txt with | .text => (Jz g d top).all (fun u => saks.any fun b => match b with | .ref t _ _ _ => t == u.1 | _ => Xe) | .any N M _ => N d || match M d with | some t => (saks.any fun b => match b with | .ref t' _ _ _ => t' == t | _ => Xe) | none => Xe)
  | _ => Xb
def ZcV (E:Env) (txt:Odr) (g:Nat→SV) (rf:List Nat) (args:List Operand):Ups:=
 match txt,rf with
 | .text, _ :: _ => (args.zipIdx.flatMap fun p => if rf.contains p.2 = Xb then (match (ZY p.1).map g with | some (.mref d _) => Jz g d E.top | _ => []) else []).filter fun u => !(args.filterMap ZY).contains u.1
 | _, _ => []
def ZhV (kl:Ups) (g:Nat→SV):Nat→SV:=fun d=>if (kl.any fun u=>u.1 == d)=Xb then .dead else g d
def ZrZ (P:Program):List Sh→List (Option TypeId)→Option (List Sh)
 | [], [] => Xa []
 | s :: ss, e :: es =>
  match ZrZ P ss es with
  | some r =>
   match s,e with
   | .slice _, Xa e =>
    (match Kx P 8 e with
    | some l => if (l.any fun x => match x with | .slice _ => Xb | _ => Xe) = Xb then (if Zn P (e + 2097152) = Xb then Xa (.own Xb (e + 2097152) :: r) else Xc) else Xa (.own Xb e :: r)
    | none => Xc)
   | s, _ => Xa (s :: r)
  | none => Xc
 | _, _ => Xc
def Zvb (P:Program) (Ts:List TypeId):Option (List Sh):=
 match Ts with
 | [T] => (match P.underlying T, Kx P 8 T with | some (.struct _), Xa l => ZrZ P l (YZ P 8 T) | _, _ => Xc)
 | _ => Xc
def Zjh (P:Program) (E:Env) (f:FuncId) (Ts:List TypeId) (n:Nat):Option (SV×List Sh×Nat):=
 match E.rb f with
 | some l => Xa (.box (KT l n), l, n + l.length)
 | none =>
  match (if E.fresh f=3 then Zvb P Ts else Xc) with
  | some l => Xa (.aggo (KT l n), l, n + l.length)
  | none => ZgQ P (E.fresh f) Ts n
def fpL (txt:Odr) (d off m:Nat):List Nat:=match decide (m≠0)&&(Ua m).all fun j=>txt.kp d (off+j) with | true=>[] | false=>[d]
def ZsV (P:Program) (res:SV):Bool:=match res with | .own Xb e _=>!Zm P e||(ZbX P (e-1048576)).isNone | _=>Xb
def ZeL (P:Program) (x:SV):Bool:=
 match x with
 | .own Xb e _ => !Zm P e
 | .box cs => cs.all fun c => match c with | .own Xb e _ => !Zn P e | _ => Xb
 | .gbox cs => cs.all fun c => match c with | .own Xb e _ => !Zn P e | _ => Xb
 | .tuple _ => Xe
 | .aggo _ => Xe
 | _ => Xb
def Zc8 (P:Program) (E:Env) (txt:Odr) (g:Nat→SV) (f:FuncId) (bs:List (Nat×Nat)) (aZ:Option (List SAK)) (n:Nat) (k:K):STree:=
 match aZ,(P.funcs[f]?).map (·.resultTypes) with
 | some saks, Xa Ts =>
  if ZfB (saks.filterMap SAK.slot)=Xb∧ZgG txt g E.top saks=Xb then
   match Zjh P E f Ts.toList n with
   | some (res, sh, n') =>
    let r:=Jd (saks.map SAK.sv) n'
    if ZuH bs (saks.filterMap SAK.slot) res r.1=Xb∧ZsV P res=Xb then .call f (saks.map SAK.sv) res r.1 n (sh++r.2.1) (k res (Za6 saks r.1) (saks.filterMap SAK.slot++bs.map (·.1)) r.2.2) else .stuck 136
   | none => .stuck 87
  else .stuck 86
 | _, _ => .stuck 184
def Env.exO (E:Env) (o:Oper):Bool:=match o.dst with | some d=>E.ex.contains d | none=>Xe
def ZfS (P:Program) (E:Env) (txt:Odr) (tk:Bool) (g:Nat→SV) (t:Nat) (x:Bool) (e:TypeId) (xs:LE) (n:Nat) (k:K):STree:=
 match tk with
 | true =>
  if (x&&(Zm P e&&(ZbX P (e-1048576)).isSome))=Xb then k (.mref t 0) [] [] n else
  match YX P txt g E.top t x e xs with
  | some us => k (.own x e xs) us [] n
  | none => .stuck 29
 | false => match x with | true => k (.mref t 0) [] [] n | false => k (.c (.slice Xe (P.cellsOf e) xs)) [] [] n
def Zjq (g:Nat→SV):List (Nat×Operand)→Option (Nat×Nat×TypeId×LE)
 | [(f, .tmp t)] => match g t with | .own Xb e l => Xa (f, t, e, l) | _ => Xc
 | _ => Xc
def Zgf (P:Program) (E:Env) (txt:Odr) (g:Nat→SV) (T:TypeId) (f t:Nat) (e:TypeId) (l:LE) (n:Nat) (k:K):STree:=
 match P.underlying T,P.info? T with
 | some (.struct fs), Xa i =>
  if (fs.toList.all fun f=>(P.info? f.type).isSome)=Xb then
   match i.zero,fs[f]? with
   | some z, Xa fd =>
    match Zfp z.cells.toList,YX P txt g E.top t Xb e l with
    | some zc, Xa us => if P.cellsOf fd.type = 1 ∧ fd.offset < zc.length then k (.aggo ((zc.map .c).set fd.offset (.own Xb e l))) us [] n else .stuck 130
    | _, _ => .stuck 131
   | _, _ => .stuck 132
  else .stuck 133
 | _, _ => .stuck 134
def Zs7 (g:Nat→SV) (d off m:Nat) (i:IE) (n:Nat) (k:K):STree:=.stuck 0
def ZpR (P:Program) (g:Nat→SV) (T:TypeId) (x:Operand) (d off m:Nat) (i:IE) (n:Nat) (k:K):STree:=.stuck 0
def ZsL (ix:IE) (d off s m:Nat) (k:SV→STree):Nat→STree
 | 0 => .stuck 192
 | j + 1 =>
  match j with
  | 0 => .req (.le (.lit (m - 1 : Nat)) ix) (.req (.le ix (.lit (m - 1 : Nat))) (k (.ptr d (off + (m - 1) * s))))
  | j' + 1 => .branch (.cmp .eql ix (.lit (m - (j' + 2) : Nat))) (k (.ptr d (off + (m - (j' + 2)) * s))) (ZsL ix d off s m k (j' + 1))
def ZrF (P:Program) (op:BinOp) (T:TypeId) (x:SV) (y:Operand):Option Bool:=
 match x,y,P.underlying T with
 | .ptr _ _, .const (.pointer Xc), Xa (.pointer _) => (match op with | .eql => Xa Xe | .neq => Xa Xb | _ => Xc)
 | _, _, _ => Xc
def Zsb (P:Program) (E:Env) (g:Nat→SV) (f:FuncId) (args:List Operand):Option (Nat×FuncId×LE):=Xc
def ZlE (P:Program) (E:Env) (g:Nat→SV) (f:FuncId) (args:List Operand):Option (Nat×LE):=Xc
def Zo2 (P:Program) (E:Env) (g:Nat→SV) (f:FuncId) (args:List Operand):Option (Nat×TypeId×LE):=Xc
def ZlO (P:Program) (g:Nat→SV) (a:Operand):Option (Nat×Nat×TypeId×LE×IE×Nat×Nat):=
 match Jk P g a with
 | .eref d q i s off =>
  match Jy (g d) q with
  | some (e, l) => if Zn P e = Xb then Xa (d, q, e, l, i, s, off) else Xc
  | none => Xc
 | _ => Xc
def Zf0 (P:Program) (all tk:Bool) (g:Nat→SV) (T:TypeId) (p:Nat×Nat×TypeId×LE×IE×Nat×Nat) (n:Nat) (k:K):STree:=.stuck 0
def Zev (P:Program) (E:Env) (txt:Odr) (g:Nat→SV) (T:TypeId) (x:Operand) (p:Nat×Nat×TypeId×LE×IE×Nat×Nat) (n:Nat) (k:K):STree:=.stuck 0
def Zgs (P:Program) (E:Env) (txt:Odr) (fgt:Bool) (g:Nat→SV) (T:TypeId) (d off:Nat) (cs:List BC) (n:Nat) (k:K):STree:=.stuck 0
def Zgb (g:Nat→SV) (len:Nat) (ps:List (Nat×Operand)):Option (Nat×List BC):=
 match len,ps with
 | 1, [(0, .tmp t)] => (match g t with | .aggo cs => Xa (t, cs) | _ => Xc)
 | _, _ => Xc
def Zip (P:Program) (T:TypeId) (t:Nat) (cs:List BC) (n:Nat) (k:K):STree:=.stuck 0
def Zch (P:Program) (T:TypeId) (txt:Odr) (g:Nat→SV) (top t u:Nat) (D D':TypeId) (xs ys:LE) (k:SV→Ups→STree):STree:=.stuck 0
def Yo (P:Program) (E:Env) (txt:Odr) (tk:Bool) (g:Nat→SV) (o:Oper) (n:Nat) (k:K):STree:=
 match o.op with
 | .move x =>
  match x with
  | .tmp t =>
   match g t with
   | .tuple vs => k (.tuple vs) [(t, .gone)] [] n
   | .own b e xs => ZfS P E txt tk g t b e xs n k
   | _ => k (Jk P g x) [] [] n
  | x => k (Jk P g x) [] [] n
 | .assign x =>
  match x with
  | .tmp t =>
   match g t with
   | .tuple _ => .stuck 30
   | .own b e xs => ZfS P E txt tk g t b e xs n k
   | _ => k (Jk P g x) [] [] n
  | .const (.slice Xc 0 0) =>
   match P.underlying o.type with
   | some (.slice e) => k (.own (E.exO o) e .nil) [] [] n
   | _ => .stuck 31
  | x => k (Jk P g x) [] [] n
 | .pick c a b =>
  match Jk P g c with
  | .c (.bool v) => Zgo v (k (Jk P g a) [] [] n) (k (Jk P g b) [] [] n)
  | _ => .stuck 32
 | .alloc T =>
  match Zt8 P T with
  | some cs => k (.box cs) [] [] n
  | none => .stuck 33
 | .box _ x =>
  match (Jk P g x).cells with
  | some cs => k (.box (cs.map .c)) [] [] n
  | none => .stuck 34
 | .build T parts =>
  match Zjq g parts.toList with
  | some (f, t, e, l) => Zgf P E txt g T f t e l n k
  | none =>
  match P.underlying T,P.info? T with
  | some (.struct fs), Xa i =>
   if (fs.toList.all fun f=>(P.info? f.type).isSome)=Xb then
   match i.zero with
   | some z =>
    match Zfp z.cells.toList with
    | some zc =>
     match ZeU (fun i=>(fs[i]?).map fun f=>(f.offset,P.cellsOf f.type)) zc (parts.toList.map fun p=>(p.1,Jk P g p.2)) with
     | some cs => k (.agg cs) [] [] n
     | none => .stuck 35
    | none => .stuck 36
   | none => .stuck 37
   else .stuck 39
  | _, _ => .stuck 38
 | .buildSlice T len parts =>
  match Zgb g len parts.toList with
  | some (t, cs) => Zip P T t cs n k
  | none =>
  match P.underlying T with
  | some (.slice e) =>
   match P.info? e with
   | some i =>
    match i.zero with
    | some z =>
     match Zfp z.cells.toList with
     | some zc =>
      if z.cells.size=i.size∧0 < i.size∧len*i.size≤1048576∧Zm P e=Xe then
       match ZeU (fun j=>Xa (j*i.size,i.size)) ((Xg len zc).flatten) (parts.toList.map fun p=>(p.1,Jk P g p.2)),Kx P 8 e with
       | some cs, Xa sh =>
        match Kr ((Xg len sh).flatten) cs with
        | some cs' => k (.own (E.exO o) e (lOf i.size cs' len)) [] [] n
        | none => .stuck 46
       | _, _ => .stuck 40
      else .stuck 41
     | none => .stuck 42
    | none => .stuck 43
   | none => .stuck 44
  | _ => .stuck 45
 | .load T a =>
  match ZlO P g a with
  | some p => Zf0 P (E.exO o) tk g T p n k
  | none =>
  match Ji P T,Jk P g a with
  | some Xb, .ptr d off =>
   match g d with
   | .box cs => if off + P.cellsOf T ≤ cs.length ∧ WS ((cs.drop off).take (P.cellsOf T)) = Xb ∧ Zaw ((cs.drop off).take (P.cellsOf T)) = Xb then k (.agg (((cs.drop off).take (P.cellsOf T)).map (ZfK P))) [] (fpL txt d off (P.cellsOf T)) n else Zgs P E txt (E.exO o) g T d off cs n k
   | _ => .stuck 51
  | some Xe, .ptr d off =>
   match g d with
   | .box cs =>
    match cs[off]? with
    | some (.own b e xs) =>
     match b with
     | true =>
      match tk,ZpN txt g E.top d with
      | true, Xa us => if mvB P e xs = Xb then k (.own Xb e xs) (us ++ [(d, .box (cs.set off .gone))]) [d] n else .stuck 138
      | _, _ => k (.mref d (off + 1)) [] (fpL txt d off 1) n
     | false => if tk = Xb then k (.own Xe e xs) [(d, .box (cs.set off (.c (.slice Xe (P.cellsOf e) xs))))] [d] n else k (.c (.slice Xe (P.cellsOf e) xs)) [] [d] n
    | some (.c x) => k (.c x) [] (fpL txt d off 1) n
    | some .gone => .stuck 64
    | none => .stuck 52
   | _ => .stuck 53
  | some agg, .eref d q i s off =>
   match Jy (g d) q with
   | some (e, l) =>
    match Kx P 8 e with
    | some sh =>
     if s=P.cellsOf e∧sh.length=s∧off+P.cellsOf T≤s∧0 < P.cellsOf T∧Zm P e=Xe then
      .elem l i sh n (k (match agg with | true=>.agg (((ZH sh n).drop off).take (P.cellsOf T)) | false=>match (ZH sh n)[off]? with | some x=>.c x | none=>.dead) [] [d] (n+sh.length))
     else .stuck 59
    | none => .stuck 157
   | none => .stuck 158
  | some Xb, .eptr cs => if P.cellsOf T ≤ cs.length then k (.agg (cs.take (P.cellsOf T))) [] [] n else .stuck 54
  | some Xe, .eptr cs =>
   match cs with
   | x :: _ => k (.c x) [] [] n
   | [] => .stuck 55
  | some Xe, .vptr d off m i => Zs7 g d off m i n k
  | _, _ => .stuck 56
 | .store T a x =>
  match ZlO P g a with
  | some p => Zev P E txt g T x p n k
  | none =>
  match Jk P g a with
  | .ptr d off =>
   match g d with
   | .box cs =>
    match ZY x,(ZY x).map g with
    | some t, Xa (.own b e xs) =>
     match YX P txt g E.top t b e xs with
     | some us =>
      if P.cellsOf T=1∧off < cs.length∧(WS ((cs.drop off).take 1)||Zgv txt g E.top d)=Xb then
       k .dead (us++[(d,.box (cs.set off (.own b e xs)))]) [d] n
      else .stuck 60
     | none => .stuck 159
    | some t, Xa (.aggo vc) =>
     if vc.length=P.cellsOf T∧0 < P.cellsOf T∧off+P.cellsOf T≤cs.length∧WS ((cs.drop off).take (P.cellsOf T))=Xb then
      k .dead [(t,.dead),(d,.box (cs.take off++vc++cs.drop (off+P.cellsOf T)))] [d] n
     else .stuck 135
    | _, _ =>
     match (Jk P g x).cells with
     | some vc =>
      if vc.length=P.cellsOf T∧0 < P.cellsOf T∧off+P.cellsOf T≤cs.length∧(WS ((cs.drop off).take (P.cellsOf T))||Zgv txt g E.top d)=Xb then
       k .dead [(d,.box (cs.take off++Kk (cs.drop off) (nrm P T vc)++cs.drop (off+P.cellsOf T)))] [d] n
      else .stuck 61
     | none => .stuck 62
   | _ => .stuck 63
  | .eref d q i s off =>
   match Jy (g d) q,(Jk P g x).cells with
   | some (e, l), Xa vc =>
    match Kx P 8 T with
    | some sh =>
     match Kr sh vc with
     | some vc' =>
      if s=P.cellsOf e∧vc.length=P.cellsOf T∧0 < P.cellsOf T∧off+P.cellsOf T≤P.cellsOf e∧(g d).isG=Xe∧Zm P e=Xe then
       .req (.le (.lit 0) i) (.req (.lt i (.len l)) (k .dead [(d,Zak (g d) q Xb e (.setAt l i off (Zb5 vc')))] [d] n))
      else .stuck 160
     | none => .stuck 161
    | none => .stuck 162
   | _, _ => .stuck 163
  | .vptr d off m i => ZpR P g T x d off m i n k
  | _ => .stuck 64
 | .nilCheck x =>
  match Jk P g x with
  | .ptr d off => k (.ptr d off) [] [] n
  | .eptr cs => k (.eptr cs) [] [] n
  | .eref d q i s off => (match Jy (g d) q with | some (e, _) => if Zm P e = Xe ∨ Zn P e = Xb then k (.eref d q i s off) [] [d] n else .stuck 141 | none => .stuck 141)
  | _ => .stuck 65
 | .binOp op T x y _ =>
  match ZrF P op T (Jk P g x) y with
  | some b => k (.c (.bool (.lit b))) [] [] n
  | none => bin P E.plain op T (Jk P g x) (Jk P g y) fun v => k v [] [] n
 | .unOp op _ x =>
  match op,Jk P g x with
  | .not, .c (.bool b) => k (.c (.bool (Zpq b))) [] [] n
  | .neg, .c (.int kd e) => k (.c (.int kd (.bin .sub kd (.lit 0) e))) [] [] n
  | .xor, .c (.int kd e) => k (.c (.int kd (.bin .xor kd (.lit (if kd.signed = Xb then -1 else kd.max)) e))) [] [] n
  | _, _ => .stuck 66
 | .convert src dst x =>
  match P.underlying src,P.underlying dst,Jk P g x with
  | some (.int _), Xa (.int kd), .c (.int _ e) => k (.c (.int kd (.conv kd e))) [] [] n
  | some (.slice e), Xa .string, .c (.slice _ s xs) =>
   match P.underlying e with
   | some (.int .u8) => if s = 1 then .req (.bytes xs) (k (.c (.str (.bytes xs))) [] [] n) else .stuck 67
   | _ => .stuck 68
  | _, _, _ => .stuck 69
 | .fieldAddr T x f =>
  match Yg P T f,Jk P g x with
  | some off, .ptr d o => k (.ptr d (o + off)) [] [] n
  | some off, .eptr cs => k (.eptr (cs.drop off)) [] [] n
  | some off, .eref d q i s o => (match Jy (g d) q with | some (e, _) => if Zm P e = Xe ∨ Zn P e = Xb then k (.eref d q i s (o + off)) [] [d] n else .stuck 141 | none => .stuck 141)
  | _, _ => .stuck 70
 | .index T x i =>
  match P.underlying T,Jk P g x,Jk P g i with
  | some .string, .c (.str s), .c (.int _ ie) => .req (.le (.lit 0) ie) (.req (.lt ie (.slen s)) (k (.c (.int .u8 (.getc s ie))) [] [] n))
  | _, _, _ => .stuck 198
 | .field T x f =>
  match Yg P T f,ZfP P T f,Jk P g x with
  | some off, Xa (agg, sz), .agg cs =>
   if off+sz≤cs.length∧0 < sz then
    match agg with
    | true => k (.agg ((cs.drop off).take sz)) [] [] n
    | false => match cs[off]? with | some c => k (.c c) [] [] n | none => .stuck 195
   else .stuck 196
  | _, _, _ => .stuck 197
 | .indexAddr T x i =>
  match P.underlying T,Jk P g x,Jk P g i with
  | some (.slice e), .c (.slice _ s xs), .c (.int _ ix) =>
   match Kx P 8 e with
   | some sh => if s = P.cellsOf e ∧ sh.length = s ∧ 0 < s then .elem xs ix sh n (k (.eptr (ZH sh n)) [] [] (n + sh.length)) else .stuck 71
   | none => .stuck 72
  | some (.array m e), .ptr d off, .c (.int _ ix) =>
   if 0 < P.cellsOf e∧2≤m then
    match ix with
    | .lit z => if 0 ≤ z ∧ z < (m : Int) then k (.ptr d (off + z.toNat * P.cellsOf e)) [] [] n else .stuck 193
    | ix => if 8 < m ∧ P.cellsOf e = 1 then .req (.le (.lit 0) ix) (.req (.lt ix (.lit (m : Nat))) (k (.vptr d off m ix) [] [] n)) else ZsL ix d off (P.cellsOf e) m (fun x => k x [] [] n) m
   else .stuck 194
  | some (.slice e), .mref d q, .c (.int _ ix) =>
   match Jy (g d) q with
   | some (e', l) => if bT e' = e ∧ 0 < P.cellsOf e ∧ (Zm P e' = Xe ∨ Zn P e' = Xb) then .req (.le (.lit 0) ix) (.req (.lt ix (.len l)) (k (.eref d q ix (P.cellsOf e) 0) [] [d] n)) else .stuck 164
   | none => .stuck 165
  | _, _, _ => .stuck 73
 | .makeSlice T a b =>
  match Jk P g a,Jk P g b with
  | .c (.int .i64 m), .c (.int .i64 m') =>
   match P.underlying T with
   | some (.slice e) =>
    match P.info? e with
    | some i =>
     match i.zero with
     | some z =>
      match Zfp z.cells.toList,Kx P 8 e with
      | some zc, Xa sh =>
       match Kr sh zc with
       | some zc' => if z.cells.size = i.size ∧ Zm P e = Xe then .req (.make m i.bytes) (.req (.le m m') (.req (.le m' m) (k (.own (!(E.exO o)) e (.rep m (Zb5 zc'))) [] [] n))) else .stuck 166
       | none => .stuck 167
      | _, _ => .stuck 168
     | none => .stuck 169
    | none => .stuck 170
   | _ => .stuck 171
  | _, _ => .stuck 172
 | .slice T x lo hi mx =>
  match P.underlying T,Jk P g x with
  | some (.slice e), .c (.slice full s xs) => if s = P.cellsOf e ∧ 0 < s then ZnR full s xs (lo.map (Jk P g)) (hi.map (Jk P g)) (mx.map (Jk P g)) fun v => k v [] [] n else .stuck 75
  | some (.slice e), .mref d q =>
   match lo,hi.map (Jk P g),mx.map (Jk P g) with
   | none, Xa (.c (.int _ (.lit 0))), Xa (.c (.int _ (.lit 0))) => (match Jy (g d) q with | some (e', _) => if 0 < P.cellsOf e ∧ Zm P e' = Xe then k (.c (.slice Xb (P.cellsOf e) .nil)) [] [d] n else .stuck 75 | none => .stuck 75)
   | _, _, _ =>
   if q=0 then
   match lo,hi.map (Jk P g),mx,g d with
   | none, Xa (.c (.int _ h)), Xc, .own Xb e' l =>
    match YX P txt g E.top d Xb e' l with
    | some us => if e' = e ∧ 0 < P.cellsOf e ∧ Zm P e = Xe then .req (.le (.lit 0) h) (.req (.le h (.len l)) (k (.own Xb e (.take l h)) us [d] n)) else .stuck 137
    | none => .stuck 138
   | _, _, _, _ => .stuck 139
   else .stuck 138
  | _, _ => .stuck 76
 | .extract x i =>
  match ZY x,(ZY x).map g with
  | some t, Xa (.tuple vs) =>
   match vs[i]? with
   | some (.own b e xs) => if (!b || mvB P e xs) = Xb then k (.own b e xs) [(t, .tuple (vs.set i (match b with | true => .gone | false => .c (.slice Xe (P.cellsOf e) xs))))] [] n else .stuck 138
   | some (.c x) => k (.c x) [] [] n
   | some (.agg cs) => k (.agg cs) [] [] n
   | some .gone => .stuck 79
   | none => .stuck 77
  | _, _ => .stuck 78
 | .makeMap _ _ => .stuck 0
 | .lookup _ _ _ _ => .stuck 0
 | .insert _ _ _ _ => .stuck 0
 | .mapUpdate _ _ _ _ => .stuck 0
 | .makeFunc fn first captured =>
  match fn,first.toList,Zff (captured.toList.map (Jk P g)) with
  | .func f, [], Xa ds => if ds.all (fun d => match g d with | .box _ => Xb | _ => Xe) = Xb then k (.clo f ds) [] ds n else .stuck 180
  | _, _, _ => .stuck 181
 | .call c =>
  match c.callee with
  | .builtin .len =>
   match c.args.toList,c.argTypes.toList with
   | [x], [T] =>
    match Jk P g x with
    | .mref d q =>
     match P.underlying T,Jy (g d) q with
     | some (.slice _), Xa (e', l) => if Zm P e' = Xe ∨ Zn P e' = Xb then k (.c (.int .i64 (.len l))) [] [d] n else .stuck 173
     | _, _ => .stuck 173
    | v => Zuv P T v fun v => k v [] [] n
   | _, _ => .stuck 80
  | .builtin .copy =>
   match c.args.toList,c.argTypes.toList with
   | [x, y], [T, _] =>
    match P.underlying T,Jk P g x,Jk P g y with
    | some (.slice e), .mref d q, .c (.slice _ s ys) =>
     match Jy (g d) q with
     | some (e', l) => if e' = e ∧ P.cellsOf e = 1 ∧ s = 1 ∧ (g d).isG = Xe ∧ Zm P e = Xe then k .dead [(d, Zak (g d) q Xb e (.spl l ys))] [d] n else .stuck 174
     | none => .stuck 175
    | _, _, _ => .stuck 176
   | _, _ => .stuck 177
  | .builtin .append =>
   match c.args.toList,c.argTypes.toList with
   | [x, y], [T, T'] =>
    if T=T' then
     match Jk P g y with
     | .mref d q =>
      match ZY x,g d,q,y with
      | some t, .own Xb D' ys, 0, .tmp u =>
       (match g t,Zn P D' with
       | .own Xb D xs, Xb => if u = d then Zch P T txt g E.top t u D D' xs ys fun v us => k v us [] n else .stuck 231
       | _, _ => WV P T txt g E.top (E.exO o) (Xa t) (g t) (Jy (g d) q) fun v us => k v us [d] n)
      | _, _, _, _ =>
      match ZY x with
      | some t => WV P T txt g E.top (E.exO o) (Xa t) (g t) (Jy (g d) q) fun v us => k v us [d] n
      | none => WV P T txt g E.top (E.exO o) Xc (Jk P g x) (Jy (g d) q) fun v us => k v us [d] n
     | _ =>
     match ZY x with
     | some t => Zad P T txt g E.top (E.exO o) (Xa t) (g t) (Jk P g y) fun v us => k v us [] n
     | none => Zad P T txt g E.top (E.exO o) Xc (Jk P g x) (Jk P g y) fun v us => k v us [] n
    else .stuck 81
   | _, _ => .stuck 82
  | .builtin .min =>
   match c.args.toList.map (Jk P g) with
   | [.c (.int ka a), .c (.int kb b)] => if ka = kb then k (.c (.int ka (.bin .min ka a b))) [] [] n else .stuck 83
   | _ => .stuck 84
  | .builtin .max =>
   match c.args.toList.map (Jk P g) with
   | [.c (.int ka a), .c (.int kb b)] => if ka = kb then k (.c (.int ka (.bin .max ka a b))) [] [] n else .stuck 85
   | _ => .stuck 86
  | .value (.func f) =>
   match Zsb P E g f c.args.toList with
   | some (d, gf, l) => .req (.mq .any l (.lit 0)) (k (.eref d 0 (.lit 0) 0 gf) [] [d] n)
   | none =>
   match ZlE P E g f c.args.toList with
   | some (d, l) => .req (.mq .keys l (.lit 0)) (k (.c (.slice Xe 1 (.mkeys l))) [] [d] n)
   | none =>
   match Zo2 P E g f c.args.toList with
   | some (d, e, l) => .req (.lq .ints l (.lit 0)) (k .dead [(d, .own Xb e (.fn .dsort l (.lit 0) .nil .nil))] [d] n)
   | none =>
   match ZcV E txt g (E.rfs f) c.args.toList with
   | [] =>
    match Zbe P g (E.rfs f) c.args.toList 0 with
    | some aZ => Zc8 P E txt g f (Wy P g (E.rfs f) c.args.toList 0) (VP g (Zuc P f) aZ) n k
    | none => .stuck 88
   | kl =>
    if (kl.all fun u=>!(Vv o).contains u.1)=Xb then
     match Zbe P (ZhV kl g) (E.rfs f) c.args.toList 0 with
     | some aZ => Zc8 P E txt (ZhV kl g) f (Wy P (ZhV kl g) (E.rfs f) c.args.toList 0) (VP (ZhV kl g) (Zuc P f) aZ) n fun x us fp n' => k x (kl ++ us) fp n'
     | none => .stuck 88
    else .stuck 88
  | .value (.tmp t) =>
   match g t,Zbe P g [] c.args.toList 0 with
   | .clo f ds, Xa aZ =>
    match Zbp g Xe ds with
    | some cs => Zc8 P E txt g f (Wy P g [] c.args.toList 0) (VP g (Zuc P f) (aZ ++ cs)) n k
    | none => .stuck 182
   | _, _ => .stuck 183
  | _ => .stuck 89
 | _ => .stuck 90
def vS (d:Nat):Nat:=d+8589934592
abbrev KS:=Bool→SV→Ups→List Nat→Nat→STree
@[reducible] def stE (o:Zt9) (l:LE) (i:IE) (v:LE) (c:CE):LE:=.fn (.st o) l i v c
@[reducible] def ptE (o:Zt9) (p:LE):LE:=.fn (.st o) p (.lit 0) .nil .nil
def Zgj (E:Env) (g:Nat→SV):Option (Nat×LE):=match E.st with | some d=>(match g d with | .store l=>Xa (d,l) | _=>Xc) | none=>Xc
def ZbP (P:Program) (g:Nat→SV) (x:Operand):Option LE:=match Jk P g x with | .c (.cel p)=>Xa p | _=>Xc
def ZnQ (P:Program) (scel:List TypeId):Nat→TypeId→Option (List Sh)
 | 0, _ => Xc
 | d + 1, T =>
  match scel.contains T with
  | true => Xa [.cel]
  | false =>
   match P.underlying T with
   | some (.struct fs) => fs.toList.foldr (fun f acc => match ZnQ P scel d f.type, acc with | some a, Xa b => Xa (a ++ b) | _, _ => Xc) (Xa [])
   | some (.array n e) => (ZnQ P scel d e).map fun l => (Xg n l).flatten
   | some (.slice e) => Xa [.slice (P.cellsOf e)]
   | some (.int k) => Xa [.int k]
   | some .bool => Xa [.bool]
   | some .string => Xa [.str]
   | some (.pointer _) => Xa [.cel]
   | some (.map _ _) => Xa [.cel]
   | some (.func _ _ _) => Xa [.cel]
   | _ => Xc
def ZaR (P:Program) (E:Env) (T:TypeId):Option (List Sh):=
 match ZnQ P E.scel 8 T with
 | some sh => if sh.length = P.cellsOf T ∧ 0 < sh.length then Xa sh else Xc
 | none => Xc
def ZuY (s:Sh) (c:SC):Option SC:=
 match s,c with
 | .cel, .cel p => Xa (.cel p)
 | .cel, .slice Xb _ .nil => Xa (.cel (ptE (.pnil 1) .nil))
 | .slice s, .slice f s' l => if s' = s then Xa (.slice Xe s l) else (match f, l with | _, .nil => Xa (.slice Xe s .nil) | _, _ => Xc)
 | .int _, .int k e => Xa (.int k e)
 | .bool, .bool b => Xa (.bool b)
 | .str, .str b => Xa (.str b)
 | _, _ => Xc
def ZaG:List Sh→List SC→Option (List SC)
 | [], [] => Xa []
 | s :: ss, c :: cs => match ZuY s c, ZaG ss cs with | some v, Xa vs => Xa (v :: vs) | _, _ => Xc
 | _, _ => Xc
def ZsK (P:Program) (E:Env) (g:Nat→SV) (T:TypeId) (p:LE) (n:Nat) (k:KS):STree:=
 match Zgj E g,ZaR P E T,Ji P T with
 | some (d, l), Xa sh, Xa agg =>
  if agg=Xb∨sh.length=1 then
   .elem (stE (.get sh.length) l (.lit 0) p .nil) (.lit 0) sh n (k Xb (match agg with | true=>.agg (ZH sh n) | false=>match ZH sh n with | [x]=>.c x | _=>.dead) [] [vS d] (n+sh.length))
  else .stuck 300
 | _, _, _ => .stuck 301
def ZuE (g:Nat→SV) (x:Operand) (sh:List Sh):Option (Nat×TypeId×LE):=
 match ZY x,(ZY x).map g,sh with
 | some t, Xa (.own Xb e xs), [.cel] => Xa (t, e, xs)
 | _, _, _ => Xc
def ZpD (P:Program) (E:Env) (txt:Odr) (g:Nat→SV) (T:TypeId) (p:LE) (x:Operand) (n:Nat) (k:KS):STree:=
 match Zgj E g,ZaR P E T with
 | some (d, l), Xa sh =>
  match ZuE g x sh with
  | some (t, e, xs) =>
   match YX P txt g E.top t Xb e xs with
   | some us =>
    if Zm P e=Xe∧d≠t then
     .req (.cons xs) (.req (.cons (stE (.get 1) l (.lit 0) p .nil)) (k Xe .dead (us++[(d,.store (stE .set (stE .push l (.lit 0) xs .nil) (.lit 0) p (.cons (.cel (stE (.parr e) l (.len xs) .nil .nil)) .nil)))]) [d] n))
    else .stuck 338
   | none => .stuck 339
  | none =>
   match (Jk P g x).cells with
   | some vc =>
    match ZaG sh vc with
    | some vc' => .req (.cons (stE (.get sh.length) l (.lit 0) p .nil)) (k Xe .dead [(d, .store (stE .set l (.lit 0) p (Zb5 vc')))] [d] n)
    | none => .stuck 302
   | none => .stuck 303
 | _, _ => .stuck 340
def Zug (P:Program) (E:Env) (g:Nat→SV) (T:TypeId) (vc:Option (List SC)) (n:Nat) (k:KS):STree:=
 match Zgj E g,ZaR P E T,vc with
 | some (d, l), Xa sh, Xa vc =>
  match ZaG sh vc with
  | some vc' => k Xb (.c (.cel (ptE .pnew l))) [(d, .store (.snoc l (Zb5 vc')))] [d] n
  | none => .stuck 304
 | _, _, _ => .stuck 305
def ZtW (P:Program) (T:TypeId):Option (List SC):=((P.info? T).bind (·.zero)).bind fun z=>Zfp z.cells.toList
def ZwF (P:Program) (E:Env) (g:Nat→SV) (T:TypeId) (len:Nat) (parts:List (Nat×Operand)) (n:Nat) (k:KS):STree:=
 match P.underlying T with
 | some (.slice e) =>
  match P.info? e with
  | some i =>
   match i.zero,Zgj E g,ZaR P E e with
   | some z, Xa (d, l), Xa sh =>
    match Zfp z.cells.toList with
    | some zc =>
     if z.cells.size=i.size∧0 < i.size∧0 < len∧len*i.size≤1048576 then
      match ZeU (fun j=>Xa (j*i.size,i.size)) ((Xg len zc).flatten) (parts.map fun p=>(p.1,Jk P g p.2)) with
      | some cs =>
       match ZaG ((Xg len sh).flatten) cs with
       | some cs' => k Xb (.c (.cel (stE (.parr e) l (.lit (len : Nat)) .nil .nil))) [(d, .store (.snoc l (Zb5 cs')))] [d] n
       | none => .stuck 306
      | none => .stuck 307
     else .stuck 308
    | none => .stuck 309
   | _, _, _ => .stuck 310
  | none => .stuck 311
 | _ => .stuck 312
def Zwu (P:Program) (E:Env) (g:Nat→SV) (T:TypeId) (p:LE) (y:Operand) (n:Nat) (k:KS):STree:=
 match P.underlying T,Zgj E g,Jk P g y with
 | some (.slice e), Xa (d, l), .c (.slice _ s ys) =>
  match P.info? e with
  | some i =>
   match i.zero with
   | some z =>
    if z.cells.size=i.size∧0 < i.size∧s=i.size∧Zm P e=Xe then
     .req (.cons ys) (.req (.cons (stE (.vchk e s) l (.lit 0) p .nil)) (.req (.room (ptE .plen p) ys i.bytes)
      (k Xe (.c (.cel (stE (.papp e) l (.lit 0) p (.cons (.slice Xe s ys) .nil)))) [(d,.store (stE (.app s) l (.lit 0) p (.cons (.slice Xe s ys) .nil)))] [d] n)))
    else .stuck 313
   | none => .stuck 314
  | none => .stuck 315
 | _, _, _ => .stuck 316
def Znz (P:Program) (E:Env) (txt:Odr) (g:Nat→SV) (ex:Bool) (T:TypeId) (x:Operand) (p:LE) (n:Nat) (k:KS):STree:=
 match P.underlying T,Zgj E g with
 | some (.slice e), Xa (d, l) =>
  .req (.cons (stE (.vchk e (P.cellsOf e)) l (.lit 0) p .nil))
   (Zad P T txt g E.top ex (ZY x) (match ZY x with | some t=>g t | none=>Jk P g x) (.c (.slice Xe (P.cellsOf e) (stE (.view (P.cellsOf e)) l (.lit 0) p .nil))) fun v us=>k Xb v us [d] n)
 | _, _ => .stuck 317
def Zjc (g:Nat→SV) (nt:Nat) (d:Nat) (l:LE) (aZ:Option (List SAK)):Option (List SAK):=
 match aZ with
 | some aZ => (VP g nt aZ).map fun bs => bs ++ Xg (nt - bs.length) .pad ++ [.sto d l]
 | none => Xc
def Env.pad (E:Env) (P:Program) (f:FuncId):Nat:=match E.wraw f with | true=>0 | false=>Zuc P f
def ZqE (P:Program) (E:Env) (txt:Odr) (g:Nat→SV) (f:FuncId) (args:List Operand) (aZ:Option (List SAK)) (n:Nat) (k:KS):STree:=
 match Zgj E g with
 | some (d, l) =>
  if (Wy P g [] args 0).isEmpty=Xb then Zc8 P E txt g f [] (Zjc g (E.pad P f) d l aZ) n fun x us fp n'=>k Xe x us fp n' else .stuck 318
 | none => .stuck 319
def Zn7 (P:Program) (g:Nat→SV):List Operand→Option (List SC)
 | [] => Xa []
 | x :: xs => match ZbP P g x, Zn7 P g xs with | some p, Xa ps => Xa (.cel p :: ps) | _, _ => Xc
def Zgi (o:Zt9):List SC→STree→STree
 | [], t => t
 | .cel p :: cs, t => .req (.cons (ptE o p)) (Zgi o cs t)
 | _ :: _, _ => .stuck 320
def ZaY (p:LE):Nat→Nat→List SAK
 | _, 0 => []
 | i, m + 1 => .imm (.c (.cel (ptE (.pcap i) p))) :: ZaY p (i + 1) m
def Zsh (y:Operand):Bool:=match y with | .const (.pointer Xc)=>Xb | _=>Xe
def Zrf (P:Program) (E:Env) (txt:Odr) (g:Nat→SV) (o:Oper) (n:Nat) (k:KS):Option STree:=
 match E.st with
 | none => Xc
 | some _ =>
  match o.op with
  | .load T a => (ZbP P g a).map fun p => ZsK P E g T p n k
  | .store T a x => (ZbP P g a).map fun p => ZpD P E txt g T p x n k
  | .nilCheck x => (ZbP P g x).map fun p => .req (.cons (ptE .pnn p)) (k Xb (.c (.cel p)) [] [] n)
  | .fieldAddr T x f => (ZbP P g x).map fun p => (match Yg P T f with | some off => .req (.cons (ptE .pnn p)) (k Xb (.c (.cel (ptE (.padd off) p))) [] [] n) | none => .stuck 321)
  | .indexAddr T x i => (ZbP P g x).map fun p =>
   match P.underlying T,Jk P g i with
   | some (.slice e), .c (.int _ ix) => if 0 < P.cellsOf e then .req (.le (.lit 0) ix) (.req (.lt ix (.len (ptE .plen p))) (k Xb (.c (.cel (.fn (.st (.pidx (P.cellsOf e))) p ix .nil .nil))) [] [] n)) else .stuck 322
   | _, _ => .stuck 323
  | .slice T x lo hi mx => (ZbP P g x).map fun p =>
   match P.underlying T,lo,hi.map (Jk P g),mx.map (Jk P g) with
   | some (.slice e), Xc, Xa (.c (.int _ (.lit 0))), Xa (.c (.int _ (.lit 0))) => if 0 < P.cellsOf e then .req (.cons (ptE .pisl p)) (k Xb (.c (.slice Xb (P.cellsOf e) .nil)) [] [] n) else .stuck 324
   | some (.slice e), Xc, Xa (.c (.int _ h)), Xc => if 0 < P.cellsOf e then .req (.cons (ptE .pisl p)) (.req (.le (.lit 0) h) (.req (.le h (.len (ptE .plen p))) (k Xb (.c (.cel (.fn (.st .pcut) p h .nil .nil))) [] [] n))) else .stuck 325
   | _, _, _, _ => .stuck 326
  | .box T x => (match E.exO o with | true => Xa (Zug P E g T (Jk P g x).cells n k) | false => Xc)
  | .alloc T => (match E.exO o with | true => Xa (Zug P E g T (ZtW P T) n k) | false => Xc)
  | .buildSlice T len parts => (match E.exO o && E.scel.contains T with | true => Xa (ZwF P E g T len parts.toList n k) | false => Xc)
  | .makeMap T r => (match r, Zd5 P T with
   | none, Xb => Xa (match Zgj E g with | some (d, l) => k Xb (.c (.cel (ptE .pmap l))) [(d, .store (ptE .newm l))] [d] n | none => .stuck 327)
   | _, _ => Xc)
  | .insert T m kx v => (ZbP P g m).map fun p =>
   (match Zgj E g,Jk P g kx,ZbP P g v with
   | some (d, l), .c (.int .i64 ke), Xa q => if Zd5 P T = Xb then .req (.cons (stE .mchk l (.lit 0) p .nil)) (.req (.cons (ptE .pis0 q)) (k Xe .dead [(d, .store (stE .mput l ke p (.cons (.cel q) .nil)))] [d] n)) else .stuck 328
   | _, _, _ => .stuck 329)
  | .mapUpdate T m kx v => (ZbP P g m).map fun p =>
   (match Zgj E g,Jk P g kx,ZbP P g v with
   | some (d, l), .c (.int .i64 ke), Xa q => if Zd5 P T = Xb then .req (.cons (stE .mchk l (.lit 0) p .nil)) (.req (.cons (ptE .pis0 q)) (k Xe .dead [(d, .store (stE .mput l ke p (.cons (.cel q) .nil)))] [d] n)) else .stuck 328
   | _, _, _ => .stuck 329)
  | .lookup T m kx ok => (ZbP P g m).map fun p =>
   (match Zgj E g,Jk P g kx,ok with
   | some (d, l), .c (.int .i64 ke), Xe => if Zd5 P T = Xb then .req (.cons (stE .mchk l (.lit 0) p .nil)) (k Xb (.c (.cel (stE .mget l ke p .nil))) [] [d] n) else .stuck 330
   | _, _, _ => .stuck 331)
  | .binOp op T x y _ => (match ZbP P g x, P.underlying T, Zsh y with
   | some p, Xa (.pointer _), Xb => (match op with
    | .eql => Xa (.req (.cons (ptE .pisr p)) (k Xb (.c (.bool (.cmp .eql (.len (ptE .pnn p)) (.lit 0)))) [] [] n))
    | .neq => Xa (.req (.cons (ptE .pisr p)) (k Xb (.c (.bool (.cmp .neq (.len (ptE .pnn p)) (.lit 0)))) [] [] n))
    | _ => Xc)
   | _, _, _ => Xc)
  | .makeFunc fn first captured => (match fn, first.toList, Zn7 P g captured.toList with
   | .func f, [], Xa (c :: cs) => Xa (Zgi .pis0 (c :: cs) (Zgi .pnn (c :: cs) (k Xb (.c (.cel (stE (.pfnc f) .nil (.lit 0) .nil (Zb5 (c :: cs))))) [] [] n)))
   | _, _, _ => Xc)
  | .call c =>
   match c.callee with
   | .builtin .len => (match c.args.toList, c.argTypes.toList with
    | [x], [T] => (ZbP P g x).map fun p => (match P.underlying T, Zgj E g with
     | some (.slice _), _ => .req (.cons (ptE .pisl p)) (k Xb (.c (.int .i64 (.len (ptE .plen p)))) [] [] n)
     | some (.map _ _), Xa (d, l) => .req (.cons (stE .mchk l (.lit 0) p .nil)) (k Xb (.c (.int .i64 (.len (stE .mrows l (.lit 0) p .nil)))) [] [d] n)
     | _, _ => .stuck 332)
    | _, _ => Xc)
   | .builtin .append => (match c.args.toList, c.argTypes.toList with
    | [x, y], [T, T'] => (match ZbP P g x, ZbP P g y with
     | some p, Xc => Xa (if T = T' then Zwu P E g T p y n k else .stuck 333)
     | none, Xa q => Xa (if T = T' then Znz P E txt g (E.exO o) T x q n k else .stuck 334)
     | some _, Xa _ => Xa (.stuck 335)
     | none, Xc => Xc)
    | _, _ => Xc)
   | .builtin .delete => (match c.args.toList, c.argTypes.toList with
    | [m, kx], T :: _ => (ZbP P g m).map fun p => (match Zgj E g, Jk P g kx with
     | some (d, l), .c (.int .i64 ke) => if Zd5 P T = Xb then .req (.cons (stE .mchk l (.lit 0) p .nil)) (k Xe .dead [(d, .store (stE .mdel l ke p .nil))] [d] n) else .stuck 336
     | _, _ => .stuck 337)
    | _, _ => Xc)
   | .value (.func f) => (match E.wst f with | true => Xa (ZqE P E txt g f c.args.toList (Zbe P g [] c.args.toList 0) n k) | false => Xc)
   | .value (.tmp t) => (match E.fnv t, g t with
    | some (f, m + 1), .c (.cel p) => Xa (.req (.cons (ptE (.pisf f (m + 1)) p)) (ZqE P E txt g f c.args.toList ((Zbe P g [] c.args.toList 0).map fun aZ => aZ ++ ZaY p 0 (m + 1)) n k))
    | _, _ => Xc)
   | _ => Xc
  | _ => Xc
def Zbf (old new:SV):Bool:=
 match old,new with
 | .gbox _, _ => Xe
 | _, .gbox _ => Xe
 | .store _, _ => Xe
 | _, .store _ => Xe
 | .box _, _ => Xe
 | .own Xb _ _, _ => Xe
 | .dead, .box _ => Xb
 | _, .box _ => Xe
 | _, _ => Xb
def JV:Ups→Tr→Tr
 | [], s => s
 | (d, x) :: us, s => JV us (s.set depth d x)
structure Log where
 i:Nat
 F:List Nat
 D:List Nat
def SV.isSto:SV→Bool
 | .store _ => Xb
 | _ => Xe
def vOf (gr:Bool) (g:Nat→SV) (us:Ups):List Nat:=match gr with | true=>[] | false=>us.filterMap fun u=>if (g u.1).isSto=Xb then Xa (vS u.1) else Xc
def ZrK (x:SV):Bool:=match x with | .box _=>Xb | _=>Xe
def Zd6 (txt:Odr) (i:Nat) (x:SV):Bool:=
 match x with
 | .mref d _ => !txt.nr d i
 | .eref d _ _ _ _ => !txt.nr d i
 | _ => Xb
def Zlw (txt:Odr) (o:Oper) (x:SV):Bool:=match o.dst with | some d=>Zd6 txt d x | none=>Xb
def ZcD (kp:Nat→Bool):Nat→List BC→List BC→Option (List BC×List (IE×IE))
 | _, [], [] => Xa ([], [])
 | j, c' :: cs', c :: cs =>
  match ZcD kp (j+1) cs' cs with
  | some (r, q) =>
   match kp j with
   | true =>
    match c',c with
    | .c (.int k' e'), .c (.int k e) => if k' = k then Xa (.c (.int k e) :: r, (e', e) :: q) else Xc
    | .own Xb t' l', .own Xb t _ => if t' = t then Xa (.own Xb t' l' :: r, q) else Xc
    | _, _ => Xc
   | false => Xa (c' :: r, q)
  | none => Xc
 | _, _, _ => Xc
def Odr.kpAt:Odr→Nat→Bool
 | .text, _ => Xe
 | .any _ _ K, d => K.any fun p => p.1 == d
def Zo5 (txt:Odr) (g:Nat→SV) (u:Nat×SV):Option ((Nat×SV)×List (IE×IE)):=
 match txt.kpAt u.1 with
 | true =>
  match u.2,g u.1 with
  | .box cs', .box cs => match ZcD (txt.kp u.1) 0 cs' cs with | some (r, q) => Xa ((u.1, .box r), q) | none => Xc
  | _, _ => Xc
 | false => Xa (u, [])
def Zb6 (txt:Odr) (g:Nat→SV):Ups→Option (Ups×List (IE×IE))
 | [] => Xa ([], [])
 | u :: us =>
  match Zo5 txt g u,Zb6 txt g us with
  | some (u', q), Xa (us', q') => Xa (u' :: us', q ++ q')
  | _, _ => Xc
def Zpz:List (IE×IE)→STree→STree
 | [], t => t
 | (a, b) :: q, t => .req (.le a b) (.req (.le b a) (Zpz q t))
def ZoW (E:Env) (txt:Odr) (B:Nat→Bool) (o:Oper) (i:Nat) (s:Tr) (gs:List Nat) (cont:Tr→Nat→Log→STree):KS:=fun gr x us0 fp n'=>
  match Zb6 txt (gE E s) us0 with
  | some (us, qs) => Zpz qs (
   if us.all (fun u=>(decide (u.1 < E.top)&&(!B u.1||ZrK u.2))&&Zd6 txt u.1 u.2&&(gE E s u.1).isSto == u.2.isSto)=Xb∧Zlw txt o x=Xb then
    match o.dst with
    | some d =>
     if d < E.nt∧Zbf (gE E (JV us s) d) x=Xb∧B d=Xe then
      cont ((JV us s).set depth d x) n' ⟨i,(Vv o).filter (fun t=>!B t)++gs++fp++us.map (·.1)++vOf gr (gE E s) us++[d],us.map (·.1)++[d]++vOf gr (gE E s) us⟩
     else .stuck 100
    | none => cont (JV us s) n' ⟨i, (Vv o).filter (fun t => !B t) ++ gs ++ fp ++ us.map (·.1) ++ vOf gr (gE E s) us, us.map (·.1) ++ vOf gr (gE E s) us⟩
   else .stuck 104)
  | none => .stuck 137
def Zja (P:Program) (E:Env) (txt:Odr) (tk:Bool) (B:Nat→Bool) (o:Oper) (i:Nat) (s:Tr) (gs:List Nat) (n:Nat) (cont:Tr→Nat→Log→STree):STree:=
 match Zrf P E txt (gE E s) o n (ZoW E txt B o i s gs cont) with
 | some t => t
 | none => Yo P E txt tk (gE E s) o n (ZoW E txt B o i s gs cont Xe)
def Zep (E:Env) (B:Nat→Bool) (o:Oper) (i:Nat) (s:Tr) (gs:List Nat) (n:Nat) (cont:Tr→Nat→Log→STree):STree:=
 match o.dst with
 | some d => if d < E.nt ∧ Zbf (gE E s d) .dead = Xb ∧ B d = Xe then cont (s.set depth d (.tuple [])) n ⟨i, gs ++ [d], [d]⟩ else .stuck 101
 | none => cont s n ⟨i, gs, []⟩
def Znc (P:Program) (E:Env) (txt:Odr) (tk:Bool) (B:Nat→Bool) (ops:Array Oper) (o:Oper) (i:Nat) (s:Tr) (n:Nat) (cont:Tr→Nat→Log→STree):STree:=
 match o.guard with
 | none => Zja P E txt tk B o i s [] n cont
 | some (j, want) =>
  match (ops[j]?).bind (·.dst) with
  | none => .stuck 102
  | some gd =>
   match gE E s gd with
   | .tuple [] => Zep E B o i s [gd] n cont
   | .c (.bool (.lit b)) => if want = b then Zja P E txt tk B o i s [gd] n cont else Zep E B o i s [gd] n cont
   | .c (.bool b) =>
    .branch b (if want=Xb then Zja P E txt tk B o i (s.set depth gd (.c (.bool (.lit Xb)))) [gd] n cont else Zep E B o i (s.set depth gd (.c (.bool (.lit Xb)))) [gd] n cont)
     (if want=Xe then Zja P E txt tk B o i (s.set depth gd (.c (.bool (.lit Xe)))) [gd] n cont else Zep E B o i (s.set depth gd (.c (.bool (.lit Xe)))) [gd] n cont)
   | _ => .stuck 103
def Zq6 (P:Program) (E:Env) (txt:Odr) (tk:Nat→Bool) (B:Nat→Bool) (ops:Array Oper):List Oper→Nat→Tr→Nat→List Log→(Tr→Nat→List Log→STree)→STree
 | [], _, s, n, logs, k => k s n logs
 | o :: rest, i, s, n, logs, k => Znc P E txt (tk i) B ops o i s n fun s' n' lg => Zq6 P E txt tk B ops rest (i + 1) s' n' (lg :: logs) k
def ZlM (t:Nat) (x:Operand):Bool:=
 match x with
 | .tmp t' => t' == t
 | _ => Xe
def Zs3 (E:Env) (t:Nat) (o:Oper):Bool:=
 match o.op with
 | .call c =>
  match c.callee with
  | .builtin .append => match c.args.toList with | x :: _ => ZlM t x | [] => Xe
  | .value (.func f) => c.args.toList.zipIdx.any fun p => ZlM t p.1 && E.cons f p.2
  | _ => Xe
 | .assign x => ZlM t x && (match o.dst with | some d => E.res.contains d | none => Xe)
 | .store _ _ x => E.st.isSome && ZlM t x
 | _ => Xe
def ZwI (E:Env) (ops:Array Oper) (i:Nat):Bool:=
 match ops[i]? with
 | some o =>
  match o.op with
  | .assign _ => Xb
  | .move _ => match o.dst with | some t => ops.toList.any (Zs3 E t) | none => Xe
  | .load _ _ => match o.dst with | some t => ops.toList.any (Zs3 E t) | none => Xe
  | .lookup _ _ _ _ => match o.dst with | some t => ops.toList.any (Zs3 E t) | none => Xe
  | _ => Xe
 | none => Xe
def Zwg (a b:List Nat):Bool:=a.all fun x=>!b.contains x
def Zi7 (ops:Array Oper) (logs:List Log):Bool:=
 let B:=CheckFast.beforeF ops
 (ops.toList.zipIdx.all fun p=>p.1.after.all fun e=>!Region.binds .any e||decide (e.on < p.2))&&logs.all fun a=>logs.all fun b=>!(decide (b.i < a.i))||(B.getD a.i 0).testBit b.i||(Zwg b.D a.F&&Zwg a.D b.F)
def Jj:Code→Nat
 | .region id _ _ => id
 | .seq a _ => Jj a
 | .block _ c => Jj c
 | .loop c => Jj c
 | .scope c => Jj c
 | .cond _ a _ => Jj a
 | _ => 0
def Sh.imm:Sh→Bool
 | .own _ _ => Xe
 | _ => Xb
def ZrU (s:Sh) (x:SC):Option VE:=
 match s,x with
 | .int k, .int k' e => if k' = k then Xa (.i e) else Xc
 | .bool, .bool e => Xa (.b e)
 | .str, .str e => Xa (.s e)
 | .slice s, .slice _ s' l => if s' = s then Xa (.l l) else (match l with | .nil => Xa (.l .nil) | _ => Xc)
 | .cel, .cel p => Xa (.l p)
 | .own _ e, .slice Xb _ l => (match l with | .nil => if e < 2097152 then Xa (.l .nil) else Xc | _ => Xc)
 | _, _ => Xc
def ZiE:List Sh→List SC→Option (List VE)
 | [], [] => Xa []
 | s :: ss, c :: cs => match ZrU s c, ZiE ss cs with | some v, Xa vs => Xa (v :: vs) | _, _ => Xc
 | _, _ => Xc
def LE.isNil:LE→Bool
 | .nil => Xb
 | _ => Xe
def Zdh (P:Program) (s:Sh) (x:Bool) (e:TypeId) (l:LE):Option VE:=
 match s with
 | .own x' e' => if e = e' ∧ (x = x' ∨ (l.isNil = Xb ∧ e < 2097152)) then Xa (.l l) else Xc
 | .slice s => if P.cellsOf e = s ∧ (x = Xe ∨ l.isNil = Xb) then Xa (.l l) else Xc
 | _ => Xc
def ZwC (P:Program) (s:Sh) (x:BC):Option VE:=
 match x with
 | .c x => ZrU s x
 | .own x e l => Zdh P s x e l
 | .gone => Xc
def ZcC (P:Program):List Sh→List BC→Option (List VE)
 | [], [] => Xa []
 | s :: ss, c :: cs => match ZwC P s c, ZcC P ss cs with | some v, Xa vs => Xa (v :: vs) | _, _ => Xc
 | _, _ => Xc
def ZkA (P:Program) (h:HP) (x:SV):Option (List VE):=
 match h,x with
 | .c s, .c x => (ZrU s x).map fun v => [v]
 | .c s, .own x e l => (Zdh P s x e l).map fun v => [v]
 | .agg l, .agg cs => if l.all Sh.imm = Xb then ZiE l cs else Xc
 | .box l, .box cs => ZcC P l cs
 | .mref d k, .mref d' k' => if d' = d ∧ k' = k then Xa [] else Xc
 | .ptr d o, .ptr d' o' => if d' = d ∧ o' = o then Xa [] else Xc
 | .dead, _ => Xa []
 | .gbox l, .gbox cs => ZcC P l cs
 | .sto, .store l => Xa [.l l]
 | .clo g ds, .clo g' ds' => if g' = g ∧ ds' = ds then Xa [] else Xc
 | .eref d k s o, .eref d' k' i s' o' => if d' = d ∧ k' = k ∧ s' = s ∧ o' = o then Xa [.i i] else Xc
 | _, _ => Xc
def ZmV (h:HP) (n:Nat):SV:=
 match h with
 | .c (.own x e) => .own x e (.var n)
 | .c s => .c (Yw s n)
 | .agg l => .agg (ZH l n)
 | .box l => .box (KT l n)
 | .mref d k => .mref d k
 | .ptr d o => .ptr d o
 | .dead => .dead
 | .gbox l => .gbox (KT l n)
 | .clo g ds => .clo g ds
 | .eref d k s o => .eref d k (.var n) s o
 | .sto => .store (.var n)
def HP.n:HP→Nat
 | .c _ => 1
 | .agg l => l.length
 | .box l => l.length
 | .mref _ _ => 0
 | .ptr _ _ => 0
 | .dead => 0
 | .gbox l => l.length
 | .clo _ _ => 0
 | .eref _ _ _ _ => 1
 | .sto => 1
def Kz (P:Program) (g:Nat→SV):List (Nat×HP)→Option (List VE)
 | [] => Xa []
 | p :: r => match ZkA P p.2 (g p.1), Kz P g r with | some v, Xa vs => Xa (v ++ vs) | _, _ => Xc
def Z8:List (Nat×HP)→Nat→Ups×Nat
 | [], n => ([], n)
 | p :: r, n => let x := Z8 r (n + p.2.n); ((p.1, ZmV p.2 n) :: x.1, x.2)
def HP.isBox:HP→Bool
 | .box _ => Xb
 | _ => Xe
def HP.isPl (h:HP) (k:Nat):Bool:=
 match h,k with
 | .c (.own Xb _), 0 => Xb
 | .box l, k + 1 => match l[k]? with | some (.own Xb _) => Xb | _ => Xe
 | .gbox l, k + 1 => match l[k]? with | some (.own Xb _) => Xb | _ => Xe
 | _, _ => Xe
def HP.isG:HP→Bool
 | .gbox _ => Xb
 | .sto => Xb
 | _ => Xe
def HP.place (E:Env) (d:Nat) (h:HP):Bool:=
 match h with
 | .gbox _ => decide (E.nt ≤ d) && decide (d < E.top)
 | .sto => decide (E.nt ≤ d) && decide (d < E.top) && decide (E.st = Xa d)
 | _ => decide (d < E.nt)
def Zie (E:Env) (hs:List (Nat×HP)):Bool:=
 ZfB (hs.map (·.1))&&hs.all (fun p=>p.2.place E p.1&&match p.2 with | .ptr d _=>hs.any (fun q=>decide (q.1=d)&&q.2.isBox) | .mref d k=>hs.any (fun q=>decide (q.1=d)&&q.2.isPl k) | .eref d k _ _=>hs.any (fun q=>decide (q.1=d)&&q.2.isPl k) | .clo _ ds=>ds.all (fun d=>hs.any fun q=>decide (q.1=d)&&(q.2.isBox||q.2.isG)) | _=>Xb)&&
  E.pins.all (fun d=>hs.any fun q=>decide (q.1=d)&&q.2.isBox)&&(Ua E.ng).all fun j=>hs.any fun q=>decide (q.1=E.nt+j)&&q.2.isG
def Zjr (P:Program) (g:Nat→SV):List (Nat×HP)→Nat
 | [] => 3000
 | p :: r => match ZkA P p.2 (g p.1) with | some _ => Zjr P g r | none => 2000 + p.1
def ZjS (ops:Array Oper):Option (Nat×Nat×Nat×TypeId×Bool):=
 match ops.toList with
 | [o, p] =>
  if o.guard.isNone=Xb∧p.guard.isNone=Xb then
   match o.op,o.dst,p.op,p.dst with
   | .move (.tmp x), Xa a, .binOp .eql T (.tmp b) (.const (.slice Xc 0 0)) _, Xa d => if b = a then Xa (x, a, d, T, Xe) else Xc
   | .move (.tmp x), Xa a, .binOp .neq T (.tmp b) (.const (.slice Xc 0 0)) _, Xa d => if b = a then Xa (x, a, d, T, Xb) else Xc
   | _, _, _, _ => Xc
  else Xc
 | _ => Xc
def Zoh (P:Program) (g:Nat→SV) (x:SV):Option LE:=
 match x with
 | .c (.slice _ _ l) => Xa l
 | .c (.cel p) => Xa (ptE .plen p)
 | .own _ e l => if Zm P e = Xe then Xa l else Xc
 | .mref d q => (match Jy (g d) q with | some (e, l) => if Zm P e = Xe then Xa l else Xc | none => Xc)
 | _ => Xc
def Zr4 (x:SV) (t:STree):STree:=match x with | .c (.cel p)=>.req (.cons (ptE .pisl p)) t | _=>t
def Zeb (ops:Array Oper):Option (Nat×Nat×Nat×Nat×Nat×TypeId):=
 match ops.toList with
 | [o, p, q, r] =>
  if o.guard.isNone=Xb∧p.guard.isNone=Xb∧q.guard.isNone=Xb∧r.guard.isNone=Xb then
   match o.op,o.dst,p.op,p.dst with
   | .move (.tmp x), Xa a, .move (.tmp i), Xa b =>
    match q.op,q.dst,r.op,r.dst with
    | .slice T (.tmp a') (Xa (.tmp b')) Xc Xc, Xa c, .call cl, Xc =>
     match cl.callee,cl.args.toList,cl.argTypes.toList with
     | .builtin .clear, [.tmp c'], [T'] => if a' = a ∧ b' = b ∧ c' = c ∧ T' = T then Xa (x, i, a, b, c, T) else Xc
     | _, _, _ => Xc
    | _, _, _, _ => Xc
   | _, _, _, _ => Xc
  else Xc
 | _ => Xc
def Zgu (E:Env) (s:Tr) (x i a b c:Nat):Bool:=
 decide (x < E.nt∧a < E.nt∧b < E.nt∧c < E.nt∧x≠a∧x≠b∧x≠c∧i≠a∧a≠b∧a≠c∧b≠c)&&(Zbf (gE E s a) .dead&&(Zbf (gE E s b) .dead&&Zbf (gE E s c) .dead))
def Zxb (ops:Array Oper):List Nat:=ops.toList.filterMap (·.dst)
def Zjf (ops:Array Oper):List Nat:=ops.toList.flatMap Vv
def ZtH (E:Env) (ops:Array Oper):List Nat:=
 ops.toList.zipIdx.flatMap fun p=>match p.1.op with
  | .move (.tmp t) => if ZwI E ops p.2 = Xb then [t] else []
  | .assign (.tmp t) => [t]
  | .store _ _ (.tmp t) => [t]
  | .call c => (match c.callee with | .builtin .append => (match c.args.toList with | .tmp t :: _ => [t] | _ => []) | .value _ => c.args.toList.filterMap ZY | _ => [])
  | _ => []
def ZvF (ops:Array Oper):List Nat:=
 if ops.toList.any (fun o=>match o.op with | .store _ _ (.tmp v)=>ops.toList.any (fun p=>decide (p.dst=Xa v)&&match p.op with | .buildSlice _ _ _=>Xb | _=>Xe) | _=>Xe)=Xb then
  ops.toList.filterMap fun o=>match o.op with | .move (.tmp t)=>Xa t | _=>Xc
 else []
def Zq5 (E:Env) (ops:Array Oper) (s:Tr):List Nat:=
 (ops.toList.flatMap fun o=>match o.op with
  | .call c => (match c.callee with | .value _ => c.args.toList.filterMap ZY | _ => [])
  | _ => []).filterMap fun a => (ops.toList.find? fun p => decide (p.dst = Xa a)).bind fun p => match p.op with
   | .move (.tmp t) => (match gE E s t with | .ptr d _ => Xa d | .box _ => Xa t | _ => Xc)
   | _ => Xc
def ZpS (E:Env) (ops:Array Oper) (s:Tr):Nat→Nat→Option Nat
 | 0, _ => Xc
 | k + 1, a =>
  match (ops.toList.find? fun (p:Oper)=>decide (p.dst=Xa a)).map Oper.op with
  | some (.move (.tmp t)) => ZpS E ops s k t
  | some (.nilCheck (.tmp t)) => ZpS E ops s k t
  | some (.fieldAddr _ (.tmp t) _) => ZpS E ops s k t
  | some _ => Xc
  | none => match gE E s a with | .ptr d _ => Xa d | .box _ => Xa a | _ => Xc
def Zse (E:Env) (ops:Array Oper) (s:Tr):List (Nat×Nat):=
 ops.toList.flatMap fun o=>match o.op with
  | .call c => (match c.callee with
   | .value (.func f) => (match E.rfs f with
    | [] => []
    | rf => c.args.toList.zipIdx.filterMap fun p => if rf.contains p.2 = Xb then (ZY p.1).bind fun t => (match (ops.toList.find? fun (p : Oper) => decide (p.dst = Xa t)).map Oper.op with | some (.load _ (.tmp a)) => (ZpS E ops s 8 a).map fun d => (d, t) | _ => Xc) else Xc)
   | _ => [])
  | _ => []
def ZrA (E:Env) (ops:Array Oper) (s:Tr):List Nat:=
 ops.toList.zipIdx.filterMap fun p=>match p.1.op with
  | .load _ (.tmp a) => if (ZwI E ops p.2 && ops.toList.any fun o => match o.op, p.1.dst with | .call c, Xa t => (match c.callee, c.args.toList with | .builtin .append, .tmp t' :: _ => t' == t | _, _ => Xe) | _, _ => Xe) = Xb then ZpS E ops s 8 a else Xc
  | _ => Xc
def Zi2 (P:Program) (E:Env) (ops:Array Oper) (s:Tr):Nat→Nat→Option (Nat×Nat)
 | 0, _ => Xc
 | k + 1, a =>
  match (ops.toList.find? fun (p:Oper)=>decide (p.dst=Xa a)).map Oper.op with
  | some (.move (.tmp t)) => Zi2 P E ops s k t
  | some (.nilCheck (.tmp t)) => Zi2 P E ops s k t
  | some (.fieldAddr T (.tmp t) f) => (match Zi2 P E ops s k t, Yg P T f with | some (d, o), Xa off => Xa (d, o + off) | _, _ => Xc)
  | some _ => Xc
  | none => match gE E s a with | .ptr d o => Xa (d, o) | .box _ => Xa (a, 0) | _ => Xc
def Zxl (P:Program) (E:Env) (ops:Array Oper) (s:Tr):List (Nat×Nat):=
 match ops.toList.zipIdx.flatMap fun p=>(match p.1.op with
  | .call c => (match c.callee with | .value _ => (c.args.toList.filterMap ZY).filterMap fun a => (Zi2 P E ops s 8 a).map fun q => (p.2, q.1) | _ => [])
  | _ => []) with
 | [] => ops.toList.zipIdx.flatMap fun p => match p.1.op with
  | .load _ (.tmp a) => (match Zi2 P E ops s 8 a with
   | some (d, off) => (match gE E s d with
    | .box cs => (match cs[off]? with
     | some (.own Xb e _) => if (Zn P e && ops.toList.zipIdx.any fun q => decide (q.2 ≠ p.2) && match q.1.op with | .load _ (.tmp b) => decide (Zi2 P E ops s 8 b = Xa (d, off)) | _ => Xe) = Xb then [(d, off)] else []
     | _ => [])
    | _ => [])
   | none => [])
  | _ => []
 | cs => ops.toList.zipIdx.flatMap fun p => match p.1.op with
  | .load T (.tmp a) => (match Zi2 P E ops s 8 a with
   | some (d, off) => if (ZrK (gE E s d) && cs.any fun c => c.2 == d && (!((CheckFast.beforeF ops).getD c.1 0).testBit p.2 && !((CheckFast.beforeF ops).getD p.2 0).testBit c.1)) = Xb then (Ua (P.cellsOf T)).map fun j => (d, off + j) else []
   | none => [])
  | _ => []
def ZpK (P:Program) (E:Env) (draw:Bool) (ops:Array Oper) (s:Tr):Odr:=
 match draw with
 | false => .text
 | true => .any (fun d => ((ZtH E ops).contains d || (ZrK (gE E s d) && ((ZvF ops).contains d || (Zq5 E ops s).contains d || (ZrA E ops s).contains d))) && (Jz (gE E s) d E.top).isEmpty && !(Zse E ops s).any fun p => p.1 == d)
  (fun d=>if (Jz (gE E s) d E.top).isEmpty=Xb then ((Zse E ops s).find? fun p=>p.1 == d).map (·.2) else Xc)
  ((Zxl P E ops s).filter fun p=>ZrK (gE E s p.1))
def Zcg (E:Env) (used:List Nat) (s:Tr) (d:Nat):Tr:=
 match gE E s d with
 | .own Xb _ _ => if d < E.nt ∧ used.contains d = Xe then JV ((d, .dead) :: Jz (gE E s) d E.top) s else s
 | _ => s
def WA (P:Program) (E:Env) (s:Tr) (p:Nat×Nat):Tr:=s
def ZuF (P:Program) (E:Env) (id:Nat) (ops:Array Oper) (s:Tr):Tr:=
 (Zxb ops).foldl (Zcg E (Zjf ops)) ((E.fz id).foldl (WA P E) s)
def isSto (o:Oper):Option (TypeId×Nat×Nat):=match o.op,o.dst,o.guard with | .store T (.tmp a) (.tmp x),Xc,Xc=>Xa (T,a,x) | _,_,_=>Xc
def Zva (P:Program) (E:Env) (ops:Array Oper) (draw:Bool):Option (Tr→Nat→(Tr→Nat→STree)→STree):=Xc
def ev (P:Program) (E:Env):Nat→Code→Tr→Nat→(Tr→Nat→STree)→(Nat→Tr→Nat→STree)→(Tr→Nat→STree)→STree
  | _, .skip, s, n, kn, _, _ => kn s n
  | _, .label _, s, n, kn, _, _ => kn s n
  | lv, .seq a b, s, n, kn, kx, kr => ev P E lv a s n (fun s' n' => ev P E lv b s' n' kn kx kr) kx kr
  | lv, .cond c a b, s, n, kn, kx, kr =>
    match ZY c with
    | some t =>
      match gE E s t with
      | .c (.bool (.lit v)) => if v = Xb then ev P E lv a s n kn kx kr else ev P E lv b s n kn kx kr
      | .c (.bool v) => .branch v (ev P E lv a (s.set depth t (.c (.bool (.lit Xb)))) n kn kx kr) (ev P E lv b (s.set depth t (.c (.bool (.lit Xe)))) n kn kx kr)
      | _ => .stuck 110
    | none => .stuck 111
  | lv, .block id c, s, n, kn, kx, kr => ev P E lv c s n kn (fun i s' n' => if i = id then kn s' n' else kx i s' n') kr
  | lv, .scope c, s, n, kn, kx, kr => ev P E lv c s n kn kx kr
  | lv, .loop c, s, _, _, kx, kr =>
    let hs:=E.keep (Jj c)
    if Zie E hs=Xb then
      match Kz P (gE E s) hs with
      | some init => .loop lv init 0 (ev P E (lv + 1) c (JV (Z8 hs 0).1 (.leaf .dead)) (Z8 hs 0).2 (fun s' _ => match Kz P (gE E s') hs with | some vals => .again lv vals | none => .stuck (Zjr P (gE E s') hs)) kx kr)
      | none => .stuck (Zjr P (gE E s) hs)
    else .stuck 113
  | _, .exit id, s, n, _, kx, _ => kx id s n
  | _, .ret, s, n, _, _, kr => kr s n
  | _, .region id ops draw, s0, n, kn, _, _ =>
    let s:=ZuF P E id ops s0
    match (match E.ex.contains (1000000+id) with | true=>Zva P E ops draw | false=>Xc) with
    | some f => f s n kn
    | none =>
    match draw,ZjS ops with
    | false, Xa (x, a, d, T, neg) =>
      match P.underlying T,Zoh P (gE E s) (gE E s x) with
      | some (.slice _), Xa l =>
        if a < E.nt∧d < E.nt∧Zbf (gE E s a) .dead=Xb∧Zbf (gE E s d) .dead=Xb∧a≠d∧x≠a then
          Zr4 (gE E s x)<|.nilq l n (kn ((s.set depth a .dead).set depth d (.c (.bool (if neg=Xb then .not (.var n) else .var n)))) (n+1))
        else .stuck 116
      | _, _ => .stuck 117
    | _, _ =>
     match draw,Zeb ops with
     | false, Xa (x, i, a, b, c, T) =>
      match P.underlying T,gE E s x,gE E s i with
      | some (.slice e), .own Xb e' l, .c (.int .i64 ie) =>
        match P.info? e with
        | some inf =>
          match inf.zero with
          | some z =>
            match Zfp z.cells.toList,Kx P 8 e with
            | some zc, Xa sh =>
              match Kr sh zc with
              | some zc' =>
                if e'=e∧z.cells.size=inf.size∧(0 < inf.size∧Zm P e=Xe)∧Zgu E s x i a b c=Xb then
                  .req (.le (.lit 0) ie) (.req (.le ie (.len l)) (kn ((((s.set depth x (.own Xb e (.app (.take l ie) (.rep (.bin .sub .i64 (.len l) ie) (Zb5 zc'))))).set depth a .dead).set depth b .dead).set depth c .dead) n))
                else .stuck 180
              | none => .stuck 181
            | _, _ => .stuck 182
          | none => .stuck 183
        | none => .stuck 184
      | some (.slice e), .c (.cel p), .c (.int .i64 ie) =>
        match P.info? e,Zgj E (gE E s),ZaR P E e with
        | some inf, Xa (d, l), Xa sh =>
          match inf.zero with
          | some z =>
            match Zfp z.cells.toList with
            | some zc =>
              match ZaG sh zc with
              | some zc' =>
                if z.cells.size=inf.size∧0 < inf.size∧Zgu E s x i a b c=Xb then
                  .req (.cons (stE (.vchk e inf.size) l (.lit 0) p .nil)) (.req (.le (.lit 0) ie) (.req (.le ie (.len (ptE .plen p))) (kn ((((s.set depth d (.store (stE (.clr inf.size) l ie p (Zb5 zc')))).set depth a .dead).set depth b .dead).set depth c .dead) n)))
                else .stuck 341
              | none => .stuck 342
            | none => .stuck 343
          | none => .stuck 344
        | _, _, _ => .stuck 345
      | _, _, _ => .stuck 185
     | _, _ =>
      Zq6 P E (ZpK P E draw ops s) (ZwI E ops) (fun d=>ZrK (gE E s d)) ops ops.toList 0 s n [] fun s' n' logs=>if draw=Xb then (if Zi7 ops logs=Xb then kn s' n' else .stuck 114) else kn s' n'
  | _, _, _, _, _, _, _ => .stuck 115
def Vu (P:Program) (g:Nat→SV):ResultVar→Option TC
 | .tmp t =>
  match g t with
  | .c x => Xa (.c x)
  | .agg cs => Xa (.agg cs)
  | .own x e xs => Xa (.own x e xs)
  | _ => Xc
 | .cell t T =>
  match Ji P T,g t with
  | some Xb, .box cs => if cs.length = P.cellsOf T ∧ WS cs = Xb ∧ Zaw cs = Xb then Xa (.agg (cs.map (ZfK P))) else Xc
  | some Xe, .box [.own x e xs] => Xa (.own x e xs)
  | some Xe, .box [.c x] => Xa (.c x)
  | _, _ => Xc
def Wm (P:Program) (g:Nat→SV):List ResultVar→Option (List TC)
 | [] => Xa []
 | r :: rs =>
  match Vu P g r,Wm P g rs with
  | some x, Xa xs => Xa (x :: xs)
  | _, _ => Xc
def Zpv (P:Program) (g:Nat→SV) (r:ResultVar):Option (List BC):=
 match r with
 | .cell t T =>
  match Ji P T,g t with
  | some Xb, .box cs => if cs.length = P.cellsOf T ∧ WS cs = Xe ∧ Zaw cs = Xb then Xa cs else Xc
  | _, _ => Xc
 | _ => Xc
def Zre (P:Program) (g:Nat→SV) (rs:List ResultVar):Option SV:=
 match rs with
 | [r] => (match Zpv P g r with | some cs => Xa (.aggo cs) | none => (Vu P g r).map ZvC)
 | rs => (Wm P g rs).map .tuple
def Yy (g:Nat→SV):List SV→Nat→List SV
 | [], _ => []
 | .box _ :: aZ, i => g i :: Yy g aZ (i + 1)
 | .gbox _ :: aZ, i => g i :: Yy g aZ (i + 1)
 | .store _ :: aZ, i => g i :: Yy g aZ (i + 1)
 | _ :: aZ, i => .dead :: Yy g aZ (i + 1)
def WL:List SV→Nat→Ups
 | [], _ => []
 | a :: aZ, i => (i, a) :: WL aZ (i + 1)
def Jq (E:Env):List SV→Nat→Bool
 | [], _ => Xb
 | .box _ :: aZ, i => decide (i < E.nt) && E.pins.contains i && Jq E aZ (i + 1)
 | .gbox _ :: aZ, i => decide (E.nt ≤ i) && Jq E aZ (i + 1)
 | .store _ :: aZ, i => decide (E.nt ≤ i) && decide (E.st = Xa i) && Jq E aZ (i + 1)
 | .dead :: aZ, i => decide (i < E.nt) && Jq E aZ (i + 1)
 | .c _ :: aZ, i => decide (i < E.nt) && Jq E aZ (i + 1)
 | .agg _ :: aZ, i => decide (i < E.nt) && Jq E aZ (i + 1)
 | .own _ _ _ :: aZ, i => decide (i < E.nt) && Jq E aZ (i + 1)
 | .clo _ _ :: aZ, i => decide (i < E.nt) && Jq E aZ (i + 1)
 | .mref _ _ :: aZ, i => decide (i < E.nt) && Jq E aZ (i + 1)
 | _, _ => Xe
def Z7:ResultVar→Nat
 | .tmp t => t
 | .cell t _ => t
def Zcf (args:List SV) (rs:List ResultVar):Bool:=
 ZfB (rs.map Z7)&&rs.all fun r=>match args[Z7 r]? with | some (.box _)=>Xe | some (.gbox _)=>Xe | some (.store _)=>Xe | _=>Xb
def ZwE:Option SV→Bool
 | some (.box _) => Xe
 | some (.gbox _) => Xe
 | some (.store _) => Xe
 | _ => Xb
def ZoX (g:Nat→SV) (args:List SV) (rs:List ResultVar):Option (Nat×List BC):=
 match rs with
 | [.tmp t] =>
  match g t with
  | .ptr d 0 =>
   match g d with
   | .box cs => if ZwE args[d]? = Xb then Xa (d, cs) else Xc
   | _ => Xc
  | _ => Xc
 | _ => Xc
def WM:List SV→List SV→Bool
 | .store _ :: aZ, .store _ :: os => WM aZ os
 | .store _ :: _, _ => Xe
 | _ :: aZ, _ :: os => WM aZ os
 | _, _ => Xb
def Zwh (P:Program) (E:Env) (fn:Func) (args:List SV) (n:Nat):STree:=
 match fn.body with
 | some c =>
  let fin:Tr→Nat→STree:=fun s0 _=>
   let s:=ZuF P E 1000000 #[] s0
   match ZoX (gE E s) args fn.results.toList with
   | some (_, cs) => if (Yy (gE E s) args 0).all (ZeL P) = Xb ∧ WM args (Yy (gE E s) args 0) = Xb then .ret (.box cs) (Yy (gE E s) args 0) else .stuck 125
   | none =>
   match Zre P (gE E s) fn.results.toList with
   | some r => if Zcf args fn.results.toList = Xb ∧ (Yy (gE E s) args 0).all (ZeL P) = Xb ∧ WM args (Yy (gE E s) args 0) = Xb then .ret r (Yy (gE E s) args 0) else .stuck 124
   | none => .stuck 120
  if E.top≤1024∧fn.ntmps=E.nt∧args.length≤E.top∧(E.ng=0∨args.length=E.top)∧Jq E args 0=Xb∧args.all (ZeL P)=Xb then ev P E 0 c (JV (WL args 0) (.leaf .dead)) n fin (fun _ _ _=>.stuck 121) fin else .stuck 123
 | none => .stuck 122
inductive V where
 | i (z : Int)
 | b (b : Bool)
 | s (s : ByteArray)
 | l (xs : List (List AV))
def V.int:V→Int
 | .i z => z
 | _ => 0
def V.bool:V→Bool
 | .b z => z
 | _ => Xe
def V.str:V→ByteArray
 | .s z => z
 | _ => ⟨#[]⟩
def V.list:V→List (List AV)
 | .l xs => xs
 | _ => []
def ZrL:List AV→Option UInt8
 | [.val (.int .u8 n)] => Xa (UInt8.ofNat n.toNat)
 | _ => Xc
def Zg4 (xs:List (List AV)):ByteArray:=⟨(xs.map fun e=>(ZrL e).getD 0).toArray⟩
def iop (op:IOp) (k:IntKind) (a b:Int):Int:=
 match op with
 | .add => k.wrap (a + b)
 | .sub => k.wrap (a - b)
 | .mul => k.wrap (a * b)
 | .quo => k.wrap (a.tdiv b)
 | .rem => a.tmod b
 | .and => k.wrap (BitVec.ofInt k.bits a &&& BitVec.ofInt k.bits b).toNat
 | .or => k.wrap (BitVec.ofInt k.bits a ||| BitVec.ofInt k.bits b).toNat
 | .xor => k.wrap (BitVec.ofInt k.bits a ^^^ BitVec.ofInt k.bits b).toNat
 | .andNot => k.wrap (BitVec.ofInt k.bits a &&& ~~~BitVec.ofInt k.bits b).toNat
 | .shl => k.wrap (a * 2 ^ (min b.toNat k.bits))
 | .shr => a.fdiv (2 ^ (min b.toNat k.bits))
 | .min => min a b
 | .max => max a b
def cop (op:COp) (a b:Int):Bool:=
 match op with
 | .eql => a == b
 | .neq => a != b
 | .lss => decide (a < b)
 | .leq => decide (a ≤ b)
 | .gtr => decide (a > b)
 | .geq => decide (a ≥ b)
def setCells (x:List AV) (o:Nat) (e:List AV):List AV:=x.take o++e++x.drop (o+e.length)
def Jf (l:List (List AV)) (i o:Nat) (e:List AV):List (List AV):=l.modify i fun x=>setCells x o e
def ZrT (l a:List (List AV)):List (List AV):=a.take l.length++l.drop a.length
def Zw5 (c:AV):AV:=match c with | .nest s Xb _ ys=>.slice Xe s ys | c=>c
def ZxV (l:List (List AV)):List (List AV):=l.map fun r=>r.map Zw5
def Zxp (c:AV):AV:=match c with | .nest s Xb e ys=>.nest s Xe e ys | c=>c
def ZxY (l:List (List AV)):List (List AV):=l.map fun r=>r.map Zxp
def Zxz (c:AV):AV:=match c with | .nest s Xb e _=>.nest s Xe e [] | c=>c
def ZxQ (l:List (List AV)) (i:Nat):List (List AV):=l.modify i fun r=>r.map Zxz
def ZwQ (l:List (List AV)):List (List AV):=((l.filterMap Zl).mergeSort fun a b=>decide (a≤b)).map fun z=>[.val (.int .i64 z)]
def ZuN (r:List AV):Bool:=match r with | [.val (.int .i64 _)]=>Xb | _=>Xe
def Zxx (l:List (List AV)) (i o:Nat):List (List AV):=match (l[i]?).bind (·[o]?) with | some (.nest _ _ _ ys)=>ys | some (.slice _ _ ys)=>ys | _=>[]
def Zxj (l:List (List AV)) (i o:Nat) (c:AV):List (List AV):=Jf l i o [c]
def Zxw (l:List (List AV)) (i o n:Nat):List (List AV):=l.modify i fun r=>r.take o++((r.drop o).take n).map Zw5++r.drop (o+n)
def Zx3 (l:List (List AV)) (o n:Nat):List (List AV):=l.map fun r=>(r.drop o).take n
def Zxv (l:List (List AV)) (k:Int) (z:List AV):List (List AV):=match (Ze2 l).find? (fun r=>Zl r == Xa k) with | some (_::v::_)=>[[v,.val (.bool Xb)]] | _=>[z++[.val (.bool Xe)]]
def Zx1 (l:List (List AV)) (k:Int) (c:List AV):List (List AV):=[[.slice Xe 2 (Yz (Ze2 l) k (c.headD .dead))]]
def YE (size:Nat) (cs:List AV) (n:Nat):List (List AV):=(Ua n).map fun j=>(cs.drop (j*size)).take size
def ZP (c:AV):Bool:=match c with | .oref _ _=>Xb | .osl _ _ _=>Xb | .omap _=>Xb | .fnc _ _=>Xb | _=>Xe
def Zd (l:List (List AV)):AV:=match l with | (c::_)::_=>(match ZP c with | true=>c | false=>.oref 0 0) | _=>.oref 0 0
theorem JD (l:List (List AV)):ZP (Zd l)=Xb:=by
 unfold Zd;split
 ·split
  ·rename_i h;exact h
  ·rfl
 ·rfl
theorem J8 {x:AV} (h:ZP x=Xb):x.isCell=Xb:=by cases x<;>first | rfl | cases h
theorem YB {x:AV} (h:ZP x=Xb):(∃ j o,x = .oref j o)∨(∃ e j n,x = .osl e j n)∨(∃ j,x = .omap j)∨∃ g js,x = .fnc g js:=by
 cases x<;>first | exact .inl ⟨_,_,rfl⟩ | exact .inr (.inl ⟨_,_,_,rfl⟩) | exact .inr (.inr (.inl ⟨_,rfl⟩)) | exact .inr (.inr (.inr ⟨_,_,rfl⟩)) | cases h
theorem Yx (l:List (List AV)):(∃ j o,Zd l = .oref j o)∨(∃ e j n,Zd l = .osl e j n)∨(∃ j,Zd l = .omap j)∨∃ g js,Zd l = .fnc g js:=YB (JD l)
theorem K2 {Q:AV→Prop} (l:List (List AV)) (h1:∀ j o,Q (.oref j o)) (h2:∀ e j n,Q (.osl e j n)) (h3:∀ j,Q (.omap j)) (h4:∀ g js,Q (.fnc g js)):Q (Zd l):=by
 rcases Yx l with ⟨_,_,h⟩ | ⟨_,_,_,h⟩ | ⟨_,h⟩ | ⟨_,_,h⟩ <;> rw [h]
 ·exact h1 _ _
 ·exact h2 _ _ _
 ·exact h3 _
 ·exact h4 _ _
theorem Jb {l:List (List AV)} {y:AV} (h:Zd l=y) (hy:ZP y=Xe):False:=by
 have:=JD l;rw [h,hy] at this
 cases this
theorem Zdy {c:AV} (h:ZP c=Xb):Zd [[c]]=c:=by simp only [Zd,h]
def okL (b:Bool):List (List AV):=match b with | true=>[[]] | false=>[]
def ZU (row:List AV):Bool:=match row with | c::_=>c.isCell | []=>Xe
def pJ (c:AV):Nat:=match c with | .oref j _=>j | .osl _ j _=>j | .omap j=>j | _=>0
def pE (c:AV):TypeId:=match c with | .osl e _ _=>e | _=>0
def pO (c:AV):Nat:=match c with | .oref _ o=>o | .osl _ _ n=>n | _=>0
def ZG (l:List (List AV)) (j:Nat):List AV:=match j with | 0=>[] | j+1=>(l[j]?).getD []
def Zol (n:Nat) (l:List (List AV)) (c:AV):List (List AV):=match c with
 | .oref (j + 1) o => (match ZU (ZG l (j + 1)) && decide (o + n ≤ (ZG l (j + 1)).length) with | true => [((ZG l (j + 1)).drop o).take n] | false => [])
 | _ => []
def Zv8 (l:List (List AV)) (c:AV) (vc:List AV):List (List AV):=match c with | .oref (j+1) o=>Jf l j o vc | _=>l
def Zex (e:TypeId) (s:Nat) (l:List (List AV)) (c:AV):Bool:=match c with
 | .osl _ 0 0 => Xb
 | .osl e' (j + 1) n => decide (e' = e) && ZU (ZG l (j + 1)) && decide (n * s ≤ (ZG l (j + 1)).length)
 | _ => Xe
def Zbs (s:Nat) (l:List (List AV)) (c:AV):List (List AV):=YE s (ZG l (pJ c)) (pO c)
def Zhp (s:Nat) (l:List (List AV)) (c:AV) (ys:List (List AV)):List (List AV):=match c with
 | .osl _ (j + 1) n => l.set j [] ++ [(ZG l (j + 1)).take (n * s) ++ ys.flatten]
 | _ => l ++ [ys.flatten]
def ZjV (l:List (List AV)) (c:AV) (f:List AV→List AV):List (List AV):=match c with | .osl _ (j+1) n=>l.modify j fun row=>f (row.take n)++row.drop n | _=>l
def KH (cs:List AV):List AV:=(((cs.filterMap fun c=>Zl [c]).mergeSort fun a b=>decide (a≤b))).map fun z=>.val (.int .i64 z)
def Zso (s:Nat) (l:List (List AV)) (c:AV) (i:Nat) (z:List AV):List (List AV):=match c with
 | .osl _ (j + 1) n => l.modify j fun row => row.take (i * s) ++ (Xg (n - i) z).flatten ++ row.drop (n * s)
 | _ => l
def JR (row:List AV):Bool:=match row with | [.dead,.slice Xe 2 _]=>Xb | _=>Xe
def ZD (kvs:List (List AV)):List AV:=[.dead,.slice Xe 2 kvs]
def J5 (row:List AV):List (List AV):=match row with | [.dead,.slice Xe 2 kvs]=>kvs | _=>[]
def Zvh (l:List (List AV)) (c:AV):Bool:=match c with | .omap (j+1)=>JR (ZG l (j+1)) | _=>Xe
def ZsG (l:List (List AV)) (c:AV):List (List AV):=match c with | .omap j=>J5 (ZG l j) | _=>[]
def Zn3 (l:List (List AV)) (c:AV) (k:Int):List (List AV):=match (ZsG l c).find? (fun r=>Zl r == Xa k) with | some (_::v::_)=>[[v]] | _=>[[.oref 0 0]]
def Zma (l:List (List AV)) (c:AV) (f:List (List AV)→List (List AV)):List (List AV):=match c with | .omap (j+1)=>l.set j (ZD (f (J5 (ZG l (j+1))))) | _=>l
def Zbj (kvs:List (List AV)) (k:Int):List (List AV):=kvs.filter fun r=>!(Zl r == Xa k)
def Zay (kvs:List (List AV)):List (List AV):=((kvs.filterMap Zl).mergeSort fun a b=>decide (a≤b)).map fun z=>[.val (.int .i64 z)]
def Zwv (c:AV) (i:Nat):Nat:=match c with | .fnc _ js=>(js[i]?).getD 0 | _=>0
def Zsn (vc:List AV):List (List AV):=match vc with | .slice _ _ ys::_=>ys | _=>[]
def Zc (o:Zt9) (l:List (List AV)) (i:Int) (v:List (List AV)) (c:List AV):List (List AV):=
 match o with
 | .pnil k => [[match k with | 0 => .oref 0 0 | 1 => .osl 0 0 0 | 2 => .omap 0 | _ => .fnc 0 []]]
 | .padd o => [[.oref (pJ (Zd l)) (pO (Zd l) + o)]]
 | .pidx s => [[.oref (pJ (Zd l)) (i.toNat * s)]]
 | .pcut => [[.osl (pE (Zd l)) (pJ (Zd l)) i.toNat]]
 | .plen => (match Zd l with | .osl _ _ n => Xg n [] | _ => [])
 | .pnn => okL (match Zd l with | .oref (_ + 1) _ => Xb | _ => Xe)
 | .pisr => okL (match Zd l with | .oref 0 0 => Xb | .oref (_ + 1) _ => Xb | _ => Xe)
 | .pisl => okL (match Zd l with | .osl _ _ _ => Xb | _ => Xe)
 | .pis0 => okL (match Zd l with | .oref _ 0 => Xb | _ => Xe)
 | .pisf g m => okL (match Zd l with | .fnc g' js => decide (g' = g ∧ js.length = m) | _ => Xe)
 | .pnew => [[.oref (l.length + 1) 0]]
 | .parr e => [[.osl e (l.length + 1) i.toNat]]
 | .pmap => [[.omap (l.length + 1)]]
 | .papp e => [[.osl e (l.length + 1) (pO (Zd v) + (Zsn c).length)]]
 | .pfnc g => [[.fnc g (c.map pJ)]]
 | .pcap i => [[.oref (Zwv (Zd l) i) 0]]
 | .get n => Zol n l (Zd v)
 | .set => Zv8 l (Zd v) c
 | .view s => Zbs s l (Zd v)
 | .vchk e s => okL (Zex e s l (Zd v))
 | .push => l ++ [v.flatten]
 | .app s => Zhp s l (Zd v) (Zsn c)
 | .sort => ZjV l (Zd v) KH
 | .clr s => Zso s l (Zd v) i.toNat c
 | .newm => l ++ [ZD []]
 | .mchk => okL (Zvh l (Zd v))
 | .mrows => ZsG l (Zd v)
 | .mget => Zn3 l (Zd v) i
 | .mput => Zma l (Zd v) fun kvs => Yz kvs i (c.headD .dead)
 | .mdel => Zma l (Zd v) fun kvs => Zbj kvs i
 | .mkeys => Zay (ZsG l (Zd v))
def lop (op:LOp) (l:List (List AV)) (i:Int) (v:List (List AV)) (c:List AV):List (List AV):=
 match op with
 | .dget o => Zxx l i.toNat o
 | .dput o s h e => Zxj l i.toNat o (.nest s h e v)
 | .dfz1 o n => Zxw l i.toNat o n
 | .dfrz => ZxV l
 | .dclr => ZxY l
 | .dcol o n => Zx3 l o n
 | .mrow => Zxv l i c
 | .mput => Zx1 l i c
 | .dlft => ZxQ l i.toNat
 | .dsort => ZwQ l
 | .sel j => if i = (j : Int) then v else l
 | .st o => Zc o l i v c
def qop (op:QOp) (l:List (List AV)) (i:Int):Bool:=
 match op with
 | .nst o s e => (match (l[i.toNat]?).bind (·[o]?) with | some (.nest s' Xb e' _) => s' == s && e' == e | _ => Xe)
 | .mapv => (match l with | [[.slice Xe 2 _]] => Xb | _ => Xe)
 | .ints => l.all ZuN && decide (l.length ≤ 1048576)
mutual
def IE.den (ρ:Nat→V):IE→Int
 | .var n => (ρ n).int
 | .lit z => z
 | .bin op k a b => iop op k (a.den ρ) (b.den ρ)
 | .conv k a => k.wrap (a.den ρ)
 | .len l => ((l.den ρ).length : Int)
 | .slen s => ((s.den ρ).size : Int)
 | .getc s i => (((s.den ρ).data.toList.getD (i.den ρ).toNat 0).toNat : Int)
def BE.den (ρ:Nat→V):BE→Bool
 | .var n => (ρ n).bool
 | .lit b => b
 | .cmp op a b => cop op (a.den ρ) (b.den ρ)
 | .beq a b => a.den ρ == b.den ρ
 | .seq a b => (a.den ρ).toList == (b.den ρ).toList
 | .and a b => a.den ρ && b.den ρ
 | .not a => !a.den ρ
def SE.den (ρ:Nat→V):SE→ByteArray
 | .var n => (ρ n).str
 | .lit s => s
 | .bytes l => Zg4 (l.den ρ)
def LE.den (ρ:Nat→V):LE→List (List AV)
 | .var n => (ρ n).list
 | .nil => []
 | .snoc l e => l.den ρ ++ [e.den ρ]
 | .app a b => a.den ρ ++ b.den ρ
 | .take l i => (l.den ρ).take (i.den ρ).toNat
 | .drop l i => (l.den ρ).drop (i.den ρ).toNat
 | .rep i e => Xg (i.den ρ).toNat (e.den ρ)
 | .setAt l i o e => Jf (l.den ρ) (i.den ρ).toNat o (e.den ρ)
 | .spl l a => ZrT (l.den ρ) (a.den ρ)
 | .mget l k => Zvr (l.den ρ) (k.den ρ)
 | .mhole l k => ZsA (l.den ρ) (k.den ρ)
 | .mset l k s v => Zvd (l.den ρ) (k.den ρ) s (v.den ρ)
 | .mkeys l => Zs8 (l.den ρ)
 | .fn op l i v c => lop op (l.den ρ) (i.den ρ) (v.den ρ) (c.den ρ)
def CE.den (ρ:Nat→V):CE→List AV
 | .nil => []
 | .cons c r => c.den ρ :: r.den ρ
def SC.den (ρ:Nat→V):SC→AV
 | .int k e => .val (.int k (e.den ρ))
 | .bool b => .val (.bool (b.den ρ))
 | .str s => .val (.string (s.den ρ))
 | .slice f s l => .slice f s (l.den ρ)
 | .cel p => Zd (p.den ρ)
end
def TC.den (ρ:Nat→V):TC→AV
 | .c x => x.den ρ
 | .agg cs => .agg (cs.map (SC.den ρ))
 | .own x e l => .own x e (l.den ρ)
 | .gone => .gone
def BC.den (ρ:Nat→V):BC→AV
 | .c x => x.den ρ
 | .own x e l => .own x e (l.den ρ)
 | .gone => .gone
def SV.den (ρ:Nat→V):SV→AV
 | .dead => .dead
 | .gone => .gone
 | .c x => x.den ρ
 | .agg cs => .agg (cs.map (SC.den ρ))
 | .tuple vs => .tuple (vs.map (TC.den ρ))
 | .aggo cs => .aggo (cs.map (BC.den ρ))
 | .own x e l => .own x e (l.den ρ)
 | .box cs => .box (cs.map (BC.den ρ))
 | .ptr d off => .ptr d off
 | .eptr cs => .eptr (cs.map (SC.den ρ))
 | .mref d k => .mref d k
 | .eref d k i s o => .eref d k ((i.den ρ).toNat * s + o)
 | .gbox cs => .gbox (cs.map (BC.den ρ))
 | .clo g ds => .clo g ds
 | .vptr d off _ i => .ptr d (off + (i.den ρ).toNat)
 | .store l => .store (l.den ρ)
def ZF:Nat:=1099511627776
def PE.den (ρ:Nat→V):PE→Prop
 | .le a b => a.den ρ ≤ b.den ρ
 | .lt a b => a.den ρ < b.den ρ
 | .make a k => 0 ≤ a.den ρ ∧ (a.den ρ).toNat * (k + 1) ≤ ZF
 | .ne0 a => a.den ρ ≠ 0
 | .bytes l => ∀ e ∈ l.den ρ, ∃ n : Int, 0 ≤ n ∧ n ≤ 255 ∧ e = [.val (.int .u8 n)]
 | .room a b k => ((a.den ρ).length + (b.den ρ).length) * (k + 1) ≤ ZF
 | .cons l => l.den ρ ≠ []
 | .mq q l k => Zw3 q (l.den ρ) (k.den ρ) = Xb
 | .lq op l i => qop op (l.den ρ) (i.den ρ) = Xb
def Zv7:List AV→Bool
 | [.val (.int .u8 n)] => decide (0 ≤ n ∧ n ≤ 255)
 | _ => Xe
theorem ZkV (e:List AV):Zv7 e=Xb↔∃ n:Int,0≤n∧n≤255∧e = [.val (.int .u8 n)]:=by
 constructor
 ·intro h;unfold Zv7 at h;split at h
  ·rename_i n;have:=of_decide_eq_true h;exact ⟨n,this.1,this.2,rfl⟩
  ·cases h
 ·rintro ⟨n,h1,h2,rfl⟩;simp only [Zv7,h1,h2,and_self,decide_true]
def Zlk (l:List (List AV)):Decidable (∀ e∈l,∃ n:Int,0≤n∧n≤255∧e = [.val (.int .u8 n)]):=
 if h:l.all Zv7=Xb then isTrue (fun e he=>(ZkV e).1 (XD.1 h e he)) else isFalse (fun hh=>h (XD.2 fun e he=>(ZkV e).2 (hh e he)))
def ZpW:(l:List (List AV))→Decidable (l≠[])
 | [] => isFalse (fun h => h rfl)
 | _ :: _ => isTrue (fun h => by cases h)
def PE.decDen (ρ:Nat→V):(p:PE)→Decidable (p.den ρ)
 | .le a b => inferInstanceAs (Decidable (a.den ρ ≤ b.den ρ))
 | .lt a b => inferInstanceAs (Decidable (a.den ρ < b.den ρ))
 | .make a k => inferInstanceAs (Decidable (0 ≤ a.den ρ ∧ (a.den ρ).toNat * (k + 1) ≤ ZF))
 | .ne0 a => inferInstanceAs (Decidable (a.den ρ ≠ 0))
 | .bytes l => Zlk (l.den ρ)
 | .room a b k => inferInstanceAs (Decidable (((a.den ρ).length + (b.den ρ).length) * (k + 1) ≤ ZF))
 | .cons l => ZpW (l.den ρ)
 | .mq q l k => inferInstanceAs (Decidable (Zw3 q (l.den ρ) (k.den ρ) = Xb))
 | .lq op l i => inferInstanceAs (Decidable (qop op (l.den ρ) (i.den ρ) = Xb))
def VE.den (ρ:Nat→V):VE→V
 | .i e => .i (e.den ρ)
 | .b e => .b (e.den ρ)
 | .s e => .s (e.den ρ)
 | .l e => .l (e.den ρ)
def Zhx:Nat→V:=fun _=>.i 0
def bind (ρ:Nat→V) (n:Nat) (vs:List V):Nat→V:=fun m=>if m < n then ρ m else (vs[m-n]?).getD (ρ m)
mutual
def IE.bd (n:Nat):IE→Prop
 | .var m => m < n
 | .lit _ => True
 | .bin _ _ a b => a.bd n ∧ b.bd n
 | .conv _ a => a.bd n
 | .len l => l.bd n
 | .slen s => s.bd n
 | .getc s i => s.bd n ∧ i.bd n
def BE.bd (n:Nat):BE→Prop
 | .var m => m < n
 | .lit _ => True
 | .cmp _ a b => a.bd n ∧ b.bd n
 | .beq a b => a.bd n ∧ b.bd n
 | .seq a b => a.bd n ∧ b.bd n
 | .and a b => a.bd n ∧ b.bd n
 | .not a => a.bd n
def SE.bd (n:Nat):SE→Prop
 | .var m => m < n
 | .lit _ => True
 | .bytes l => l.bd n
def LE.bd (n:Nat):LE→Prop
 | .var m => m < n
 | .nil => True
 | .snoc l e => l.bd n ∧ e.bd n
 | .app a b => a.bd n ∧ b.bd n
 | .take l i => l.bd n ∧ i.bd n
 | .drop l i => l.bd n ∧ i.bd n
 | .rep i e => i.bd n ∧ e.bd n
 | .setAt l i _ e => l.bd n ∧ i.bd n ∧ e.bd n
 | .spl l a => l.bd n ∧ a.bd n
 | .mget l k => l.bd n ∧ k.bd n
 | .mhole l k => l.bd n ∧ k.bd n
 | .mset l k _ v => l.bd n ∧ k.bd n ∧ v.bd n
 | .mkeys l => l.bd n
 | .fn _ l i v c => l.bd n ∧ i.bd n ∧ v.bd n ∧ c.bd n
def CE.bd (n:Nat):CE→Prop
 | .nil => True
 | .cons c r => c.bd n ∧ r.bd n
def SC.bd (n:Nat):SC→Prop
 | .int _ e => e.bd n
 | .bool b => b.bd n
 | .str s => s.bd n
 | .slice _ _ l => l.bd n
 | .cel p => p.bd n
end
def TC.bd (n:Nat):TC→Prop
 | .c x => x.bd n
 | .agg cs => ∀ c ∈ cs, c.bd n
 | .own _ _ l => l.bd n
 | .gone => True
def BC.bd (n:Nat):BC→Prop
 | .c x => x.bd n
 | .own _ _ l => l.bd n
 | .gone => True
def SV.bd (n:Nat):SV→Prop
 | .dead => True
 | .gone => True
 | .c x => x.bd n
 | .agg cs => ∀ c ∈ cs, c.bd n
 | .tuple vs => ∀ c ∈ vs, c.bd n
 | .aggo cs => ∀ c ∈ cs, c.bd n
 | .own _ _ l => l.bd n
 | .box cs => ∀ c ∈ cs, c.bd n
 | .ptr _ _ => True
 | .eptr cs => ∀ c ∈ cs, c.bd n
 | .mref _ _ => True
 | .eref _ _ i _ _ => i.bd n
 | .gbox cs => ∀ c ∈ cs, c.bd n
 | .clo _ _ => True
 | .vptr _ _ _ i => i.bd n
 | .store l => l.bd n
def VE.bd (n:Nat):VE→Prop
 | .i e => e.bd n
 | .b e => e.bd n
 | .s e => e.bd n
 | .l e => e.bd n
mutual
theorem IE.den_congr {n:Nat} {ρ ρ':Nat→V} (hρ:∀ m,m < n→ρ' m=ρ m):∀ (x:IE),x.bd n→x.den ρ'=x.den ρ
 | .var m, h => by simp only [IE.den, hρ m h]
 | .lit _, _ => rfl
 | .bin _ _ a b, h => by simp only [IE.den, IE.den_congr hρ a h.1, IE.den_congr hρ b h.2]
 | .conv _ a, h => by simp only [IE.den, IE.den_congr hρ a h]
 | .len l, h => by simp only [IE.den, LE.den_congr hρ l h]
 | .slen s, h => by simp only [IE.den, SE.den_congr hρ s h]
 | .getc s i, h => by simp only [IE.den, SE.den_congr hρ s h.1, IE.den_congr hρ i h.2]
theorem BE.den_congr {n:Nat} {ρ ρ':Nat→V} (hρ:∀ m,m < n→ρ' m=ρ m):∀ (x:BE),x.bd n→x.den ρ'=x.den ρ
 | .var m, h => by simp only [BE.den, hρ m h]
 | .lit _, _ => rfl
 | .cmp _ a b, h => by simp only [BE.den, IE.den_congr hρ a h.1, IE.den_congr hρ b h.2]
 | .beq a b, h => by simp only [BE.den, BE.den_congr hρ a h.1, BE.den_congr hρ b h.2]
 | .seq a b, h => by simp only [BE.den, SE.den_congr hρ a h.1, SE.den_congr hρ b h.2]
 | .and a b, h => by simp only [BE.den, BE.den_congr hρ a h.1, BE.den_congr hρ b h.2]
 | .not a, h => by simp only [BE.den, BE.den_congr hρ a h]
theorem SE.den_congr {n:Nat} {ρ ρ':Nat→V} (hρ:∀ m,m < n→ρ' m=ρ m):∀ (x:SE),x.bd n→x.den ρ'=x.den ρ
 | .var m, h => by simp only [SE.den, hρ m h]
 | .lit _, _ => rfl
 | .bytes l, h => by simp only [SE.den, LE.den_congr hρ l h]
theorem LE.den_congr {n:Nat} {ρ ρ':Nat→V} (hρ:∀ m,m < n→ρ' m=ρ m):∀ (x:LE),x.bd n→x.den ρ'=x.den ρ
 | .var m, h => by simp only [LE.den, hρ m h]
 | .nil, _ => rfl
 | .snoc l e, h => by simp only [LE.den, LE.den_congr hρ l h.1, CE.den_congr hρ e h.2]
 | .app a b, h => by simp only [LE.den, LE.den_congr hρ a h.1, LE.den_congr hρ b h.2]
 | .take l i, h => by simp only [LE.den, LE.den_congr hρ l h.1, IE.den_congr hρ i h.2]
 | .drop l i, h => by simp only [LE.den, LE.den_congr hρ l h.1, IE.den_congr hρ i h.2]
 | .rep i e, h => by simp only [LE.den, IE.den_congr hρ i h.1, CE.den_congr hρ e h.2]
 | .setAt l i o e, h => by simp only [LE.den, LE.den_congr hρ l h.1, IE.den_congr hρ i h.2.1, CE.den_congr hρ e h.2.2]
 | .spl l a, h => by simp only [LE.den, LE.den_congr hρ l h.1, LE.den_congr hρ a h.2]
 | .mget l k, h => by simp only [LE.den, LE.den_congr hρ l h.1, IE.den_congr hρ k h.2]
 | .mhole l k, h => by simp only [LE.den, LE.den_congr hρ l h.1, IE.den_congr hρ k h.2]
 | .mset l k _ v, h => by simp only [LE.den, LE.den_congr hρ l h.1, IE.den_congr hρ k h.2.1, LE.den_congr hρ v h.2.2]
 | .mkeys l, h => by simp only [LE.den, LE.den_congr hρ l h]
 | .fn op l i v c, h => by simp only [LE.den, LE.den_congr hρ l h.1, IE.den_congr hρ i h.2.1, LE.den_congr hρ v h.2.2.1, CE.den_congr hρ c h.2.2.2]
theorem CE.den_congr {n:Nat} {ρ ρ':Nat→V} (hρ:∀ m,m < n→ρ' m=ρ m):∀ (x:CE),x.bd n→x.den ρ'=x.den ρ
 | .nil, _ => rfl
 | .cons c r, h => by simp only [CE.den, SC.den_congr hρ c h.1, CE.den_congr hρ r h.2]
theorem SC.den_congr {n:Nat} {ρ ρ':Nat→V} (hρ:∀ m,m < n→ρ' m=ρ m):∀ (x:SC),x.bd n→x.den ρ'=x.den ρ
 | .int _ e, h => by simp only [SC.den, IE.den_congr hρ e h]
 | .bool b, h => by simp only [SC.den, BE.den_congr hρ b h]
 | .str s, h => by simp only [SC.den, SE.den_congr hρ s h]
 | .slice _ _ l, h => by simp only [SC.den, LE.den_congr hρ l h]
 | .cel p, h => by simp only [SC.den, LE.den_congr hρ p h]
end
theorem JM {α:Type} {n:Nat} {ρ ρ':Nat→V} {f:(Nat→V)→α→AV} {bd:Nat→α→Prop} (h:∀ x,bd n x→f ρ' x=f ρ x) :
  ∀ (l:List α),(∀ x∈l,bd n x)→l.map (f ρ')=l.map (f ρ)
 | [], _ => rfl
 | x :: xs, hx => by
  simp only [Xh];rw [h x (hx x (by simp)),JM h xs fun y hy=>hx y (by simp [hy])]
theorem TC.den_congr {n:Nat} {ρ ρ':Nat→V} (hρ:∀ m,m < n→ρ' m=ρ m):∀ (x:TC),x.bd n→x.den ρ'=x.den ρ
 | .c x, h => SC.den_congr hρ x h
 | .agg cs, h => by simp only [TC.den, JM (f := SC.den) (bd := SC.bd) (SC.den_congr hρ) cs h]
 | .own _ _ l, h => by simp only [TC.den, LE.den_congr hρ l h]
 | .gone, _ => rfl
theorem BC.den_congr {n:Nat} {ρ ρ':Nat→V} (hρ:∀ m,m < n→ρ' m=ρ m):∀ (x:BC),x.bd n→x.den ρ'=x.den ρ
 | .c x, h => SC.den_congr hρ x h
 | .own _ _ l, h => by simp only [BC.den, LE.den_congr hρ l h]
 | .gone, _ => rfl
theorem SV.den_congr {n:Nat} {ρ ρ':Nat→V} (hρ:∀ m,m < n→ρ' m=ρ m):∀ (x:SV),x.bd n→x.den ρ'=x.den ρ
 | .dead, _ => rfl
 | .gone, _ => rfl
 | .c x, h => SC.den_congr hρ x h
 | .agg cs, h => by simp only [SV.den, JM (f := SC.den) (bd := SC.bd) (SC.den_congr hρ) cs h]
 | .tuple vs, h => by simp only [SV.den, JM (f := TC.den) (bd := TC.bd) (TC.den_congr hρ) vs h]
 | .aggo cs, h => by simp only [SV.den, JM (f := BC.den) (bd := BC.bd) (BC.den_congr hρ) cs h]
 | .own _ _ l, h => by simp only [SV.den, LE.den_congr hρ l h]
 | .box cs, h => by simp only [SV.den, JM (f := BC.den) (bd := BC.bd) (BC.den_congr hρ) cs h]
 | .ptr _ _, _ => rfl
 | .eptr cs, h => by simp only [SV.den, JM (f := SC.den) (bd := SC.bd) (SC.den_congr hρ) cs h]
 | .mref _ _, _ => rfl
 | .eref _ _ i _ _, h => by simp only [SV.den, IE.den_congr hρ i h]
 | .gbox cs, h => by simp only [SV.den, JM (f := BC.den) (bd := BC.bd) (BC.den_congr hρ) cs h]
 | .clo _ _, _ => rfl
 | .vptr _ _ _ i, h => by simp only [SV.den, IE.den_congr hρ i h]
 | .store l, h => by simp only [SV.den, LE.den_congr hρ l h]
theorem VE.den_congr {n:Nat} {ρ ρ':Nat→V} (hρ:∀ m,m < n→ρ' m=ρ m):∀ (x:VE),x.bd n→x.den ρ'=x.den ρ
 | .i e, h => by simp only [VE.den, IE.den_congr hρ e h]
 | .b e, h => by simp only [VE.den, BE.den_congr hρ e h]
 | .s e, h => by simp only [VE.den, SE.den_congr hρ e h]
 | .l e, h => by simp only [VE.den, LE.den_congr hρ e h]
theorem Zeq (ρ:Nat→V) (n:Nat) (vs:List V):∀ m,m < n→bind ρ n vs m=ρ m:=fun m h=>by simp [bind,h]
mutual
theorem IE.bd_mono {n n':Nat} (hn:n≤n'):∀ (x:IE),x.bd n→x.bd n'
 | .var _, h => XS h hn
 | .lit _, _ => trivial
 | .bin _ _ a b, h => ⟨IE.bd_mono hn a h.1, IE.bd_mono hn b h.2⟩
 | .conv _ a, h => IE.bd_mono hn a h
 | .len l, h => LE.bd_mono hn l h
 | .slen s, h => SE.bd_mono hn s h
 | .getc s i, h => ⟨SE.bd_mono hn s h.1, IE.bd_mono hn i h.2⟩
theorem BE.bd_mono {n n':Nat} (hn:n≤n'):∀ (x:BE),x.bd n→x.bd n'
 | .var _, h => XS h hn
 | .lit _, _ => trivial
 | .cmp _ a b, h => ⟨IE.bd_mono hn a h.1, IE.bd_mono hn b h.2⟩
 | .beq a b, h => ⟨BE.bd_mono hn a h.1, BE.bd_mono hn b h.2⟩
 | .seq a b, h => ⟨SE.bd_mono hn a h.1, SE.bd_mono hn b h.2⟩
 | .and a b, h => ⟨BE.bd_mono hn a h.1, BE.bd_mono hn b h.2⟩
 | .not a, h => BE.bd_mono hn a h
theorem SE.bd_mono {n n':Nat} (hn:n≤n'):∀ (x:SE),x.bd n→x.bd n'
 | .var _, h => XS h hn
 | .lit _, _ => trivial
 | .bytes l, h => LE.bd_mono hn l h
theorem LE.bd_mono {n n':Nat} (hn:n≤n'):∀ (x:LE),x.bd n→x.bd n'
 | .var _, h => XS h hn
 | .nil, _ => trivial
 | .snoc l e, h => ⟨LE.bd_mono hn l h.1, CE.bd_mono hn e h.2⟩
 | .app a b, h => ⟨LE.bd_mono hn a h.1, LE.bd_mono hn b h.2⟩
 | .take l i, h => ⟨LE.bd_mono hn l h.1, IE.bd_mono hn i h.2⟩
 | .drop l i, h => ⟨LE.bd_mono hn l h.1, IE.bd_mono hn i h.2⟩
 | .rep i e, h => ⟨IE.bd_mono hn i h.1, CE.bd_mono hn e h.2⟩
 | .setAt l i _ e, h => ⟨LE.bd_mono hn l h.1, IE.bd_mono hn i h.2.1, CE.bd_mono hn e h.2.2⟩
 | .spl l a, h => ⟨LE.bd_mono hn l h.1, LE.bd_mono hn a h.2⟩
 | .mget l k, h => ⟨LE.bd_mono hn l h.1, IE.bd_mono hn k h.2⟩
 | .mhole l k, h => ⟨LE.bd_mono hn l h.1, IE.bd_mono hn k h.2⟩
 | .mset l k _ v, h => ⟨LE.bd_mono hn l h.1, IE.bd_mono hn k h.2.1, LE.bd_mono hn v h.2.2⟩
 | .mkeys l, h => LE.bd_mono hn l h
 | .fn _ l i v c, h => ⟨LE.bd_mono hn l h.1, IE.bd_mono hn i h.2.1, LE.bd_mono hn v h.2.2.1, CE.bd_mono hn c h.2.2.2⟩
theorem CE.bd_mono {n n':Nat} (hn:n≤n'):∀ (x:CE),x.bd n→x.bd n'
 | .nil, _ => trivial
 | .cons c r, h => ⟨SC.bd_mono hn c h.1, CE.bd_mono hn r h.2⟩
theorem SC.bd_mono {n n':Nat} (hn:n≤n'):∀ (x:SC),x.bd n→x.bd n'
 | .int _ e, h => IE.bd_mono hn e h
 | .bool b, h => BE.bd_mono hn b h
 | .str s, h => SE.bd_mono hn s h
 | .slice _ _ l, h => LE.bd_mono hn l h
 | .cel p, h => LE.bd_mono hn p h
end
theorem TC.bd_mono {n n':Nat} (hn:n≤n'):∀ (x:TC),x.bd n→x.bd n'
 | .c x, h => SC.bd_mono hn x h
 | .agg _, h => fun c hc => SC.bd_mono hn c (h c hc)
 | .own _ _ l, h => LE.bd_mono hn l h
 | .gone, _ => trivial
theorem BC.bd_mono {n n':Nat} (hn:n≤n'):∀ (x:BC),x.bd n→x.bd n'
 | .c x, h => SC.bd_mono hn x h
 | .own _ _ l, h => LE.bd_mono hn l h
 | .gone, _ => trivial
theorem SV.bd_mono {n n':Nat} (hn:n≤n'):∀ (x:SV),x.bd n→x.bd n'
 | .dead, _ => trivial
 | .gone, _ => trivial
 | .c x, h => SC.bd_mono hn x h
 | .agg _, h => fun c hc => SC.bd_mono hn c (h c hc)
 | .tuple _, h => fun c hc => TC.bd_mono hn c (h c hc)
 | .aggo _, h => fun c hc => BC.bd_mono hn c (h c hc)
 | .own _ _ l, h => LE.bd_mono hn l h
 | .box _, h => fun c hc => BC.bd_mono hn c (h c hc)
 | .ptr _ _, _ => trivial
 | .eptr _, h => fun c hc => SC.bd_mono hn c (h c hc)
 | .mref _ _, _ => trivial
 | .eref _ _ i _ _, h => IE.bd_mono hn i h
 | .gbox _, h => fun c hc => BC.bd_mono hn c (h c hc)
 | .clo _ _, _ => trivial
 | .vptr _ _ _ i, h => IE.bd_mono hn i h
 | .store l, h => LE.bd_mono hn l h
def upd (σ:Nat→AV) (d:Nat) (x:AV):Nat→AV:=fun i=>if i=d then x else σ i
def JG:(Nat→AV)→List (Nat×AV)→(Nat→AV)
 | σ, [] => σ
 | σ, (d, x) :: us => JG (upd σ d x) us
theorem ZI (σ:Nat→AV) (d:Nat) (x:AV):upd σ d x d=x:=by simp [upd]
theorem Ze (σ:Nat→AV) {d i:Nat} (x:AV) (h:i≠d):upd σ d x i=σ i:=by simp [upd,h]
def ZcA (X:Nat→Nat→Option Nat) (d:Nat) (r:Nat→Option Nat):Nat→Nat→Option Nat:=fun i=>if i=d then r else X i
theorem Zv (X:Nat→Nat→Option Nat) (d:Nat) (r:Nat→Option Nat):ZcA X d r d=r:=by simp [ZcA]
theorem Zh (X:Nat→Nat→Option Nat) {d i:Nat} (r:Nat→Option Nat) (h:i≠d):ZcA X d r i=X i:=by simp [ZcA,h]
def YQ:Nat→Option Nat:=fun _=>Xc
def Vs (ob:Option Nat):Nat→Option Nat:=fun k=>if k=0 then ob else Xc
structure Jh (w:World) (lim:Lm) (w':World) (lim':Lm) (S:Nat→Prop):Prop where
 os:w'.os=w.os
 tape:w'.tape=w.tape
 output:w'.output=w.output
 size:w.heap.size≤w'.heap.size
 frz:∀ a:Addr,a.block < w.heap.size→w'.frozen? a=w.frozen? a
 blk:∀ b,b < w.heap.size→¬ S b→Zha w lim w' lim' b
 ext:Ext w lim w' lim'
 t:lim'.t=lim.t:=by rfl
structure K7 (w:World) (lim:Lm) (w':World) (lim':Lm) (S:Nat→Prop) (st:Bool):Prop where
 os:w'.os=w.os
 tape:w'.tape=w.tape
 output:w'.output=w.output
 size:w.heap.size≤w'.heap.size
 frz:∀ a:Addr,a.block < w.heap.size→w'.frozen? a=w.frozen? a
 blk:∀ b,b < w.heap.size→¬ S b→Zha w lim w' lim' b
 ext:Ext w lim w' lim'
 t:st=Xe→lim'.t=lim.t
theorem Jh.c {w:World} {lim:Lm} {w':World} {lim':Lm} {S:Nat→Prop} (h:Jh w lim w' lim' S) (st:Bool):K7 w lim w' lim' S st:=⟨h.os,h.tape,h.output,h.size,h.frz,h.blk,h.ext,fun _=>h.t⟩
theorem K7.w {w:World} {lim:Lm} {w':World} {lim':Lm} {S:Nat→Prop} (h:K7 w lim w' lim' S Xe):Jh w lim w' lim' S:=⟨h.os,h.tape,h.output,h.size,h.frz,h.blk,h.ext,h.t rfl⟩
theorem Jh.refl (w:World) (lim:Lm) (S:Nat→Prop):Jh w lim w lim S:=
 ⟨rfl,rfl,rfl,Xy _,fun _ _=>rfl,fun _ _ _=>⟨rfl,rfl⟩,Ext.refl w lim,rfl⟩
theorem Jh.drew {w:World} {lim:Lm} {w':World} {lim':Lm} {S:Nat→Prop} (h:Jh w lim w' lim' S):Jh w lim w'.drew lim' S:=
 ⟨h.os,h.tape,h.output,h.size,h.frz,h.blk,⟨h.ext.old,h.ext.t⟩,h.t⟩
theorem Frm.step {c:Ctx} {w:World} {lim:Lm} {w':World} {lim':Lm} {S:Nat→Prop} (h:Frm c w lim) (hw:Jh w lim w' lim' S)
  (hS:∀ b,S b→c.A b∨c.w0.heap.size≤b):Frm c w' lim' where
 os:=hw.os.trans h.os
 tape:=hw.tape.trans h.tape
 output:=hw.output.trans h.output
 size:=XI h.size hw.size
 frz a ha:=(hw.frz a (XS ha h.size)).trans (h.frz a ha)
 blk b hb hA:=by
  have hns:¬ S b:=fun hs=>(hS b hs).elim hA (fun h=>by omega);have h1:=h.blk b hb hA;have h2:=hw.blk b (by have:=h.size;omega) hns;exact ⟨h2.1.trans h1.1,h2.2.trans h1.2⟩
 ext:=h.ext.trans hw.ext h.size
 t hc:=hw.t.trans (h.t hc)
theorem Zpr {x:AV} (h:x.isB=Xb):(∃ cs,x = .box cs)∨x.isG=Xb:=by
 cases x<;>simp [AV.isB] at h
 ·exact .inl ⟨_,rfl⟩
 ·exact .inr rfl
 ·exact .inr rfl
theorem Zb7 {x:AV} (h:x.isG=Xb):x.isB=Xb:=by
 cases x<;>simp [AV.isG] at h
 ·rfl
 ·rfl
theorem Zly {X X':Nat→Nat→Option Nat} {σ σ':Nat→AV} {d b:Nat} (hp:∀ d' cs,σ d' = .box cs→(∃ cs',σ' d' = .box cs')∧X' d' 0=X d' 0)
  (hg:∀ d',(σ d').isG=Xb→(σ' d').isG=Xb∧X' d' 0=X d' 0) (h:X d 0=Xa b∧(σ d).isB=Xb):X' d 0=Xa b∧(σ' d).isB=Xb:=by
 rcases Zpr h.2 with ⟨cs,hcs⟩ | hcs
 ·obtain ⟨⟨cs',h1⟩,h2⟩:=hp d cs hcs;exact ⟨h2.trans h.1,by rw [h1];rfl⟩
 ·obtain ⟨h1,h2⟩:=hg d hcs;exact ⟨h2.trans h.1,Zb7 h1⟩
theorem Frm.cstep {c:Ctx} {w:World} {lim:Lm} {w':World} {lim':Lm} {S:Nat→Prop} {st:Bool} (h:Frm c w lim) (hw:K7 w lim w' lim' S st)
  (hS:∀ b,S b→c.A b∨c.w0.heap.size≤b) (hst:c.st=Xe→st=Xe):Frm c w' lim' where
 os:=hw.os.trans h.os
 tape:=hw.tape.trans h.tape
 output:=hw.output.trans h.output
 size:=XI h.size hw.size
 frz a ha:=(hw.frz a (XS ha h.size)).trans (h.frz a ha)
 blk b hb hA:=by
  have hns:¬ S b:=fun hs=>(hS b hs).elim hA (fun h=>by omega);have h1:=h.blk b hb hA;have h2:=hw.blk b (by have:=h.size;omega) hns;exact ⟨h2.1.trans h1.1,h2.2.trans h1.2⟩
 ext:=h.ext.trans hw.ext h.size
 t hc:=(hw.t (hst hc)).trans (h.t hc)
theorem ZS.chg {P:Program} {w:World} {lim:Lm} {X X':Nat→Nat→Option Nat} {σ σ':Nat→AV} {d:Nat} {x:AV} {v:Value}
  (h:ZS P w lim X σ d x v) (hX:X' d=X d) (hp:∀ d' cs,σ d' = .box cs→(∃ cs',σ' d' = .box cs')∧X' d' 0=X d' 0)
  (hg:∀ d',(σ d').isG=Xb→(σ' d').isG=Xb∧X' d' 0=X d' 0) (hr:∀ d' k,JB x d' k→Vm (σ d') (σ' d') k∧X' d' k=X d' k):ZS P w lim X' σ' d x v:=by
 cases x with
 | gbox cs =>
  obtain ⟨v',h⟩:=h;exact ⟨v',by rw [hX];exact h⟩
 | clo g ds =>
  obtain ⟨bs,h1,h2,h3⟩:=h;exact ⟨bs,h1,h2,fun i d' b hd hb=>Zly hp hg (h3 i d' b hd hb)⟩
 | ptr d' off =>
  obtain ⟨b,cs,h1,h2,h3⟩:=h;obtain ⟨⟨cs',h4⟩,h5⟩:=hp d' cs h2;exact ⟨b,cs',h5.trans h1,h4,h3⟩
 | mref d' k =>
  obtain ⟨e,xs,h1,h2⟩:=h;obtain ⟨h3,h4⟩:=hr d' k (.inl rfl);obtain ⟨xs',h5,h6⟩:=h3 e xs h1;exact ⟨e,xs',h5,by rw [h4,h6];exact h2⟩
 | eref d' k o =>
  obtain ⟨b,e,xs,h1,h2,h3⟩:=h;obtain ⟨h4,h5⟩:=hr d' k (.inr ⟨o,rfl⟩);obtain ⟨xs',h6,_⟩:=h4 e xs h1;exact ⟨b,e,xs',h6,h5.trans h2,h3⟩
 | own x e xs => show Jv P w lim x e xs v (X' d 0); rw [hX]; exact h
 | box cs => show Z0 P w lim (X' d) cs v; rw [hX]; exact h
 | aggo cs =>
  obtain ⟨us,h1,h2,h4,h3⟩:=h;refine ⟨us,h1,h2,h4,?_⟩;rw [hX];exact h3
 | tuple vs => 
  obtain ⟨us,h1,h2,h3⟩:=h;refine ⟨us,h1,h2,?_⟩;rw [hX];exact h3
 | dead => trivial
 | gone => trivial
 | eptr cs => exact h
 | val v => exact h
 | agg cs => exact h
 | slice f s xs => exact h
 | nest s o e ys => exact h
 | oref j off => exact h
 | osl e j n => exact h
 | omap j => exact h
 | fnc g js => exact h
 | store rows => show JC P w lim (X' d) rows; rw [hX]; exact h
def Zph (σ:Nat→AV) (d:Nat):Prop:=∀ i k,i≠d→¬ JB (σ i) d k
theorem WK {c:Ctx} {σ:Nat→AV} {tm:Array Value} {w:World} {lim:Lm} {X:Nat→Nat→Option Nat} (h:Sim c σ tm w lim X) {i d k:Nat} (hi:JB (σ i) d k):∃ p,Zy (σ d) k=Xa p:=by
 have hr:=h.rel i;rcases hi with e | ⟨o,e⟩
 ·rw [e] at hr;obtain ⟨t,xs,h1,_⟩:=hr;exact ⟨_,h1⟩
 ·rw [e] at hr;obtain ⟨_,t,xs,h1,_⟩:=hr;exact ⟨_,h1⟩
theorem Sim.noRefs {c:Ctx} {σ:Nat→AV} {tm:Array Value} {w:World} {lim:Lm} {X:Nat→Nat→Option Nat} (h:Sim c σ tm w lim X) {d:Nat} (hd:∀ k,Zy (σ d) k=Xc):Zph σ d:=by
 intro i k _ hi;obtain ⟨p,hp⟩:=WK h hi;rw [hd k] at hp
 cases hp
def V3 (y:AV):Prop:=(∀ cs,y≠.box cs)∧(∀ e xs,y≠.own Xb e xs)∧∀ cs,y≠.gbox cs
theorem V3.none {y:AV} (h:V3 y) (k:Nat):Zy y k=Xc:=by
 unfold Zy;split
 ·exact (h.2.1 _ _ rfl).elim
 ·exact (h.1 _ rfl).elim
 ·exact (h.2.2 _ rfl).elim
 ·rfl
theorem Sim.world {c:Ctx} {σ:Nat→AV} {tm:Array Value} {w:World} {lim:Lm} {X:Nat→Nat→Option Nat} (h:Sim c σ tm w lim X)
  {w':World} {lim':Lm} {S:Nat→Prop} (hw:Jh w lim w' lim' S) (hS:∀ b,S b→(c.A b∨c.w0.heap.size≤b)∧∀ i j,X i j≠Xa b):Sim c σ tm w' lim' X where
 rel d:=(h.rel d).mono hw.ext (fun k b hb=>hw.blk b (h.ours d k b hb).1 fun hs=>(hS b hs).2 d k hb) (fun d' k b _ hb=>.of (hw.blk b (h.ours d' k b hb).1 fun hs=>(hS b hs).2 d' k hb).1) fun _ _=>hw.t
 size:=h.size
 out:=h.out
 ghost:=h.ghost
 dist:=h.dist
 ours d k b hb:=⟨XS (h.ours d k b hb).1 hw.size,(h.ours d k b hb).2⟩
 frm:=h.frm.step hw fun b hs=>(hS b hs).1
 pin:=h.pin
 mp d e xs hd:=(h.mp d e xs hd).mono hw.ext fun k b hb=>hw.blk b (h.ours d k b hb).1 fun hs=>(hS b hs).2 d k hb
 gpin:=h.gpin
 ntN:=h.ntN
 far:=h.far
 nst d k e xs b h1 h2 h3:=(h.nst d k e xs b h1 h2 h3).mono hw.ext (hw.blk b (h.ours d k b h3).1 fun hs=>(hS b hs).2 d k h3).1 fun j b' hb=>hw.blk b' (h.ours _ j b' hb).1 fun hs=>(hS b' hs).2 _ j hb
 yfr b m b' hb:=XS (h.yfr b m b' hb) hw.size
 stf:=h.stf
theorem Zes {x:AV} (h:x.isG=Xe):x.isSto=Xe:=by cases x<;>first | rfl | cases h
theorem Sim.stfU {c:Ctx} {σ:Nat→AV} {tm:Array Value} {w:World} {lim:Lm} {X:Nat→Nat→Option Nat} (h:Sim c σ tm w lim X) {d:Nat} {x:AV} (hxs:x.isSto=Xe) :
  (c.st=Xe→∀ i,(upd σ d x i).isSto=Xe)∧∀ i i',(upd σ d x i).isSto=Xb→(upd σ d x i').isSto=Xb→i=i':=by
 refine ⟨fun hc i=>?_,fun i i' g g'=>?_⟩
 ·by_cases hi:i=d
  ·subst hi;rw [ZI];exact hxs
  ·rw [Ze σ x hi];exact h.stf.1 hc i
 ·by_cases hi:i=d
  ·subst hi;rw [ZI,hxs] at g;cases g
  ·by_cases hi':i'=d
   ·subst hi';rw [ZI,hxs] at g';cases g'
   ·rw [Ze σ x hi] at g;rw [Ze σ x hi'] at g';exact h.stf.2 i i' g g'
theorem Sim.stfW {c:Ctx} {σ σ':Nat→AV} {tm:Array Value} {w:World} {lim:Lm} {X:Nat→Nat→Option Nat} (h:Sim c σ tm w lim X) (hs:∀ i,(σ' i).isSto=Xb→(σ i).isSto=Xb) :
  (c.st=Xe→∀ i,(σ' i).isSto=Xe)∧∀ i i',(σ' i).isSto=Xb→(σ' i').isSto=Xb→i=i':=by
 refine ⟨fun hc i=>?_,fun i i' g g'=>h.stf.2 i i' (hs i g) (hs i' g')⟩
 cases hi:(σ' i).isSto with
 | false => rfl
 | true =>
  have:=hs i hi;rw [h.stf.1 hc i] at this
  cases this
theorem Sim.putRow {c:Ctx} {σ:Nat→AV} {tm:Array Value} {w:World} {lim:Lm} {X:Nat→Nat→Option Nat} (h:Sim c σ tm w lim X)
  {w':World} {lim':Lm} {S:Nat→Prop} {d:Nat} {x:AV} {tm':Array Value} (r:Nat→Option Nat) (hw:Jh w lim w' lim' S) (hS:∀ b,S b→∃ k,X d k=Xa b)
  (hd:d < c.nt) (hsz:tm'.size=tm.size) (hoth:∀ i,i≠d→tm'.getD i undef=tm.getD i undef)
  (hb:(∀ cs,σ d≠.box cs)∨((∃ cs,x = .box cs)∧r 0=X d 0∧tm'.getD d undef=tm.getD d undef))
  (hrf:∀ i k,i≠d→JB (σ i) d k→Vm (σ d) x k∧r k=X d k∧∀ b,X d k=Xa b→ZbU w w' b)
  (hx:ZS c.P w' lim' (ZcA X d r) (upd σ d x) d x (tm'.getD d undef))
  (hr1:∀ k b,r k=Xa b→b < w'.heap.size∧(c.A b∨c.w0.heap.size≤b)∧∀ i j,i≠d→X i j≠Xa b)
  (hr2:∀ k k' b,r k=Xa b→r k'=Xa b→k=k') (hxg:x.isG=Xe:=by rfl) (hmp:∀ e xs,x = .own Xb e xs→ZhI c.P w' lim' e xs r:=by intro e xs h;cases h)
  (hns:∀ k e xs b,Jg x k=Xa (e,xs)→Zn c.P e=Xb→r k=Xa b→ZaO c.P w' lim' e xs b (X (ngN+b)):=by intro k e xs b h;cases k<;>simp [Jg] at h):Sim c (upd σ d x) tm' w' lim' (ZcA X d r) where
 rel i:=by
  by_cases hi:i=d
  ·subst hi;rw [ZI];exact hx
  ·rw [Ze σ x hi,hoth i hi]
   have h1:=(h.rel i).mono hw.ext (fun k b hb=>hw.blk b (h.ours i k b hb).1 fun hs=>by
    obtain ⟨k',hk'⟩:=hS b hs
    exact hi (h.dist i k d k' b hb hk').1) (fun d' k b he hbb=>by
    by_cases hdd:d'=d
    ·subst hdd;exact (hrf i k hi (.inl he)).2.2 b hbb
    ·exact .of (hw.blk b (h.ours d' k b hbb).1 fun hs=>by
      obtain ⟨k',hk'⟩:=hS b hs;exact hdd (h.dist d' k d k' b hbb hk').1).1) fun _ _=>hw.t
   have hgh:∀ d',(σ d').isG=Xb→d'≠d:=fun d' hg e=>by have:=h.ghost d' hg;omega
   refine h1.chg (Zh X r hi) (fun d' cs hd'=>?_) (fun d' hg=>⟨by rw [Ze σ x (hgh d' hg)];exact hg,by rw [Zh X r (hgh d' hg)]⟩) fun d' k hr=>?_
   ·by_cases hdd:d'=d
    ·subst hdd;rcases hb with hb | ⟨⟨cs',hx'⟩,hr,_⟩
     ·exact (hb cs hd').elim
     ·exact ⟨⟨cs',by rw [ZI,hx']⟩,by rw [Zv,hr]⟩
    ·exact ⟨⟨cs,by rw [Ze σ x hdd,hd']⟩,by rw [Zh X r hdd]⟩
   ·by_cases hdd:d'=d
    ·subst hdd;obtain ⟨g1,g2,_⟩:=hrf i k hi hr;exact ⟨by rw [ZI];exact g1,by rw [Zv];exact g2⟩
    ·exact ⟨by rw [Ze σ x hdd];exact Vm.refl _ _,by rw [Zh X r hdd]⟩
 size:=hsz.trans h.size
 out i hi:=by rw [Ze σ x (by omega)];exact h.out i hi
 ghost i hi:=by
  by_cases hd':i=d
  ·subst hd';rw [ZI,hxg] at hi
   cases hi
  ·rw [Ze σ x hd'] at hi;exact h.ghost i hi
 dist i k i' k' b h1 h2:=by
  by_cases hi:i=d<;>by_cases hi':i'=d
  ·subst hi;subst hi';rw [Zv] at h1 h2;exact ⟨rfl,hr2 k k' b h1 h2⟩
  ·subst hi;rw [Zv] at h1;rw [Zh X r hi'] at h2;exact ((hr1 k b h1).2.2 i' k' hi' h2).elim
  ·subst hi';rw [Zv] at h2;rw [Zh X r hi] at h1;exact ((hr1 k' b h2).2.2 i k hi h1).elim
  ·rw [Zh X r hi] at h1;rw [Zh X r hi'] at h2;exact h.dist i k i' k' b h1 h2
 ours i k b h1:=by
  by_cases hi:i=d
  ·subst hi;rw [Zv] at h1;exact ⟨(hr1 k b h1).1,(hr1 k b h1).2.1⟩
  ·rw [Zh X r hi] at h1;exact ⟨XS (h.ours i k b h1).1 hw.size,(h.ours i k b h1).2⟩
 frm:=h.frm.step hw fun b hs=>by
  obtain ⟨k,hk⟩:=hS b hs;exact (h.ours d k b hk).2
 pin i v hv:=by
  obtain ⟨h1,cs,h2⟩:=h.pin i v hv;by_cases hi:i=d
  ·subst hi;rcases hb with hb | ⟨⟨cs',rfl⟩,_,hv2⟩
   ·exact (hb cs h2).elim
   ·exact ⟨hv2.trans h1,cs',ZI _ _ _⟩
  ·exact ⟨(hoth i hi).trans h1,cs,by rw [Ze σ x hi,h2]⟩
 mp i e xs hi':=by
  by_cases hi:i=d
  ·subst hi;rw [ZI] at hi';rw [Zv];exact hmp e xs hi'
  ·rw [Ze σ x hi] at hi';rw [show ZcA X d r i=X i from Zh X r hi]
   exact (h.mp i e xs hi').mono hw.ext fun k b hb=>hw.blk b (h.ours i k b hb).1 fun hs=>by
    obtain ⟨k',hk'⟩:=hS b hs;exact hi (h.dist i k d k' b hb hk').1
 gpin i b hb':=by
  obtain ⟨h1,h2⟩:=h.gpin i b hb';have hi:i≠d:=fun e=>by have:=h.ghost i h2;omega
  exact ⟨by rw [Zh X r hi];exact h1,by rw [Ze σ x hi];exact h2⟩
 ntN:=h.ntN
 far i hi:=by
  have:=h.ntN;rw [Ze σ x (show i≠d by omega)];exact h.far i hi
 nst i k e xs b h1 h2 h3:=by
  have hbd:ngN+b≠d:=by have:=h.ntN;omega
  rw [Zh X r hbd];by_cases hi:i=d
  ·subst hi;rw [ZI] at h1;rw [Zv] at h3;exact hns k e xs b h1 h2 h3
  ·rw [Ze σ x hi] at h1;rw [Zh X r hi] at h3
   have key:∀ i k b',i≠d→X i k=Xa b'→Zha w lim w' lim' b':=fun i k b' hi hb=>hw.blk b' (h.ours i k b' hb).1 fun hs=>by
    obtain ⟨k',hk'⟩:=hS b' hs;exact hi (h.dist i k d k' b' hb hk').1
   exact (h.nst i k e xs b h1 h2 h3).mono hw.ext (key i k b hi h3).1 fun j b' hb=>key _ j b' hbd hb
 yfr b m b' hb:=by
  have hbd:ngN+b≠d:=by have:=h.ntN;omega
  rw [Zh X r hbd] at hb;exact XS (h.yfr b m b' hb) hw.size
 stf:=h.stfU (Zes hxg)
def AV.plain:AV→Bool
 | .own _ _ _ => Xe
 | .box _ => Xe
 | .tuple _ => Xe
 | .aggo _ => Xe
 | .gbox _ => Xe
 | .store _ => Xe
 | _ => Xb
theorem VC {x:AV} (h:x.plain=Xb) (k:Nat):Jg x k=Xc:=by
 cases x<;>first | (cases k<;>rfl) | simp [AV.plain] at h
theorem Zfw {x:AV} (h:x.plain=Xb):x.isG=Xe:=by
 cases x<;>first | rfl | simp [AV.plain] at h
theorem ZS.plain {P:Program} {w:World} {lim:Lm} {X X':Nat→Nat→Option Nat} {σ σ':Nat→AV} {d d':Nat} {x:AV} {v:Value}
  (h:ZS P w lim X σ d x v) (hx:x.plain=Xb) (hp:∀ i cs,σ i = .box cs→(∃ cs',σ' i = .box cs')∧X' i 0=X i 0)
  (hg:∀ d',(σ d').isG=Xb→(σ' d').isG=Xb∧X' d' 0=X d' 0) (hr:∀ d' k,JB x d' k→Vm (σ d') (σ' d') k∧X' d' k=X d' k):ZS P w lim X' σ' d' x v:=by
 cases x with
 | gbox cs => simp [AV.plain] at hx
 | clo g ds =>
  obtain ⟨bs,h1,h2,h3⟩:=h;exact ⟨bs,h1,h2,fun i d' b hd hb=>Zly hp hg (h3 i d' b hd hb)⟩
 | ptr i off =>
  obtain ⟨b,cs,h1,h2,h3⟩:=h;obtain ⟨⟨cs',h4⟩,h5⟩:=hp i cs h2;exact ⟨b,cs',h5.trans h1,h4,h3⟩
 | mref i k =>
  obtain ⟨e,xs,h1,h2⟩:=h;obtain ⟨h3,h4⟩:=hr i k (.inl rfl);obtain ⟨xs',h5,h6⟩:=h3 e xs h1;exact ⟨e,xs',h5,by rw [h4,h6];exact h2⟩
 | eref i k o =>
  obtain ⟨b,e,xs,h1,h2,h3⟩:=h;obtain ⟨h4,h5⟩:=hr i k (.inr ⟨o,rfl⟩);obtain ⟨xs',h6,_⟩:=h4 e xs h1;exact ⟨b,e,xs',h6,h5.trans h2,h3⟩
 | own x e xs => simp [AV.plain] at hx
 | box cs => simp [AV.plain] at hx
 | tuple vs => simp [AV.plain] at hx
 | aggo cs => simp [AV.plain] at hx
 | dead => trivial
 | gone => trivial
 | eptr cs => exact h
 | val v => exact h
 | agg cs => exact h
 | slice f s xs => exact h
 | nest s o e ys => exact h
 | oref j off => exact h
 | osl e j n => exact h
 | omap j => exact h
 | fnc g js => exact h
 | store rows => simp [AV.plain] at hx
theorem J2 (tm:Array Value) (d:Nat) (v:Value) (h:d < tm.size):(tm.setIfInBounds d v).getD d undef=v:=by
 simp [Ub,h]
theorem Z3 (tm:Array Value) (d i:Nat) (v:Value) (h:i≠d):(tm.setIfInBounds d v).getD i undef=tm.getD i undef:=by
 by_cases hi:i < tm.size
 ·simp [Ub,hi,Ne.symm h]
 ·simp [Ub,hi]
theorem ZiJ {P:Program} {w:World} {lim:Lm} {X:Nat→Nat→Option Nat} {σ:Nat→AV} {k d q:Nat} {x:AV} {v:Value} (h:ZS P w lim X σ k x v) (hr:JB x d q):∃ p,Zy (σ d) q=Xa p:=by
 rcases hr with rfl | ⟨o,rfl⟩
 ·obtain ⟨e,xs,h1,_⟩:=h;exact ⟨_,h1⟩
 ·obtain ⟨_,e,xs,h1,_⟩:=h;exact ⟨_,h1⟩
theorem Sim.put {c:Ctx} {σ:Nat→AV} {tm:Array Value} {w:World} {lim:Lm} {X:Nat→Nat→Option Nat} (h:Sim c σ tm w lim X)
  {d k:Nat} {x:AV} {v:Value} (hd:d < c.nt) (hb:V3 (σ d)) (hp:x.plain=Xb) (hx:ZS c.P w lim X σ k x v) :
  Sim c (upd σ d x) (tm.setIfInBounds d v) w lim (ZcA X d YQ):=by
 refine h.putRow YQ (Jh.refl w lim (fun _=>False)) (fun _ hs=>hs.elim) hd (by simp) (fun i hi=>Z3 tm d i v hi) (.inl hb.1) (fun i q hi hr=>(h.noRefs hb.none i q hi hr).elim) ?_
  (fun k b hk=>by simp [YQ] at hk) (fun k k' b hk=>by simp [YQ] at hk) (Zfw hp) (fun e xs he=>by rw [he] at hp;simp [AV.plain] at hp) (fun k e xs b he=>by rw [VC hp] at he;cases he)
 rw [J2 tm d v (by rw [h.size];exact hd)];have hgh:∀ d',(σ d').isG=Xb→d'≠d:=fun d' hg e=>by have:=h.ghost d' hg;omega
 refine hx.plain hp (fun i cs hi=>?_) (fun d' hg=>⟨by rw [Ze σ x (hgh d' hg)];exact hg,by rw [Zh X YQ (hgh d' hg)]⟩) fun d' q hr=>?_
 ·have hne:i≠d:=fun e=>hb.1 cs (e ▸ hi);exact ⟨⟨cs,by rw [Ze σ x hne,hi]⟩,by rw [Zh X YQ hne]⟩
 ·have hne:d'≠d:=by
   intro e;subst e;obtain ⟨p,hp⟩:=ZiJ hx hr;rw [hb.none] at hp
   cases hp
  exact ⟨by rw [Ze σ x hne];exact Vm.refl _ _,by rw [Zh X YQ hne]⟩
theorem Sim.weaken {c:Ctx} {σ:Nat→AV} {tm:Array Value} {w:World} {lim:Lm} {X:Nat→Nat→Option Nat} (h:Sim c σ tm w lim X)
  {d k:Nat} {x:AV} (hd:d < c.nt) (hb:∀ cs,σ d≠.box cs) (hno:Zph σ d) (hp:x.plain=Xb) (hxr:∀ i q,¬ JB x i q) (hx:ZS c.P w lim X σ k x (tm.getD d undef)) :
  Sim c (upd σ d x) tm w lim (ZcA X d YQ):=by
 refine h.putRow YQ (Jh.refl w lim (fun _=>False)) (fun _ hs=>hs.elim) hd rfl (fun i hi=>rfl) (.inl hb) (fun i q hi hr=>(hno i q hi hr).elim) ?_
  (fun k b hk=>by simp [YQ] at hk) (fun k k' b hk=>by simp [YQ] at hk) (Zfw hp) (fun e xs he=>by rw [he] at hp;simp [AV.plain] at hp) (fun k e xs b he=>by rw [VC hp] at he;cases he)
 have hgh:∀ d',(σ d').isG=Xb→d'≠d:=fun d' hg e=>by have:=h.ghost d' hg;omega
 refine hx.plain hp (fun i cs hi=>?_) (fun d' hg=>⟨by rw [Ze σ x (hgh d' hg)];exact hg,by rw [Zh X YQ (hgh d' hg)]⟩) fun d' q hr=>(hxr d' q hr).elim;have hne:i≠d:=fun e=>hb cs (e ▸ hi);exact ⟨⟨cs,by rw [Ze σ x hne,hi]⟩,by rw [Zh X YQ hne]⟩
theorem Sim.putOwn {c:Ctx} {σ:Nat→AV} {tm:Array Value} {w:World} {lim:Lm} {X:Nat→Nat→Option Nat} (h:Sim c σ tm w lim X)
  {d:Nat} {x:Bool} {e:TypeId} {xs:List (List AV)} {v:Value} {ob:Option Nat} (hd:d < c.nt) (hb:V3 (σ d)) (hx:Jv c.P w lim x e xs v ob)
  (ho:∀ b,ob=Xa b→(c.A b∨c.w0.heap.size≤b)∧∀ i j,i≠d→X i j≠Xa b) (hmo:x=Xb→ZhI c.P w lim e xs (Vs ob))
  (hns:x=Xb→Zn c.P e=Xb→∀ b,ob=Xa b→ZaO c.P w lim e xs b (X (ngN+b))) :
  Sim c (upd σ d (.own x e xs)) (tm.setIfInBounds d v) w lim (ZcA X d (Vs ob)):=by
 refine h.putRow (Vs ob) (Jh.refl w lim (fun _=>False)) (fun _ hs=>hs.elim) hd (by simp) (fun i hi=>Z3 tm d i v hi) (.inl hb.1) (fun i q hi hr=>(h.noRefs hb.none i q hi hr).elim) ?_
  (fun k b hk=>?_) (fun k k' b hk hk'=>?_) (by rfl) (fun e' xs' he=>by injection he with h1 h2 h3;subst h1;subst h2;subst h3;exact hmo rfl)
  (fun k e' xs' b he hd hb=>by
   cases k with
   | zero =>
    cases x with
    | false => simp [Jg] at he
    | true =>
     simp only [Jg,Xf,Xt] at he;obtain ⟨rfl,rfl⟩:=he;exact hns rfl hd b hb
   | succ k => simp [Jg] at he)
 ·rw [J2 tm d v (by rw [h.size];exact hd)];show Jv c.P w lim x e xs v (ZcA X d (Vs ob) d 0);rw [Zv];exact hx
 ·unfold Vs at hk;split at hk
  ·subst hk;exact ⟨hx.lt,(ho b rfl).1,(ho b rfl).2⟩
  ·simp at hk
 ·unfold Vs at hk hk';split at hk<;>split at hk'
  ·omega
  ·simp at hk'
  ·simp at hk
  ·simp at hk
theorem Zz (xs:List (List AV)) (s:Nat) (h:∀ x∈xs,x.length=s):xs.flatten.length=xs.length*s:=by
 induction xs with
 | nil => simp
 | cons x xs ih =>
  simp only [X9,Xu,XA];rw [h x (by simp),ih fun y hy=>h y (by simp [hy]),Wh];omega
theorem Jv.rep {P:Program} {w:World} {lim:Lm} {e:TypeId} {xs:List (List AV)} {v:Value} {ob:Option Nat} (h:Jv P w lim Xe e xs v ob) (f:Bool) (hf:f=Xe) :
  Rep w lim (.slice f (P.cellsOf e) xs) v:=by
 subst hf;rcases h with ⟨us,h1,h2,h3,h4,h5,h6⟩ | ⟨rfl,_,a,rfl⟩ | ⟨hx,_⟩
 case inr.inl=>exact .sliceE (fun h=>by simp at h)
 case inr.inr=>cases hx
 rcases h1.2 with ⟨hv,hn⟩ | ⟨g,cap,cur,hv,hbg,hg,hnc,hcm,hcs,htake⟩
 ·have:xs = []:=X7 hn;subst this;rw [hv];exact .sliceN
 ·rw [hv];have hob:ob=Xa g:=by rw [← h2,hv];rfl
  refine .sliceC h4 h5 (fun h=>by simp at h) hnc (fun _=>?_) h1.1 (fun j u hj=>?_) h6
  ·rw [h3 g hob,if_neg (by simp)];omega
  ·have hcell:=h1.cells (g:=g) (by rw [hv];rfl) j u hj;have hadd:(⟨g,0,Xc⟩:Addr).add j=⟨g,0+j,Xc⟩:=by unfold Addr.add;split<;>simp_all
   rw [hadd] at hcell;exact hcell
theorem Sim.graft {c:Ctx} {σ:Nat→AV} {tm:Array Value} {w:World} {lim:Lm} {X X2:Nat→Nat→Option Nat} (h:Sim c σ tm w lim X) (B:Nat→Prop) (h1:∀ d,d < ngN→X2 d=X d) (h2:∀ b,¬ B b→X2 (ngN+b)=X (ngN+b))
  (h3:∀ b,B b→b < w.heap.size∧∀ d k,X d k≠Xa b) (h4:∀ b k b',B b→X2 (ngN+b) k=Xa b'→b' < w.heap.size∧(c.A b'∨c.w0.heap.size≤b')∧(∀ d j,X d j=Xa b'→ngN≤d∧B (d-ngN))∧∀ b2 k2,B b2→X2 (ngN+b2) k2=Xa b'→b2=b∧k2=k) :
  Sim c σ tm w lim X2:=by
 have hG:∀ d,(σ d).isG=Xb→d < ngN:=fun d hd=>by
  rcases XG d ngN with hlt | hge
  ·exact hlt
  ·rw [h.far d hge] at hd;cases hd
 have hcase:∀ d,d < ngN∨∃ b,d=ngN+b:=fun d=>by
  rcases XG d ngN with hlt | hge
  ·exact .inl hlt
  ·exact .inr ⟨d-ngN,by omega⟩
 -- a row is as it was, or it is told anew
 have hrow:∀ d,X2 d=X d∨∃ b,d=ngN+b∧B b:=fun d=>by
  rcases hcase d with hlt | ⟨b,rfl⟩
  ·exact .inl (h1 d hlt)
  ·by_cases hb:B b
   ·exact .inr ⟨b,rfl,hb⟩
   ·exact .inl (h2 b hb)
 refine ⟨fun d=>?_,h.size,h.out,h.ghost,fun d k d' k' b g g'=>?_,fun d k b g=>?_,h.frm,h.pin,fun d e xs hd=>?_,fun d b hb=>?_,h.ntN,h.far,fun d k e xs b g1 g2 g3=>?_,fun b m b' hb=>?_,h.stf⟩
 ·rcases hcase d with hlt | ⟨b,rfl⟩
  ·refine (h.rel d).chg (h1 d hlt) (fun d' cs hd'=>⟨⟨cs,hd'⟩,?_⟩) (fun d' hd'=>⟨hd',by rw [h1 d' (hG d' hd')]⟩) fun d' k hr=>⟨Vm.refl _ _,?_⟩
   ·rcases hcase d' with hlt' | ⟨b,rfl⟩
    ·rw [h1 d' hlt']
    ·rw [h.far _ (XX _ _)] at hd';cases hd'
   ·obtain ⟨p,hp⟩:=WK h hr;rcases hcase d' with hlt' | ⟨b,rfl⟩
    ·rw [h1 d' hlt']
    ·rw [h.far _ (XX _ _)] at hp;cases hp
  ·rw [h.far _ (XX _ _)];trivial
 ·rcases hrow d with e1 | ⟨b1,rfl,hb1⟩ <;> rcases hrow d' with e2 | ⟨b2,rfl,hb2⟩
  ·rw [e1] at g;rw [e2] at g';exact h.dist d k d' k' b g g'
  ·rw [e1] at g;obtain ⟨_,_,m3,_⟩:=h4 b2 k' b hb2 g';obtain ⟨n1,n2⟩:=m3 d k g;obtain ⟨b3,rfl⟩:∃ b3,d=ngN+b3:=⟨d-ngN,by omega⟩;rw [UI] at n2;rw [← e1] at g;obtain ⟨m1,m2⟩:=(h4 b2 k' b hb2 g').2.2.2 b3 k n2 g;exact ⟨by rw [m1],m2⟩
  ·rw [e2] at g';obtain ⟨_,_,m3,_⟩:=h4 b1 k b hb1 g;obtain ⟨n1,n2⟩:=m3 d' k' g';obtain ⟨b3,rfl⟩:∃ b3,d'=ngN+b3:=⟨d'-ngN,by omega⟩;rw [UI] at n2;rw [← e2] at g';obtain ⟨m1,m2⟩:=(h4 b1 k b hb1 g).2.2.2 b3 k' n2 g';exact ⟨by rw [m1],m2.symm⟩
  ·obtain ⟨m1,m2⟩:=(h4 b1 k b hb1 g).2.2.2 b2 k' hb2 g';exact ⟨by rw [m1],m2.symm⟩
 ·rcases hrow d with e1 | ⟨b1,rfl,hb1⟩
  ·rw [e1] at g;exact h.ours d k b g
  ·exact ⟨(h4 b1 k b hb1 g).1,(h4 b1 k b hb1 g).2.1⟩
 ·rcases hcase d with hlt | ⟨b,rfl⟩
  ·rw [h1 d hlt];exact h.mp d e xs hd
  ·rw [h.far _ (XX _ _)] at hd;cases hd
 ·obtain ⟨g1,g2⟩:=h.gpin d b hb;exact ⟨by rw [h1 d (hG d g2)];exact g1,g2⟩
 ·rcases hcase d with hlt | ⟨b',rfl⟩
  ·rw [h1 d hlt] at g3;have hnb:¬ B b:=fun hb=>(h3 b hb).2 d k g3;rw [h2 b hnb];exact h.nst d k e xs b g1 g2 g3
  ·rw [h.far _ (XX _ _)] at g1;cases g1
 ·by_cases hB:B b
  ·exact (h3 b hB).1
  ·rw [h2 b hB] at hb;exact h.yfr b m b' hb
def Zqe:Value→Option AV
 | .slice Xc 0 0 => Xa (.slice Xb 0 [])
 | .bool b => Xa (.val (.bool b))
 | .int k n => Xa (.val (.int k n))
 | .string s => Xa (.val (.string s))
 | .pointer Xc => Xa (.oref 0 0)
 | .map Xc => Xa (.omap 0)
 | .nilFunc => Xa (.fnc 0 [])
 | _ => Xc
def ZaL:List Value→Option (List AV)
 | [] => Xa []
 | v :: vs =>
  match Zqe v,ZaL vs with
  | some c, Xa cs => Xa (c :: cs)
  | _, _ => Xc
def Zp2:Value→AV
 | .agg cs => match ZaL cs.toList with | some l => .agg l | none => .dead
 | v => match Zqe v with | some c => c | none => .dead
def Zo (P:Program) (σ:Nat→AV):Operand→AV
 | .tmp t =>
  match σ t with
  | .box _ => .ptr t 0
  | .own x e xs => match x with | true => .mref t 0 | false => .slice Xe (P.cellsOf e) xs
  | .tuple _ => .dead
  | .aggo _ => .dead
  | .gbox _ => .dead
  | .store _ => .dead
  | x => x
 | .const v => Zp2 v
 | .func f => .clo f []
 | _ => .dead
def Za2 (old new:AV):Bool:=
 match old,new with
 | .gbox _, _ => Xe
 | _, .gbox _ => Xe
 | .store _, _ => Xe
 | _, .store _ => Xe
 | .box _, _ => Xe
 | .own Xb _ _, _ => Xe
 | .dead, .box _ => Xb
 | _, .box _ => Xe
 | _, _ => Xb
theorem ZW {old new:AV} (h:Za2 old new=Xb):V3 old:=by
 refine ⟨fun cs e=>?_,fun e' xs e=>?_,fun cs e=>?_⟩ <;> subst e<;>cases new<;>simp [Za2] at h
def Zml (c:Ctx) (dst:Option Tmp) (σ1:Nat→AV) (x:AV) (tm:Array Value) (v:Value) (w':World):Prop:=
 match dst with
 | some d => d < c.nt → Za2 (σ1 d) x = Xb → ∃ lim' X', Sim c (upd σ1 d x) (tm.setIfInBounds d v) w' lim' X'
 | none => ∃ lim' X', Sim c σ1 tm w' lim' X'
def ZfA (x:AV):Prop:=∃ cs,x = .box cs
def ZdR (x y:AV):Prop:=y=x∨(ZfA x∧ZfA y)
theorem ZdR.eq {x y:AV} (h:ZdR x y) (hx:∀ cs,x≠.box cs):y=x:=by
 rcases h with h | ⟨⟨cs,h⟩,_⟩
 ·exact h
 ·exact (hx cs h).elim
def Ku (T:Odr) (P:Program) (o:Oper) (σ:Nat→AV) (x:AV) (us:List (Nat×AV)) (fp:List Nat):Prop:=
 ∀ (c:Ctx),c.P=P→∀ (σ':Nat→AV) (tm:Array Value) (w:World) (lim:Lm) (X:Nat→Nat→Option Nat),
  (∀ d∈Vv o,ZdR (σ d) (σ' d))→(∀ d∈fp++us.map (·.1),σ' d=σ d)→T.rel σ σ'→Sim c σ' tm w lim X→∀ (next:Act→World→Prop) (Q:Exit→Act→World→Prop),
   (∀ v w',Zml c o.dst (JG σ' us) x tm v w'→next (Act.put ⟨tm,[]⟩ o.dst v) w')→o.wp P ⟨tm,[]⟩ w next Q
def Js (P:Program) (o:Oper) (σ:Nat→AV) (x:AV) (us:List (Nat×AV)) (fp:List Nat):Prop:=
 ∀ (c:Ctx),c.P=P→∀ (σ':Nat→AV) (tm:Array Value) (w:World) (lim:Lm) (X:Nat→Nat→Option Nat),
  (∀ d∈Vv o,ZdR (σ d) (σ' d))→(∀ d∈fp++us.map (·.1),σ' d=σ d)→Sim c σ' tm w lim X→∀ (next:Act→World→Prop) (Q:Exit→Act→World→Prop),
   (∀ v w',Zml c o.dst (JG σ' us) x tm v w'→next (Act.put ⟨tm,[]⟩ o.dst v) w')→o.wp P ⟨tm,[]⟩ w next Q
def Zs9 (x y:AV):Prop:=∀ rows,x = .store rows→∃ rows',y = .store rows'∧(rows <+: rows'∨rows' <+: rows)
theorem Zs9.refl (x:AV):Zs9 x x:=fun rows h=>⟨rows,h,.inl (List.prefix_refl _)⟩
def Zj1 (T:Odr) (P:Program) (o:Oper) (σ:Nat→AV) (x:AV) (us:List (Nat×AV)) (fp:List Nat):Prop:=
 ∀ (c:Ctx),c.P=P→∀ (σ':Nat→AV) (tm:Array Value) (w:World) (lim:Lm) (X:Nat→Nat→Option Nat),
  (∀ d∈Vv o,ZdR (σ d) (σ' d))→(∀ d∈fp++us.map (·.1),σ' d=σ d)→T.rel σ σ'→(∀ d,vS d∈fp→Zs9 (σ d) (σ' d))→Sim c σ' tm w lim X→∀ (next:Act→World→Prop) (Q:Exit→Act→World→Prop),
   (∀ v w',Zml c o.dst (JG σ' us) x tm v w'→next (Act.put ⟨tm,[]⟩ o.dst v) w')→o.wp P ⟨tm,[]⟩ w next Q
theorem Ku.s {T:Odr} {P:Program} {o:Oper} {σ:Nat→AV} {x:AV} {us:List (Nat×AV)} {fp:List Nat} (h:Ku T P o σ x us fp):Zj1 T P o σ x us fp:=
 fun c hc σ' tm w lim X h1 h2 h3 _ h4=>h c hc σ' tm w lim X h1 h2 h3 h4
theorem Js.t {T:Odr} {P:Program} {o:Oper} {σ:Nat→AV} {x:AV} {us:List (Nat×AV)} {fp:List Nat} (h:Js P o σ x us fp):Ku T P o σ x us fp:=
 fun c hc σ' tm w lim X h1 h2 _ h4=>h c hc σ' tm w lim X h1 h2 h4
theorem Jv.sliceV {P:Program} {w:World} {lim:Lm} {x:Bool} {e:TypeId} {xs:List (List AV)} {v:Value} {ob:Option Nat} (h:Jv P w lim x e xs v ob) (hd:Zru P w e ob):Zcx P w ob e xs.length v:=by
 by_cases hm:Zm P e=Xe∨Zn P e=Xb
 ·rcases h.one hm hd with ⟨us,h1,h2,_⟩ | ⟨rfl,h2,a,rfl⟩
  ·rcases h1.2 with ⟨hv,hn⟩ | ⟨g,cap,cur,hv,_,hg,_,_,hcs,_⟩
   ·exact .inl ⟨by rw [← h2,hv];rfl,hn,.inl hv⟩
   ·exact .inr (.inl ⟨g,cur,cap,by rw [← h2,hv];rfl,hg,hcs,hv⟩)
  ·exact .inl ⟨h2,rfl,.inr ⟨a,rfl⟩⟩
 ·have h0:Zm P e=Xb:=by cases h:Zm P e with | true=>rfl | false=>exact (hm (.inl h)).elim
  have h0':Zn P e=Xe:=by cases h:Zn P e with | false=>rfl | true=>exact (hm (.inr h)).elim
  have hb:bT e=e∨bT e≠e:=Classical.em _;rcases h with ⟨us,h1,h2,_⟩ | ⟨rfl,h2,a,rfl⟩ | ⟨_,⟨_,b,es,clock,kvs,_,_,h1,h2,h3,_⟩ | h | ⟨_,b,es,clock,kvs,_,_,h1,h2,h3,_⟩⟩
  ·rcases h1.2 with ⟨hv,hn⟩ | ⟨g,cap,cur,hv,_,hg,_,_,hcs,_⟩
   ·exact .inl ⟨by rw [← h2,hv];rfl,hn,.inl hv⟩
   ·exact .inr (.inr (.inl ⟨h0,h0',g,cur,cap,by rw [← h2,hv];rfl,hg,hv⟩))
  ·exact .inl ⟨h2,rfl,.inr ⟨a,rfl⟩⟩
  ·exact .inr (.inr (.inr ⟨h0,h0',b,es,clock,h1,h3,h2⟩))
  ·rw [h.1] at h0';cases h0'
  ·exact .inr (.inr (.inr ⟨h0,h0',b,es,clock,h1,h3,h2⟩))
theorem Sim.deepB {c:Ctx} {σ:Nat→AV} {tm:Array Value} {w:World} {lim:Lm} {X:Nat→Nat→Option Nat} (h:Sim c σ tm w lim X) {d k:Nat} {e:TypeId} {xs:List (List AV)} (ho:Jg (σ d) k=Xa (e,xs)) :
  Zru c.P w e (X d k):=fun hd b hb=>(h.nst d k e xs b ho hd hb).1
theorem Zkm {x:AV} {k:Nat} {p:TypeId×List (List AV)} (h:Zy x k=Xa p):Jg x k=Xa p:=by
 unfold Zy at h;unfold Jg;split at h<;>first | exact h | cases h
theorem Jv.cells1 {P:Program} {w:World} {lim:Lm} {x:Bool} {e:TypeId} {xs:List (List AV)} {v:Value} {ob:Option Nat} (h:Jv P w lim x e xs v ob):v.cells = #[v]∧v.oneCell'=Xb:=by
 have key:∀ {e},Zg0 P w lim x e xs v ob→v.cells = #[v]∧v.oneCell'=Xb:=fun h=>by
  rcases h with ⟨us,hr,_⟩ | ⟨_,_,b1,hv⟩
  ·rcases hr.2 with ⟨hv,_⟩ | ⟨g,cap,cur,hv,_⟩ <;> rw [hv]<;>exact ⟨rfl,rfl⟩
  ·rw [hv];exact ⟨rfl,rfl⟩
 rcases h with h | h | ⟨hx,⟨_,b1,_,_,_,_,_,_,hv,_⟩ | h | ⟨_,b1,_,_,_,_,_,_,hv,_⟩⟩
 ·exact key (.inl h)
 ·exact key (e:=e) (.inr h)
 ·rw [hv];exact ⟨rfl,rfl⟩
 ·subst hx;exact key h.2.2
 ·rw [hv];exact ⟨rfl,rfl⟩
theorem Ky {cs:List AV} {off:Nat} {y:AV} {k:Nat} {e:TypeId} {xs:List (List AV)} (h:Jg (.box (cs.set off y)) k=Xa (e,xs)):(k=off+1∧y = .own Xb e xs)∨(k≠off+1∧Jg (.box cs) k=Xa (e,xs)):=by
 cases k with
 | zero => simp [Jg] at h
 | succ k =>
  by_cases hk:k=off
  ·subst hk;simp only [Jg] at h;split at h
   ·rename_i e1 xs1 hq;simp only [Xf,Xt] at h;obtain ⟨rfl,rfl⟩:=h;have hlt:=(Xk.1 hq).1;rw [Wi (by simpa using hlt)] at hq;simp only [Xf] at hq;exact .inl ⟨rfl,hq⟩
   ·cases h
  ·refine .inr ⟨by omega,?_⟩;simp only [Jg] at h ⊢;rw [Wn (fun h=>hk h.symm)] at h;exact h
theorem Zj {P:Program} {o:Oper} {a:Act} {w w':World} {v:Value} {next:Act→World→Prop} {Q:Exit→Act→World→Prop}
  (hr:(execOp a.eval o).run P w = .ok (.value v) w') (h:next (a.put o.dst v) w'):o.wp P a w next Q:=by
 unfold Oper.wp;rw [hr];exact h
theorem Zw {c:Ctx} {dst:Option Tmp} {σ1:Nat→AV} {x:AV} {tm:Array Value} {v:Value} {w:World} {lim:Lm} {X:Nat→Nat→Option Nat} {k:Nat}
  (h:Sim c σ1 tm w lim X) (hp:x.plain=Xb) (hx:ZS c.P w lim X σ1 k x v):Zml c dst σ1 x tm v w:=by
 cases dst with
 | none => exact ⟨lim, X, h⟩
 | some d => exact fun hd hm => ⟨lim, _, h.put hd (ZW hm) hp hx⟩
theorem ZbN {w:World} {lim:Lm} {v:Value} {c:AV} (h:Zqe v=Xa c):c.isCell=Xb∧Rep w lim c v:=by
 unfold Zqe at h;split at h<;>simp at h<;>subst h
 ·exact ⟨rfl,.sliceN⟩
 ·exact ⟨rfl,.val rfl⟩
 ·exact ⟨rfl,.val rfl⟩
 ·exact ⟨rfl,.val rfl⟩
 ·exact ⟨rfl,.oref0⟩
 ·exact ⟨rfl,.omap0⟩
 ·exact ⟨rfl,.fncN⟩
theorem ZbD {w:World} {lim:Lm} : ∀ {vs:List Value} {cs:List AV},ZaL vs=Xa cs→cs.length=vs.length∧(∀ c∈cs,c.isCell=Xb)∧
  ∀ (i:Nat) (c:AV) (v:Value),cs[i]? = Xa c→vs[i]? = Xa v→Rep w lim c v
 | [], cs, h => by
  simp [ZaL] at h;subst h;simp
 | v :: vs, cs, h => by
  simp only [ZaL] at h;split at h
  ·rename_i c cs' hc hcs;simp at h;subst h;obtain ⟨h1,h2,h3⟩:=ZbD (w:=w) (lim:=lim) hcs;refine ⟨by simp [h1],fun x hx=>?_,fun i x u hx hu=>?_⟩
   ·rcases Xq.1 hx with rfl | hx
    ·exact (ZbN (w:=w) (lim:=lim) hc).1
    ·exact h2 x hx
   ·cases i with
    | zero => simp at hx hu; subst hx; subst hu; exact (ZbN hc).2
    | succ i => exact h3 i x u (by simpa using hx) (by simpa using hu)
  ·simp at h
theorem Zrj {P:Program} {w:World} {lim:Lm} {X:Nat→Nat→Option Nat} {σ:Nat→AV} {k:Nat} (v:Value) :
  (Zp2 v).plain=Xb∧ZS P w lim X σ k (Zp2 v) v:=by
 unfold Zp2;split
 ·rename_i cs;split
  ·rename_i l hl;obtain ⟨h1,h2,h3⟩:=ZbD (w:=w) (lim:=lim) hl;refine ⟨rfl,?_⟩;have:cs=cs.toList.toArray:=by simp
   show Rep w lim (.agg l) (.agg cs);rw [this];exact .agg h1 h2 h3
  ·exact ⟨rfl,trivial⟩
 ·split
  ·rename_i c hc;obtain ⟨h1,h2⟩:=ZbN (w:=w) (lim:=lim) hc
   cases c<;>simp [AV.isCell] at h1<;>exact ⟨rfl,h2⟩
  ·exact ⟨rfl,trivial⟩
theorem K0 {c:Ctx} {σ:Nat→AV} {tm:Array Value} {w:World} {lim:Lm} {X:Nat→Nat→Option Nat} (h:Sim c σ tm w lim X) (x:Operand) (k:Nat) :
  (Zo c.P σ x).plain=Xb∧ZS c.P w lim X σ k (Zo c.P σ x) (Act.eval ⟨tm,[]⟩ x):=by
 cases x with
 | tmp t =>
  have ht:=h.rel t;have hev:Act.eval ⟨tm,[]⟩ (.tmp t)=tm.getD t undef:=rfl;rw [hev]
  cases hs:σ t with
  | box cs =>
   rw [hs] at ht;obtain ⟨b,arr,ty,h1,h2,_⟩:=(show Z0 c.P w lim (X t) cs (tm.getD t undef) from ht);simp only [Zo,hs];exact ⟨rfl,b,cs,h1,hs,h2⟩
  | mref d k => rw [hs] at ht; simp only [Zo, hs]; exact ⟨rfl, ht⟩
  | eref d k o => rw [hs] at ht; simp only [Zo, hs]; exact ⟨rfl, ht⟩
  | gbox cs => simp only [Zo, hs]; exact ⟨rfl, trivial⟩
  | store rows => simp only [Zo, hs]; exact ⟨rfl, trivial⟩
  | oref j off => rw [hs] at ht; simp only [Zo, hs]; exact ⟨rfl, ht⟩
  | osl e j n => rw [hs] at ht; simp only [Zo, hs]; exact ⟨rfl, ht⟩
  | omap j => rw [hs] at ht; simp only [Zo, hs]; exact ⟨rfl, ht⟩
  | fnc g js => rw [hs] at ht; simp only [Zo, hs]; exact ⟨rfl, ht⟩
  | clo g ds => rw [hs] at ht; simp only [Zo, hs]; exact ⟨rfl, ht⟩
  | own x e xs =>
   rw [hs] at ht;simp only [Zo,hs]
   cases x with
   | true => exact ⟨rfl, e, xs, by rw [hs]; rfl, Jv.sliceV ht (h.deepB (xs := xs) (by rw [hs]; rfl))⟩
   | false => exact ⟨rfl, Jv.rep ht Xe rfl⟩
  | tuple vs => simp only [Zo, hs]; exact ⟨rfl, trivial⟩
  | aggo cs => simp only [Zo, hs]; exact ⟨rfl, trivial⟩
  | dead => simp only [Zo, hs]; exact ⟨rfl, trivial⟩
  | gone => simp only [Zo, hs]; exact ⟨rfl, trivial⟩
  | ptr d off => rw [hs] at ht; simp only [Zo, hs]; exact ⟨rfl, ht⟩
  | eptr cs => rw [hs] at ht; simp only [Zo, hs]; exact ⟨rfl, ht⟩
  | val v => rw [hs] at ht; simp only [Zo, hs]; exact ⟨rfl, ht⟩
  | agg cs => rw [hs] at ht; simp only [Zo, hs]; exact ⟨rfl, ht⟩
  | slice f s xs => rw [hs] at ht; simp only [Zo, hs]; exact ⟨rfl, ht⟩
  | nest s o e ys => rw [hs] at ht; simp only [Zo, hs]; exact ⟨rfl, ht⟩
 | const v => exact Zrj v
 | global g => exact ⟨rfl, trivial⟩
 | func f => exact ⟨rfl, [], rfl, rfl, by simp⟩
theorem Zu {o:Oper} {x:Operand} {t:Nat} (hx:x∈o.op.operands) (ht:ZY x=Xa t):t∈Vv o:=
 List.mem_filterMap.2 ⟨x,by simpa using hx,ht⟩
theorem ZJ {P:Program} {σ σ':Nat→AV} {x:Operand} (h:∀ t,ZY x=Xa t→ZdR (σ t) (σ' t)):Zo P σ' x=Zo P σ x:=by
 cases x with
 | tmp t =>
  rcases h t rfl with h1 | ⟨⟨cs,h1⟩,cs',h3⟩
  ·simp only [Zo,h1]
  ·simp only [Zo,h1,h3]
 | const v => rfl
 | global g => rfl
 | func f => rfl
theorem Zq {P:Program} {o:Oper} {σ:Nat→AV} {x:AV} (fp:List Nat) (hp:x.plain=Xb)
  (h:∀ (c:Ctx),c.P=P→∀ (σ':Nat→AV) (tm:Array Value) (w:World) (lim:Lm) (X:Nat→Nat→Option Nat),
   (∀ y∈o.op.operands,Zo P σ' y=Zo P σ y)→(∀ d∈fp,σ' d=σ d)→Sim c σ' tm w lim X→
   ∃ v,(execOp (Act.eval ⟨tm,[]⟩) o).run P w = .ok (.value v) w∧ZS P w lim X σ' 0 x v):Js P o σ x [] fp:=by
 intro c hc σ' tm w lim X hid hag hsim next Q hn;obtain ⟨v,hr,hx⟩:=h c hc σ' tm w lim X (fun y hy=>ZJ fun t ht=>hid t (by simp [Zu hy ht])) (fun d hd=>hag d (by simp [hd])) hsim;exact Zj hr (hn v w (Zw hsim hp (k:=0) (by rw [hc];exact hx)))
theorem YU {w:World} {lim:Lm} {u v:Value} (h:Rep w lim (.val u) v):v=u:=by cases h;rfl
theorem ZhD {P:Program} {o:Oper} {σ:Nat→AV} {x:Operand} (ho:o.op = .move x∨o.op = .assign x):Js P o σ (Zo P σ x) [] []:=by
 have hmem:x∈o.op.operands:=by rcases ho with ho | ho<;>rw [ho]<;>simp [Op.operands]
 intro c hc σ' tm w lim X hid hag hsim next Q hn;have hg:Zo P σ' x=Zo P σ x:=ZJ fun t ht=>hid t (by simp [Zu hmem ht]);obtain ⟨h1,h2⟩:=K0 hsim x 0;rw [hc,hg] at h1 h2;refine Zj (v:=Act.eval ⟨tm,[]⟩ x) ?_ (hn _ w (Zw hsim h1 (k:=0) (by rw [hc];exact h2)));rcases ho with ho | ho<;>simp [execOp,ho]
theorem Yf {P:Program} {c:Ctx} (hc:c.P=P) {σ σ':Nat→AV} {tm:Array Value} {w:World} {lim:Lm} {X:Nat→Nat→Option Nat} (h:Sim c σ' tm w lim X) {x:Operand} {y:AV}
  (hx:Zo P σ x=y) (hg:Zo P σ' x=Zo P σ x):ZS P w lim X σ' 0 y (Act.eval ⟨tm,[]⟩ x):=by
 have:=(K0 h x 0).2;rw [hc,hg,hx] at this;exact this
theorem Z6 {P:Program} {c:Ctx} (hc:c.P=P) {σ σ':Nat→AV} {tm:Array Value} {w:World} {lim:Lm} {X:Nat→Nat→Option Nat} (h:Sim c σ' tm w lim X) {x:Operand} {u:Value}
  (hx:Zo P σ x = .val u) (hg:Zo P σ' x=Zo P σ x):Act.eval ⟨tm,[]⟩ x=u:=YU (Yf hc h hx hg)
theorem ZnC {P:Program} {o:Oper} {σ:Nat→AV} {cd a b:Operand} {v:Bool} (ho:o.op = .pick cd a b) (hv:Zo P σ cd = .val (.bool v)) :
  Js P o σ (if v=Xb then Zo P σ a else Zo P σ b) [] []:=by
 intro c hc σ' tm w lim X hid hag hsim next Q hn;have hg:∀ y∈o.op.operands,Zo P σ' y=Zo P σ y:=fun y hy=>ZJ fun t ht=>hid t (by simp [Zu hy ht]);rw [ho] at hg;simp only [Op.operands] at hg;have h1:=Z6 hc hsim hv (hg cd (by simp));obtain ⟨ha1,ha2⟩:=K0 hsim a 0;obtain ⟨hb1,hb2⟩:=K0 hsim b 0;rw [hc,hg a (by simp)] at ha1 ha2;rw [hc,hg b (by simp)] at hb1 hb2
 cases v with
 | true =>
  refine Zj (v:=Act.eval ⟨tm,[]⟩ a) ?_ (hn _ w (Zw hsim ha1 (k:=0) (by rw [hc];exact ha2)));simp [execOp,ho,h1,asBool]
 | false =>
  refine Zj (v:=Act.eval ⟨tm,[]⟩ b) ?_ (hn _ w (Zw hsim hb1 (k:=0) (by rw [hc];exact hb2)));simp [execOp,ho,h1,asBool]
theorem JF {P:Program} {o:Oper} {σ:Nat→AV} {v:Value} (hv:ZfH v=Xb)
  (h:∀ (a:Act) (w:World),(∀ y∈o.op.operands,∀ u,Zo P σ y = .val u→a.eval y=u)→(execOp a.eval o).run P w = .ok (.value v) w):Js P o σ (.val v) [] []:=by
 refine Zq [] rfl fun c hc σ' tm w lim X hg _ hsim=>⟨v,h ⟨tm,[]⟩ w fun y hy u hu=>Z6 hc hsim hu (hg y hy),.val hv⟩
def Ztf:BinOp→Option IOp
 | .add => Xa .add
 | .sub => Xa .sub
 | .mul => Xa .mul
 | .quo => Xa .quo
 | .rem => Xa .rem
 | .and => Xa .and
 | .or => Xa .or
 | .xor => Xa .xor
 | .andNot => Xa .andNot
 | _ => Xc
theorem Zrk {P:Program} {o:Oper} {σ:Nat→AV} {op:BinOp} {i:IOp} {T T':TypeId} {x y:Operand} {k:IntKind} {a b:Int} (ho:o.op = .binOp op T x y T')
  (hi:Ztf op=Xa i) (hx:Zo P σ x = .val (.int k a)) (hy:Zo P σ y = .val (.int k b)) (hz:i = .quo∨i = .rem→b≠0):Js P o σ (.val (.int k (iop i k a b))) [] []:=by
 refine JF rfl fun ac w h=>?_;rw [ho] at h;simp only [Op.operands] at h;have h1:=h x (by simp) _ hx;have h2:=h y (by simp) _ hy
 cases op<;>simp [Ztf] at hi<;>subst hi <;>
  simp [execOp,ho,h1,h2,eqGuard,binOp,Op.intArith,Op.intDiv,Op.intBits,iop]<;>exact fun hb=>(hz (by simp) hb).elim
def ZtG:BinOp→Option COp
 | .eql => Xa .eql
 | .neq => Xa .neq
 | .lss => Xa .lss
 | .leq => Xa .leq
 | .gtr => Xa .gtr
 | .geq => Xa .geq
 | _ => Xc
theorem ZqK {P:Program} {o:Oper} {σ:Nat→AV} {op:BinOp} {i:COp} {T T':TypeId} {x y:Operand} {k:IntKind} {a b:Int} (ho:o.op = .binOp op T x y T')
  (hi:ZtG op=Xa i) (hx:Zo P σ x = .val (.int k a)) (hy:Zo P σ y = .val (.int k b)):Js P o σ (.val (.bool (cop i a b))) [] []:=by
 refine JF rfl fun ac w h=>?_;rw [ho] at h;simp only [Op.operands] at h;have h1:=h x (by simp) _ hx;have h2:=h y (by simp) _ hy
 cases op<;>simp [ZtG] at hi<;>subst hi <;>
  simp [execOp,ho,h1,h2,eqGuard,binOp,Op.intCmp,cop]
theorem ZfG {P:Program} {o:Oper} {σ:Nat→AV} {op:BinOp} {i:IOp} {T T':TypeId} {x y:Operand} {k k':IntKind} {a b:Int} (ho:o.op = .binOp op T x y T')
  (hi:(op = .shl∧i = .shl)∨(op = .shr∧i = .shr)) (hx:Zo P σ x = .val (.int k a)) (hy:Zo P σ y = .val (.int k' b)) (hb:0≤b):Js P o σ (.val (.int k (iop i k a b))) [] []:=by
 refine JF rfl fun ac w h=>?_;rw [ho] at h;simp only [Op.operands] at h;have h1:=h x (by simp) _ hx;have h2:=h y (by simp) _ hy;rcases hi with ⟨rfl,rfl⟩ | ⟨rfl,rfl⟩ <;> simp [execOp,ho,h1,h2,eqGuard,binOp,Op.shift,iop,Int.not_lt.2 hb]
theorem Zkp {P:Program} {o:Oper} {σ:Nat→AV} {op:BinOp} {T T':TypeId} {x y:Operand} {a b:ByteArray} (ho:o.op = .binOp op T x y T')
  (hop:op = .eql∨op = .neq) (hx:Zo P σ x = .val (.string a)) (hy:Zo P σ y = .val (.string b)) :
  Js P o σ (.val (.bool (if op = .eql then a.toList == b.toList else !(a.toList == b.toList)))) [] []:=by
 refine JF rfl fun ac w h=>?_;rw [ho] at h;simp only [Op.operands] at h;have h1:=h x (by simp) _ hx;have h2:=h y (by simp) _ hy;rcases hop with rfl | rfl<;>simp [execOp,ho,h1,h2,eqGuard,binOp,Op.stringOp]
theorem Zil {P:Program} {o:Oper} {σ:Nat→AV} {op:BinOp} {T T':TypeId} {x y:Operand} {a b:Bool} (ho:o.op = .binOp op T x y T') (hT:P.underlying T=Xa .bool)
  (hop:op = .eql∨op = .neq) (hx:Zo P σ x = .val (.bool a)) (hy:Zo P σ y = .val (.bool b)) :
  Js P o σ (.val (.bool (if op = .eql then a == b else !(a == b)))) [] []:=by
 refine JF rfl fun ac w h=>?_;rw [ho] at h;simp only [Op.operands] at h;have h1:=h x (by simp) _ hx;have h2:=h y (by simp) _ hy;have he:(Op.equal T (.bool a) (.bool b)).run P w = .ok (a == b) w:=run_equalIn_bool' w 9999 T a b hT;rcases hop with rfl | rfl<;>simp [execOp,ho,h1,h2,eqGuard,binOp,he]
theorem Zqs {P:Program} {o:Oper} {σ:Nat→AV} {T:TypeId} {x:Operand} {b:Bool} (ho:o.op = .unOp .not T x) (hx:Zo P σ x = .val (.bool b)) :
  Js P o σ (.val (.bool !b)) [] []:=by
 refine JF rfl fun ac w h=>?_;rw [ho] at h;simp only [Op.operands] at h;have h1:=h x (by simp) _ hx;simp [execOp,ho,h1,Op.unary]
theorem Zq4 {P:Program} {o:Oper} {σ:Nat→AV} {T:TypeId} {x:Operand} {k:IntKind} {n:Int} (ho:o.op = .unOp .neg T x) (hx:Zo P σ x = .val (.int k n)) :
  Js P o σ (.val (.int k (iop .sub k 0 n))) [] []:=by
 refine JF rfl fun ac w h=>?_;rw [ho] at h;simp only [Op.operands] at h;have h1:=h x (by simp) _ hx;simp [execOp,ho,h1,Op.unary,Op.intArith,iop]
theorem ZmS {P:Program} {o:Oper} {σ:Nat→AV} {T:TypeId} {x:Operand} {k:IntKind} {n:Int} (ho:o.op = .unOp .xor T x) (hx:Zo P σ x = .val (.int k n)) :
  Js P o σ (.val (.int k (iop .xor k (if k.signed=Xb then -1 else k.max) n))) [] []:=by
 refine JF rfl fun ac w h=>?_;rw [ho] at h;simp only [Op.operands] at h;have h1:=h x (by simp) _ hx;simp [execOp,ho,h1,Op.unary,Op.intBits,iop]
theorem Znp {P:Program} {o:Oper} {σ:Nat→AV} {S T:TypeId} {x:Operand} {k k1 k2:IntKind} {n:Int} (ho:o.op = .convert S T x) (hS:P.underlying S=Xa (.int k1)) (hT:P.underlying T=Xa (.int k2))
  (hx:Zo P σ x = .val (.int k n)):Js P o σ (.val (.int k2 (k2.wrap n))) [] []:=by
 refine JF rfl fun ac w h=>?_;rw [ho] at h;simp only [Op.operands] at h;have h1:=h x (by simp) _ hx;simp [execOp,ho,h1,convert,run_underlying hS,run_underlying hT,Conv.intToInt]
theorem ZdG {P:Program} {o:Oper} {σ:Nat→AV} {cl:Call} {mn:Bool} {x y:Operand} {k:IntKind} {a b:Int} (ho:o.op = .call cl) (hcl:cl.callee = .builtin (if mn=Xb then .min else .max))
  (hargs:cl.args.toList = [x,y]) (hx:Zo P σ x = .val (.int k a)) (hy:Zo P σ y = .val (.int k b)) :
  Js P o σ (.val (.int k (iop (if mn=Xb then .min else .max) k a b))) [] []:=by
 refine JF rfl fun ac w h=>?_
 have hargs':cl.args = #[x,y]:=by
  apply XK.1;rw [hargs]
 rw [ho] at h;simp only [Op.operands,Call.operands,hargs',hcl] at h;have h1:=h x (by simp) _ hx;have h2:=h y (by simp) _ hy
 cases mn
 ·simp [execOp,ho,hcl,resolve,hargs',h1,h2,invoke,builtin,Builtin.max_,Builtin.max2,iop];omega
 ·simp [execOp,ho,hcl,resolve,hargs',h1,h2,invoke,builtin,Builtin.min_,Builtin.min2,iop];omega
def YC (P:Program):AV→AV
 | .own _ e xs => .slice Xe (P.cellsOf e) xs
 | .gone => .slice Xb 0 []
 | x => x
def Zdn (x:AV):Prop:=x.isCell=Xb∨(∃ b e xs,x = .own b e xs)∨x = .gone
theorem Jr (b o n:Nat):(⟨b,o,Xc⟩:Addr).add n=⟨b,o+n,Xc⟩:=by
 unfold Addr.add;split
 ·rename_i h;subst h;rfl
 ·rfl
theorem Za7 {P:Program} {T:TypeId} {d:TypeDesc} (h:P.underlying T=Xa d):∃ i,P.info? T=Xa i:=by
 unfold Program.underlying at h;split at h
 ·rename_i hi;exact ⟨_,hi⟩
 ·rename_i i hi;exact ⟨_,hi⟩
 ·cases h
theorem ZO {P:Program} {T:TypeId} {i:TypeInfo} (h:P.info? T=Xa i):P.cellsOf T=i.size:=by simp [Program.cellsOf,h]
theorem Zs {P:Program} {T:TypeId} {i:TypeInfo} (h:P.info? T=Xa i) (w:World):(sizeOf T).run P w = .ok (P.cellsOf T) w:=by
 simp [sizeOf,typeInfo,h,ZO h]
theorem Zx {P:Program} {T:TypeId} (h:P.cellsOf T≠0):∃ i,P.info? T=Xa i:=by
 cases hi:P.info? T with
 | none => simp [Program.cellsOf, hi] at h
 | some i => exact ⟨i, rfl⟩
theorem Zan {P:Program} {T:TypeId} (h:Ji P T=Xa Xb) (w:World):(isAgg T).run P w = .ok Xb w:=by
 unfold Ji at h;split at h<;>simp at h
 ·rename_i hu;simp [isAgg,run_underlying hu]
 ·rename_i hu;simp [isAgg,run_underlying hu]
theorem VD {P:Program} {T:TypeId} (h:Ji P T=Xa Xe) (w:World):(isAgg T).run P w = .ok Xe w:=by
 unfold Ji at h;split at h<;>simp at h;rename_i d h1 h2 hu;simp only [isAgg,Sem.run_bind,run_underlying hu,Result.andThen_ok];rfl
theorem ZbQ {P:Program} {T:TypeId} {b:Bool} (h:Ji P T=Xa b):∃ i,P.info? T=Xa i:=by
 unfold Ji at h;split at h<;>simp at h<;>(rename_i hu;exact Za7 hu)
theorem Yq.strip {P:Program} {w:World} {lim:Lm} {ob:Option Nat} {x:AV} {v:Value} (h:Yq P w lim ob x v) (hx:Zdn x) (hn:∀ e xs,x≠.own Xb e xs) (hg:x≠.gone) :
  (YC P x).isCell=Xb∧Rep w lim (YC P x) v:=by
 rcases hx with hx | ⟨b,e,xs,rfl⟩ | rfl
 ·cases x<;>simp [AV.isCell] at hx<;>exact ⟨rfl,h⟩
 ·cases b with
  | true => exact (hn e xs rfl).elim
  | false => exact ⟨rfl, Jv.rep h Xe rfl⟩
 ·exact (hg rfl).elim
theorem ZR {w:World} {b o:Nat} {arr:Array Value} {t:TypeId} {fr:Nat×Nat} (h:w.heap[b]? = Xa (.cells arr t fr)):w.cell? ⟨b,o,Xc⟩=arr[o]?:=by
 simp [World.cell?,h]
theorem Z0.part {P:Program} {w:World} {lim:Lm} {X:Nat→Option Nat} {cs:List AV} {v:Value} (h:Z0 P w lim X cs v) (off n:Nat) (hn:off+n≤cs.length) (hnr:Zdg ((cs.drop off).take n)) (hwh:Whole ((cs.drop off).take n)) :
  ∃ (b:Nat) (us:List Value),X 0=Xa b∧v = .pointer (Xa ⟨b,0,Xc⟩)∧us.length=n∧(∀ (j:Nat) (u:Value),us[j]? = Xa u→w.cell? ⟨b,off+j,Xc⟩=Xa u)∧
   (∀ c∈((cs.drop off).take n).map (YC P),c.isCell=Xb)∧
   ∀ (i:Nat) (c:AV) (u:Value),(((cs.drop off).take n).map (YC P))[i]? = Xa c→us[i]? = Xa u→Rep w lim c u:=by
 obtain ⟨b,arr,t,h1,h2,h3,h4,h5,h6,h7⟩:=h;refine ⟨b,(arr.toList.drop off).take n,h1,h2,by simp [h4];omega,fun j u hj=>?_,fun c hc=>?_,fun i c u hc hu=>?_⟩
 ·rw [ZR h3];rw [XC] at hj;split at hj
  ·simpa using hj
  ·cases hj
 ·obtain ⟨x,hx,rfl⟩:=Xj.1 hc;have hx':x∈cs:=XY (XR hx);rcases h6 x hx' with h | ⟨b,e,xs,rfl⟩ | rfl
  ·cases x<;>simp [AV.isCell] at h<;>rfl
  ·rfl
  ·exact (hwh _ hx rfl).elim
 ·rw [Xl,XC] at hc;rw [XC] at hu;split at hc
  ·rename_i hlt;rw [if_pos hlt] at hu;simp only [XP] at hc hu
   cases hx:cs[off+i]? with
   | none => simp [hx] at hc
   | some x =>
    simp [hx] at hc;subst hc;have hmem:x∈cs:=Xm hx;exact ((h7 (off+i) x u hx (by simpa using hu)).strip (h6 x hmem) (hnr x (Xm (i:=i) (by rw [XC,if_pos hlt,XP];exact hx))) (hwh x (Xm (i:=i) (by rw [XC,if_pos hlt,XP];exact hx)))).2
  ·simp at hc
theorem Wz {c:Ctx} {σ:Nat→AV} {tm:Array Value} {w:World} {lim:Lm} {X:Nat→Nat→Option Nat} (h:Sim c σ tm w lim X) {d off k:Nat} {cs:List AV} {v:Value}
  (hd:σ d = .box cs) (hv:ZS c.P w lim X σ k (.ptr d off) v):∃ b,X d 0=Xa b∧v = .pointer (Xa ⟨b,off,Xc⟩)∧Z0 c.P w lim (X d) cs (.pointer (Xa ⟨b,0,Xc⟩)):=by
 obtain ⟨b,cs',h1,h2,h3⟩:=hv;have hr:=h.rel d;rw [hd] at hr;have hr':Z0 c.P w lim (X d) cs (tm.getD d undef):=hr;have hrp:=hr';obtain ⟨b',arr,t,g1,g2,_⟩:=hrp;have:b'=b:=by rw [g1] at h1;exact XT h1
 subst this;refine ⟨b',h1,h3,?_⟩;rw [g2] at hr';exact hr'
theorem V4 {P:Program} {T:TypeId} {w:World} {b off:Nat} {us:List Value} (hT:Ji P T=Xa Xb) (hn:us.length=P.cellsOf T)
  (hc:∀ (j:Nat) (u:Value),us[j]? = Xa u→w.cell? ⟨b,off+j,Xc⟩=Xa u):(Instr.loadAt T (.pointer (Xa ⟨b,off,Xc⟩))).run P w = .ok (.agg us.toArray) w:=by
 obtain ⟨i,hi⟩:=ZbQ hT;have hl:=run_loadCells_list (P:=P) w ⟨b,off,Xc⟩ us (fun j v hj=>by rw [Jr];exact hc j v hj);rw [hn] at hl;simp [Instr.loadAt,Instr.sureAddr,loadVar,Zan hT,Zs hi,hl]
theorem J7 {P:Program} {T:TypeId} {w:World} {b off:Nat} {u:Value} (hT:Ji P T=Xa Xe)
  (hc:w.cell? ⟨b,off,Xc⟩=Xa u):(Instr.loadAt T (.pointer (Xa ⟨b,off,Xc⟩))).run P w = .ok u w:=by
 simp [Instr.loadAt,Instr.sureAddr,loadVar,VD hT,hc]
theorem YT {P:Program} {w:World} {lim:Lm} {X:Nat→Nat→Option Nat} {σ:Nat→AV} {k:Nat} {x:AV} {v:Value} (hx:x.isCell=Xb) (h:Rep w lim x v) :
  x.plain=Xb∧ZS P w lim X σ k x v:=by
 cases x<;>simp [AV.isCell] at hx<;>exact ⟨rfl,h⟩
theorem Zbd {P:Program} {o:Oper} {σ:Nat→AV} {T:TypeId} {a:Operand} {d off:Nat} {cs:List AV} (ho:o.op = .load T a) (hT:Ji P T=Xa Xb)
  (ha:Zo P σ a = .ptr d off) (hd:σ d = .box cs) (hn:off+P.cellsOf T≤cs.length) (hnr:Zdg ((cs.drop off).take (P.cellsOf T))) (hwh:Whole ((cs.drop off).take (P.cellsOf T))):Js P o σ (.agg (((cs.drop off).take (P.cellsOf T)).map (YC P))) [] [d]:=by
 refine Zq [d] rfl fun c hc σ' tm w lim X hg hfp hsim=>?_;rw [ho] at hg;have hv:=Yf hc hsim ha (hg a (by simp [Op.operands]));have hd':σ' d = .box cs:=by rw [hfp d (by simp),hd]
 rw [← hc] at hv;obtain ⟨b,h1,h2,h3⟩:=Wz hsim hd' hv;obtain ⟨b',us,g1,g2,g3,g4,g5,g6⟩:=h3.part off (P.cellsOf T) hn hnr hwh;have:b'=b:=by rw [g1] at h1;exact XT h1
 subst this;refine ⟨.agg us.toArray,?_,?_⟩
 ·simp [execOp,ho,h2,V4 hT g3 g4]
 ·rw [hc] at g5 g6;exact .agg (by simp [g3];omega) g5 g6
theorem K4 {P:Program} {o:Oper} {σ:Nat→AV} {T:TypeId} {a:Operand} {d off:Nat} {cs:List AV} {x:AV} (ho:o.op = .load T a) (hT:Ji P T=Xa Xe)
  (ha:Zo P σ a = .ptr d off) (hd:σ d = .box cs) (hx:cs[off]? = Xa x) (hnr:∀ e xs,x≠.own Xb e xs) (hwh:x≠.gone):Js P o σ (YC P x) [] [d]:=by
 intro c hc σ' tm w lim X hid hag hsim next Q hn;have hg:Zo P σ' a=Zo P σ a:=ZJ fun t ht=>hid t (by simp [Zu (o:=o) (x:=a) (by rw [ho];simp [Op.operands]) ht]);have hv:=Yf hc hsim ha hg;have hd':σ' d = .box cs:=by rw [hag d (by simp),hd]
 rw [← hc] at hv;obtain ⟨b,h1,h2,h3⟩:=Wz hsim hd' hv;have hlt:off < cs.length:=(Xk.1 hx).1
 have ht1:(cs.drop off).take 1 = [x]:=by
  rw [List.take_one,List.head?_drop,hx];rfl
 obtain ⟨b',us,g1,g2,g3,g4,g5,g6⟩:=h3.part off 1 (by omega) (by
  rw [ht1];intro y hy e xs he;rw [XE.1 hy] at he
  exact hnr e xs he) (by
  rw [ht1];intro y hy;rw [XE.1 hy];exact hwh)
 have:b'=b:=by rw [g1] at h1;exact XT h1
 subst this;obtain ⟨u,rfl⟩:∃ u,us = [u]:=List.length_eq_one_iff.1 g3;have hcell:=g4 0 u rfl;rw [Uh] at hcell
 have hl:((cs.drop off).take 1).map (YC c.P) = [YC c.P x]:=by
  rw [ht1];rfl
 rw [hl] at g5 g6;have hx1:=g5 (YC c.P x) (by simp);have hx2:=g6 0 (YC c.P x) u rfl rfl;rw [hc] at hx1 hx2;obtain ⟨p1,p2⟩:=YT (P:=P) (X:=X) (σ:=σ') (k:=0) hx1 hx2;refine Zj (v:=u) ?_ (hn u w (Zw hsim p1 (k:=0) (by rw [hc];exact p2)));simp [execOp,ho,h2,J7 hT hcell]
theorem Zhf {T:Odr} {σ σ':Nat→AV} {d j:Nat} {cs:List AV} {x:AV} (hT:T.rel σ σ') (hd:σ d = .box cs) (hk:T.kp d j=Xb) (hx:cs[j]? = Xa x):∃ cs2 y,σ' d = .box cs2∧cs2[j]? = Xa y∧Yl y=Yl x:=by
 cases T with
 | text => cases hk
 | any N M K =>
  have h:=hT.2 d j hk;rw [hd] at h;have h':cellAt (σ' d) j=Xa (Yl x):=h.trans (by show (cs[j]?).map Yl=_;rw [hx];rfl);unfold cellAt at h';split at h'
  ·rename_i cs2 he
   cases hy:cs2[j]? with
   | none => rw [hy] at h'; cases h'
   | some y =>
    rw [hy] at h';exact ⟨cs2,y,he,hy,XT h'⟩
  ·cases h'
theorem ZlI {T:Odr} {σ σ':Nat→AV} {d j:Nat} {cs:List AV} {x:AV} (hT:T.rel σ σ') (hd:σ d = .box cs) (hk:T.kp d j=Xb) (hx:cs[j]? = Xa x) (hno:∀ e xs,x≠.own Xb e xs):∃ cs2,σ' d = .box cs2∧cs2[j]? = Xa x:=by
 obtain ⟨cs2,y,h1,h2,h3⟩:=Zhf hT hd hk hx;rw [ZlX hno h3] at h2;exact ⟨cs2,h1,h2⟩
theorem Zdu {T':Odr} {P:Program} {o:Oper} {σ:Nat→AV} {x:AV} {d:Nat} {cs:List AV} (hd:σ d = .box cs)
  (h:∀ σ',T'.rel σ σ'→∃ cs2,σ' d = .box cs2∧∀ σ2,(∀ i,i≠d→σ2 i=σ i)→σ2 d = .box cs2→Js P o σ2 x [] [d]):Ku T' P o σ x [] []:=by
 intro c hc σ' tm w lim X hid hag hrel hsim next Q hn;obtain ⟨cs2,h1,h2⟩:=h σ' hrel;refine h2 (fun i=>if i=d then σ' d else σ i) (fun i hi=>if_neg hi) (by simp [h1]) c hc σ' tm w lim X (fun t ht=>?_) (fun t ht=>?_) hsim next Q hn
 ·by_cases htd:t=d
  ·subst htd;simp only [if_true];exact .inl rfl
  ·simp only [if_neg htd];exact hid t ht
 ·have htd:t=d:=by simpa using ht
  subst htd;simp
theorem Zd8 {P:Program} {σ σ2:Nat→AV} {d:Nat} {cs cs2:List AV} (hd:σ d = .box cs) (h1:∀ i,i≠d→σ2 i=σ i) (h2:σ2 d = .box cs2) (a:Operand):Zo P σ2 a=Zo P σ a:=
 ZJ fun t _=>by
  by_cases htd:t=d
  ·subst htd;exact .inr ⟨⟨cs,hd⟩,⟨cs2,h2⟩⟩
  ·exact .inl (h1 t htd)
theorem ZbE {T':Odr} {P:Program} {o:Oper} {σ:Nat→AV} {T:TypeId} {a:Operand} {d off:Nat} {cs:List AV} (ho:o.op = .load T a) (hT:Ji P T=Xa Xb)
  (ha:Zo P σ a = .ptr d off) (hd:σ d = .box cs) (hn:off+P.cellsOf T≤cs.length) (hnr:Zdg ((cs.drop off).take (P.cellsOf T))) (hwh:Whole ((cs.drop off).take (P.cellsOf T))) (h0:P.cellsOf T≠0) (hk:∀ j,j < P.cellsOf T→T'.kp d (off+j)=Xb) :
  Ku T' P o σ (.agg (((cs.drop off).take (P.cellsOf T)).map (YC P))) [] []:=by
 refine Zdu hd fun σ' hrel=>?_
 have hat:∀ j,j < P.cellsOf T→∃ cs2,σ' d = .box cs2∧cs2[off+j]? = cs[off+j]?:=fun j hj=>by
  obtain ⟨cs2,h1,h2⟩:=ZlI hrel hd (hk j hj) (Xp (show off+j < cs.length by omega)) (hnr _ (Xm (i:=j) (by rw [XC,if_pos hj,XP];exact Xp (show off+j < cs.length by omega))));exact ⟨cs2,h1,h2.trans (Xp (by omega)).symm⟩
 obtain ⟨cs2,h1,_⟩:=hat 0 (by omega)
 have hat2:∀ j,j < P.cellsOf T→cs2[off+j]? = cs[off+j]?:=fun j hj=>by
  obtain ⟨cs3,h3,h4⟩:=hat j hj;rw [h1] at h3
  cases h3
  exact h4
 have hlen:off+P.cellsOf T≤cs2.length:=by
  have:=hat2 (P.cellsOf T-1) (by omega);rw [Xp (show off+(P.cellsOf T-1) < cs.length by omega)] at this;have:=(Xk.1 this).1;omega
 have he:(cs2.drop off).take (P.cellsOf T)=(cs.drop off).take (P.cellsOf T):=by
  apply Wo;intro j;rw [XC,XC];split
  ·rename_i hj;rw [XP,XP];exact hat2 j hj
  ·rfl
 refine ⟨cs2,h1,fun σ2 g1 g2=>?_⟩;rw [← he] at hnr hwh ⊢;exact Zbd ho hT ((Zd8 hd g1 g2 a).trans ha) g2 hlen hnr hwh
theorem Za1 {T':Odr} {P:Program} {o:Oper} {σ:Nat→AV} {T:TypeId} {a:Operand} {d off:Nat} {cs:List AV} {x:AV} (ho:o.op = .load T a) (hT:Ji P T=Xa Xe)
  (ha:Zo P σ a = .ptr d off) (hd:σ d = .box cs) (hx:cs[off]? = Xa x) (hnr:∀ e xs,x≠.own Xb e xs) (hwh:x≠.gone) (hk:T'.kp d off=Xb):Ku T' P o σ (YC P x) [] []:=by
 refine Zdu hd fun σ' hrel=>?_;obtain ⟨cs2,h1,h2⟩:=ZlI hrel hd hk hx hnr;exact ⟨cs2,h1,fun σ2 g1 g2=>K4 ho hT ((Zd8 hd g1 g2 a).trans ha) g2 h2 hnr hwh⟩
theorem Zca {P:Program} {w:World} {lim:Lm} {X:Nat→Nat→Option Nat} {σ:Nat→AV} {k:Nat} {cs:List AV} {v:Value} (h:ZS P w lim X σ k (.eptr cs) v) :
  ∃ (b o:Nat) (us:List Value),v = .pointer (Xa ⟨b,o,Xc⟩)∧us.length=cs.length∧(us≠[]→o+us.length≤lim b)∧
   (∀ (j:Nat) (u:Value),us[j]? = Xa u→w.cell? ⟨b,o+j,Xc⟩=Xa u)∧(∀ c∈cs,c.isCell=Xb)∧
   ∀ (j:Nat) (c:AV) (u:Value),cs[j]? = Xa c→us[j]? = Xa u→Rep w lim c u:=h
theorem ZeH {P:Program} {o:Oper} {σ:Nat→AV} {T:TypeId} {a:Operand} {cs:List AV} (ho:o.op = .load T a) (hT:Ji P T=Xa Xb)
  (ha:Zo P σ a = .eptr cs) (hn:P.cellsOf T≤cs.length):Js P o σ (.agg (cs.take (P.cellsOf T))) [] []:=by
 refine Zq [] rfl fun c hc σ' tm w lim X hg hfp hsim=>?_;rw [ho] at hg;obtain ⟨b,off,us,h1,h2,h3,h4,h5,h6⟩:=Zca (Yf hc hsim ha (hg a (by simp [Op.operands])));refine ⟨.agg (us.take (P.cellsOf T)).toArray,?_,?_⟩
 ·have:=V4 (w:=w) (b:=b) (off:=off) (us:=us.take (P.cellsOf T)) hT (by simp [h2];omega) (fun j u hj=>h4 j u (by
   rw [XC] at hj;split at hj
   ·exact hj
   ·cases hj))
  simp [execOp,ho,h1,this]
 ·refine .agg (by simp [h2]) (fun x hx=>h5 x (XR hx)) fun i x u hx hu=>?_;rw [XC] at hx hu;split at hx
  ·rename_i hlt;rw [if_pos hlt] at hu;exact h6 i x u hx hu
  ·cases hx
theorem Zed {P:Program} {o:Oper} {σ:Nat→AV} {T:TypeId} {a:Operand} {x:AV} {cs:List AV} (ho:o.op = .load T a) (hT:Ji P T=Xa Xe)
  (ha:Zo P σ a = .eptr (x::cs)):Js P o σ x [] []:=by
 intro c hc σ' tm w lim X hid hag hsim next Q hn;have hg:Zo P σ' a=Zo P σ a:=ZJ fun t ht=>hid t (by simp [Zu (o:=o) (x:=a) (by rw [ho];simp [Op.operands]) ht]);obtain ⟨b,off,us,h1,h2,h3,h4,h5,h6⟩:=Zca (Yf hc hsim ha hg)
 obtain ⟨u,us',rfl⟩:∃ u us',us=u::us':=by
  cases us with
  | nil => simp at h2
  | cons u us' => exact ⟨u, us', rfl⟩
 have hcell:=h4 0 u rfl;rw [Uh] at hcell;obtain ⟨p1,p2⟩:=YT (P:=P) (X:=X) (σ:=σ') (k:=0) (h5 x (by simp)) (h6 0 x u rfl rfl);refine Zj (v:=u) ?_ (hn u w (Zw hsim p1 (k:=0) (by rw [hc];exact p2)));simp [execOp,ho,h1,J7 hT hcell]
theorem ZbB {P:Program} {T:TypeId} {f off:Nat} (h:Yg P T f=Xa off) :
  ∃ fs fd,P.underlying T=Xa (.struct fs)∧fs[f]? = Xa fd∧fd.offset=off∧P.cellsOf fd.type≠0:=by
 unfold Yg at h;split at h
 ·rename_i fs hu;split at h
  ·rename_i fd hf;split at h
   ·cases h
   ·rename_i hz;exact ⟨fs,fd,hu,hf,by simpa using h,hz⟩
  ·cases h
 ·cases h
theorem V1 {P:Program} {T:TypeId} {f off b o:Nat} (h:Yg P T f=Xa off) (w:World) :
  (Instr.fieldAt T (.pointer (Xa ⟨b,o,Xc⟩)) f).run P w = .ok (.pointer (Xa ⟨b,o+off,Xc⟩)) w:=by
 obtain ⟨fs,fd,h1,h2,h3,h4⟩:=ZbB h;obtain ⟨i,hi⟩:=Zx h4;simp [Instr.fieldAt,run_underlying h1,h2,Instr.sureAddr,fieldPlace,Zs hi,h4,Jr,h3]
theorem ZeP {P:Program} {o:Oper} {σ:Nat→AV} {T:TypeId} {x:Operand} {f off d p:Nat} (ho:o.op = .fieldAddr T x f) (hf:Yg P T f=Xa off)
  (hx:Zo P σ x = .ptr d p):Js P o σ (.ptr d (p+off)) [] []:=by
 refine Zq [] rfl fun c hc σ' tm w lim X hg hfp hsim=>?_;rw [ho] at hg;obtain ⟨b,cs,h1,h2,h3⟩:=Yf hc hsim hx (hg x (by simp [Op.operands]));exact ⟨.pointer (Xa ⟨b,p+off,Xc⟩),by simp [execOp,ho,h3,V1 hf],b,cs,h1,h2,rfl⟩
theorem ZdX {P:Program} {o:Oper} {σ:Nat→AV} {T e:TypeId} {x:Operand} {f off d k p:Nat} {xs:List (List AV)} (ho:o.op = .fieldAddr T x f) (hf:Yg P T f=Xa off)
  (hx:Zo P σ x = .eref d k p) (hd:Zy (σ d) k=Xa (e,xs)) (hm:Zm P e=Xe∨Zn P e=Xb):Js P o σ (.eref d k (p+off)) [] [d]:=by
 refine Zq [d] rfl fun c hc σ' tm w lim X hg hfp hsim=>?_;rw [ho] at hg;obtain ⟨b,e',xs',h1,h2,h3⟩:=Yf hc hsim hx (hg x (by simp [Op.operands]));have hd':Zy (σ' d) k=Xa (e,xs):=by rw [hfp d (by simp),hd]
 have he:=h1.symm.trans hd';simp only [Xf,Xt] at he;obtain ⟨rfl,rfl⟩:=he;exact ⟨.pointer (Xa ⟨b,p+off,Xc⟩),by simp [execOp,ho,h3.ptr hm,V1 hf],b,_,_,h1,h2,.inl ⟨hm,rfl⟩⟩
theorem Zdt {P:Program} {o:Oper} {σ:Nat→AV} {T:TypeId} {x:Operand} {f off:Nat} {cs:List AV} (ho:o.op = .fieldAddr T x f) (hf:Yg P T f=Xa off)
  (hx:Zo P σ x = .eptr cs):Js P o σ (.eptr (cs.drop off)) [] []:=by
 refine Zq [] rfl fun c hc σ' tm w lim X hg hfp hsim=>?_;rw [ho] at hg;obtain ⟨b,p,us,h1,h2,h3,h4,h5,h6⟩:=Zca (Yf hc hsim hx (hg x (by simp [Op.operands])));refine ⟨.pointer (Xa ⟨b,p+off,Xc⟩),by simp [execOp,ho,h1,V1 hf],b,p+off,us.drop off,rfl,by simp [h2],fun hne=>?_,fun j u hj=>?_,fun y hy=>h5 y (XY hy),fun j y u hy hu=>?_⟩
 ·have hl:off < us.length:=by
   rcases XG off us.length with h | h
   ·exact h
   ·exact (hne (List.drop_eq_nil_of_le h)).elim
  have:=h3 (by intro e;subst e;simp at hl);simp only [Ui];omega
 ·rw [XP] at hj;have:=h4 _ u hj
  rwa [← Wu] at this
 ·rw [XP] at hy hu;exact h6 _ y u hy hu
theorem VO {P:Program} {o:Oper} {σ:Nat→AV} {x:Operand} {y:AV} (ho:o.op = .nilCheck x) (hx:Zo P σ x=y) {fp:List Nat} (hy:(∃ d p,y = .ptr d p)∨(∃ cs,y = .eptr cs)∨∃ d k p e xs,y = .eref d k p∧Zy (σ d) k=Xa (e,xs)∧(Zm P e=Xe∨Zn P e=Xb)∧d∈fp):Js P o σ y [] fp:=by
 have hp:y.plain=Xb:=by rcases hy with ⟨d,p,rfl⟩ | ⟨cs,rfl⟩ | ⟨d,k,p,e,xs,rfl,_⟩ <;> rfl
 refine Zq fp hp fun c hc σ' tm w lim X hg hfp hsim=>?_;rw [ho] at hg;have hv:=Yf hc hsim hx (hg x (by simp [Op.operands]));refine ⟨Act.eval ⟨tm,[]⟩ x,?_,hv⟩
 have:∃ a,Act.eval ⟨tm,[]⟩ x = .pointer (Xa a):=by
  rcases hy with ⟨d,p,rfl⟩ | ⟨cs,rfl⟩ | ⟨d,k,p,e,xs,rfl,hd,hm,hfd⟩
  ·obtain ⟨b,cs,h1,h2,h3⟩:=hv;exact ⟨_,h3⟩
  ·obtain ⟨b,p,us,h1,_⟩:=hv;exact ⟨_,h1⟩
  ·obtain ⟨b,e',xs',h1,h2,h3⟩:=hv;rw [hfp d (by simp [hfd]),hd] at h1;simp only [Xf,Xt] at h1;obtain ⟨rfl,rfl⟩:=h1;exact ⟨_,h3.ptr hm⟩
 obtain ⟨a,ha⟩:=this;simp [execOp,ho,ha]
theorem ZeC {P:Program} {o:Oper} {σ:Nat→AV} {cl:Call} {x:Operand} {T e:TypeId} {f:Bool} {s:Nat} {xs:List (List AV)} (ho:o.op = .call cl) (hcl:cl.callee = .builtin .len)
  (hargs:cl.args.toList = [x]) (hts:cl.argTypes.toList = [T]) (hT:P.underlying T=Xa (.slice e)) (hx:Zo P σ x = .slice f s xs):Js P o σ (.val (.int .i64 xs.length)) [] []:=by
 have hargs':cl.args = #[x]:=by apply XK.1;rw [hargs]
 have hts':cl.argTypes = #[T]:=by apply XK.1;rw [hts]
 refine Zq [] rfl fun c hc σ' tm w lim X hg hfp hsim=>⟨.int .i64 xs.length,?_,.val rfl⟩;rw [ho] at hg;have hv:=Yf hc hsim hx (hg x (by simp [Op.operands,Call.operands,hargs',hcl]))
 have:∃ a cap,Act.eval ⟨tm,[]⟩ x = .slice a xs.length cap:=by
  have hv':Rep w lim (.slice f s xs) (Act.eval ⟨tm,[]⟩ x):=hv;generalize Act.eval ⟨tm,[]⟩ x=u at hv'
  cases hv' with
  | sliceN => exact ⟨Xc, 0, rfl⟩
  | sliceE _ => exact ⟨_, _, rfl⟩
  | sliceC => exact ⟨_, _, rfl⟩
 obtain ⟨a,cap,ha⟩:=this;simp [execOp,ho,hcl,resolve,hargs',hts',invoke,builtin,Builtin.len_,run_underlying hT,ha,goInt]
theorem Zix {P:Program} {o:Oper} {σ:Nat→AV} {cl:Call} {x:Operand} {T:TypeId} {s:ByteArray} (ho:o.op = .call cl) (hcl:cl.callee = .builtin .len)
  (hargs:cl.args.toList = [x]) (hts:cl.argTypes.toList = [T]) (hT:P.underlying T=Xa .string) (hx:Zo P σ x = .val (.string s)):Js P o σ (.val (.int .i64 s.size)) [] []:=by
 have hargs':cl.args = #[x]:=by apply XK.1;rw [hargs]
 have hts':cl.argTypes = #[T]:=by apply XK.1;rw [hts]
 refine Zq [] rfl fun c hc σ' tm w lim X hg hfp hsim=>⟨.int .i64 s.size,?_,.val rfl⟩;rw [ho] at hg;have hv:=Z6 hc hsim hx (hg x (by simp [Op.operands,Call.operands,hargs',hcl]));simp [execOp,ho,hcl,resolve,hargs',hts',invoke,builtin,Builtin.len_,run_underlying hT,hv,goInt]
theorem Wp (xs:List (List AV)) (s:Nat) (hs:∀ x∈xs,x.length=s):∀ (n:Nat) (e:List AV),xs[n]? = Xa e→∀ j,j < s→xs.flatten[n*s+j]? = e[j]?:=by
 induction xs with
 | nil => intro n e h; simp at h
 | cons x xs ih =>
  intro n e h j hj;have hx:x.length=s:=hs x (by simp)
  cases n with
  | zero =>
   simp at h;subst h;simp only [X9,Nat.zero_mul,XH];rw [Xx (by omega)]
  | succ n =>
   simp only [X9];rw [Xz (by rw [hx,Wh];omega)];have:(n+1)*s+j-x.length=n*s+j:=by rw [hx,Wh];omega
   rw [this];exact ih (fun y hy=>hs y (by simp [hy])) n e (by simpa using h) j hj
theorem Zhm {P:Program} {T:TypeId} {f off sz:Nat} {agg:Bool} (h:Yg P T f=Xa off) (hs:ZfP P T f=Xa (agg,sz)) :
  ∃ fs fd,P.underlying T=Xa (.struct fs)∧fs[f]? = Xa fd∧fd.offset=off∧Ji P fd.type=Xa agg∧P.cellsOf fd.type=sz:=by
 obtain ⟨fs,fd,h1,h2,h3,h4⟩:=ZbB h;unfold ZfP at hs;simp only [h1,h2] at hs
 cases ha:Ji P fd.type with
 | none => rw [ha] at hs; simp at hs
 | some a =>
  rw [ha] at hs;simp only [Xw,Xf,Xt] at hs;exact ⟨fs,fd,h1,h2,h3,by rw [ha,hs.1],hs.2⟩
theorem ZdE {P:Program} {o:Oper} {σ:Nat→AV} {T:TypeId} {x:Operand} {f off sz:Nat} {agg:Bool} {cs:List AV} {y:AV} (ho:o.op = .field T x f) (hf:Yg P T f=Xa off) (hs:ZfP P T f=Xa (agg,sz))
  (hx:Zo P σ x = .agg cs) (hl:off+sz≤cs.length) (hsz:0 < sz) (hy:(agg=Xb∧y = .agg ((cs.drop off).take sz))∨(agg=Xe∧cs[off]? = Xa y∧y.plain=Xb)):Js P o σ y [] []:=by
 obtain ⟨fs,fd,h1,h2,h3,h4,h5⟩:=Zhm hf hs
 have hp:y.plain=Xb:=by
  rcases hy with ⟨_,rfl⟩ | ⟨_,_,h⟩
  ·rfl
  ·exact h
 refine Zq [] hp fun c hc σ' tm w lim X hg hfp hsim=>?_;rw [ho] at hg;have hv:Rep w lim (.agg cs) (Act.eval ⟨tm,[]⟩ x):=Yf hc hsim hx (hg x (by simp [Op.operands]));generalize hu:Act.eval ⟨tm,[]⟩ x=u at hv
 cases hv with
 | @agg _ vs hl' hcell hr =>
  obtain ⟨inf,hinf⟩:=Zx (show P.cellsOf fd.type≠0 by omega);rcases hy with ⟨rfl,rfl⟩ | ⟨rfl,hy,_⟩
  ·refine ⟨.agg (vs.toArray.extract off (off+sz)),by simp [execOp,ho,hu,Instr.field,run_underlying h1,h2,part,Zan h4,Zs hinf,h3,h5,asAgg],?_⟩
   have e:(vs.toArray.extract off (off+sz))=((vs.drop off).take sz).toArray:=by
    apply XK.1;simp [List.take_drop]
   rw [e];refine Rep.agg (by simp;omega) (fun y hy=>hcell y (XY (XR hy))) fun i c' v' hc' hv'=>?_;rw [XC] at hc' hv';split at hc'
   ·rename_i hi;rw [if_pos hi] at hv';rw [XP] at hc' hv';exact hr _ _ _ hc' hv'
   ·cases hc'
  ·obtain ⟨v,hvv⟩:∃ v,vs[off]? = Xa v:=⟨_,Xp (by omega)⟩;refine ⟨v,by simp [execOp,ho,hu,Instr.field,run_underlying h1,h2,part,VD h4,h3,asAgg,hvv],?_⟩;have h6:=hr off y v hy hvv;have hc6:=hcell y (Xm hy)
   cases y<;>first | exact h6 | (simp [AV.isCell] at hc6)
theorem K8 {P:Program} {o:Oper} {σ:Nat→AV} {T el:TypeId} {x i:Operand} {m d p:Nat} {kd:IntKind} {z:Int} (ho:o.op = .indexAddr T x i) (hT:P.underlying T=Xa (.array m el)) (hs0:P.cellsOf el≠0)
  (hx:Zo P σ x = .ptr d p) (hi:Zo P σ i = .val (.int kd z)) (h0:0≤z) (h1:z < (m:Int)):Js P o σ (.ptr d (p+z.toNat*P.cellsOf el)) [] []:=by
 refine Zq [] rfl fun c hc σ' tm w lim X hg hfp hsim=>?_;rw [ho] at hg;obtain ⟨b,cs,g1,g2,g3⟩:=Yf hc hsim hx (hg x (by simp [Op.operands]));have hiv:=Z6 hc hsim hi (hg i (by simp [Op.operands]));obtain ⟨inf,hinf⟩:=Zx hs0;have hb:0≤z∧z < (m:Int):=⟨h0,h1⟩;exact ⟨.pointer (Xa ⟨b,p+z.toNat*P.cellsOf el,Xc⟩),by simp [execOp,ho,g3,hiv,Instr.indexAt,Instr.sureAddr,asIntOf,run_underlying hT,hb,Zs hinf,Jr],b,cs,g1,g2,rfl⟩
theorem Zmi {P:Program} {o:Oper} {σ:Nat→AV} {T el:TypeId} {x i:Operand} {f:Bool} {s:Nat} {xs:List (List AV)} {k:IntKind} {n:Int} {e:List AV} (ho:o.op = .indexAddr T x i)
  (hT:P.underlying T=Xa (.slice el)) (hs:s=P.cellsOf el) (hs0:P.cellsOf el≠0) (hx:Zo P σ x = .slice f s xs) (hi:Zo P σ i = .val (.int k n)) (h0:0≤n) (he:xs[n.toNat]? = Xa e) :
  Js P o σ (.eptr e) [] []:=by
 refine Zq [] rfl fun c hc σ' tm w lim X hg hfp hsim=>?_;rw [ho] at hg;have hv:Rep w lim (.slice f s xs) (Act.eval ⟨tm,[]⟩ x):=Yf hc hsim hx (hg x (by simp [Op.operands]));have hiv:=Z6 hc hsim hi (hg i (by simp [Op.operands]));generalize hu:Act.eval ⟨tm,[]⟩ x=u at hv;have hlt:n.toNat < xs.length:=(Xk.1 he).1
 cases hv with
 | sliceN => simp at hlt
 | sliceE _ => simp at hlt
 | @sliceC _ _ _ b p cap us hls hc1 hf hle hlim hus hcell hrep =>
  subst hs;obtain ⟨inf,hinf⟩:=Zx hs0;have hel:e.length=P.cellsOf el:=hls e (Xm he)
  have hmul:n.toNat*P.cellsOf el+P.cellsOf el≤xs.length*P.cellsOf el:=by
   rw [← Uk];exact XZ _ hlt
  refine ⟨.pointer (Xa ⟨b,p+n.toNat*P.cellsOf el,Xc⟩),?_,b,p+n.toNat*P.cellsOf el,(us.drop (n.toNat*P.cellsOf el)).take (P.cellsOf el),rfl,?_,fun _=>?_,fun j w' hj=>?_,hc1 e (Xm he),fun j y w' hy hw'=>?_⟩
  ·have hb:0≤n∧n < (xs.length:Int):=⟨h0,by omega⟩;simp [execOp,ho,hu,hiv,Instr.indexAt,asIntOf,run_underlying hT,hb,Zs hinf,Jr]
  ·simp [hus,hel];omega
  ·have:=hlim (by intro h;rw [h] at hus;simp at hus;omega);simp only [XU,Ui,hus] at this ⊢;omega
  ·rw [XC] at hj;split at hj
   ·rw [XP] at hj;have:=hcell _ w' hj
    rwa [← Wu] at this
   ·cases hj
  ·rw [XC] at hw';split at hw'
   ·rename_i hjlt;rw [XP] at hw';exact hrep _ y w' (by rw [Wp xs _ hls n.toNat e he j hjlt];exact hy) hw'
   ·cases hw'
theorem Zct (s:Nat):∀ (xs:List (List AV)) (l:Nat),(∀ x∈xs,x.length=s)→(xs.drop l).flatten=xs.flatten.drop (l*s)
 | xs, 0, _ => by simp
 | [], l + 1, _ => by simp
 | x :: xs, l + 1, h => by
  have hx:=h x (by simp);have ih:=Zct s xs l fun y hy=>h y (by simp [hy]);simp only [List.drop_succ_cons,X9,ih];have hd:(l+1)*s=x.length+l*s:=by rw [hx,Wh];omega
  rw [hd,← List.drop_drop];simp
theorem Zcy (s:Nat):∀ (xs:List (List AV)) (l:Nat),(∀ x∈xs,x.length=s)→(xs.take l).flatten=xs.flatten.take (l*s)
 | xs, 0, _ => by simp
 | [], l + 1, _ => by simp
 | x :: xs, l + 1, h => by
  have hx:=h x (by simp);have ih:=Zcy s xs l fun y hy=>h y (by simp [hy]);simp only [List.take_succ_cons,X9,ih];have hd:(l+1)*s=x.length+l*s:=by rw [hx,Wh];omega
  rw [hd,List.take_length_add_append]
theorem Zs5 {w:World} {lim:Lm} {f f':Bool} {s:Nat} {xs:List (List AV)} {a:Option Addr} {n cap:Nat} (h:Rep w lim (.slice f s xs) (.slice a n cap)) (l hh:Nat)
  (h1:l≤hh) (h2:hh≤xs.length) (hf':f'=Xb→cap=hh):n=xs.length∧xs.length≤cap∧
  Rep w lim (.slice f' s ((xs.take hh).drop l)) (.slice (if cap=l then a else a.map (·.add (l*s))) (hh-l) (cap-l)):=by
 cases h with
 | sliceN =>
  have h2':hh=0:=by simpa using h2
  subst h2';have h1':l=0:=by omega
  subst h1';exact ⟨rfl,Xy _,.sliceN⟩
 | @sliceE _ _ a _ hf =>
  have h2':hh=0:=by simpa using h2
  subst h2';have h1':l=0:=by omega
  subst h1';refine ⟨rfl,X5 _,?_⟩
  have he:(if cap=0 then Xa a else (Xa a).map (·.add (0*s)))=Xa a:=by
   split
   ·rfl
   ·simp [Addr.add]
  rw [he];exact .sliceE fun h=>by simpa using hf' h
 | @sliceC _ _ _ b o _ us hs hc hf hle hlim hus hcell hr =>
  refine ⟨rfl,hle,?_⟩;have hlen:((xs.take hh).drop l).length=hh-l:=by simp;omega
  have hs':∀ e∈(xs.take hh).drop l,e.length=s:=fun e he=>hs e (XR (XY he));have hc':∀ e∈(xs.take hh).drop l,∀ c∈e,c.isCell=Xb:=fun e he=>hc e (XR (XY he));rw [← hlen];by_cases hcl:cap=l
  ·have hnil:(xs.take hh).drop l = []:=X7 (by rw [hlen];omega);rw [if_pos hcl,hnil];exact .sliceC (xs:=[]) (us:=[]) (by simp) (by simp) (fun h=>by simp;omega) (by simp) (fun h=>(h rfl).elim) (by simp) (by simp) (by simp)
  ·rw [if_neg hcl];simp only [Xw,Jr]
   have hfl:((xs.take hh).drop l).flatten=(xs.flatten.take (hh*s)).drop (l*s):=by
    rw [Zct s _ l fun e he=>hs e (XR he),Zcy s xs hh hs]
   have hm1:l*s≤hh*s:=XZ _ h1;have hm2:hh*s≤xs.length*s:=XZ _ h2;refine .sliceC (us:=(us.take (hh*s)).drop (l*s)) hs' hc' (fun h=>by rw [hlen,hf' h]) (by rw [hlen];omega) (fun hne=>?_) ?_ (fun j u hj=>?_) fun j c u hcj huj=>?_
   ·have hne':us≠[]:=by intro e;subst e;simp at hne
    have:=hlim hne';have hpos:0 < ((us.take (hh*s)).drop (l*s)).length:=U4.2 hne;simp only [Ui,XU] at hpos ⊢;omega
   ·rw [hlen,Nat.sub_mul];simp only [Ui,XU];omega
   ·rw [XP,XC] at hj;split at hj
    ·have:=hcell _ u hj
     rwa [← Wu] at this
    ·cases hj
   ·rw [hfl,XP,XC] at hcj;rw [XP,XC] at huj;split at hcj
    ·rename_i hlt;rw [if_pos hlt] at huj;exact hr _ c u hcj huj
    ·cases hcj
theorem ZeS {w:World} {lim:Lm} {f:Bool} {s:Nat} {xs:List (List AV)} {v:Value} (h:Rep w lim (.slice f s xs) v) :
  ∃ a cap,v = .slice a xs.length cap∧(f=Xb→cap=xs.length):=by
 cases h with
 | sliceN => exact ⟨Xc, 0, rfl, fun _ => rfl⟩
 | sliceE hf => exact ⟨_, _, rfl, hf⟩
 | sliceC hs hc hf => exact ⟨_, _, rfl, hf⟩
theorem Zc4 {P:Program} {o:Oper} {σ:Nat→AV} {T e:TypeId} {x:Operand} {lo hi:Option Operand} {f f':Bool} {s:Nat} {xs:List (List AV)} {l h:Nat} (ho:o.op = .slice T x lo hi Xc)
  (hT:P.underlying T=Xa (.slice e)) (hs:s=P.cellsOf e) (hs0:P.cellsOf e≠0) (hx:Zo P σ x = .slice f s xs) (h1:l≤h) (h2:h≤xs.length)
  (hlo:(lo=Xc∧l=0)∨∃ y k,lo=Xa y∧Zo P σ y = .val (.int k l)) (hhi:(hi=Xc∧h=xs.length)∨∃ y k,hi=Xa y∧Zo P σ y = .val (.int k h))
  (hf:f'=Xb→f=Xb∧h=xs.length):Js P o σ (.slice f' s ((xs.take h).drop l)) [] []:=by
 refine Zq [] rfl fun c hc σ' tm w lim X hg hfp hsim=>?_;rw [ho] at hg;have hv:Rep w lim (.slice f s xs) (Act.eval ⟨tm,[]⟩ x):=Yf hc hsim hx (hg x (by simp [Op.operands]));obtain ⟨a,cap,ha,hcap⟩:=ZeS hv;rw [ha] at hv;obtain ⟨_,hle,hr⟩:=Zs5 (f':=f') hv l h h1 h2 (fun hf'=>by rw [hcap (hf hf').1,(hf hf').2]);obtain ⟨inf,hinf⟩:=Zx hs0;refine ⟨_,?_,hr⟩;have hl':∀ y k,lo=Xa y→Zo P σ y = .val (.int k l)→Act.eval ⟨tm,[]⟩ y = .int k l:=fun y k hy hk=>Z6 hc hsim hk (hg y (by simp [Op.operands,hy]));have hh':∀ y k,hi=Xa y→Zo P σ y = .val (.int k h)→Act.eval ⟨tm,[]⟩ y = .int k h:=fun y k hy hk=>Z6 hc hsim hk (hg y (by simp [Op.operands,hy]));have b1:h≤cap:=by omega
 rcases hlo with ⟨rfl,rfl⟩ | ⟨y,k,rfl,hy⟩ <;> rcases hhi with ⟨rfl,rfl⟩ | ⟨z,k',rfl,hz⟩
 ·simp [execOp,ho,ha,Instr.sliceAt,Instr.slice,Instr.sliceBounds,run_underlying hT,Zs hinf,hs]
 ·simp [execOp,ho,ha,Instr.sliceAt,Instr.slice,Instr.sliceBounds,Instr.sliceBound,asIntOf,run_underlying hT,Zs hinf,hh' z k' rfl hz,b1,hs]
 ·simp [execOp,ho,ha,Instr.sliceAt,Instr.slice,Instr.sliceBounds,Instr.sliceBound,asIntOf,run_underlying hT,Zs hinf,hl' y k rfl hy,h1,hs]
 ·simp [execOp,ho,ha,Instr.sliceAt,Instr.slice,Instr.sliceBounds,Instr.sliceBound,asIntOf,run_underlying hT,Zs hinf,hl' y k rfl hy,hh' z k' rfl hz,b1,h1,hs]
theorem Zmb {P:Program} {o:Oper} {σ:Nat→AV} {T e:TypeId} {x y z:Operand} {f:Bool} {s:Nat} {xs:List (List AV)} {k k':IntKind} (ho:o.op = .slice T x Xc (Xa y) (Xa z))
  (hT:P.underlying T=Xa (.slice e)) (hs0:P.cellsOf e≠0) (hx:Zo P σ x = .slice f s xs) (hy:Zo P σ y = .val (.int k 0)) (hz:Zo P σ z = .val (.int k' 0)):Js P o σ (.slice Xb s []) [] []:=by
 refine Zq [] rfl fun c hc σ' tm w lim X hg hfp hsim=>?_;rw [ho] at hg;have hv:Rep w lim (.slice f s xs) (Act.eval ⟨tm,[]⟩ x):=Yf hc hsim hx (hg x (by simp [Op.operands]));have hy':=Z6 hc hsim hy (hg y (by simp [Op.operands]));have hz':=Z6 hc hsim hz (hg z (by simp [Op.operands]));obtain ⟨inf,hinf⟩:=Zx hs0;generalize hu:Act.eval ⟨tm,[]⟩ x=u at hv
 cases hv with
 | sliceN =>
  refine ⟨.slice Xc 0 0,?_,.sliceN⟩;simp [execOp,ho,hu,hy',hz',Instr.sliceAt,Instr.slice,Instr.sliceBounds,Instr.sliceBound,asIntOf,run_underlying hT,Zs hinf]
 | @sliceE _ _ a cap hf =>
  refine ⟨.slice (Xa a) 0 0,?_,.sliceE (fun _=>rfl)⟩;simp [execOp,ho,hu,hy',hz',Instr.sliceAt,Instr.slice,Instr.sliceBounds,Instr.sliceBound,asIntOf,run_underlying hT,Zs hinf]
 | @sliceC _ _ _ b p cap us hls hc1 hf hle hlim hus hcell hrep =>
  refine ⟨.slice (Xa ⟨b,p,Xc⟩) 0 0,?_,.sliceC (xs:=[]) (us:=[]) (by simp) (by simp) (fun _=>rfl) (by simp) (fun h=>(h rfl).elim) (by simp) (by simp) (by simp)⟩;simp [execOp,ho,hu,hy',hz',Instr.sliceAt,Instr.slice,Instr.sliceBounds,Instr.sliceBound,asIntOf,run_underlying hT,Zs hinf]
def Zoy (xs:List (List AV)):Prop:=∀ e∈xs,∃ n:Int,0≤n∧n≤255∧e = [.val (.int .u8 n)]
theorem Zdj {w:World} {lim:Lm} : ∀ (xs:List (List AV)) (us:List Value),Zoy xs→us.length=xs.length→
  (∀ (j:Nat) (c:AV) (u:Value),xs.flatten[j]? = Xa c→us[j]? = Xa u→Rep w lim c u)→
  ∃ ns:List Int,us=ns.map (Value.int .u8)∧xs.map (fun e=>(ZrL e).getD 0)=ns.map fun n=>UInt8.ofNat n.toNat
 | [], us, _, hl, _ => by
  have:us = []:=X7 (by simpa using hl);subst this;exact ⟨[],rfl,rfl⟩
 | x :: xs, us, hb, hl, hr => by
  obtain ⟨n,h0,h1,rfl⟩:=hb x (by simp)
  cases us with
  | nil => simp at hl
  | cons u us =>
   obtain ⟨ns,h2,h3⟩:=Zdj (w:=w) (lim:=lim) xs us (fun e he=>hb e (by simp [he])) (by simpa using hl) (fun j c u' hc hu=>hr (j+1) c u' (by simpa using hc) (by simpa using hu));have:=YU (hr 0 (.val (.int .u8 n)) u (by simp) rfl);exact ⟨n::ns,by simp [this,h2],by rw [Xh,Xh,h3];rfl⟩
theorem ZmJ (ns:List Int):∀ (s:ByteArray),ns.foldl (fun r n=>r.push (UInt8.ofNat n.toNat)) s=⟨s.data++(ns.map fun n=>UInt8.ofNat n.toNat).toArray⟩:=by
 induction ns with
 | nil => intro s; simp
 | cons n ns ih =>
  intro s;simp only [List.foldl_cons,ih,Xh];congr 1;show (s.data.push (UInt8.ofNat n.toNat))++_=_;apply XK.1;simp
theorem ZmK {P:Program} {o:Oper} {σ:Nat→AV} {S T e:TypeId} {x:Operand} {f:Bool} {xs:List (List AV)} (ho:o.op = .convert S T x)
  (hS:P.underlying S=Xa (.slice e)) (he:P.underlying e=Xa (.int .u8)) (hT:P.underlying T=Xa .string) (hx:Zo P σ x = .slice f 1 xs) (hb:Zoy xs) :
  Js P o σ (.val (.string (Zg4 xs))) [] []:=by
 refine Zq [] rfl fun c hc σ' tm w lim X hg hfp hsim=>⟨.string (Zg4 xs),?_,.val rfl⟩;rw [ho] at hg;have hv:Rep w lim (.slice f 1 xs) (Act.eval ⟨tm,[]⟩ x):=Yf hc hsim hx (hg x (by simp [Op.operands]));generalize hu:Act.eval ⟨tm,[]⟩ x=u at hv
 cases hv with
 | sliceN =>
  simp only [execOp,ho,hu,Sem.run_bind,run_convert_bytes_string w S T e Xc 0 0 hS he hT];rfl
 | @sliceE _ _ a cap hf =>
  have hl:=run_loadCells_list (P:=P) w a [] (fun j v hj=>by simp at hj);simp only [execOp,ho,hu,Sem.run_bind,run_convert_bytes_string w S T e _ _ _ hS he hT,run_bytesToString w a 0 cap [] hl,Result.andThen_ok,Sem.run_pure];rfl
 | @sliceC _ _ _ b p cap us hls hc1 hf hle hlim hus hcell hrep =>
  obtain ⟨ns,h1,h2⟩:=Zdj xs us hb (by rw [hus];omega) hrep;subst h1;have hl:=run_loadCells_list (P:=P) w ⟨b,p,Xc⟩ (ns.map (Value.int .u8)) (fun j v hj=>by rw [Jr];exact hcell j v hj);rw [hus,Nat.mul_one] at hl;simp only [execOp,ho,hu,Sem.run_bind,run_convert_bytes_string w S T e _ _ _ hS he hT,run_bytesToString w ⟨b,p,Xc⟩ xs.length cap ns hl,Result.andThen_ok,Sem.run_pure];rw [ZmJ];have he:ByteArray.empty.data = #[]:=rfl;simp only [Zg4,h2,he,Array.empty_append]
theorem VI (w:World) (lim:Lm) (arr:Array Value) (t:TypeId) (n:Nat) (S:Nat→Prop) :
  Jh w lim (w.alloc (.cells arr t)) ⟨fun b=>if b=w.heap.size then n else lim b,lim.t⟩ S where
 os:=rfl
 tape:=rfl
 output:=rfl
 size:=by simp
 frz a _:=RowKit.frozen?_alloc_cells w arr t a
 blk b hb _:=⟨heap_alloc_old w _ hb,if_neg (by omega)⟩
 ext:=⟨fun b hb=>⟨by show lim b≤if b=w.heap.size then n else lim b;rw [if_neg (by omega)];exact Xy _,fun o u _ hu=>by rw [World.cell?_alloc_lt w _ _ hb];exact hu⟩,fun _ _ h=>h⟩
theorem Yh (w:World) (arr:Array Value) (t:TypeId):(w.alloc (.cells arr t)).heap[w.heap.size]? = Xa (.cells arr t (0,0)):=heap_alloc_new w _
def JI (w:World) (lim:Lm) (cs:List AV) (us:List Value):Prop:=
 cs.length=us.length∧(∀ c∈cs,c.isCell=Xb)∧∀ (i:Nat) (c:AV) (u:Value),cs[i]? = Xa c→us[i]? = Xa u→Rep w lim c u
theorem JI.nil (w:World) (lim:Lm):JI w lim [] []:=⟨rfl,by simp,by simp⟩
theorem JI.one {w:World} {lim:Lm} {c:AV} {u:Value} (hc:c.isCell=Xb) (h:Rep w lim c u):JI w lim [c] [u]:=
 ⟨rfl,by simp [hc],fun i c' u' h1 h2=>by
  cases i with
  | zero => simp at h1 h2; subst h1; subst h2; exact h
  | succ i => simp at h1⟩
theorem JI.append {w:World} {lim:Lm} {cs ds:List AV} {us vs:List Value} (h:JI w lim cs us) (k:JI w lim ds vs):JI w lim (cs++ds) (us++vs):=by
 refine ⟨by simp [h.1,k.1],fun c hc=>(Xv.1 hc).elim (h.2.1 c) (k.2.1 c),fun i c u hc hu=>?_⟩;by_cases hi:i < cs.length
 ·rw [Xx hi] at hc;rw [Xx (by rw [← h.1];exact hi)] at hu;exact h.2.2 i c u hc hu
 ·rw [Xz (by omega)] at hc;rw [Xz (by rw [← h.1];omega)] at hu;rw [← h.1] at hu;exact k.2.2 _ c u hc hu
theorem JI.take {w:World} {lim:Lm} {cs:List AV} {us:List Value} (h:JI w lim cs us) (n:Nat):JI w lim (cs.take n) (us.take n):=by
 refine ⟨by simp [h.1],fun c hc=>h.2.1 c (XR hc),fun i c u hc hu=>?_⟩;rw [XC] at hc hu;split at hc
 ·rename_i hlt;rw [if_pos hlt] at hu;exact h.2.2 i c u hc hu
 ·cases hc
theorem JI.drop {w:World} {lim:Lm} {cs:List AV} {us:List Value} (h:JI w lim cs us) (n:Nat):JI w lim (cs.drop n) (us.drop n):=by
 refine ⟨by simp [h.1],fun c hc=>h.2.1 c (XY hc),fun i c u hc hu=>?_⟩;rw [XP] at hc hu;exact h.2.2 _ c u hc hu
theorem JI.mono {w w':World} {lim lim':Lm} {cs:List AV} {us:List Value} (h:JI w lim cs us) (he:Ext w lim w' lim'):JI w' lim' cs us:=
 ⟨h.1,h.2.1,fun i c u hc hu=>(h.2.2 i c u hc hu).mono he⟩
def AV.cells? : AV→Option (List AV)
 | .agg cs => Xa cs
 | .val v => Xa [.val v]
 | .slice f s xs => Xa [.slice f s xs]
 | .oref j o => Xa [.oref j o]
 | .osl e j n => Xa [.osl e j n]
 | .omap j => Xa [.omap j]
 | .fnc g js => Xa [.fnc g js]
 | _ => Xc
theorem Vw {P:Program} {w:World} {lim:Lm} {X:Nat→Nat→Option Nat} {σ:Nat→AV} {k:Nat} {x:AV} {v:Value} {cs:List AV} (hx:x.cells? = Xa cs) (h:ZS P w lim X σ k x v) :
  ∃ us:List Value,v.cells=us.toArray∧JI w lim cs us:=by
 cases x with
 | agg ds =>
  simp only [AV.cells?,Xf] at hx;subst hx;have h':Rep w lim (.agg ds) v:=h
  cases h' with
  | agg hl hc hr => exact ⟨_, rfl, hl, hc, hr⟩
 | val u =>
  simp only [AV.cells?,Xf] at hx;subst hx;have h':Rep w lim (.val u) v:=h;refine ⟨[v],?_,JI.one rfl h'⟩
  cases h' with
  | val hs => cases v <;> simp [ZfH] at hs <;> rfl
 | slice f s xs =>
  simp only [AV.cells?,Xf] at hx;subst hx;have h':Rep w lim (.slice f s xs) v:=h;refine ⟨[v],?_,JI.one rfl h'⟩
  cases h'<;>rfl
 | oref j o =>
  simp only [AV.cells?,Xf] at hx;subst hx;have h':Rep w lim (.oref j o) v:=h;refine ⟨[v],?_,JI.one rfl h'⟩
  cases h'<;>rfl
 | osl e j n =>
  simp only [AV.cells?,Xf] at hx;subst hx;have h':Rep w lim (.osl e j n) v:=h;refine ⟨[v],?_,JI.one rfl h'⟩
  cases h'<;>rfl
 | omap j =>
  simp only [AV.cells?,Xf] at hx;subst hx;have h':Rep w lim (.omap j) v:=h;refine ⟨[v],?_,JI.one rfl h'⟩
  cases h'<;>rfl
 | fnc g js =>
  simp only [AV.cells?,Xf] at hx;subst hx;have h':Rep w lim (.fnc g js) v:=h;refine ⟨[v],?_,JI.one rfl h'⟩
  cases h'<;>rfl
 | _ => simp [AV.cells?] at hx
theorem JX {w:World} {lim:Lm} {vs:List Value} {cs:List AV} (h:ZaL vs=Xa cs):JI w lim cs vs:=ZbD h
theorem ZhN (off:Nat):∀ (l:List Value) (k:Nat) (cs:Array Value),off+k+l.length≤cs.size→
  (l.zipIdx k).foldl (fun cs p=>cs.setIfInBounds (off+p.2) p.1) cs=(cs.toList.take (off+k)++l++cs.toList.drop (off+k+l.length)).toArray
 | [], k, cs, _ => by simp
 | v :: l, k, cs, h => by
  simp only [List.zipIdx_cons,List.foldl_cons];simp only [XA] at h;rw [ZhN off l (k+1) (cs.setIfInBounds (off+k) v) (by simp;omega)];simp only [Array.toList_setIfInBounds];congr 1;have:=list_seg_step cs.toList (off+k) v l (by simp;omega);rw [← Wu];exact this
theorem Zj7 (off:Nat) (l:List Value) (cs:Array Value) (h:off+l.length≤cs.size) :
  (l.toArray.zipIdx.foldl (fun cs (p:Value×Nat)=>cs.setIfInBounds (off+p.2) p.1) cs)=(cs.toList.take off++l++cs.toList.drop (off+l.length)).toArray:=by
 rw [← Array.foldl_toList];have:=ZhN off l 0 cs (by simpa using h);simpa using this
def ZaM (place:Nat→Option (Nat×Nat)):List AV→List (Nat×AV)→Option (List AV)
 | cells, [] => Xa cells
 | cells, (i, v) :: rest =>
  match place i,v.cells? with
  | some (off, size), Xa vc =>
   if vc.length=size∧off+size≤cells.length then ZaM place (cells.take off++vc++cells.drop (off+size)) rest else Xc
  | _, _ => Xc
theorem ZcQ {P:Program} {w:World} {lim:Lm} {X:Nat→Nat→Option Nat} {σ:Nat→AV} {k:Nat} {place:Nat→Option (Nat×Nat)} :
  ∀ (parts:List (Nat×AV)) (vparts:List (Nat×Value)) (cells:List AV) (us:List Value) (out:List AV),JI w lim cells us→
   parts.length=vparts.length→(∀ (i:Nat) (p:Nat×AV) (q:Nat×Value),parts[i]? = Xa p→vparts[i]? = Xa q→p.1=q.1∧ZS P w lim X σ k p.2 q.2)→
   ZaM place cells parts=Xa out→∃ us',Instr.fill place us.toArray vparts=Xa us'.toArray∧JI w lim out us'
 | [], vparts, cells, us, out, hr, hl, _, hf => by
  have:vparts = []:=X7 (by simpa using hl.symm);subst this;simp only [ZaM,Xf] at hf;subst hf;exact ⟨us,rfl,hr⟩
 | (i, x) :: parts, vparts, cells, us, out, hr, hl, hp, hf => by
  cases vparts with
  | nil => simp at hl
  | cons q vparts =>
   obtain ⟨i',v⟩:=q;obtain ⟨rfl,hx⟩:=hp 0 (i,x) (i',v) rfl rfl;simp only [ZaM] at hf;split at hf
   ·rename_i off size vc hpl hvc;split at hf
    ·rename_i hcond;obtain ⟨us1,hus1,hrel1⟩:=Vw hvc hx;have hlen:us1.length=size:=by rw [← hrel1.1];exact hcond.1
     have hfit:off+us1.length≤us.length:=by rw [hlen,← hr.1];exact hcond.2
     have hz:=Zj7 off us1 us.toArray (by simpa using hfit);simp only at hz;rw [hlen] at hz;have hnew:JI w lim (cells.take off++vc++cells.drop (off+size)) (us.take off++us1++us.drop (off+size)):=((hr.take off).append hrel1).append (hr.drop (off+size));obtain ⟨us',h1,h2⟩:=ZcQ parts vparts _ _ out hnew (by simpa using hl) (fun j p q hj hq=>hp (j+1) p q (by simpa using hj) (by simpa using hq)) hf;refine ⟨us',?_,h2⟩;simp only [Instr.fill,hpl,hus1];rw [if_neg (by simp [hlen];rw [← hlen];exact hfit)];rw [hz];exact h1
    ·cases hf
   ·cases hf
theorem Zfx {P:Program} (w:World) (fs:Array Field) (h:(fs.toList.all fun f=>(P.info? f.type).isSome)=Xb) :
  (fs.mapM fun f=>do pure (f.offset,← sizeOf f.type):Sem (Array (Nat×Nat))).run P w = .ok (fs.map fun f=>(f.offset,P.cellsOf f.type)) w:=by
 rw [Array.mapM_eq_mapM_toList]
 have key:∀ (l:List Field),(l.all fun f=>(P.info? f.type).isSome)=Xb→
   (l.mapM fun f=>do pure (f.offset,← sizeOf f.type):Sem (List (Nat×Nat))).run P w = .ok (l.map fun f=>(f.offset,P.cellsOf f.type)) w:=by
  intro l
  induction l with
  | nil => intro _; simp
  | cons f l ih =>
   intro hl;simp only [List.all_cons,Xs] at hl;obtain ⟨i,hi⟩:=Option.isSome_iff_exists.1 hl.1;have ih':=ih hl.2;simp only [List.mapM_cons,Sem.run_bind,Zs hi,Result.andThen_ok,Sem.run_pure,Xh];rw [ih'];rfl
 simp only [Sem.run_map,key fs.toList h,Result.andThen_ok];congr 1;apply XK.1;simp
theorem Zcj {P:Program} {c:Ctx} (hc:c.P=P) {σ σ':Nat→AV} {tm:Array Value} {w:World} {lim:Lm} {X:Nat→Nat→Option Nat} (h:Sim c σ' tm w lim X) (parts:Array (Nat×Operand))
  (hg:∀ p∈parts.toList,Zo P σ' p.2=Zo P σ p.2) :
  (parts.toList.map fun p=>(p.1,Zo P σ p.2)).length=((parts.map fun p=>(p.1,Act.eval ⟨tm,[]⟩ p.2)).toList).length∧
  ∀ (i:Nat) (p:Nat×AV) (q:Nat×Value),(parts.toList.map fun p=>(p.1,Zo P σ p.2))[i]? = Xa p→((parts.map fun p=>(p.1,Act.eval ⟨tm,[]⟩ p.2)).toList)[i]? = Xa q→p.1=q.1∧ZS P w lim X σ' 0 p.2 q.2:=by
 refine ⟨by simp,fun i p q hp hq=>?_⟩;rw [Array.toList_map] at hq;rw [Xl] at hp hq
 cases hx:parts.toList[i]? with
 | none => rw [hx] at hp; cases hp
 | some x =>
  rw [hx] at hp hq;simp only [Xw,Xf] at hp hq;subst hp;subst hq;have hm:x∈parts.toList:=Xm hx;have:=(K0 h x.2 0).2;rw [hc,hg x hm] at this;exact ⟨rfl,this⟩
theorem Zmq {P:Program} {o:Oper} {σ:Nat→AV} {T:TypeId} {parts:Array (Nat×Operand)} {fs:Array Field} {i:TypeInfo} {z:Value} {zc cs:List AV} (ho:o.op = .build T parts)
  (hT:P.underlying T=Xa (.struct fs)) (hi:P.info? T=Xa i) (hz:i.zero=Xa z) (hzc:ZaL z.cells.toList=Xa zc) (hall:(fs.toList.all fun f=>(P.info? f.type).isSome)=Xb)
  (hf:ZaM (fun i=>(fs[i]?).map fun f=>(f.offset,P.cellsOf f.type)) zc (parts.toList.map fun p=>(p.1,Zo P σ p.2))=Xa cs):Js P o σ (.agg cs) [] []:=by
 refine Zq [] rfl fun c hc σ' tm w lim X hg hfp hsim=>?_;rw [ho] at hg
 have hg':∀ p∈parts.toList,Zo P σ' p.2=Zo P σ p.2:=fun p hp=>hg p.2 (by
  simp only [Op.operands,List.mem_toArray];exact Xj.2 ⟨p,hp,rfl⟩)
 obtain ⟨h1,h2⟩:=Zcj hc hsim parts hg';obtain ⟨us',h3,h4⟩:=ZcQ (P:=P) (X:=X) (σ:=σ') (k:=0) _ _ _ _ _ (JX (w:=w) (lim:=lim) hzc) h1 h2 hf;refine ⟨.agg us'.toArray,?_,.agg h4.1 h4.2.1 h4.2.2⟩
 have hpl:(fun (i:Nat)=>(fs.map fun (f:Field)=>(f.offset,P.cellsOf f.type))[i]?)=fun (i:Nat)=>(fs[i]?).map fun (f:Field)=>(f.offset,P.cellsOf f.type):=by
  funext i;simp
 have hb:(Instr.build T (parts.map fun p=>(p.1,Act.eval ⟨tm,[]⟩ p.2))).run P w = .ok (.agg us'.toArray) w:=by
  simp only [Instr.build,Sem.run_bind,zeroValue,typeInfo,run_program,hi,hz,Result.andThen_ok,Sem.run_pure,run_underlying hT];have hp:=Zfx (P:=P) w fs hall;rw [hp];simp only [Result.andThen_ok];rw [hpl];rw [Array.toArray_toList] at h3;rw [h3];rfl
 simp only [execOp,ho,Sem.run_bind,hb,Result.andThen_ok,Sem.run_pure]
theorem Zdr {x:AV} {cs:List AV} (h:Za2 x (.box cs)=Xb):V3 x:=ZW h
theorem YG {c:Ctx} {σ:Nat→AV} {tm:Array Value} {w:World} {lim:Lm} {X:Nat→Nat→Option Nat} (h:Sim c σ tm w lim X) (i j:Nat):X i j≠Xa w.heap.size:=by
 intro e;have:=(h.ours i j _ e).1;omega
theorem Zh9 {c:Ctx} {σ:Nat→AV} {tm:Array Value} {w:World} {lim:Lm} {X:Nat→Nat→Option Nat} (h:Sim c σ tm w lim X) {dst:Option Tmp} {cs:List AV} {us:List Value} {t:TypeId}
  (hl:cs.length=us.length) (hb:∀ x∈cs,Zdn x) (hr:∀ (i:Nat) (x:AV) (u:Value),cs[i]? = Xa x→us[i]? = Xa u→(x.isCell=Xb∧Rep w lim x u)∨(∃ b e,x = .own b e []∧u = .slice Xc 0 0)) :
  Zml c dst σ (.box cs) tm (.pointer (Xa ⟨w.heap.size,0,Xc⟩)) (w.alloc (.cells us.toArray t)):=by
 have hstep:=VI w lim us.toArray t 0 (fun _=>False)
 cases dst with
 | none => exact ⟨_, X, h.world hstep fun _ hs => hs.elim⟩
 | some d =>
  intro hd hm;have h1:=h.world hstep fun _ hs=>hs.elim;refine ⟨_,_,h1.putRow (hns:=fun k e xs b g1 _ g3=>by cases k with | zero=>simp [Jg] at g1 | succ k=>simp [Vs] at g3) (Vs (Xa w.heap.size)) (Jh.refl _ _ (fun _=>False)) (fun _ hs=>hs.elim) hd (tm':=tm.setIfInBounds d (.pointer (Xa ⟨w.heap.size,0,Xc⟩))) (by simp) (fun i hi=>Z3 tm d i _ hi) (.inl (Zdr hm).1) (fun i q hi hr=>(h1.noRefs (Zdr hm).none i q hi hr).elim) ?_ (fun k b hk=>?_) (fun k k' b hk hk'=>?_)⟩
  ·rw [J2 tm d _ (by rw [h.size];exact hd)];refine ⟨w.heap.size,us.toArray,t,?_,rfl,Yh w _ t,by simp [hl],if_pos rfl,hb,fun i x u hx hu=>?_⟩
   ·rw [Zv];rfl
   ·have hrow:ZcA X d (Vs (Xa w.heap.size)) d (i+1)=Xc:=by rw [Zv];simp [Vs]
    rw [hrow];rcases hr i x u hx (by simpa using hu) with ⟨h2,h3⟩ | ⟨b,e,rfl,rfl⟩
    ·have h4:=h3.mono hstep.ext
     cases x<;>simp [AV.isCell] at h2<;>exact h4
    ·exact .inl ⟨[],World.ownsRow_nil _ 0 e _,rfl,by simp,by simp,by simp,by simp⟩
  ·unfold Vs at hk;split at hk
   ·simp only [Xf] at hk;subst hk;exact ⟨by simp,.inr h.frm.size,fun i j _=>YG h i j⟩
   ·cases hk
  ·unfold Vs at hk hk';split at hk<;>split at hk'
   ·omega
   ·cases hk'
   ·cases hk
   ·cases hk
theorem ZqT {P:Program} {o:Oper} {σ:Nat→AV} {T:TypeId} {x:Operand} {y:AV} {cs:List AV} (ho:o.op = .box T x) (hx:Zo P σ x=y) (hcs:y.cells? = Xa cs) :
  Js P o σ (.box cs) [] []:=by
 intro c hc σ' tm w lim X hid hag hsim next Q hn;have hg:Zo P σ' x=Zo P σ x:=ZJ fun t ht=>hid t (by simp [Zu (o:=o) (x:=x) (by rw [ho];simp [Op.operands]) ht]);obtain ⟨us,h1,h2⟩:=Vw hcs (Yf hc hsim hx hg);refine Zj (v:=.pointer (Xa ⟨w.heap.size,0,Xc⟩)) (w':=w.alloc (.cells us.toArray T)) ?_ (hn _ _ (Zh9 hsim h2.1 (fun z hz=>.inl (h2.2.1 z hz)) fun i z u hz hu=>.inl ⟨h2.2.1 z (Xm hz),h2.2.2 i z u hz hu⟩));simp [execOp,ho,Instr.box,newVar,newRow,h1]
def Zsr (cs:List AV) (us:List Value):Prop:=
 cs.length=us.length∧∀ (i:Nat) (x:AV) (u:Value),cs[i]? = Xa x→us[i]? = Xa u→Zqe u=Xa x∨(∃ b e,x = .own b e []∧u = .slice Xc 0 0)
theorem Zmm {P:Program} {o:Oper} {σ:Nat→AV} {T:TypeId} {i:TypeInfo} {z:Value} {cs:List AV} (ho:o.op = .alloc T) (hi:P.info? T=Xa i) (hz:i.zero=Xa z)
  (hcs:Zsr cs z.cells.toList):Js P o σ (.box cs) [] []:=by
 intro c hc σ' tm w lim X hid hag hsim next Q hn;refine Zj (v:=.pointer (Xa ⟨w.heap.size,0,Xc⟩)) (w':=w.alloc (.cells z.cells.toList.toArray T)) ?_ (hn _ _ (Zh9 hsim hcs.1 (fun x hx=>?_) fun j x u hx hu=>?_))
 ·simp [execOp,ho,Instr.alloc,zeroValue,typeInfo,hi,hz,newVar,newRow]
 ·obtain ⟨j,hj⟩:=XO.1 hx;have hlt:j < z.cells.toList.length:=by rw [← hcs.1];exact (Xk.1 hj).1
  rcases hcs.2 j x _ hj (Xp hlt) with h | ⟨b,e,h,_⟩
  ·exact .inl (ZbN (w:=w) (lim:=lim) h).1
  ·exact .inr (.inl ⟨b,e,[],h⟩)
 ·rcases hcs.2 j x u hx hu with h | h
  ·exact .inl (ZbN h)
  ·exact .inr h
theorem replicate_zero (zs:List Value) (len:Nat):((Array.range (len*zs.length)).map fun i=>zs.toArray[i % zs.toArray.size]!)=((Xg len zs).flatten).toArray:=by
 by_cases hz:zs = []
 ·subst hz;have:(Xg len ([] : List Value)).flatten = []:=by simp
  simp [this]
 ·have hpos:0 < zs.length:=U4.2 hz;apply XK.1;rw [Array.toList_map];apply Wo;intro j;by_cases hj:j < len*zs.length
  ·have h1:((Array.range (len*zs.length)).toList)[j]? = Xa j:=by simp [hj]
   rw [Xl,h1];simp only [Xw,UB];have hm:j % zs.length < zs.length:=Nat.mod_lt _ hpos;have hd:j / zs.length < len:=Nat.div_lt_of_lt_mul (by rw [Nat.mul_comm];exact hj)
   have hflat:∀ (n:Nat) (k:Nat),k < n→∀ m,m < zs.length→((Xg n zs).flatten)[k*zs.length+m]? = zs[m]?:=by
    intro n
    induction n with
    | zero => intro k hk; omega
    | succ n ih =>
     intro k hk m hm;simp only [List.replicate_succ,X9]
     cases k with
     | zero => rw [Nat.zero_mul, XH, Xx hm]
     | succ k =>
      rw [Xz (by rw [Wh];omega)];have:(k+1)*zs.length+m-zs.length=k*zs.length+m:=by rw [Wh];omega
      rw [this];exact ih k (by omega) m hm
   have:=hflat len (j / zs.length) hd (j % zs.length) hm;have hj':j / zs.length*zs.length+j % zs.length=j:=by rw [Nat.mul_comm];exact Nat.div_add_mod j zs.length
   rw [hj'] at this;show Xa _=((Xg len zs).flatten)[j]?;rw [this];simp [hm]
  ·have h1:((Array.range (len*zs.length)).toList)[j]? = Xc:=by simp;omega
   rw [Xl,h1];have:((Xg len zs).flatten).length≤j:=by simp;omega
   show Xc=((Xg len zs).flatten)[j]?;rw [Wl this]
theorem JY {w:World} {lim:Lm} {cs:List AV} {us:List Value} (h:JI w lim cs us):∀ (n:Nat),JI w lim ((Xg n cs).flatten) ((Xg n us).flatten)
 | 0 => JI.nil w lim
 | n + 1 => by
  simp only [List.replicate_succ,X9];exact h.append (JY h n)
theorem VQ (size:Nat):∀ (n:Nat) (cs:List AV),cs.length=n*size→(YE size cs n).flatten=cs:=by
 intro n
 induction n with
 | zero => intro cs h; simp at h; subst h; simp [YE]
 | succ n ih =>
  intro cs h;have h1:(cs.take (n*size)).length=n*size:=by simp [h,Wh]
  have e1:YE size cs (n+1)=YE size (cs.take (n*size)) n++[(cs.drop (n*size)).take size]:=by
   simp only [YE,List.range_succ,List.map_append,Xh,List.map_nil];congr 1;apply List.map_congr_left;intro j hj;have hj':j < n:=List.mem_range.1 hj;have hm:j*size+size≤n*size:=by rw [← Uk];exact XZ _ hj'
   rw [List.drop_take,List.take_take];congr 1;omega
  rw [e1,List.flatten_append,ih _ h1];simp only [X9,List.flatten_nil,List.append_nil];have:(cs.drop (n*size)).take size=cs.drop (n*size):=List.take_of_length_le (by simp [h,Wh]);rw [this,List.take_append_drop]
theorem Y2 {P:Program} {o:Oper} {a:Act} {w w':World} {next:Act→World→Prop} {Q:Exit→Act→World→Prop}
  (hr:(execOp a.eval o).run P w = .ok .skip w') (h:next (a.put o.dst undef) w'):o.wp P a w next Q:=by
 unfold Oper.wp;rw [hr];exact h
theorem ZbL (w:World) (g:Nat) (cur cs:Array Value) (t:TypeId) (hg:w.heap[g]? = Xa (.cells cur t (0,0))) (a:Addr):(w.setRow g cs).frozen? a=w.frozen? a:=by
 by_cases h:a.block=g
 ·have h1:=setRow_heap w g cur cs t (0,0) hg;unfold World.frozen?;rw [h,h1,hg]
 ·unfold World.frozen?;rw [setRow_other w g a.block cs h]
theorem K1 {w:World} {lim:Lm} {g:Nat} {cur cs:Array Value} {t:TypeId} (hg:w.heap[g]? = Xa (.cells cur t (0,0))) (hl:lim g=0) :
  Jh w lim (w.setRow g cs) lim (fun b=>b=g) where
 os:=rfl
 tape:=rfl
 output:=rfl
 size:=by simp
 frz a _:=ZbL w g cur cs t hg a
 blk b _ hb:=⟨setRow_other w g b cs hb,rfl⟩
 ext:=⟨fun b _=>⟨Xy _,fun o u ho hu=>by
  by_cases h:b=g
  ·subst h;rw [hl] at ho;omega
  ·unfold World.cell? at hu ⊢;rw [setRow_other w g b cs h];exact hu⟩,fun _ _ h=>h⟩
def Zat (r:Nat→Option Nat) (off n:Nat) (new:Nat→Option Nat):Nat→Option Nat:=fun k=>if k=0 then r 0 else if off < k∧k≤off+n then new (k-1-off) else r k
theorem Sim.setCells {c:Ctx} {σ:Nat→AV} {tm:Array Value} {w:World} {lim:Lm} {X:Nat→Nat→Option Nat} (h:Sim c σ tm w lim X) {d off b:Nat} {cs vc:List AV} {us:List Value} {arr:Array Value} {t:TypeId}
  (new:Nat→Option Nat) (hd:σ d = .box cs) (hX:X d 0=Xa b) (hfit:off+vc.length≤cs.length) (hl:vc.length=us.length) (hvc:∀ x∈vc,Zdn x)
  (hr:∀ (i:Nat) (x:AV) (u:Value),vc[i]? = Xa x→us[i]? = Xa u→Yq c.P w lim (new i) x u) (hheap:w.heap[b]? = Xa (.cells arr t (0,0)))
  (hnp:∀ k,off≤k→k < off+vc.length→∀ i,i≠d→¬ JB (σ i) d (k+1))
  (hn:∀ i b',new i=Xa b'→i < vc.length∧(c.A b'∨c.w0.heap.size≤b')∧b' < w.heap.size∧(∀ j k,X j k≠Xa b')∧∀ i',new i'=Xa b'→i=i')
  (hnw:∀ i e xs b',vc[i]? = Xa (.own Xb e xs)→Zn c.P e=Xb→new i=Xa b'→ZaO c.P w lim e xs b' (X (ngN+b')):=by intro i e xs b' _ _ h;cases h) :
  Sim c (upd σ d (.box (cs.take off++vc++cs.drop (off+vc.length)))) tm (w.setRow b (arr.toList.take off++us++arr.toList.drop (off+us.length)).toArray) lim (ZcA X d (Zat (X d) off vc.length new)):=by
 have hrel:=h.rel d;rw [hd] at hrel;obtain ⟨b0,arr0,t0,g1,g2,g3,g4,g5,g6,g7⟩:=(show Z0 c.P w lim (X d) cs _ from hrel);have hb0:b0=b:=by rw [g1] at hX;exact XT hX
 subst hb0;rw [g3] at hheap;simp only [Xf,Obj.cells.injEq,and_true] at hheap;obtain ⟨rfl,rfl⟩:=hheap;have hstep:=K1 (cs:=(arr0.toList.take off++us++arr0.toList.drop (off+us.length)).toArray) g3 g5
 have hdn:d < c.nt:=by
  rcases XG d c.nt with hlt | hge
  ·exact hlt
  ·have:=h.out d hge;rw [hd] at this;rcases this with h0 | h0<;>cases h0
 have hal:arr0.toList.length=cs.length:=by simpa using g4
 refine h.putRow (S:=fun b=>b=b0) _ hstep (fun b' hb'=>⟨0,by rw [hb'];exact g1⟩) hdn rfl (fun i _=>rfl) (.inr ⟨⟨_,rfl⟩,rfl,rfl⟩) (fun i q hi hr=>?_) ?_ (fun k b' hk=>?_) (fun k k' b' hk hk'=>?_) (hns:=fun k e xs b' m1 m2 m3=>?_)
 ·obtain ⟨p,hp⟩:=WK h hr;rw [hd] at hp
  cases q with
  | zero => simp [Zy] at hp
  | succ q =>
   have hq:q < off∨off+vc.length≤q:=by
    rcases XG q off with h1 | h1
    ·exact .inl h1
    ·rcases XG q (off+vc.length) with h2 | h2
     ·exact (hnp q h1 h2 i hi hr).elim
     ·exact .inr h2
   have hlt:q < cs.length:=by
    rcases XG q cs.length with h1 | h1
    ·exact h1
    ·simp [Zy,Wl h1] at hp
   have hsame:(cs.take off++vc++cs.drop (off+vc.length))[q]? = cs[q]?:=by
    rcases hq with h1 | h1
    ·rw [Xo,Xx (by simp;omega),XC,if_pos h1]
    ·rw [Xz (by simp;omega),XP];congr 1;simp<;>omega
   refine ⟨fun e xs hex=>⟨xs,?_,rfl⟩,?_,fun b' hb'=>.of (setRow_other w b0 b' _ fun e=>?_)⟩
   ·rw [hd] at hex;simp only [Zy,hsame] at hex ⊢;exact hex
   ·unfold Zat;rw [if_neg (by omega),if_neg (by omega)]
   ·have:=(h.dist d (q+1) d 0 b' hb' (by rw [e];exact g1)).2;omega
 ·refine ⟨b0,(arr0.toList.take off++us++arr0.toList.drop (off+us.length)).toArray,t0,?_,g2,setRow_heap w b0 arr0 _ t0 _ g3,?_,g5,fun x hx=>?_,fun i x u hx hu=>?_⟩
  ·rw [Zv];exact g1
  ·simp only [UB,Xu,XU,Ui];omega
  ·rcases Xv.1 hx with hx | hx
   ·rcases Xv.1 hx with hx | hx
    ·exact g6 x (XR hx)
    ·exact hvc x hx
   ·exact g6 x (XY hx)
  ·rw [Zv];have hu':(arr0.toList.take off++us++arr0.toList.drop (off+us.length))[i]? = Xa u:=by simpa using hu
   have old:∀ j,i=j→cs[j]? = Xa x→arr0[j]? = Xa u→(j < off∨off+vc.length≤j)→Yq c.P (w.setRow b0 (arr0.toList.take off++us++arr0.toList.drop (off+us.length)).toArray) lim (Zat (X d) off vc.length new (i+1)) x u:=by
    intro j hij hxj huj hout;subst hij
    have hrow:Zat (X d) off vc.length new (i+1)=X d (i+1):=by
     unfold Zat;rw [if_neg (by omega),if_neg (by omega)]
    rw [hrow];refine (g7 i x u hxj huj).mono hstep.ext fun b' hb'=>hstep.blk b' (h.ours d (i+1) b' hb').1 fun e=>?_;have:=h.dist d (i+1) d 0 b' hb' (by rw [e];exact g1);omega
   by_cases h1:i < off
   ·rw [Xo,Xx (by simp;omega),XC,if_pos h1] at hx;rw [Xo,Xx (by simp;omega),XC,if_pos h1] at hu';exact old i rfl hx (by simpa using hu') (.inl h1)
   ·by_cases h2:i < off+vc.length
    ·rw [Xo,Xz (by simp;omega),Xx (by simp;omega)] at hx;rw [Xo,Xz (by simp;omega),Xx (by simp;omega)] at hu';have e1:i-(cs.take off).length=i-off:=by simp<;>omega
     have e2:i-(arr0.toList.take off).length=i-off:=by simp<;>omega
     rw [e1] at hx;rw [e2] at hu'
     have hrow:Zat (X d) off vc.length new (i+1)=new (i-off):=by
      unfold Zat;rw [if_neg (by omega),if_pos (by omega)];congr 1<;>omega
     rw [hrow];refine (hr (i-off) x u hx hu').mono hstep.ext fun b' hb'=>hstep.blk b' (hn _ b' hb').2.2.1 fun e=>(hn _ b' hb').2.2.2.1 d 0 (by rw [e];exact g1)
    ·have hlt:i < cs.length:=by
      have:=(Xk.1 hx).1;simp at this;omega
     have e1:(cs.take off++vc++cs.drop (off+vc.length))[i]? = cs[i]?:=by
      rw [Xz (by simp;omega),XP];congr 1;simp<;>omega
     have e2:(arr0.toList.take off++us++arr0.toList.drop (off+us.length))[i]? = arr0.toList[i]?:=by
      rw [Xz (by simp;omega),XP];congr 1;simp<;>omega
     rw [e1] at hx;rw [e2] at hu';exact old i rfl hx (by simpa using hu') (.inr (by omega))
 ·unfold Zat at hk;split at hk
  ·exact ⟨by simp;exact (h.ours d 0 b' hk).1,(h.ours d 0 b' hk).2,fun i j hi e=>hi (h.dist i j d 0 b' e hk).1⟩
  ·split at hk
   ·have:=hn _ b' hk;exact ⟨by simp;exact this.2.2.1,this.2.1,fun i j _=>this.2.2.2.1 i j⟩
   ·exact ⟨by simp;exact (h.ours d k b' hk).1,(h.ours d k b' hk).2,fun i j hi e=>hi (h.dist i j d k b' e hk).1⟩
 ·unfold Zat at hk hk';split at hk<;>split at hk'
  ·omega
  ·split at hk'
   ·exact ((hn _ b' hk').2.2.2.1 d 0 hk).elim
   ·have:=h.dist d 0 d k' b' hk hk';omega
  ·split at hk
   ·exact ((hn _ b' hk).2.2.2.1 d 0 hk').elim
   ·have:=h.dist d k d 0 b' hk hk';omega
  ·split at hk<;>split at hk'
   ·have:=(hn _ b' hk).2.2.2.2 _ hk';omega
   ·exact ((hn _ b' hk).2.2.2.1 d k' hk').elim
   ·exact ((hn _ b' hk').2.2.2.1 d k hk).elim
   ·have:=h.dist d k d k' b' hk hk';omega
 ·have hng:=h.ntN
  have hY:∀ j b2,X (ngN+b') j=Xa b2→Zha w lim (w.setRow b0 (arr0.toList.take off++us++arr0.toList.drop (off+us.length)).toArray) lim b2:=fun j b2 hb2=>hstep.blk b2 (h.ours _ j b2 hb2).1 fun e=>by
   have:=(h.dist (ngN+b') j d 0 b2 hb2 (by rw [e];exact g1)).1;omega
  have fin:ZaO c.P w lim e xs b' (X (ngN+b'))→b'≠b0→ZaO c.P (w.setRow b0 (arr0.toList.take off++us++arr0.toList.drop (off+us.length)).toArray) lim e xs b' (X (ngN+b')):=fun hh hne=>hh.mono hstep.ext (setRow_other w b0 b' _ hne) hY
  cases k with
  | zero => simp [Jg] at m1
  | succ k =>
   obtain ⟨xc,hxc,hxe⟩:∃ xc,(cs.take off++vc++cs.drop (off+vc.length))[k]? = Xa xc∧xc = .own Xb e xs:=by
    simp only [Jg] at m1;split at m1
    ·rename_i e1 xs1 hq;simp only [Xf,Xt] at m1;obtain ⟨rfl,rfl⟩:=m1;exact ⟨_,hq,rfl⟩
    ·cases m1
   subst hxe;unfold Zat at m3;rw [if_neg (by omega)] at m3;by_cases h1:off < k+1∧k+1≤off+vc.length
   ·rw [if_pos h1,show k+1-1-off=k-off by omega] at m3;rw [Xo,Xz (by simp;omega),Xx (by simp;omega),show k-(cs.take off).length=k-off by simp<;>omega] at hxc;exact fin (hnw (k-off) e xs b' hxc m2 m3) fun e=>(hn _ b' m3).2.2.2.1 d 0 (by rw [e];exact g1)
   ·rw [if_neg h1] at m3
    have hsame:cs[k]? = Xa (.own Xb e xs):=by
     rcases XG k off with h2 | h2
     ·rw [Xo,Xx (by simp;omega),XC,if_pos h2] at hxc;exact hxc
     ·rw [Xz (by simp;omega),XP] at hxc;rw [← hxc];congr 1;simp<;>omega
    refine fin (h.nst d (k+1) e xs b' (by rw [hd];simp only [Jg,hsame]) m2 m3) fun e=>?_;have:=h.dist d (k+1) d 0 b' m3 (by rw [e];exact g1);omega
theorem YW {P:Program} {T:TypeId} {w:World} {b off:Nat} {arr:Array Value} {t:TypeId} {v:Value} {us:List Value} {i:TypeInfo} (hi:P.info? T=Xa i) (hv:v.cells=us.toArray) (hn:us.length=P.cellsOf T)
  (hg:w.heap[b]? = Xa (.cells arr t (0,0))) (hfit:off+us.length≤arr.size) (h1:∀ u∈us,u.oneCell'=Xb) :
  (Instr.storeAt T (.pointer (Xa ⟨b,off,Xc⟩)) v).run P w = .ok () (w.setRow b (arr.toList.take off++us++arr.toList.drop (off+us.length)).toArray):=by
 have hs:=run_storeCells_at P b off t us 0 arr w hg (by simpa using hfit) h1;simp only [Uh] at hs;simp [Instr.storeAt,Instr.sureAddr,storeVar,Zs hi,hv,hn,hs]
theorem Zec {c:Ctx} {σ:Nat→AV} {tm:Array Value} {w:World} {lim:Lm} {X:Nat→Nat→Option Nat} (h:Sim c σ tm w lim X) {d off n k i:Nat} {cs:List AV} (hd:σ d = .box cs)
  (hn:Zdg ((cs.drop off).take n)) (h1:off≤k) (h2:k < off+n) (hr:JB (σ i) d (k+1)):False:=by
 obtain ⟨p,hp⟩:=WK h hr;rw [hd] at hp;simp only [Zy] at hp;split at hp
 ·rename_i e xs hx;refine hn (.own Xb e xs) (Xm (i:=k-off) ?_) e xs rfl;rw [XC,if_pos (by omega),XP,show off+(k-off)=k by omega];exact hx
 ·cases hp
theorem Jn {c:Ctx} {σ1:Nat→AV} {tm:Array Value} {w:World} {lim:Lm} {X:Nat→Nat→Option Nat} (h:Sim c σ1 tm w lim X) {dst:Option Tmp} {x:Bool} {e:TypeId} {xs:List (List AV)} {v:Value} {ob:Option Nat}
  (hx:Jv c.P w lim x e xs v ob) (ho:∀ b,ob=Xa b→(c.A b∨c.w0.heap.size≤b)∧∀ i j,X i j≠Xa b) (hmo:x=Xb→ZhI c.P w lim e xs (Vs ob))
  (hns:x=Xb→Zn c.P e=Xb→∀ b,ob=Xa b→ZaO c.P w lim e xs b (X (ngN+b))):Zml c dst σ1 (.own x e xs) tm v w:=by
 cases dst with
 | none => exact ⟨lim, X, h⟩
 | some d => exact fun hd hm => ⟨lim, _, h.putOwn hd (ZW hm) hx (fun b hb => ⟨(ho b hb).1, fun i j _ => (ho b hb).2 i j⟩) hmo hns⟩
def ZaW (P:Program) (x:Bool) (e:TypeId) (xs:List (List AV)):AV:=match x with | true=>.dead | false=>.slice Xe (P.cellsOf e) xs
theorem Sim.free {c:Ctx} {σ:Nat→AV} {tm:Array Value} {w:World} {lim:Lm} {X:Nat→Nat→Option Nat} (h:Sim c σ tm w lim X) {t:Nat} {x:Bool} {e:TypeId} {xs:List (List AV)} (ht:σ t = .own x e xs) (hno:Zph σ t) :
  Sim c (upd σ t (ZaW c.P x e xs)) tm w lim (ZcA X t YQ)∧Jv c.P w lim x e xs (tm.getD t undef) (X t 0)∧
   ∀ b,X t 0=Xa b→(c.A b∨c.w0.heap.size≤b)∧∀ i j,ZcA X t YQ i j≠Xa b:=by
 have hr:=h.rel t;rw [ht] at hr;have hr':Jv c.P w lim x e xs (tm.getD t undef) (X t 0):=hr
 have htn:t < c.nt:=by
  rcases XG t c.nt with hlt | hge
  ·exact hlt
  ·have:=h.out t hge;rw [ht] at this;rcases this with h0 | h0<;>cases h0
 refine ⟨h.weaken (k:=0) htn (fun cs hcs=>by rw [ht] at hcs;cases hcs) hno (by cases x<;>rfl) (fun i q hq=>by cases x<;>rcases hq with hq | ⟨_,hq⟩ <;> cases hq) ?_,hr',fun b hb=>⟨(h.ours t 0 b hb).2,fun i j hij=>?_⟩⟩
 ·cases x with
  | true => trivial
  | false => exact Jv.rep hr' Xe rfl
 ·by_cases hi:i=t
  ·subst hi;rw [Zv] at hij;cases hij
  ·rw [Zh X YQ hi] at hij;exact hi (h.dist i j t 0 b hij hb).1
def VM (σ:Nat→AV) (t:Nat) (us:List (Nat×AV)):Prop:=(∀ u∈us,u.1≠t∧u.2 = .dead∧∃ k,JB (σ u.1) t k)∧∀ i k,i≠t→JB (σ i) t k→i∈us.map (·.1)
def Yr (T:Odr) (σ:Nat→AV) (t:Nat) (us:List (Nat×AV)):Prop:=(T = .text∧VM σ t us)∨∃ N M K,T = .any N M K∧N t=Xb∧us = []
theorem Yr.all {T:Odr} {σ σ':Nat→AV} {t:Nat} {us:List (Nat×AV)} (h:Yr T σ t us) (hT:T.rel σ σ'):VM σ' t us:=by
 rcases h with ⟨rfl,h⟩ | ⟨N,M,K,rfl,h1,rfl⟩
 ·have:σ'=σ:=hT;rw [this];exact h
 ·exact ⟨by simp,fun i k _ hr=>(hT.1 t i k (by simp [Odr.nr,h1]) hr).elim⟩
theorem ZmE {T':Odr} {P:Program} {o:Oper} {σ:Nat→AV} {T:TypeId} {a x:Operand} {d off:Nat} {cs vc0 vc:List AV} {y:AV} (ho:o.op = .store T a x) (ha:Zo P σ a = .ptr d off) (hd:σ d = .box cs)
  (hx:Zo P σ x=y) (hy:y.cells? = Xa vc0) (hn0:vc0.length=P.cellsOf T) (h0:P.cellsOf T≠0) (hfit:off+P.cellsOf T≤cs.length) (hnr:Zdg ((cs.drop off).take (P.cellsOf T))∨Yr T' σ d [])
  (hno:vc.length=vc0.length∧∀ (w:World) (lim:Lm) (us:List Value),JI w lim vc0 us→(∀ z∈vc,Zdn z)∧∀ (j:Nat) (z:AV) (u:Value),vc[j]? = Xa z→us[j]? = Xa u→Yq P w lim Xc z u) :
  Ku T' P o σ .dead [(d,.box (cs.take off++vc++cs.drop (off+P.cellsOf T)))] [d]:=by
 intro c hc σ' tm w lim X hid hag hT hsim next Q hnx;have hga:Zo P σ' a=Zo P σ a:=ZJ fun t ht=>hid t (by simp [Zu (o:=o) (x:=a) (by rw [ho];simp [Op.operands]) ht]);have hgx:Zo P σ' x=Zo P σ x:=ZJ fun t ht=>hid t (by simp [Zu (o:=o) (x:=x) (by rw [ho];simp [Op.operands]) ht]);have hd':σ' d = .box cs:=by rw [hag d (by simp),hd]
 have hva:=Yf hc hsim ha hga;rw [← hc] at hva;obtain ⟨b,h1,h2,h3⟩:=Wz hsim hd' hva;obtain ⟨us,h4,h5⟩:=Vw hy (Yf hc hsim hx hgx);have h6:=hno.2 w lim us h5;have hn:vc.length=P.cellsOf T:=hno.1.trans hn0;obtain ⟨b0,arr,t,g1,g2,g3,g4,g5,g6,g7⟩:=h3;have hb0:b0=b:=by rw [g1] at h1;exact XT h1
 subst hb0;obtain ⟨i,hi⟩:=Zx h0
 have hset:=hsim.setCells (off:=off) (vc:=vc) (us:=us) (fun _=>Xc) hd' g1 (by rw [hn];exact hfit) (hno.1.trans h5.1) h6.1 (fun j z u hz hu=>by rw [hc];exact h6.2 j z u hz hu) g3 (fun k h1 h2 i hi hr=>by
   rcases hnr with hnr | hdr
   ·exact Zec hsim hd' (by rw [← hn] at hnr;exact hnr) h1 h2 hr
   ·have:=(hdr.all hT).2 i (k+1) hi hr;simp at this) (fun _ _ he=>by cases he)
 refine Y2 (w':=w.setRow b0 (arr.toList.take off++us++arr.toList.drop (off+us.length)).toArray) ?_ (hnx undef _ ?_)
 ·have hst:=YW (P:=P) (T:=T) (w:=w) (b:=b0) (off:=off) (v:=Act.eval ⟨tm,[]⟩ x) hi h4 (by rw [← h5.1,hn0]) g3 (by rw [← h5.1,hn0,g4];exact hfit) (fun u hu=>by
   obtain ⟨j,hj⟩:=XO.1 hu;have hlt:j < vc0.length:=by rw [h5.1];exact (Xk.1 hj).1
   exact (h5.2.2 j _ u (Xp hlt) hj).oneCell (h5.2.1 _ (List.getElem_mem hlt)))
  simp only [execOp,ho,h2,Sem.run_bind,hst,Result.andThen_ok,Sem.run_pure]
 ·rw [hn] at hset;exact Zw hset rfl (k:=0) trivial
theorem VR (σ:Nat→AV):∀ (us vs:List (Nat×AV)),JG σ (us++vs)=JG (JG σ us) vs
 | [], _ => rfl
 | (d, x) :: us, vs => by
  simp only [List.cons_append,JG];exact VR _ us vs
theorem WG:∀ (us:List (Nat×AV)) (σ:Nat→AV) (i:Nat),(∀ u∈us,u.2 = .dead)→JG σ us i=if i∈us.map (·.1) then .dead else σ i
 | [], σ, i, _ => by simp [JG]
 | (d, x) :: us, σ, i, h => by
  have hx:x = .dead:=h (d,x) (by simp);subst hx;rw [JG,WG us _ i fun u hu=>h u (by simp [hu])];by_cases hm:i∈us.map (·.1)
  ·rw [if_pos hm,if_pos (by simp only [Xh,Xq];exact .inr hm)]
  ·rw [if_neg hm];by_cases hi:i=d
   ·subst hi;rw [ZI,if_pos (by simp)]
   ·rw [Ze _ _ hi,if_neg (by simp only [Xh,Xq];exact fun h=>h.elim hi hm)]
theorem Vi {x:AV} {d k:Nat} (h:JB x d k):(∀ cs,x≠.box cs)∧V3 x∧x.isG=Xe:=by
 rcases h with rfl | ⟨o,rfl⟩ <;> exact ⟨fun _ h=>(by cases h),⟨fun _ h=>(by cases h),fun _ _ h=>(by cases h),fun _ h=>(by cases h)⟩,rfl⟩
theorem Sim.drops {c:Ctx} {tm:Array Value} {w:World} {lim:Lm} : ∀ (us:List (Nat×AV)) {σ:Nat→AV} {X:Nat→Nat→Option Nat},Sim c σ tm w lim X→(∀ u∈us,u.2 = .dead∧V3 (σ u.1)∧u.1 < c.nt)→
  ∃ X',Sim c (JG σ us) tm w lim X'∧∀ i,i∉us.map (·.1)→X' i=X i
 | [], _, X, h, _ => ⟨X, h, fun _ _ => rfl⟩
 | (d, x) :: us, σ, X, h, hu => by
  obtain ⟨h1,h2,h3⟩:=hu (d,x) (by simp);have h1:x = .dead:=h1;subst h1;have hw:=h.weaken (k:=0) h3 h2.1 (h.noRefs h2.none) (x:=.dead) rfl (fun i q hq=>by rcases hq with hq | ⟨_,hq⟩ <;> cases hq) trivial
  obtain ⟨X',g1,g2⟩:=Sim.drops us hw fun u hm=>by
   obtain ⟨k1,k2,k3⟩:=hu u (by simp [hm]);refine ⟨k1,?_,k3⟩;by_cases he:u.1=d
   ·rw [he,ZI];exact ⟨fun _ h=>(by cases h),fun _ _ h=>(by cases h),fun _ h=>(by cases h)⟩
   ·rw [Ze _ _ he];exact k2
  refine ⟨X',g1,fun i hi=>?_⟩;simp only [Xh,Xq,not_or] at hi;rw [g2 i hi.2,Zh X YQ hi.1]
theorem WE {c:Ctx} {σ:Nat→AV} {tm:Array Value} {w:World} {lim:Lm} {X:Nat→Nat→Option Nat} (h:Sim c σ tm w lim X) {t:Nat} (h1:σ t≠.dead) (h2:(σ t).isG=Xe):t < c.nt:=by
 rcases XG t c.nt with hlt | hge
 ·exact hlt
 ·rcases h.out t hge with h0 | h0
  ·exact (h1 h0).elim
  ·rw [h2] at h0;cases h0
theorem Sim.freeAll {c:Ctx} {σ:Nat→AV} {tm:Array Value} {w:World} {lim:Lm} {X:Nat→Nat→Option Nat} (h:Sim c σ tm w lim X) {t:Nat} {x:Bool} {e:TypeId} {xs:List (List AV)} {us:List (Nat×AV)} (ht:σ t = .own x e xs)
  (hus:(x=Xe∧us = [])∨VM σ t us) :
  ∃ X',Sim c (JG σ ((t,ZaW c.P x e xs)::us)) tm w lim X'∧Jv c.P w lim x e xs (tm.getD t undef) (X t 0)∧(∀ b,X t 0=Xa b→(c.A b∨c.w0.heap.size≤b)∧∀ i j,X' i j≠Xa b)∧∀ i,c.nt≤i→X' i=X i:=by
 have htn0:t < c.nt:=WE h (by rw [ht];exact fun h=>by cases h) (by rw [ht];rfl);rcases hus with ⟨rfl,rfl⟩ | ⟨hd1,hd2⟩
 ·obtain ⟨h1,h2,h3⟩:=h.free ht (h.noRefs fun k=>by rw [ht];rfl);exact ⟨_,h1,h2,h3,fun i hi=>Zh X YQ (by omega)⟩
 ·obtain ⟨X1,g1,g2⟩:=h.drops us fun u hu=>by
   obtain ⟨k1,k2,k,k3⟩:=hd1 u hu;obtain ⟨m1,m2,m3⟩:=Vi k3;exact ⟨k2,m2,WE h (fun e=>by rw [e] at k3;rcases k3 with k3 | ⟨_,k3⟩ <;> cases k3) m3⟩
  have htn:t∉us.map (·.1):=by
   intro hm;obtain ⟨u,hu,rfl⟩:=Xj.1 hm;exact (hd1 u hu).1 rfl
  have hdead:∀ (σ:Nat→AV) (i:Nat),JG σ us i=if i∈us.map (·.1) then .dead else σ i:=fun σ i=>WG us σ i fun u hu=>(hd1 u hu).2.1;have ht1:JG σ us t = .own x e xs:=by rw [hdead,if_neg htn,ht]
  obtain ⟨f1,f2,f3⟩:=g1.free ht1 (fun i k hi hr=>by
   rw [hdead] at hr;split at hr
   ·rcases hr with hr | ⟨_,hr⟩ <;> cases hr
   ·rename_i hm;exact hm (hd2 i k hi hr))
  rw [g2 t htn] at f2 f3
  have husn:∀ i,c.nt≤i→i∉us.map (·.1):=by
   intro i hi hm;obtain ⟨u,hu,rfl⟩:=Xj.1 hm;obtain ⟨k1,k2,k,k3⟩:=hd1 u hu;have:=WE h (t:=u.1) (fun e=>by rw [e] at k3;rcases k3 with k3 | ⟨_,k3⟩ <;> cases k3) (Vi k3).2.2;omega
  refine ⟨_,?_,f2,f3,fun i hi=>(Zh _ _ (by omega)).trans (g2 i (husn i hi))⟩
  have he:JG σ ((t,ZaW c.P x e xs)::us)=upd (JG σ us) t (ZaW c.P x e xs):=by
   funext i;simp only [JG];rw [hdead];by_cases hi:i=t
   ·subst hi;rw [if_neg htn,ZI,ZI]
   ·rw [Ze _ _ hi,Ze _ _ hi,hdead]
  rw [he];exact f1
theorem Zhe {T:Odr} {P:Program} {o:Oper} {σ:Nat→AV} {t:Nat} {x:Bool} {e:TypeId} {xs:List (List AV)} {us:List (Nat×AV)} (ho:o.op = .move (.tmp t)∨o.op = .assign (.tmp t)) (ht:σ t = .own x e xs)
  (hus:(x=Xe∧us = [])∨Yr T σ t us) (hmv:x=Xb→Mv P e xs):Ku T P o σ (.own x e xs) ((t,ZaW P x e xs)::us) []:=by
 intro c hc σ' tm w lim X hid hag hT hsim next Q hn;have ht':σ' t = .own x e xs:=by rw [hag t (by simp),ht]
 obtain ⟨X',h1,h2,h3,h4⟩:=hsim.freeAll (us:=us) ht' (hus.imp id fun h=>h.all hT);rw [hc] at h1;refine Zj (v:=tm.getD t undef) (w':=w) ?_ (hn _ w (Jn h1 h2 h3 (fun hx=>.mv (by rw [hc];exact hmv hx)) fun hx hd b hb=>?_))
 rotate_left
 ·subst hx;rw [h4 _ (XI hsim.ntN (XX _ _))];exact hsim.nst t 0 e xs b (by rw [ht'];rfl) hd hb
 rcases ho with ho | ho<;>simp [execOp,ho,Act.eval]
theorem Zqr {P:Program} {o:Oper} {σ:Nat→AV} {x:Bool} {e:TypeId} (ho:o.op = .assign (.const (.slice Xc 0 0))):Js P o σ (.own x e []) [] []:=by
 intro c hc σ' tm w lim X hid hag hsim next Q hn;refine Zj (v:=.slice Xc 0 0) (w':=w) (by simp [execOp,ho,Act.eval]) (hn _ w (Jn (ob:=Xc) hsim (.inl ⟨[],World.ownsRow_nil _ 0 e _,rfl,by simp,by simp,by simp,by simp⟩) (by simp) (fun _=>.none rfl) fun _ _ b hb=>by cases hb))
theorem ZmC {P:Program} {o:Oper} {σ:Nat→AV} {t:Nat} {vs:List AV} (ho:o.op = .move (.tmp t)) (ht:σ t = .tuple vs):Js P o σ (.tuple vs) [(t,.gone)] []:=by
 intro c hc σ' tm w lim X hid hag hsim next Q hn;have ht':σ' t = .tuple vs:=by rw [hag t (by simp),ht]
 have htn:t < c.nt:=by
  rcases XG t c.nt with hlt | hge
  ·exact hlt
  ·have:=hsim.out t hge;rw [ht'] at this;rcases this with h0 | h0<;>cases h0
 have h1:Sim c (upd σ' t .gone) tm w lim (ZcA X t YQ):=hsim.weaken (k:=0) htn (fun cs hcs=>by rw [ht'] at hcs;cases hcs) (hsim.noRefs fun k=>by rw [ht'];rfl) rfl (fun i q hq=>by rcases hq with hq | ⟨_,hq⟩ <;> cases hq) trivial;have hr:=hsim.rel t;rw [ht'] at hr;obtain ⟨us,g1,g2,g3⟩:=hr;refine Zj (v:=tm.getD t undef) (w':=w) (by simp [execOp,ho,Act.eval]) (hn _ w ?_)
 cases hdst:o.dst with
 | none => exact ⟨lim, _, h1⟩
 | some d =>
  intro hd hm
  refine ⟨lim,_,h1.putRow (hns:=fun k e xs b m1 m2 m3=>by
   have:=hsim.ntN;rw [Zh X YQ (show ngN+b≠t by omega)];exact hsim.nst t k e xs b (by rw [ht'];exact m1) m2 m3) (X t) (Jh.refl w lim (fun _=>False)) (fun _ hs=>hs.elim) hd (tm':=tm.setIfInBounds d (tm.getD t undef)) (by simp) (fun i hi=>Z3 tm d i _ hi) (.inl (ZW hm).1) (fun i q hi hr=>(h1.noRefs (ZW hm).none i q hi hr).elim) ?_ (fun k b hk=>⟨(hsim.ours t k b hk).1,(hsim.ours t k b hk).2,fun i j _ hij=>?_⟩) (fun k k' b hk hk'=>(hsim.dist t k t k' b hk hk').2)⟩
  ·rw [J2 tm d _ (by rw [hsim.size];exact hd)];refine ⟨us,g1,g2,?_⟩;rw [Zv];exact g3
  ·by_cases hi:i=t
   ·subst hi;rw [Zv] at hij;cases hij
   ·rw [Zh X YQ hi] at hij;exact hi (hsim.dist i j t k b hij hk).1
theorem Zcv {P:Program} {o:Oper} {σ:Nat→AV} {t i:Nat} {vs:List AV} {x:AV} (ho:o.op = .extract (.tmp t) i) (ht:σ t = .tuple vs) (hx:vs[i]? = Xa x) (hp:x.plain=Xb) (hnp:∀ d p,x≠.ptr d p) (hne:∀ cs,x≠.eptr cs) (hnd:x≠.dead) (hng:x≠.gone):Js P o σ x [] []:=by
 intro c hc σ' tm w lim X hid hag hsim next Q hn;have ht':σ' t = .tuple vs:=by rw [(hid t (Zu (o:=o) (x:=.tmp t) (t:=t) (by rw [ho];simp [Op.operands]) rfl)).eq fun cs e=>(by rw [ht] at e;cases e),ht]
 have hr:=hsim.rel t;rw [ht'] at hr;obtain ⟨us,g1,g2,g3⟩:=hr;have hlt:i < us.length:=by rw [g2];exact (Xk.1 hx).1
 have hu:=Xp hlt;have hc3:=g3 i x _ hx hu;refine Zj (v:=us[i]) (w':=w) ?_ (hn _ w (Zw hsim hp (k:=0) ?_))
 ·have hev:Act.eval ⟨tm,[]⟩ (.tmp t) = .tuple us.toArray:=g1;simp [execOp,ho,hev,Instr.extract,hlt]
 ·cases x<;>first | (simp [AV.plain] at hp;done) | (exact (hnp _ _ rfl).elim) | (exact (hne _ rfl).elim) | (exact (hnd rfl).elim) | (exact (hng rfl).elim) | (have hz:Rep w lim _ _:=hc3;cases hz;done) | exact hc3
def Zu8 (P:Program) (x:Bool) (e:TypeId) (xs:List (List AV)):AV:=match x with | true=>.gone | false=>.slice Xe (P.cellsOf e) xs
theorem ZcF {P:Program} {o:Oper} {σ:Nat→AV} {t i:Nat} {vs:List AV} {x:Bool} {e:TypeId} {xs:List (List AV)} (ho:o.op = .extract (.tmp t) i) (ht:σ t = .tuple vs) (hx0:vs[i]? = Xa (.own x e xs)) (hmv:x=Xb→Mv P e xs) :
  Js P o σ (.own x e xs) [(t,.tuple (vs.set i (Zu8 P x e xs)))] []:=by
 have hx:=hx0;intro c hc σ' tm w lim X hid hag hsim next Q hn;have ht':σ' t = .tuple vs:=by rw [hag t (by simp),ht]
 have htn:t < c.nt:=by
  rcases XG t c.nt with hlt | hge
  ·exact hlt
  ·have:=hsim.out t hge;rw [ht'] at this;rcases this with h0 | h0<;>cases h0
 have hr:=hsim.rel t;rw [ht'] at hr;obtain ⟨us,g1,g2,g3⟩:=hr;have hlt:i < us.length:=by rw [g2];exact (Xk.1 hx).1
 have hu:=Xp hlt;have hown:Jv c.P w lim x e xs us[i] (X t (i+1)):=g3 i _ _ hx hu
 have h1:Sim c (upd σ' t (.tuple (vs.set i (Zu8 P x e xs)))) tm w lim (ZcA X t fun k=>if k=i+1 then Xc else X t k):=by
  refine hsim.putRow (S:=fun _=>False) _ (Jh.refl w lim _) (fun _ hs=>hs.elim) htn rfl (fun j _=>rfl) (.inl fun cs hcs=>by rw [ht'] at hcs;cases hcs) (fun i q hi hr=>(hsim.noRefs (fun k=>by rw [ht'];rfl) i q hi hr).elim) ?_ (fun k b hk=>?_) (fun k k' b hk hk'=>?_) (hns:=fun k e1 xs1 b m1 m2 m3=>?_)
  ·refine ⟨us,g1,by simp [g2],fun j y u hy hju=>?_⟩;rw [Zv];by_cases hji:j=i
   ·subst hji;rw [Wi (by omega)] at hy;simp only [Xf] at hy;subst hy;rw [hu] at hju;simp only [Xf] at hju;subst hju
    cases x with
    | true => trivial
    | false =>
     have:=Jv.rep hown Xe rfl;rw [hc] at this;exact this
   ·rw [Wn (fun h=>hji h.symm)] at hy;rw [if_neg (by omega)];exact g3 j y u hy hju
  ·split at hk
   ·cases hk
   ·exact ⟨(hsim.ours t k b hk).1,(hsim.ours t k b hk).2,fun a j ha hj=>ha (hsim.dist a j t k b hj hk).1⟩
  ·split at hk<;>split at hk'
   ·omega
   ·cases hk
   ·cases hk'
   ·exact (hsim.dist t k t k' b hk hk').2
  ·split at m3
   ·cases m3
   ·rename_i hki;refine hsim.nst t k e1 xs1 b ?_ m2 m3;rw [ht',← m1]
    cases k with
    | zero => rfl
    | succ k => simp only [Jg]; rw [Wn (fun h => hki (by rw [h]))]
 refine Zj (v:=us[i]) (w':=w) ?_ (hn _ w (Jn h1 hown (fun b hb=>⟨(hsim.ours t _ b hb).2,fun a j haj=>?_⟩) (fun hx=>.mv (by rw [hc];exact hmv hx)) fun hx hdp b hb=>?_))
 rotate_left 2
 ·subst hx;have:=hsim.ntN;rw [Zh X _ (show ngN+b≠t by omega)];exact hsim.nst t (i+1) e xs b (by rw [ht'];simp only [Jg,hx0]) hdp hb
 ·have hev:Act.eval ⟨tm,[]⟩ (.tmp t) = .tuple us.toArray:=g1;simp [execOp,ho,hev,Instr.extract,hlt]
 ·by_cases ha:a=t
  ·subst ha;rw [Zv] at haj;split at haj
   ·cases haj
   ·rename_i hne;exact hne (hsim.dist a j a (i+1) b haj hb).2
  ·rw [Zh X _ ha] at haj;exact ha (hsim.dist a j t (i+1) b haj hb).1
theorem ZK {y:AV} {k:Nat} {e:TypeId} {xs:List (List AV)} (h:Zy y k=Xa (e,xs)) :
  (y = .own Xb e xs∧k=0)∨(∃ cs q,y = .box cs∧k=q+1∧cs[q]? = Xa (.own Xb e xs))∨∃ cs q,y = .gbox cs∧k=q+1∧cs[q]? = Xa (.own Xb e xs):=by
 unfold Zy at h;split at h
 ·simp only [Xf,Xt] at h;obtain ⟨rfl,rfl⟩:=h;exact .inl ⟨rfl,rfl⟩
 ·rename_i cs q;split at h
  ·rename_i e' xs' hc;simp only [Xf,Xt] at h;obtain ⟨rfl,rfl⟩:=h;exact .inr (.inl ⟨cs,q,rfl,rfl,hc⟩)
  ·cases h
 ·rename_i cs q;split at h
  ·rename_i e' xs' hc;simp only [Xf,Xt] at h;obtain ⟨rfl,rfl⟩:=h;exact .inr (.inr ⟨cs,q,rfl,rfl,hc⟩)
  ·cases h
 ·cases h
theorem WY {c:Ctx} {σ:Nat→AV} {tm:Array Value} {w:World} {lim:Lm} {X:Nat→Nat→Option Nat} (h:Sim c σ tm w lim X) {d k:Nat} {e:TypeId} {xs:List (List AV)} (hp:Zy (σ d) k=Xa (e,xs)) :
  ∃ v,Jv c.P w lim Xb e xs v (X d k):=by
 have hr:=h.rel d;rcases ZK hp with ⟨h1,rfl⟩ | ⟨cs,q,h1,rfl,h2⟩ | ⟨cs,q,h1,rfl,h2⟩
 ·rw [h1] at hr;exact ⟨_,hr⟩
 ·rw [h1] at hr;obtain ⟨b,arr,t,g1,g2,g3,g4,g5,g6,g7⟩:=(show Z0 c.P w lim (X d) cs _ from hr);have hlt:=(Xk.1 h2).1;exact ⟨arr[q]'(by omega),g7 q _ _ h2 (XV (by omega))⟩
 ·rw [h1] at hr;obtain ⟨v',b,arr,t,g1,g2,g3,g4,g5,g6,g7⟩:=hr;have hlt:=(Xk.1 h2).1;exact ⟨arr[q]'(by omega),g7 q _ _ h2 (XV (by omega))⟩
theorem Va {P:Program} {w:World} {lim:Lm} {e:TypeId} {xs:List (List AV)} {v:Value} {b:Nat} (h:Jv P w lim Xb e xs v (Xa b)) (hm:Zm P e=Xe∨(Zn P e=Xe∧∃ arr t fz,w.heap[b]? = Xa (.cells arr t fz))) :
  ∃ arr cap,v = .slice (Xa ⟨b,0,Xc⟩) xs.length cap∧w.heap[b]? = Xa (.cells arr e (0,0))∧lim b=0∧xs.length≤cap∧cap≤maxLen∧arr.size=cap*P.cellsOf e∧
   (∀ x∈xs,x.length=P.cellsOf e)∧(∀ x∈xs,∀ z∈x,z.isCell=Xb)∧∀ (j:Nat) (z:AV) (u:Value),xs.flatten[j]? = Xa z→arr[j]? = Xa u→Rep w lim z u:=by
 rcases h with ⟨us,h1,h2,h3,h4,h5,h6⟩ | ⟨_,h,_⟩ | ⟨_,⟨h,_,_,_,_,_,_,hb,_,hh,_⟩ | ⟨h,_⟩ | ⟨h,_,_,_,_,_,_,hb,_,hh,_⟩⟩
 ·rcases h1.2 with ⟨hv,hn⟩ | ⟨g,cap,cur,hv,hbg,hg,hnc,hcm,hcs,htake⟩
  ·rw [hv] at h2;cases h2
  ·have hgb:g=b:=by rw [hv] at h2;exact XT h2
   subst hgb;refine ⟨cur,cap,hv,hg,by rw [h3 g rfl];rfl,hnc,hcm,hcs,h4,h5,fun j z u hz hu=>h6 j z u hz ?_⟩;have hj:=(Xk.1 hz).1;rw [Zz xs _ h4] at hj;rw [← htake,XC,if_pos hj];simpa using hu
 ·cases h
 ·rcases hm with hm | ⟨_,_,_,_,hm⟩
  ·rw [hm] at h;cases h
  ·cases hb;rw [hm] at hh;cases hh
 ·rcases hm with hm | ⟨hm,_⟩
  ·rw [Jc hm] at h;cases h
  ·rw [hm] at h;cases h
 ·rcases hm with hm | ⟨_,_,_,_,hm⟩
  ·rw [hm] at h;cases h
  ·cases hb;rw [hm] at hh;cases hh
theorem Zp9 {P:Program} {w:World} {lim:Lm} {e:TypeId} {xs:List (List AV)} {v:Value} {b:Nat} (h:Jv P w lim Xb e xs v (Xa b)) (hm:Zm P e=Xe∨Zn P e=Xb) (hd:Zru P w e (Xa b)) :
  ∃ arr cap,v = .slice (Xa ⟨b,0,Xc⟩) xs.length cap∧w.heap[b]? = Xa (.cells arr (bT e) (0,0))∧lim b=0∧xs.length≤cap∧cap≤maxLen∧arr.size=cap*P.cellsOf (bT e)∧
   (∀ x∈xs,x.length=P.cellsOf (bT e))∧(∀ x∈xs,∀ z∈x,z.isCell=Xb)∧∀ (j:Nat) (z:AV) (u:Value),xs.flatten[j]? = Xa z→arr[j]? = Xa u→Rep w lim z u:=by
 have h1:=h.one hm hd
 have hb:Zm P (bT e)=Xe:=by
  rcases hm with hm | hm
  ·rw [Zam hm];exact hm
  ·rcases h with ⟨us,k1,k2,_⟩ | ⟨_,h,_⟩ | ⟨_,⟨_,_,_,_,_,et,k1,_⟩ | h | ⟨_,_,_,_,_,_,⟨_,_,k1⟩,_⟩⟩
   ·exfalso;rcases k1.2 with ⟨hv,_⟩ | ⟨g,cap,cur,hv,_,hg,_⟩
    ·rw [hv] at k2;cases k2
    ·obtain ⟨arr,ha⟩:=hd hm b rfl;have hgb:g=b:=by rw [hv] at k2;exact XT k2
     rw [hgb,ha] at hg;simp only [Xf,Obj.cells.injEq,and_true] at hg;have h8:2097152≤e:=by simp only [Zn,Xs,decide_eq_true_eq] at hm;exact hm.1
     have h9:=hg.2;rw [bT,if_pos h8] at h9;exact absurd h9 (Nat.ne_of_lt (Nat.sub_lt (XS (by decide) h8) (by decide)))
   ·cases h
   ·rw [ZhJ k1] at hm;cases hm
   ·exact h.2.1
   ·rw [WQ k1] at hm;cases hm
 exact Va h1.own (.inl hb)
theorem ZiV {P:Program} {w:World} {lim:Lm} {e:TypeId} {xs:List (List AV)} {b cap:Nat} {arr:Array Value} (h1:w.heap[b]? = Xa (.cells arr e (0,0))) (h2:lim b=0) (h3:xs.length≤cap) (h4:cap≤maxLen)
  (h5:arr.size=cap*P.cellsOf e) (h6:∀ x∈xs,x.length=P.cellsOf e) (h7:∀ x∈xs,∀ z∈x,z.isCell=Xb) (h8:∀ (j:Nat) (z:AV) (u:Value),xs.flatten[j]? = Xa z→arr[j]? = Xa u→Rep w lim z u) :
  Jv P w lim Xb e xs (.slice (Xa ⟨b,0,Xc⟩) xs.length cap) (Xa b):=by
 have hle:xs.length*P.cellsOf e≤cap*P.cellsOf e:=XZ _ h3;refine .inl ⟨arr.toList.take (xs.length*P.cellsOf e),⟨?_,.inr ⟨b,cap,arr,rfl,X5 _,h1,h3,h4,h5,rfl⟩⟩,rfl,fun b' hb'=>?_,h6,h7,fun j z u hz hu=>h8 j z u hz ?_⟩
 ·have hal:arr.toList.length=cap*P.cellsOf e:=by simpa using h5
  rw [XU,hal];exact Nat.min_eq_left hle
 ·cases hb'
  rw [if_pos rfl];exact h2
 ·rw [XC] at hu;split at hu
  ·simpa using hu
  ·cases hu
end Go.AM
