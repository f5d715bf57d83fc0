/- AmBase, AmSym, AmDen, AmSim, AmOps, AmMem: texts of the proof, put together. -/
import Derived.WalkKit
import Derived.Laws.AppendOwnNone
import Derived.MapKept
import Derived.CheckFast

section
namespace Go.AM
inductive AV where
 | dead
 | gone
 | val (v : Value)
 | agg (cs : List AV)
 | tuple (vs : List AV)
 | aggo (cs : List AV)
 | slice (full : Bool) (s : Nat) (xs : List (List AV))
 | own (x : Bool) (e : TypeId) (xs : List (List AV))
 | box (cs : List AV)
 | ptr (d off : Nat)
 | eptr (cs : List AV)
 | mref (d k : Nat)
 | eref (d k o : Nat)
 | gbox (cs : List AV)
 | clo (g : FuncId) (ds : List Nat)
 | nest (s : Nat) (o : Bool) (e : TypeId) (ys : List (List AV))
def AV.isG:AV→Bool
 | .gbox _ => true
 | _ => false
def AV.isB:AV→Bool
 | .box _ => true
 | .gbox _ => true
 | _ => false
def ZbI:Value→Bool
 | .bool _ => true
 | .int _ _ => true
 | .string _ => true
 | _ => false
def AV.isCell:AV→Bool
 | .val _ => true
 | .slice _ _ _ => true
 | .nest _ _ _ _ => true
 | _ => false
def AV.cells:AV→List AV
 | .agg cs => cs
 | x => [x]
inductive Rep (w:World) (lim:Nat→Nat):AV→Value→Prop
 | val {v : Value} (h : ZbI v = true) : Rep w lim (.val v) v
 | agg {cs : List AV} {vs : List Value} (hl : cs.length = vs.length) (hc : ∀ c ∈ cs, c.isCell = true)
   (h:∀ (i:Nat) (c:AV) (v:Value),cs[i]? = some c→vs[i]? = some v→Rep w lim c v):Rep w lim (.agg cs) (.agg vs.toArray)
 | sliceN {full : Bool} {s : Nat} : Rep w lim (.slice full s []) (.slice none 0 0)
 | sliceE {full : Bool} {s : Nat} {a : Addr} {cap : Nat} (hf : full = true → cap = 0) : Rep w lim (.slice full s []) (.slice (some a) 0 cap)
 | sliceC {full : Bool} {s : Nat} {xs : List (List AV)} {b o cap : Nat} {us : List Value} (hs : ∀ e ∈ xs, e.length = s)
   (hc:∀ e∈xs,∀ c∈e,c.isCell=true) (hf:full=true→cap=xs.length) (hle:xs.length≤cap) (hlim:us≠[]→o+us.length≤lim b)
   (hus:us.length=xs.length*s) (hcell:∀ (j:Nat) (u:Value),us[j]? = some u→w.cell? ⟨b,o+j,none⟩=some u)
   (h:∀ (j:Nat) (c:AV) (v:Value),xs.flatten[j]? = some c→us[j]? = some v→Rep w lim c v):Rep w lim (.slice full s xs) (.slice (some ⟨b,o,none⟩) xs.length cap)
 | nest {s : Nat} {o : Bool} {e : TypeId} {ys : List (List AV)} {a : Option Addr} {n cap : Nat} : Rep w lim (.nest s o e ys) (.slice a n cap)
theorem Zct {v:Value} (h:ZbI v=true):v.oneCell'=true:=by cases v<;>simp_all [ZbI,Value.oneCell']
theorem Rep.oneCell {w:World} {lim:Nat→Nat} {x:AV} {v:Value} (h:Rep w lim x v) (hx:x.isCell=true):v.oneCell'=true:=by
 cases h with
 | val h => exact Zct h
 | agg => simp [AV.isCell] at hx
 | sliceN => rfl
 | sliceE _ => rfl
 | sliceC => rfl
 | nest => rfl
def Ext (w:World) (lim:Nat→Nat) (w':World) (lim':Nat→Nat):Prop:=
 ∀ (b:Nat),b < w.heap.size→lim b≤lim' b∧∀ (o:Nat) (u:Value),o < lim b→w.cell? ⟨b,o,none⟩=some u→w'.cell? ⟨b,o,none⟩=some u
theorem Ext.refl (w:World) (lim:Nat→Nat):Ext w lim w lim:=fun _ _=>⟨Nat.le_refl _,fun _ _ _ h=>h⟩
theorem Ext.trans {w1 w2 w3:World} {l1 l2 l3:Nat→Nat} (h:Ext w1 l1 w2 l2) (k:Ext w2 l2 w3 l3) (hz:w1.heap.size≤w2.heap.size):Ext w1 l1 w3 l3:=
 fun b hb=>⟨Nat.le_trans (h b hb).1 (k b (by omega)).1,fun o u ho hu=>(k b (by omega)).2 o u (Nat.lt_of_lt_of_le ho (h b hb).1) ((h b hb).2 o u ho hu)⟩
theorem Zai {w:World} {b o:Nat} {u:Value} (h:w.cell? ⟨b,o,none⟩=some u):b < w.heap.size:=World.block_lt_of_cell? w ⟨b,o,none⟩ h
theorem Rep.mono {w w':World} {lim lim':Nat→Nat} (he:Ext w lim w' lim') {x:AV} {v:Value} (h:Rep w lim x v):Rep w' lim' x v:=by
 induction h with
 | val h => exact .val h
 | agg hl hc _ ih => exact .agg hl hc ih
 | sliceN => exact .sliceN
 | nest => exact .nest
 | sliceE hf => exact .sliceE hf
 | @sliceC full s xs b o cap us hs hc hf hle hlim hus hcell _ ih =>
  by_cases hne:us = []
  ·subst hne
   exact .sliceC (us:=[]) hs hc hf hle (fun h=>(h rfl).elim) hus (by simp) (by simp)
  ·have hl:=hlim hne
   obtain ⟨u,rest,rfl⟩:∃ u rest,us=u::rest:=by cases us with | nil=>exact (hne rfl).elim | cons u rest=>exact ⟨u,rest,rfl⟩
   have hb:=Zai (hcell 0 u rfl)
   exact .sliceC hs hc hf hle (fun _=>Nat.le_trans hl (he b hb).1) hus
    (fun j u' hj=>(he b hb).2 _ _ (by have:=(List.getElem?_eq_some_iff.1 hj).1;omega) (hcell j u' hj)) ih
def JJ (l:List (List AV)):List (List AV):=match l with | (.slice _ _ kvs::_)::_=>kvs | _=>[]
def ZV (r:List AV):Option Int:=match r with | .val (.int .i64 z)::_=>some z | _=>none
def ZjU (r:List AV):List (List AV):=match r with | _ :: .slice _ _ ys::_=>ys | _=>[]
def Zas (l:List (List AV)) (k:Int):List (List AV):=match (JJ l).find? (fun r=>ZV r == some k) with | some r=>ZjU r | none=>[]
def Zb5 (l:List (List AV)) (k:Int):List (List AV):=[[.slice false 2 (JJ l),.val (.int .i64 k)]]
def Kw (kvs:List (List AV)) (k:Int) (c:AV):List (List AV):=
 if (kvs.any fun r=>ZV r == some k)=true then kvs.map fun r=>if ZV r == some k then [.val (.int .i64 k),c] else r else kvs++[[.val (.int .i64 k),c]]
def Zc1 (l:List (List AV)) (k:Int) (s:Nat) (v:List (List AV)):List (List AV):=[[.slice false 2 (Kw (JJ l) k (.slice false s v))]]
def Zb4 (l:List (List AV)):List (List AV):=(((JJ l).filterMap ZV).mergeSort fun a b=>decide (a≤b)).map fun z=>[.val (.int .i64 z)]
inductive MQ where
 | any
 | full
 | at
 | keys
 deriving DecidableEq,Repr
def ZnK (k:Int) (x:AV):Bool:=match x with | .val (.int .i64 z)=>z == k | _=>false
def Zci (r:List AV):Bool:=match ZV r with | some z=>decide (-9223372036854775808≤z)&&decide (z≤9223372036854775807) | none=>false
def Zll (q:MQ) (l:List (List AV)) (k:Int):Bool:=
 match l with
 | [.slice false 2 kvs :: tl] =>
  match q with
  | .any => true
  | .full => tl.isEmpty
  | .at => tl.all (ZnK k)
  | .keys => tl.isEmpty && (decide (kvs.length ≤ 1048576) && kvs.all Zci)
 | _ => false
def Kq (P:Program) (T:TypeId):Option Value:=
 match P.underlying T with
 | some (.map kt vt) =>
  match P.underlying kt,P.info? vt with
  | some (.int .i64), some i => (match i.zero with | some (.bool b) => some (.bool b) | some (.int k z) => some (.int k z) | _ => none)
  | _, _ => none
 | _ => none
def J2 (u v:Value):Bool:=
 match u,v with
 | .bool _, .bool _ => true
 | .int k _, .int k' _ => decide (k = k')
 | _, _ => false
def Jj (P:Program) (T:TypeId):Option TypeId:=
 match P.underlying T with
 | some (.map kt vt) => (match P.underlying kt, P.underlying vt with | some (.int .i64), some (.slice et) => some et | _, _ => none)
 | _ => none
def Zo9 (P:Program) (T:TypeId):Bool:=
 match P.underlying T with
 | some (.map _ vt) => (match P.info? vt with | some i => (match i.zero with | some (.slice none 0 0) => true | _ => false) | none => false)
 | _ => false
def Zm (_:Program) (e:TypeId):Bool:=decide (1048576≤e)
def Zdi (P:Program) (w:World) (lim:Nat→Nat) (et:TypeId) (en:MapEntry) (row:List AV):Prop:=
 ∃ (z:Int) (ys:List (List AV)),row = [.val (.int .i64 z),.slice false (P.cellsOf et) ys]∧en.key = .int .i64 z∧Rep w lim (.slice false (P.cellsOf et) ys) en.val
def Zqy (P:Program) (w:World) (lim:Nat→Nat) (e:TypeId) (xs:List (List AV)) (v:Value) (ob:Option Nat):Prop:=
 Zm P e=true∧∃ (b:Nat) (es:Array MapEntry) (clock:Nat) (kvs:List (List AV)) (et:TypeId),Jj P (e-1048576)=some et∧ob=some b∧v = .map (some b)∧w.heap[b]? = some (.map es clock)∧lim b=0∧
  (∃ tl,xs = [.slice false 2 kvs::tl])∧es.size=kvs.length∧MapKept.Stamped es clock∧∀ (i:Nat) (en:MapEntry) (row:List AV),es[i]? = some en→kvs[i]? = some row→Zdi P w lim et en row
theorem Zqy.mono {P:Program} {w w':World} {lim lim':Nat→Nat} {e:TypeId} {xs:List (List AV)} {v:Value} {ob:Option Nat} (h:Zqy P w lim e xs v ob) (he:Ext w lim w' lim')
  (hk:∀ b,ob=some b→w'.heap[b]? = w.heap[b]?∧lim' b=lim b):Zqy P w' lim' e xs v ob:=by
 obtain ⟨h0,b,es,clock,kvs,et,het,rfl,h2,h3,h4,h5,h6,h7,h8⟩:=h
 refine ⟨h0,b,es,clock,kvs,et,het,rfl,h2,(hk b rfl).1.trans h3,(hk b rfl).2.trans h4,h5,h6,h7,fun i en row g1 g2=>?_⟩
 obtain ⟨z,ys,k1,k2,k3⟩:=h8 i en row g1 g2
 exact ⟨z,ys,k1,k2,k3.mono he⟩
def Zmx (P:Program) (w:World) (lim:Nat→Nat) (e:TypeId) (xs:List (List AV)) (v:Value) (ob:Option Nat):Prop:=
 Zm P e=true∧∃ (b:Nat) (es:Array MapEntry) (clock:Nat) (kvs:List (List AV)) (z:Value),(Kq P (e-1048576)=some z∧Jj P (e-1048576)=none∧e < 2097152)∧ob=some b∧v = .map (some b)∧w.heap[b]? = some (.map es clock)∧lim b=0∧
  xs = [[.slice false 2 kvs]]∧es.size=kvs.length∧MapKept.Stamped es clock∧∀ (i:Nat) (en:MapEntry) (row:List AV),es[i]? = some en→kvs[i]? = some row→
   ∃ (k:Int) (u:Value),row = [.val (.int .i64 k),.val u]∧en.key = .int .i64 k∧en.val=u∧J2 u z=true
theorem Zmx.mono {P:Program} {w w':World} {lim lim':Nat→Nat} {e:TypeId} {xs:List (List AV)} {v:Value} {ob:Option Nat} (h:Zmx P w lim e xs v ob)
  (hk:∀ b,ob=some b→w'.heap[b]? = w.heap[b]?∧lim' b=lim b):Zmx P w' lim' e xs v ob:=by
 obtain ⟨h0,b,es,clock,kvs,z,hz,rfl,h2,h3,h4,h5⟩:=h
 exact ⟨h0,b,es,clock,kvs,z,hz,rfl,h2,(hk b rfl).1.trans h3,(hk b rfl).2.trans h4,h5⟩
def WX (P:Program) (w:World) (lim:Nat→Nat) (x:Bool) (e:TypeId) (xs:List (List AV)) (v:Value) (ob:Option Nat):Prop:=
 (∃ us:List Value,w.ownsRow 0 e (P.cellsOf e) v xs.length us∧v.ownBlock=ob∧(∀ b,ob=some b→lim b=if x=true then 0 else us.length)∧
  (∀ x∈xs,x.length=P.cellsOf e)∧(∀ x∈xs,∀ c∈x,c.isCell=true)∧
  ∀ (j:Nat) (c:AV) (u:Value),xs.flatten[j]? = some c→us[j]? = some u→Rep w lim c u)∨
 (xs = []∧ob=none∧∃ a,v = .slice (some a) 0 0)
def Zg (P:Program) (e:TypeId):Bool:=decide (2097152≤e)&&(Jj P (e-1048576)).isNone
theorem Zgm {P:Program} {e:TypeId} (h:Zg P e=true):Zm P e=true:=by
 simp only [Zg,Bool.and_eq_true,decide_eq_true_eq] at h
 exact decide_eq_true (Nat.le_trans (by decide) h.1)
theorem ZT {P:Program} {e:TypeId} (h:Zm P e=false):Zg P e=false:=by
 cases hd:Zg P e with
 | false => rfl
 | true => rw [Zgm hd] at h; cases h
theorem Zbq {P:Program} {e:TypeId} (h:Zg P e=true):Jj P (e-1048576)=none:=by
 simp only [Zg,Bool.and_eq_true,Option.isNone_iff_eq_none] at h
 exact h.2
theorem Kb {P:Program} {e:TypeId} {et:TypeId} (h:Jj P (e-1048576)=some et):Zg P e=false:=by
 cases hd:Zg P e with
 | false => rfl
 | true => rw [Zbq hd] at h; cases h
theorem Yg {P:Program} {e:TypeId} (h:e < 2097152):Zg P e=false:=by
 have:¬ 2097152≤e:=Nat.not_le_of_lt h
 simp [Zg,this]
def bT (e:TypeId):TypeId:=if 2097152≤e then e-2097152 else e
theorem Kd {P:Program} {e:TypeId} (h:Zm P e=false):bT e=e:=by
 simp only [Zm,decide_eq_false_iff_not] at h
 exact if_neg fun h'=>h (Nat.le_trans (by decide) h')
def ZqQ (P:Program) (w:World) (lim:Nat→Nat) (e:TypeId) (xs:List (List AV)) (v:Value) (ob:Option Nat):Prop:=
 Zg P e=true∧Zm P (bT e)=false∧WX P w lim true (bT e) xs v ob
def ZQ (P:Program) (w:World) (lim:Nat→Nat) (x:Bool) (e:TypeId) (xs:List (List AV)) (v:Value) (ob:Option Nat):Prop:=
 (∃ us:List Value,w.ownsRow 0 e (P.cellsOf e) v xs.length us∧v.ownBlock=ob∧(∀ b,ob=some b→lim b=if x=true then 0 else us.length)∧
  (∀ x∈xs,x.length=P.cellsOf e)∧(∀ x∈xs,∀ c∈x,c.isCell=true)∧
  ∀ (j:Nat) (c:AV) (u:Value),xs.flatten[j]? = some c→us[j]? = some u→Rep w lim c u)∨
 (xs = []∧ob=none∧∃ a,v = .slice (some a) 0 0)∨(x=true∧(Zqy P w lim e xs v ob∨ZqQ P w lim e xs v ob∨Zmx P w lim e xs v ob))
theorem WX.own {P:Program} {w:World} {lim:Nat→Nat} {x:Bool} {e:TypeId} {xs:List (List AV)} {v:Value} {ob:Option Nat} (h:WX P w lim x e xs v ob):ZQ P w lim x e xs v ob:=
 h.elim .inl fun h=>.inr (.inl h)
def Zl8 (P:Program) (w:World) (lim:Nat→Nat) (xs:List (List AV)) (b:Nat) (Y:Nat→Option Nat):Prop:=
 ∀ (j s:Nat) (e:TypeId) (ys:List (List AV)) (u:Value),xs.flatten[j]? = some (.nest s true e ys)→w.cell? ⟨b,j,none⟩=some u→s=P.cellsOf e∧Zm P e=false∧WX P w lim true e ys u (Y j)
def Zff (P:Program) (w:World) (e:TypeId) (ob:Option Nat):Prop:=Zg P e=true→∀ b,ob=some b→∃ arr,w.heap[b]? = some (.cells arr (bT e) (0,0))
def VN (P:Program) (w:World) (lim:Nat→Nat) (e:TypeId) (xs:List (List AV)) (b:Nat) (Y:Nat→Option Nat):Prop:=
 (∃ arr,w.heap[b]? = some (.cells arr (bT e) (0,0)))∧Zl8 P w lim xs b Y
def ngN:Nat:=4294967296
def ZX (x:AV) (k:Nat):Option (TypeId×List (List AV)):=
 match x,k with
 | .own true e xs, 0 => some (e, xs)
 | .box cs, k + 1 => match cs[k]? with | some (.own true e xs) => some (e, xs) | _ => none
 | .gbox cs, k + 1 => match cs[k]? with | some (.own true e xs) => some (e, xs) | _ => none
 | .tuple cs, k + 1 => match cs[k]? with | some (.own true e xs) => some (e, xs) | _ => none
 | .aggo cs, k + 1 => match cs[k]? with | some (.own true e xs) => some (e, xs) | _ => none
 | _, _ => none
def ZeA (P:Program) (w:World) (lim:Nat→Nat) (e:TypeId) (xs:List (List AV)) (Xd:Nat→Option Nat):Prop:=
 Zm P e=true→∀ (b:Nat) (es:Array MapEntry) (clock:Nat) (kvs:List (List AV)) (tl:List AV) (et:TypeId),Jj P (e-1048576)=some et→Xd 0=some b→w.heap[b]? = some (.map es clock)→xs = [.slice false 2 kvs::tl]→
  ∀ (i:Nat) (en:MapEntry) (row:List AV),es[i]? = some en→kvs[i]? = some row→(∀ k∈tl,row.head?≠some k)→
   ∃ (z:Int) (ys:List (List AV)),row = [.val (.int .i64 z),.slice false (P.cellsOf et) ys]∧ZQ P w lim false et ys en.val (Xd (i+1))
theorem ZeA.noMap {P:Program} {w:World} {lim:Nat→Nat} {e:TypeId} {xs:List (List AV)} {Xd:Nat→Option Nat} (h:Zm P e=false):ZeA P w lim e xs Xd:=fun h'=>by rw [h] at h';cases h'
def Mv (P:Program) (e:TypeId) (xs:List (List AV)):Prop:=Zm P e=false∨Zg P e=true∨xs = [[.slice false 2 []]]∨Jj P (e-1048576)=none
theorem ZeA.mv {P:Program} {w:World} {lim:Nat→Nat} {e:TypeId} {xs:List (List AV)} {Xd:Nat→Option Nat} (h:Mv P e xs):ZeA P w lim e xs Xd:=by
 rcases h with h | h | rfl | h
 ·exact .noMap h
 ·intro _ b es clock kvs tl et h1
  rw [Zbq h] at h1
  cases h1
 rotate_left
 ·intro _ b es clock kvs tl et h1
  rw [h] at h1
  cases h1
 ·intro _ b es clock kvs tl _ _ _ _ h3 i en row _ g2 _
  simp only [List.cons.injEq,AV.slice.injEq,true_and,and_true] at h3
  rw [← h3.1] at g2
  simp at g2
theorem ZeA.cells {P:Program} {w:World} {lim:Nat→Nat} {e:TypeId} {xs:List (List AV)} {Xd:Nat→Option Nat} (h:∀ b,Xd 0=some b→∃ arr t fz,w.heap[b]? = some (.cells arr t fz)):ZeA P w lim e xs Xd:=fun _ b _ _ _ _ _ _ h1 h2=>by
 obtain ⟨arr,t,fz,h3⟩:=h b h1
 rw [h3] at h2
 cases h2
theorem ZeA.none {P:Program} {w:World} {lim:Nat→Nat} {e:TypeId} {xs:List (List AV)} {Xd:Nat→Option Nat} (h:Xd 0=none):ZeA P w lim e xs Xd:=fun _ _ _ _ _ _ _ _ h1=>by rw [h] at h1;cases h1
def JW (P:Program) (w:World) (lim:Nat→Nat) (ob:Option Nat) (x:AV) (v:Value):Prop:=
 match x with
 | .own x e xs => ZQ P w lim x e xs v ob
 | .gone => True
 | x => Rep w lim x v
def ZI (P:Program) (w:World) (lim:Nat→Nat) (X:Nat→Option Nat) (cs:List AV) (v:Value):Prop:=
 ∃ (b:Nat) (arr:Array Value) (t:TypeId),X 0=some b∧v = .pointer (some ⟨b,0,none⟩)∧w.heap[b]? = some (.cells arr t (0,0))∧
  arr.size=cs.length∧lim b=0∧(∀ c∈cs,c.isCell=true∨(∃ x e xs,c = .own x e xs)∨c = .gone)∧
  ∀ (i:Nat) (c:AV) (u:Value),cs[i]? = some c→arr[i]? = some u→JW P w lim (X (i+1)) c u
def ZaF (cs:List AV):Prop:=∀ c∈cs,∀ e xs,c≠.own true e xs
def Whole (cs:List AV):Prop:=∀ c∈cs,c≠.gone
def Zo (y:AV) (k:Nat):Option (TypeId×List (List AV)):=
 match y,k with
 | .own true e xs, 0 => some (e, xs)
 | .box cs, k + 1 => match cs[k]? with | some (.own true e xs) => some (e, xs) | _ => none
 | .gbox cs, k + 1 => match cs[k]? with | some (.own true e xs) => some (e, xs) | _ => none
 | _, _ => none
def Zat (P:Program) (w:World) (ob:Option Nat) (e:TypeId) (n:Nat) (v:Value):Prop:=
 (ob=none∧n=0∧(v = .slice none 0 0∨∃ a,v = .slice (some a) 0 0))∨
  (∃ b arr cap,ob=some b∧w.heap[b]? = some (.cells arr (bT e) (0,0))∧arr.size=cap*P.cellsOf (bT e)∧v = .slice (some ⟨b,0,none⟩) n cap)∨
  (Zm P e=true∧Zg P e=false∧∃ b arr cap,ob=some b∧w.heap[b]? = some (.cells arr e (0,0))∧v = .slice (some ⟨b,0,none⟩) n cap)∨
  (Zm P e=true∧Zg P e=false∧∃ b es clock,ob=some b∧w.heap[b]? = some (.map es clock)∧v = .map (some b))
theorem Zat.noMap {P:Program} {w:World} {ob:Option Nat} {e:TypeId} {n:Nat} {v:Value} (h:Zat P w ob e n v) (hm:Zm P e=false) :
  (ob=none∧n=0∧(v = .slice none 0 0∨∃ a,v = .slice (some a) 0 0))∨∃ b arr cap,ob=some b∧w.heap[b]? = some (.cells arr e (0,0))∧arr.size=cap*P.cellsOf e∧v = .slice (some ⟨b,0,none⟩) n cap:=by
 rcases h with h | h | ⟨h,_⟩ | ⟨h,_⟩
 ·exact .inl h
 ·rw [Kd hm] at h;exact .inr h
 ·rw [hm] at h;cases h
 ·rw [hm] at h;cases h
def ZiP (P:Program) (w:World) (lim:Nat→Nat) (e:TypeId) (b o:Nat) (v:Value):Prop:=
 ((Zm P e=false∨Zg P e=true)∧v = .pointer (some ⟨b,o,none⟩))∨
  (Zm P e=true∧Zg P e=false∧∃ B,v = .func (.func o) #[] #[.pointer (some ⟨B,0,none⟩)]∧0 < lim B∧w.cell? ⟨B,0,none⟩=some (.map (some b)))
theorem ZiP.mono {P:Program} {w w':World} {lim lim':Nat→Nat} {e:TypeId} {b o:Nat} {v:Value} (h:ZiP P w lim e b o v) (he:Ext w lim w' lim'):ZiP P w' lim' e b o v:=by
 rcases h with h | ⟨h0,hd,B,h1,h2,h3⟩
 ·exact .inl h
 ·have hB:=Zai h3
  exact .inr ⟨h0,hd,B,h1,Nat.lt_of_lt_of_le h2 (he B hB).1,(he B hB).2 0 _ h2 h3⟩
theorem ZiP.ptr {P:Program} {w:World} {lim:Nat→Nat} {e:TypeId} {b o:Nat} {v:Value} (h:ZiP P w lim e b o v) (hm:Zm P e=false∨Zg P e=true):v = .pointer (some ⟨b,o,none⟩):=by
 rcases h with h | ⟨h,h',_⟩
 ·exact h.2
 ·rcases hm with hm | hm
  ·rw [hm] at h;cases h
  ·rw [hm] at h';cases h'
def ZP (P:Program) (w:World) (lim:Nat→Nat) (X:Nat→Nat→Option Nat) (σ:Nat→AV) (d:Nat) (x:AV) (v:Value):Prop:=
 match x with
 | .dead => True
 | .gone => True
 | .own x e xs => ZQ P w lim x e xs v (X d 0)
 | .box cs => ZI P w lim (X d) cs v
 | .ptr d' off => ∃ b cs, X d' 0 = some b ∧ σ d' = .box cs ∧ v = .pointer (some ⟨b, off, none⟩)
 | .mref d' k => ∃ e xs, Zo (σ d') k = some (e, xs) ∧ Zat P w (X d' k) e xs.length v
 | .eref d' k o => ∃ b e xs, Zo (σ d') k = some (e, xs) ∧ X d' k = some b ∧ ZiP P w lim e b o v
 | .eptr cs => ∃ (b o : Nat) (us : List Value), v = .pointer (some ⟨b, o, none⟩) ∧ us.length = cs.length ∧ (us ≠ [] → o + us.length ≤ lim b) ∧
   (∀ (j:Nat) (u:Value),us[j]? = some u→w.cell? ⟨b,o+j,none⟩=some u)∧(∀ c∈cs,c.isCell=true)∧
   ∀ (j:Nat) (c:AV) (u:Value),cs[j]? = some c→us[j]? = some u→Rep w lim c u
 | .tuple vs => ∃ us : List Value, v = .tuple us.toArray ∧ us.length = vs.length ∧
   ∀ (i:Nat) (c:AV) (u:Value),vs[i]? = some c→us[i]? = some u→JW P w lim (X d (i+1)) c u
 | .aggo cs => ∃ us : List Value, v = .agg us.toArray ∧ us.length = cs.length ∧ ((∀ c ∈ cs, c.isCell = true ∨ (∃ x e xs, c = .own x e xs) ∨ c = .gone) ∧ ∀ u ∈ us, u.oneCell' = true) ∧
   ∀ (i:Nat) (c:AV) (u:Value),cs[i]? = some c→us[i]? = some u→JW P w lim (X d (i+1)) c u
 | .gbox cs => ∃ v', ZI P w lim (X d) cs v'
 | .clo g ds => ∃ bs : List Nat, v = .func (.func g) #[] (bs.map fun b => Value.pointer (some ⟨b, 0, none⟩)).toArray ∧ bs.length = ds.length ∧
   ∀ (i d' b:Nat),ds[i]? = some d'→bs[i]? = some b→X d' 0=some b∧(σ d').isB=true
 | x => Rep w lim x v
def Je (x:AV) (d k:Nat):Prop:=x = .mref d k∨∃ o,x = .eref d k o
inductive Odr where
 | text
 | any (N : Nat → Bool) (M : Nat → Option Nat) (K : List (Nat × Nat))
def Odr.nr:Odr→Nat→Nat→Bool
 | .text, _, _ => false
 | .any N M _, d, i => N d || match M d with | some t => t != i | none => false
def Odr.kp:Odr→Nat→Nat→Bool
 | .text, _, _ => false
 | .any _ _ K, d, j => K.contains (d, j)
def JU (c:AV):AV:=match c with | .own true e _=>.own true e [] | c=>c
def Ji (x:AV) (j:Nat):Option AV:=match x with | .box cs=>(cs[j]?).map JU | _=>none
theorem Zis {c x:AV} (hx:∀ e xs,x≠.own true e xs) (h:JU c=JU x):c=x:=by
 have h2:JU x=x:=by
  unfold JU
  split
  ·rename_i e ys;exact (hx e ys rfl).elim
  ·rfl
 rw [h2] at h
 unfold JU at h
 split at h
 ·exact (hx _ _ h.symm).elim
 ·exact h
theorem ZgH {c:AV} {e:TypeId} {xs:List (List AV)} (h:JU c=JU (.own true e xs)):∃ ys,c = .own true e ys:=by
 change JU c = .own true e [] at h
 unfold JU at h
 split at h
 ·rename_i e' ys
  cases h
  exact ⟨ys,rfl⟩
 ·exact ⟨[],h⟩
def Odr.rel (T:Odr) (σ σ':Nat→AV):Prop:=
 match T with
 | .text => σ' = σ
 | .any N M K => (∀ d i k, (Odr.any N M K).nr d i = true → ¬ Je (σ' i) d k) ∧ ∀ d j, (Odr.any N M K).kp d j = true → Ji (σ' d) j = Ji (σ d) j
def Kl (y y':AV) (k:Nat):Prop:=∀ e xs,Zo y k=some (e,xs)→∃ xs',Zo y' k=some (e,xs')∧xs'.length=xs.length
theorem Kl.refl (y:AV) (k:Nat):Kl y y k:=fun _ xs h=>⟨xs,h,rfl⟩
def Zf6 (w:World) (lim:Nat→Nat) (w':World) (lim':Nat→Nat) (b:Nat):Prop:=w'.heap[b]? = w.heap[b]?∧lim' b=lim b
theorem WX.lt {P:Program} {w:World} {lim:Nat→Nat} {x:Bool} {e:TypeId} {xs:List (List AV)} {v:Value} {b:Nat} (h:WX P w lim x e xs v (some b)):b < w.heap.size:=by
 rcases h with ⟨us,h1,h2,_⟩ | ⟨_,h,_⟩
 ·exact (h1.lt b h2).2
 ·cases h
theorem ZQ.lt {P:Program} {w:World} {lim:Nat→Nat} {x:Bool} {e:TypeId} {xs:List (List AV)} {v:Value} {b:Nat} (h:ZQ P w lim x e xs v (some b)):b < w.heap.size:=by
 rcases h with h | h | ⟨_,⟨_,b',es,clock,kvs,_,_,h1,_,h2,_⟩ | h | ⟨_,b',es,clock,kvs,_,_,h1,_,h2,_⟩⟩
 ·exact WX.lt (.inl h)
 ·cases h.2.1
 ·cases h1
  exact (Array.getElem?_eq_some_iff.1 h2).1
 ·exact h.2.2.lt
 ·cases h1
  exact (Array.getElem?_eq_some_iff.1 h2).1
theorem ZQ.noMap {P:Program} {w:World} {lim:Nat→Nat} {x:Bool} {e:TypeId} {xs:List (List AV)} {v:Value} {ob:Option Nat} (h:ZQ P w lim x e xs v ob) (hm:Zm P e=false) :
  (∃ us:List Value,w.ownsRow 0 e (P.cellsOf e) v xs.length us∧v.ownBlock=ob∧(∀ b,ob=some b→lim b=if x=true then 0 else us.length)∧
   (∀ x∈xs,x.length=P.cellsOf e)∧(∀ x∈xs,∀ c∈x,c.isCell=true)∧
   ∀ (j:Nat) (c:AV) (u:Value),xs.flatten[j]? = some c→us[j]? = some u→Rep w lim c u)∨
  (xs = []∧ob=none∧∃ a,v = .slice (some a) 0 0):=by
 rcases h with h | h | ⟨_,⟨h,_⟩ | ⟨h,_⟩ | ⟨h,_⟩⟩
 ·exact .inl h
 ·exact .inr h
 ·rw [hm] at h;cases h
 ·rw [ZT hm] at h;cases h
 ·rw [hm] at h;cases h
theorem ZQ.one {P:Program} {w:World} {lim:Nat→Nat} {x:Bool} {e:TypeId} {xs:List (List AV)} {v:Value} {ob:Option Nat} (h:ZQ P w lim x e xs v ob) (hm:Zm P e=false∨Zg P e=true) (hd:Zff P w e ob) :
  WX P w lim x (bT e) xs v ob:=by
 rcases h with h | h | ⟨hx,⟨h,_,_,_,_,et,h1,_⟩ | h | ⟨h,_,_,_,_,_,⟨_,_,h1⟩,_⟩⟩
 ·rcases hm with hm | hm
  ·rw [Kd hm];exact .inl h
  ·obtain ⟨us,h1,h2,h3,h4,h5,h6⟩:=h
   rcases h1.2 with ⟨hv,hn⟩ | ⟨g,cap,cur,hv,hb,hg,rest⟩
   ·have hx:xs = []:=List.eq_nil_of_length_eq_zero hn
    subst hx
    rw [hv] at h2 ⊢
    exact .inl ⟨[],World.ownsRow_nil _ 0 _ _,h2,fun b hb=>(by rw [← h2] at hb;cases hb),by simp,by simp,by simp⟩
   ·obtain ⟨arr,ha⟩:=hd hm g (by rw [← h2,hv];rfl)
    rw [hg] at ha
    simp only [Option.some.injEq,Obj.cells.injEq,and_true] at ha
    have h8:2097152≤e:=by simp only [Zg,Bool.and_eq_true,decide_eq_true_eq] at hm;exact hm.1
    have h9:=ha.2
    rw [bT,if_pos h8] at h9
    exact absurd h9.symm (Nat.ne_of_lt (Nat.sub_lt (Nat.lt_of_lt_of_le (by decide) h8) (by decide)))
 ·exact .inr h
 ·rcases hm with hm | hm
  ·rw [hm] at h;cases h
  ·rw [Kb h1] at hm;cases hm
 ·subst hx;exact h.2.2
 ·rcases hm with hm | hm
  ·rw [hm] at h;cases h
  ·rw [Yg h1] at hm;cases hm
theorem WX.mono {P:Program} {w w':World} {lim lim':Nat→Nat} {x:Bool} {e:TypeId} {xs:List (List AV)} {v:Value} {ob:Option Nat}
  (h:WX P w lim x e xs v ob) (he:Ext w lim w' lim') (hk:∀ b,ob=some b→Zf6 w lim w' lim' b):WX P w' lim' x e xs v ob:=by
 rcases h with ⟨us,h1,h2,h3,h4,h5,h6⟩ | h
 case inr=>exact .inr h
 refine .inl ⟨us,⟨h1.1,?_⟩,h2,fun b hb=>((hk b hb).2.trans (h3 b hb)),h4,h5,fun j c u hc hu=>(h6 j c u hc hu).mono he⟩
 rcases h1.2 with h | ⟨g,cap,cur,rfl,hb,hg,rest⟩
 ·exact .inl h
 ·refine .inr ⟨g,cap,cur,rfl,hb,?_,rest⟩
  rw [(hk g (by rw [← h2];rfl)).1]
  exact hg
theorem ZQ.mono {P:Program} {w w':World} {lim lim':Nat→Nat} {x:Bool} {e:TypeId} {xs:List (List AV)} {v:Value} {ob:Option Nat}
  (h:ZQ P w lim x e xs v ob) (he:Ext w lim w' lim') (hk:∀ b,ob=some b→Zf6 w lim w' lim' b):ZQ P w' lim' x e xs v ob:=by
 rcases h with h | h | ⟨hx,h | h | h⟩
 ·exact (WX.mono (.inl h) he hk).own
 ·exact .inr (.inl h)
 ·exact .inr (.inr ⟨hx,.inl (h.mono he hk)⟩)
 ·exact .inr (.inr ⟨hx,.inr (.inl ⟨h.1,h.2.1,h.2.2.mono he hk⟩)⟩)
 ·exact .inr (.inr ⟨hx,.inr (.inr (h.mono hk))⟩)
theorem Zl8.mono {P:Program} {w w':World} {lim lim':Nat→Nat} {xs:List (List AV)} {b:Nat} {Y:Nat→Option Nat} (h:Zl8 P w lim xs b Y) (he:Ext w lim w' lim') (hb:w'.heap[b]? = w.heap[b]?)
  (hk:∀ j b',Y j=some b'→Zf6 w lim w' lim' b'):Zl8 P w' lim' xs b Y:=fun j s e ys u h1 h2=>by
 obtain ⟨k1,k2,k3⟩:=h j s e ys u h1 (by unfold World.cell? at h2 ⊢; rw [← hb];exact h2)
 exact ⟨k1,k2,k3.mono he (hk j)⟩
theorem VN.mono {P:Program} {w w':World} {lim lim':Nat→Nat} {e:TypeId} {xs:List (List AV)} {b:Nat} {Y:Nat→Option Nat} (h:VN P w lim e xs b Y) (he:Ext w lim w' lim') (hb:w'.heap[b]? = w.heap[b]?)
  (hk:∀ j b',Y j=some b'→Zf6 w lim w' lim' b'):VN P w' lim' e xs b Y:=⟨by rw [hb];exact h.1,h.2.mono he hb hk⟩
theorem ZeA.mono {P:Program} {w w':World} {lim lim':Nat→Nat} {e:TypeId} {xs:List (List AV)} {Xd:Nat→Option Nat} (h:ZeA P w lim e xs Xd) (he:Ext w lim w' lim')
  (hk:∀ k b,Xd k=some b→Zf6 w lim w' lim' b):ZeA P w' lim' e xs Xd:=fun hm b es clock kvs tl et h0 h1 h2 h3 i en row g1 g2 g3=>by
 obtain ⟨z,ys,k1,k2⟩:=h hm b es clock kvs tl et h0 h1 (((hk 0 b h1).1).symm.trans h2) h3 i en row g1 g2 g3
 exact ⟨z,ys,k1,k2.mono he (hk (i+1))⟩
theorem JW.mono {P:Program} {w w':World} {lim lim':Nat→Nat} {ob:Option Nat} {x:AV} {v:Value}
  (h:JW P w lim ob x v) (he:Ext w lim w' lim') (hk:∀ b,ob=some b→Zf6 w lim w' lim' b):JW P w' lim' ob x v:=by
 cases x<;>first | exact ZQ.mono h he hk | trivial | exact Rep.mono he h
theorem ZI.mono {P:Program} {w w':World} {lim lim':Nat→Nat} {X:Nat→Option Nat} {cs:List AV} {v:Value}
  (h:ZI P w lim X cs v) (he:Ext w lim w' lim') (hk:∀ k b,X k=some b→Zf6 w lim w' lim' b):ZI P w' lim' X cs v:=by
 obtain ⟨b,arr,t,h1,h2,h3,h4,h5,h6,h7⟩:=h
 exact ⟨b,arr,t,h1,h2,(hk 0 b h1).1.trans h3,h4,(hk 0 b h1).2.trans h5,h6,fun i c u hc hu=>(h7 i c u hc hu).mono he (hk (i+1))⟩
def V8 (w w':World) (b:Nat):Prop:=(∀ arr e,w.heap[b]? = some (.cells arr e (0,0))→∃ arr',w'.heap[b]? = some (.cells arr' e (0,0))∧arr'.size=arr.size)∧
 ∀ es clock,w.heap[b]? = some (.map es clock)→∃ es' clock',w'.heap[b]? = some (.map es' clock')
theorem V8.of {w w':World} {b:Nat} (h:w'.heap[b]? = w.heap[b]?):V8 w w' b:=⟨fun arr _ h1=>⟨arr,h.trans h1,rfl⟩,fun es clock h1=>⟨es,clock,h.trans h1⟩⟩
theorem Zat.mono {P:Program} {w w':World} {ob:Option Nat} {e:TypeId} {n:Nat} {v:Value} (h:Zat P w ob e n v) (hk:∀ b,ob=some b→V8 w w' b):Zat P w' ob e n v:=by
 rcases h with h | ⟨b,arr,cap,h1,h2,h3,h4⟩ | ⟨h0,hd,b,arr,cap,h1,h2,h3⟩ | ⟨h0,hd,b,es,clock,h1,h2,h3⟩
 ·exact .inl h
 ·obtain ⟨arr',k1,k2⟩:=(hk b h1).1 arr (bT e) h2
  exact .inr (.inl ⟨b,arr',cap,h1,k1,by rw [k2,h3],h4⟩)
 ·obtain ⟨arr',k1,k2⟩:=(hk b h1).1 arr e h2
  exact .inr (.inr (.inl ⟨h0,hd,b,arr',cap,h1,k1,h3⟩))
 ·obtain ⟨es',clock',k1⟩:=(hk b h1).2 es clock h2
  exact .inr (.inr (.inr ⟨h0,hd,b,es',clock',h1,k1,h3⟩))
theorem ZP.mono {P:Program} {w w':World} {lim lim':Nat→Nat} {X:Nat→Nat→Option Nat} {σ:Nat→AV} {d:Nat} {x:AV} {v:Value}
  (h:ZP P w lim X σ d x v) (he:Ext w lim w' lim') (hk:∀ k b,X d k=some b→Zf6 w lim w' lim' b)
  (hp:∀ d' k b,x = .mref d' k→X d' k=some b→V8 w w' b):ZP P w' lim' X σ d x v:=by
 cases x with
 | dead => trivial
 | gone => trivial
 | own x e xs => exact ZQ.mono h he (hk 0)
 | box cs => exact ZI.mono h he hk
 | ptr d' off => exact h
 | mref d' k =>
  obtain ⟨e,xs,h1,h2⟩:=h
  exact ⟨e,xs,h1,h2.mono fun b hb=>hp d' k b rfl hb⟩
 | eref d' k o =>
  obtain ⟨b,e,xs,h1,h2,h3⟩:=h
  exact ⟨b,e,xs,h1,h2,h3.mono he⟩
 | eptr cs =>
  obtain ⟨b,o,us,h1,h2,h3,h4,h5,h6⟩:=h
  by_cases hne:us = []
  ·subst hne
   exact ⟨b,o,[],h1,h2,fun h=>(h rfl).elim,by simp,h5,by simp⟩
  ·have hl:=h3 hne
   obtain ⟨u,rest,rfl⟩:∃ u rest,us=u::rest:=by cases us with | nil=>exact (hne rfl).elim | cons u rest=>exact ⟨u,rest,rfl⟩
   have hb:=Zai (h4 0 u rfl)
   exact ⟨b,o,_,h1,h2,fun _=>Nat.le_trans hl (he b hb).1,fun j u' hj=>(he b hb).2 _ _ (by have:=(List.getElem?_eq_some_iff.1 hj).1;omega) (h4 j u' hj),h5,fun j c u hc hu=>(h6 j c u hc hu).mono he⟩
 | tuple vs =>
  obtain ⟨us,h1,h2,h3⟩:=h
  exact ⟨us,h1,h2,fun i c u hc hu=>(h3 i c u hc hu).mono he (hk (i+1))⟩
 | aggo cs =>
  obtain ⟨us,h1,h2,h4,h3⟩:=h
  exact ⟨us,h1,h2,h4,fun i c u hc hu=>(h3 i c u hc hu).mono he (hk (i+1))⟩
 | gbox cs =>
  obtain ⟨v',h⟩:=h
  exact ⟨v',ZI.mono h he hk⟩
 | clo g ds => exact h
 | val v => exact Rep.mono he h
 | agg cs => exact Rep.mono he h
 | slice f s xs => exact Rep.mono he h
 | nest s o e ys => exact Rep.mono he h
structure Ctx where
 P:Program
 w0:World
 lim0:Nat→Nat
 A:Nat→Prop
 nt:Nat
 /-- The slots of the callers' boxes. -/
 pin:Nat→Option Value
 /-- The blocks of the boxes that stand behind the activation's own slots. -/
 gpin:Nat→Option Nat
structure Frm (c:Ctx) (w:World) (lim:Nat→Nat):Prop where
 os:w.os=c.w0.os
 tape:w.tape=c.w0.tape
 output:w.output=c.w0.output
 size:c.w0.heap.size≤w.heap.size
 frz:∀ a:Addr,a.block < c.w0.heap.size→w.frozen? a=c.w0.frozen? a
 blk:∀ b,b < c.w0.heap.size→¬ c.A b→Zf6 c.w0 c.lim0 w lim b
 ext:Ext c.w0 c.lim0 w lim
structure Sim (c:Ctx) (σ:Nat→AV) (tm:Array Value) (w:World) (lim:Nat→Nat) (X:Nat→Nat→Option Nat):Prop where
 rel:∀ d,ZP c.P w lim X σ d (σ d) (tm.getD d undef)
 size:tm.size=c.nt
 out:∀ d,c.nt≤d→σ d = .dead∨(σ d).isG=true
 ghost:∀ d,(σ d).isG=true→c.nt≤d
 dist:∀ d k d' k' b,X d k=some b→X d' k'=some b→d=d'∧k=k'
 ours:∀ d k b,X d k=some b→b < w.heap.size∧(c.A b∨c.w0.heap.size≤b)
 frm:Frm c w lim
 pin:∀ d v,c.pin d=some v→tm.getD d undef=v∧∃ cs,σ d = .box cs
 mp:∀ d e xs,σ d = .own true e xs→ZeA c.P w lim e xs (X d)
 gpin:∀ d b,c.gpin d=some b→X d 0=some b∧(σ d).isG=true
 ntN:c.nt≤ngN
 far:∀ d,ngN≤d→σ d = .dead
 nst:∀ d k e xs b,ZX (σ d) k=some (e,xs)→Zg c.P e=true→X d k=some b→VN c.P w lim e xs b (X (ngN+b))
 yfr:∀ b m b',X (ngN+b) m=some b'→b < w.heap.size
end Go.AM
end

section
namespace Go.AM
inductive IOp where
 | add | sub | mul | quo | rem | and | or | xor | andNot | shl | shr | min | max
 deriving DecidableEq,Repr
inductive COp where
 | eql | neq | lss | leq | gtr | geq
 deriving DecidableEq,Repr
inductive LOp where
 | dget (o : Nat)
 | dput (o s : Nat) (h : Bool) (e : TypeId)
 | dfz1 (o n : Nat)
 | dfrz
 | dclr
 | dcol (o n : Nat)
 | mrow
 | mput
 | dlft
 | dsort
 | sel (j : Nat)
 deriving DecidableEq,Repr
inductive QOp where
 | nst (o s : Nat) (e : TypeId)
 | mapv
 | ints
 deriving DecidableEq,Repr
mutual
inductive IE where
 | var (n : Nat)
 | lit (z : Int)
 | bin (op : IOp) (k : IntKind) (a b : IE)
 | conv (k : IntKind) (a : IE)
 | len (l : LE)
 | slen (s : SE)
 | getc (s : SE) (i : IE)
inductive BE where
 | var (n : Nat)
 | lit (b : Bool)
 | cmp (op : COp) (a b : IE)
 | beq (a b : BE)
 | seq (a b : SE)
 | and (a b : BE)
 | not (a : BE)
inductive SE where
 | var (n : Nat)
 | lit (s : ByteArray)
 | bytes (l : LE)
inductive LE where
 | var (n : Nat)
 | nil
 | snoc (l : LE) (e : CE)
 | app (a b : LE)
 | take (l : LE) (i : IE)
 | drop (l : LE) (i : IE)
 | rep (i : IE) (e : CE)
 | setAt (l : LE) (i : IE) (o : Nat) (e : CE)
 | spl (l a : LE)
 | mget (l : LE) (k : IE)
 | mhole (l : LE) (k : IE)
 | mset (l : LE) (k : IE) (s : Nat) (v : LE)
 | mkeys (l : LE)
 | fn (op : LOp) (l : LE) (i : IE) (v : LE) (c : CE)
inductive CE where
 | nil
 | cons (c : SC) (r : CE)
inductive SC where
 | int (k : IntKind) (e : IE)
 | bool (b : BE)
 | str (s : SE)
 | slice (full : Bool) (s : Nat) (l : LE)
end
inductive TC where
 | c (x : SC)
 | agg (cs : List SC)
 | own (x : Bool) (e : TypeId) (l : LE)
 | gone
inductive BC where
 | c (x : SC)
 | own (x : Bool) (e : TypeId) (l : LE)
 | gone
inductive SV where
 | dead
 | gone
 | c (x : SC)
 | agg (cs : List SC)
 | tuple (vs : List TC)
 | aggo (cs : List BC)
 | own (x : Bool) (e : TypeId) (l : LE)
 | box (cs : List BC)
 | ptr (d off : Nat)
 | eptr (cs : List SC)
 | mref (d k : Nat)
 | eref (d k : Nat) (i : IE) (s o : Nat)
 | gbox (cs : List BC)
 | clo (g : FuncId) (ds : List Nat)
 | vptr (d off m : Nat) (i : IE)
inductive Tr where
 | leaf (v : SV)
 | node (l r : Tr)
def Tr.get:Tr→Nat→SV
 | .leaf v, _ => v
 | .node l r, n => match n % 2 with | 0 => l.get (n / 2) | _ => r.get (n / 2)
def Tr.set:Nat→Tr→Nat→SV→Tr
 | 0, _, _, v => .leaf v
 | d + 1, .node l r, n, v => match n % 2 with | 0 => .node (Tr.set d l (n / 2) v) r | _ => .node l (Tr.set d r (n / 2) v)
 | d + 1, .leaf x, n, v => match n % 2 with | 0 => .node (Tr.set d (.leaf x) (n / 2) v) (.leaf x) | _ => .node (.leaf x) (Tr.set d (.leaf x) (n / 2) v)
def depth:Nat:=10
inductive Sh where
 | int (k : IntKind)
 | bool
 | str
 | slice (s : Nat)
 | own (x : Bool) (e : TypeId)
 deriving DecidableEq
inductive RSh where
 | c (s : Sh)
 | agg (l : List Sh)
 | box (l : List Sh)
 | aggo (l : List Sh)
inductive PE where
 | le (a b : IE)
 | lt (a b : IE)
 | make (a : IE) (bytes : Nat)
 | ne0 (a : IE)
 | bytes (l : LE)
 | room (a b : LE) (bytes : Nat)
 | cons (l : LE)
 | mq (q : MQ) (l : LE) (k : IE)
 | lq (op : QOp) (l : LE) (i : IE)
inductive VE where
 | i (e : IE)
 | b (e : BE)
 | s (e : SE)
 | l (e : LE)
inductive STree where
 | stuck (why : Nat)
 | branch (b : BE) (t e : STree)
 | req (p : PE) (t : STree)
 | elem (l : LE) (i : IE) (sh : List Sh) (n : Nat) (t : STree)
 | nilq (l : LE) (n : Nat) (t : STree)
 | call (f : FuncId) (args : List SV) (res : SV) (outs : List SV) (n : Nat) (sh : List Sh) (t : STree)
 | loop (lv : Nat) (init : List VE) (n : Nat) (t : STree)
 | again (lv : Nat) (vals : List VE)
 | ret (res : SV) (outs : List SV)
def ZdV (b:BE) (t e:STree):STree:=
 match b with
 | .lit true => t
 | .lit false => e
 | b => .branch b t e
def Zjl:BE→BE
 | .lit b => .lit (!b)
 | b => .not b
def ofC:Value→Option SC
 | .slice none 0 0 => some (.slice true 0 .nil)
 | .bool b => some (.bool (.lit b))
 | .int k n => some (.int k (.lit n))
 | .string s => some (.str (.lit s))
 | _ => none
def ZfK:List Value→Option (List SC)
 | [] => some []
 | v :: vs =>
  match ofC v,ZfK vs with
  | some c, some cs => some (c :: cs)
  | _, _ => none
def ofV:Value→SV
 | .agg cs => match ZfK cs.toList with | some l => .agg l | none => .dead
 | v => match ofC v with | some c => .c c | none => .dead
def Jh (P:Program) (g:Nat→SV):Operand→SV
 | .tmp t =>
  match g t with
  | .box _ => .ptr t 0
  | .own x e xs => match x with | true => .mref t 0 | false => .c (.slice false (P.cellsOf e) xs)
  | .tuple _ => .dead
  | .aggo _ => .dead
  | .gbox _ => .dead
  | x => x
 | .const v => ofV v
 | .func f => .clo f []
 | _ => .dead
def SV.cells:SV→Option (List SC)
 | .c x => some [x]
 | .agg cs => some cs
 | _ => none
abbrev Ups:=List (Nat×SV)
abbrev K:=SV→Ups→List Nat→Nat→STree
def Z0 (P:Program) (T:TypeId):Option Bool:=
 match P.underlying T with
 | some (.struct _) => some true
 | some (.array _ _) => some true
 | some _ => some false
 | none => none
def Yn (P:Program) (T:TypeId) (f:Nat):Option Nat:=
 match P.underlying T with
 | some (.struct fs) =>
  match fs[f]? with
  | some fd => if P.cellsOf fd.type = 0 then none else some fd.offset
  | none => none
 | _ => none
def ZdS (P:Program) (T:TypeId) (f:Nat):Option (Bool×Nat):=
 match P.underlying T with
 | some (.struct fs) =>
  match fs[f]? with
  | some fd => (Z0 P fd.type).map fun a => (a, P.cellsOf fd.type)
  | none => none
 | _ => none
def YA (P:Program):Nat→TypeId→Option (List Sh)
 | 0, _ => none
 | d + 1, T =>
  match P.underlying T with
  | some (.struct fs) => fs.toList.foldr (fun f acc => match YA P d f.type, acc with | some a, some b => some (a ++ b) | _, _ => none) (some [])
  | some (.array n e) => (YA P d e).map fun l => (List.replicate n l).flatten
  | some (.slice e) => some [.slice (P.cellsOf e)]
  | some (.int k) => some [.int k]
  | some .bool => some [.bool]
  | some .string => some [.str]
  | _ => none
def JR (P:Program):Nat→TypeId→List (Option TypeId)
 | 0, _ => []
 | d + 1, T =>
  match P.underlying T with
  | some (.struct fs) => fs.toList.flatMap fun f => JR P d f.type
  | some (.array n e) => (List.replicate n (JR P d e)).flatten
  | some (.slice e) => [some e]
  | _ => [none]
def Jg:Sh→Nat→SC
 | .int k, n => .int k (.var n)
 | .bool, n => .bool (.var n)
 | .str, n => .str (.var n)
 | .slice s, n => .slice false s (.var n)
 | .own _ _, n => .slice false 0 (.var n)
def ZB:List Sh→Nat→List SC
 | [], _ => []
 | s :: ss, n => Jg s n :: ZB ss (n + 1)
def ZaP (e:Option TypeId) (c:SC):BC:=
 match e,c with
 | some e, .slice true _ .nil => .own false e .nil
 | _, c => .c c
def Zn9 (P:Program) (T:TypeId):Option (List BC):=
 match P.info? T with
 | some i =>
  match i.zero with
  | some z =>
   match ZfK z.cells.toList with
   | some cs => if (JR P 8 T).length = cs.length then some (List.zipWith ZaP (JR P 8 T) cs) else none
   | none => none
  | none => none
 | none => none
def Zdb (P:Program):BC→SC
 | .c x => x
 | .own _ e l => .slice false (P.cellsOf e) l
 | .gone => .slice true 0 .nil
def Vf (cs:List BC):Bool:=cs.all fun c=>match c with | .own true _ _=>false | _=>true
def K6 (cs:List BC):Bool:=cs.all fun c=>match c with | .gone=>false | _=>true
def ZcV (d:Nat) (x:SV):Bool:=
 match x with
 | .mref d' _ => d' == d
 | .eref d' _ _ _ _ => d' == d
 | _ => false
def ZR (g:Nat→SV) (d:Nat):Nat→List (Nat×SV)
 | 0 => []
 | i + 1 => if i ≠ d ∧ ZcV d (g i) = true then (i, .dead) :: ZR g d i else ZR g d i
def SV.isG:SV→Bool
 | .gbox _ => true
 | _ => false
def Jd (x:SV) (k:Nat):Option (TypeId×LE):=
 match x,k with
 | .own true e l, 0 => some (e, l)
 | .box cs, k + 1 => match cs[k]? with | some (.own true e l) => some (e, l) | _ => none
 | .gbox cs, k + 1 => match cs[k]? with | some (.own true e l) => some (e, l) | _ => none
 | _, _ => none
def Z5 (x:SV) (k:Nat) (b:Bool) (e:TypeId) (l:LE):SV:=
 match x,k with
 | .own _ _ _, 0 => .own b e l
 | .box cs, k + 1 => .box (cs.set k (.own b e l))
 | x, _ => x
def ZdF (place:Nat→Option (Nat×Nat)):List SC→List (Nat×SV)→Option (List SC)
 | cells, [] => some cells
 | cells, (i, v) :: rest =>
  match place i,v.cells with
  | some (off, size), some vc =>
   if vc.length=size∧off+size≤cells.length then ZdF place (cells.take off++vc++cells.drop (off+size)) rest else none
  | _, _ => none
def Zij:List SC→CE
 | [] => .nil
 | c :: cs => .cons c (Zij cs)
def lOf (size:Nat) (cs:List SC):Nat→LE
 | 0 => .nil
 | n + 1 => .snoc (lOf size cs n) (Zij ((cs.drop (n * size)).take size))
def Zkh (s:Sh) (c:SC):Option SC:=
 match s,c with
 | .slice s, .slice _ s' l => if s' = s then some (.slice false s l) else (match l with | .nil => some (.slice false s .nil) | _ => none)
 | _, c => some c
def YO:List Sh→List SC→Option (List SC)
 | [], [] => some []
 | s :: ss, c :: cs => match Zkh s c, YO ss cs with | some v, some vs => some (v :: vs) | _, _ => none
 | _, _ => none
def Zo4 (s:Sh) (c:SC):SC:=
 match s,c with
 | .slice s, .slice f _ .nil => .slice f s .nil
 | _, c => c
def ZlW:List Sh→List SC→List SC
 | s :: ss, c :: cs => Zo4 s c :: ZlW ss cs
 | _, cs => cs
def nrm (P:Program) (T:TypeId) (vc:List SC):List SC:=match YA P 8 T with | some sh=>ZlW sh vc | none=>vc
def ZkU:SC→SC→Option BE
 | .int k a, .int k' b => if k = k' then some (.cmp .eql a b) else none
 | .bool a, .bool b => some (.beq a b)
 | _, _ => none
def ZaJ:List SC→List SC→Option BE
 | [], [] => some (.lit true)
 | a :: aZ, b :: bs =>
  match ZkU a b,ZaJ aZ bs with
  | some x, some y => some (.and x y)
  | _, _ => none
 | _, _ => none
def Zib (sh:Sh) (c:SC):Bool:=
 match sh,c with
 | .int k, .int k' _ => decide (k = k')
 | .bool, .bool _ => true
 | _, _ => false
def V6:List Sh→List SC→Bool
 | [], [] => true
 | s :: ss, c :: cs => Zib s c && V6 ss cs
 | _, _ => false
def Zki (P:Program) (plain:List TypeId) (T:TypeId) (xs ys:List SC):Bool:=
 plain.contains T&&match YA P 8 T with | some l=>V6 l xs&&V6 l ys | none=>false
def bin (P:Program) (plain:List TypeId) (op:BinOp) (T:TypeId) (x y:SV) (k:SV→STree):STree:=
 match x,y with
 | .c (.int kx a), .c (.int ky b) =>
  match op with
  | .shl => .req (.le (.lit 0) b) (k (.c (.int kx (.bin .shl kx a b))))
  | .shr => .req (.le (.lit 0) b) (k (.c (.int kx (.bin .shr kx a b))))
  | _ =>
   if kx=ky then
    match op with
    | .add => k (.c (.int kx (.bin .add kx a b)))
    | .sub => k (.c (.int kx (.bin .sub kx a b)))
    | .mul => k (.c (.int kx (.bin .mul kx a b)))
    | .quo => .req (.ne0 b) (k (.c (.int kx (.bin .quo kx a b))))
    | .rem => .req (.ne0 b) (k (.c (.int kx (.bin .rem kx a b))))
    | .and => k (.c (.int kx (.bin .and kx a b)))
    | .or => k (.c (.int kx (.bin .or kx a b)))
    | .xor => k (.c (.int kx (.bin .xor kx a b)))
    | .andNot => k (.c (.int kx (.bin .andNot kx a b)))
    | .eql => k (.c (.bool (.cmp .eql a b)))
    | .neq => k (.c (.bool (.cmp .neq a b)))
    | .lss => k (.c (.bool (.cmp .lss a b)))
    | .leq => k (.c (.bool (.cmp .leq a b)))
    | .gtr => k (.c (.bool (.cmp .gtr a b)))
    | .geq => k (.c (.bool (.cmp .geq a b)))
    | _ => .stuck 1
   else .stuck 2
 | .c (.str a), .c (.str b) =>
  match op with
  | .eql => k (.c (.bool (.seq a b)))
  | .neq => k (.c (.bool (.not (.seq a b))))
  | _ => .stuck 3
 | .c (.bool a), .c (.bool b) =>
  match P.underlying T with
  | some .bool =>
   match op with
   | .eql => k (.c (.bool (.beq a b)))
   | .neq => k (.c (.bool (.not (.beq a b))))
   | _ => .stuck 4
  | _ => .stuck 5
 | .agg xs, .agg ys =>
  match Zki P plain T xs ys,ZaJ xs ys with
  | true, some e =>
   match op with
   | .eql => k (.c (.bool e))
   | .neq => k (.c (.bool (.not e)))
   | _ => .stuck 6
  | _, _ => .stuck 7
 | _, _ => .stuck 8
def ZjI (full:Bool) (s:Nat) (xs:LE) (lo hi mx:Option SV) (k:SV→STree):STree:=
 match lo,hi,mx with
 | none, some (.c (.int _ (.lit 0))), some (.c (.int _ (.lit 0))) => k (.c (.slice true s .nil))
 | none, none, none => k (.c (.slice full s xs))
 | some (.c (.int _ l)), none, none => .req (.le (.lit 0) l) (.req (.le l (.len xs)) (k (.c (.slice full s (.drop xs l)))))
 | none, some (.c (.int _ h)), none => .req (.le (.lit 0) h) (.req (.le h (.len xs)) (k (.c (.slice false s (.take xs h)))))
 | some (.c (.int _ l)), some (.c (.int _ h)), none =>
  .req (.le (.lit 0) l) (.req (.le l h) (.req (.le h (.len xs)) (k (.c (.slice false s (.drop (.take xs h) l))))))
 | _, _, _ => .stuck 10
def Zps (P:Program) (T:TypeId) (x:SV) (k:SV→STree):STree:=
 match P.underlying T,x with
 | some (.slice _), .c (.slice _ _ xs) => k (.c (.int .i64 (.len xs)))
 | some .string, .c (.str s) => k (.c (.int .i64 (.slen s)))
 | _, _ => .stuck 11
def Znc:LE:=.snoc .nil (.cons (.slice false 2 .nil) .nil)
def Zhn (l:LE):Bool:=match l with | .snoc .nil (.cons (.slice false 2 .nil) .nil)=>true | _=>false
def mvB (P:Program) (e:TypeId) (l:LE):Bool:=!Zm P e||Zg P e||Zhn l||(Jj P (e-1048576)).isNone
def Y8 (P:Program) (txt:Odr) (g:Nat→SV) (nt t:Nat) (x:Bool) (e:TypeId) (l:LE):Option Ups:=
 match x with
 | false => some [(t, .c (.slice false (P.cellsOf e) l))]
 | true => if mvB P e l = true then (match txt with | .text => some ((t, .dead) :: ZR g t nt) | .any N _ _ => match N t with | true => some [(t, .dead)] | false => none) else none
def ZdC (txt:Odr) (g:Nat→SV) (top d:Nat):Bool:=
 match txt with
 | .text => (ZR g d top).isEmpty
 | .any N _ _ => N d
def Zh3 (txt:Odr) (g:Nat→SV) (top d:Nat):Option Ups:=
 match txt with
 | .text => some (ZR g d top)
 | .any N _ _ => if N d = true then some [] else none
def Za2 (P:Program) (T:TypeId) (txt:Odr) (g:Nat→SV) (nt:Nat) (ex:Bool) (src:Option Nat) (x y:SV) (k:SV→Ups→STree):STree:=
 match P.underlying T with
 | some (.slice e) =>
  match P.info? e with
  | some i =>
   match i.zero with
   | some z =>
    if z.cells.size=i.size∧0 < i.size∧Zm P e=false then
     match x,y with
     | .own b e' xs, .c (.slice _ s ys) =>
      match src with
      | some t =>
       match Y8 P txt g nt t b e' xs with
       | some us => if e' = e ∧ s = i.size then .req (.room xs ys i.bytes) (k (.own b e (.app xs ys)) us) else .stuck 20
       | none => .stuck 23
      | none => .stuck 21
     | .c (.slice true _ .nil), .c (.slice _ s ys) =>
      if s=i.size then .req (.room .nil ys i.bytes) (k (.own ex e ys) []) else .stuck 22
     | _, _ => .stuck 24
    else .stuck 25
   | none => .stuck 26
  | none => .stuck 27
 | _ => .stuck 28
def Wy (P:Program) (T:TypeId) (txt:Odr) (g:Nat→SV) (nt:Nat) (ex:Bool) (src:Option Nat) (x:SV) (pl:Option (TypeId×LE)) (k:SV→Ups→STree):STree:=
 match P.underlying T with
 | some (.slice e) =>
  match P.info? e with
  | some i =>
   match i.zero with
   | some z =>
    if z.cells.size=i.size∧0 < i.size∧Zm P e=false then
     match x,pl with
     | .own b e' xs, some (e2, ys) =>
      match src with
      | some t =>
       match Y8 P txt g nt t b e' xs with
       | some us => if e' = e ∧ e2 = e then .req (.room xs ys i.bytes) (k (.own b e (.app xs ys)) us) else .stuck 20
       | none => .stuck 23
      | none => .stuck 21
     | .c (.slice true _ .nil), some (e', ys) => if e' = e then .req (.room .nil ys i.bytes) (k (.own ex e ys) []) else .stuck 22
     | _, _ => .stuck 24
    else .stuck 25
   | none => .stuck 26
  | none => .stuck 27
 | _ => .stuck 28
def ZS:Operand→Option Nat
 | .tmp t => some t
 | _ => none
def K2 (o:Oper):List Nat:=o.op.operands.toList.filterMap ZS
def Zlk (gh:Bool) (cs:List BC):SV:=match gh with | true=>.gbox cs | false=>.box cs
inductive SAK where
 | imm (x : SV)
 | own (t : Nat) (x : Bool) (e : TypeId) (l : LE)
 | box (d : Nat) (fr to : Bool) (cs : List BC)
 | clo (g : FuncId) (ds gs : List Nat)
 | ref (t d q j : Nat)
 | pad
def SAK.sv:SAK→SV
 | .imm x => x
 | .own _ x e l => .own x e l
 | .box _ _ to cs => Zlk to cs
 | .clo g _ gs => .clo g gs
 | .ref _ _ q j => .mref j q
 | .pad => .dead
def SAK.slot:SAK→Option Nat
 | .imm _ => none
 | .own t _ _ _ => some t
 | .box d _ _ _ => some d
 | .clo _ _ _ => none
 | .ref t _ _ _ => some t
 | .pad => none
def Zoa (P:Program) (g:Nat→SV) (x:Operand):Option SAK:=
 match ZS x,(ZS x).map g with
 | some t, some (.own x e l) => some (.own t x e l)
 | _, _ =>
  match Jh P g x with
  | .c v => some (.imm (.c v))
  | .agg cs => some (.imm (.agg cs))
  | .ptr d 0 =>
   match g d with
   | .box cs => if K6 cs = true then some (.box d false false cs) else none
   | _ => none
  | .clo h ds => some (.clo h ds [])
  | .mref d q =>
   match Jd (g d) q with
   | some (e, l) => if 0 < P.cellsOf e ∧ Zm P e = false then some (.imm (.c (.slice false (P.cellsOf e) l))) else none
   | none => none
  | _ => none
def Zbp (g:Nat→SV) (x:Operand):Option SAK:=
 match ZS x,(ZS x).map g with
 | some t, some (.mref d q) => some (.ref t d q 0)
 | _, _ => none
def V9 (P:Program) (g:Nat→SV) (rf:List Nat):List Operand→Nat→List (Nat×Nat)
 | [], _ => []
 | x :: rest, i =>
  if (rf.contains i&&(Zbp g x).isSome)=true then V9 P g rf rest (i+1)
  else
   match (ZS x).map g with
   | some (.own _ _ _) => V9 P g rf rest (i + 1)
   | _ => match Jh P g x with | .mref d q => (d, q) :: V9 P g rf rest (i + 1) | _ => V9 P g rf rest (i + 1)
def Zan (x:SC):Bool:=match x with | .slice _ _ _=>false | _=>true
def Zkn (x:BC):Bool:=match x with | .c x=>Zan x | _=>false
def Zpk (x:TC):Bool:=match x with | .c x=>Zan x | .agg cs=>cs.all Zan | _=>false
def Zhy (x:SV):Bool:=
 match x with
 | .c x => Zan x
 | .dead => true
 | .agg cs => cs.all Zan
 | .box cs => cs.all Zkn
 | .gbox cs => cs.all Zkn
 | .tuple vs => vs.all Zpk
 | _ => false
def Zpa (bs:List (Nat×Nat)) (slots:List Nat) (res:SV) (outs:List SV):Bool:=
 match bs with
 | [] => true
 | p :: r => r.all (fun q => decide (q.1 = p.1) && decide (q.2 = p.2)) && !slots.contains p.1 && Zhy res && outs.all Zhy
def Zbl (P:Program) (g:Nat→SV) (rf:List Nat):List Operand→Nat→Option (List SAK)
 | [], _ => some []
 | x :: rest, i =>
  match (if (rf.contains i&&(Zbp g x).isSome)=true then Zbp g x else Zoa P g x),Zbl P g rf rest (i+1) with
  | some a, some aZ => some (a :: aZ)
  | _, _ => none
def Zu:List SAK→List Nat
 | [] => []
 | .clo _ ds _ :: aZ => (ds.filter fun d => !(Zu aZ).contains d).eraseDups ++ Zu aZ
 | .ref _ d _ _ :: aZ => if (Zu aZ).contains d = true then Zu aZ else d :: Zu aZ
 | _ :: aZ => Zu aZ
def Zln (d:Nat):List Nat→Nat
 | [] => 0
 | x :: xs => if x = d then 0 else Zln d xs + 1
def Zob (g:Nat→SV) (to:Bool) (d:Nat):Option SAK:=
 match g d with
 | .box cs => if K6 cs = true then some (.box d false to cs) else none
 | .gbox cs => if K6 cs = true then some (.box d true to cs) else none
 | _ => none
def WO (g:Nat→SV) (to:Bool):List Nat→Option (List SAK)
 | [] => some []
 | d :: ds => match Zob g to d, WO g to ds with | some a, some aZ => some (a :: aZ) | _, _ => none
def ZaI (base:Nat) (gh:List Nat):SAK→SAK
 | .clo g ds _ => .clo g ds (ds.map fun d => base + Zln d gh)
 | .ref t d q _ => .ref t d q (base + Zln d gh)
 | a => a
def W6 (g:Nat→SV) (nt:Nat) (aZ:List SAK):Option (List SAK):=
 match Zu aZ with
 | [] => some aZ
 | gh => if aZ.length ≤ nt then (WO g true gh).map fun gs => aZ.map (ZaI nt gh) ++ List.replicate (nt - aZ.length) .pad ++ gs else none
def Zdn:List Nat→Bool
 | [] => true
 | x :: xs => !xs.contains x && Zdn xs
def Zqs (fr to:Bool) (o:SV):SV:=
 match to,o with
 | true, .gbox cs => Zlk fr cs
 | false, .box cs => Zlk fr cs
 | _, _ => .dead
def Zak:List SAK→List SV→Ups
 | .own t _ _ _ :: aZ, _ :: os => (t, .gone) :: Zak aZ os
 | .box d fr to _ :: aZ, o :: os => (d, Zqs fr to o) :: Zak aZ os
 | .imm _ :: aZ, _ :: os => Zak aZ os
 | .clo _ _ _ :: aZ, _ :: os => Zak aZ os
 | .ref t _ _ _ :: aZ, _ :: os => (t, .dead) :: Zak aZ os
 | .pad :: aZ, _ :: os => Zak aZ os
 | _, _ => []
def Zmr (o:BC) (x:SC):BC:=
 match o,x with
 | .own true e _, .slice true _ .nil => .own true e .nil
 | _, _ => .c x
def YN:List BC→List SC→List BC
 | o :: os, x :: xs => Zmr o x :: YN os xs
 | [], xs => xs.map .c
 | _ :: _, [] => []
def ZlO:BC→Sh
 | .c (.int k _) => .int k
 | .c (.bool _) => .bool
 | .c (.str _) => .str
 | .c (.slice _ s _) => .slice s
 | .own x e _ => .own x e
 | .gone => .bool
def Zoh:Sh→Nat→BC
 | .own x e, n => .own x e (.var n)
 | s, n => .c (Jg s n)
def Ka:List Sh→Nat→List BC
 | [], _ => []
 | s :: ss, n => Zoh s n :: Ka ss (n + 1)
def Jm:List SV→Nat→List SV×List Sh×Nat
 | [], n => ([], [], n)
 | .box cs :: aZ, n =>
  let sh:=cs.map ZlO
  let r:=Jm aZ (n+sh.length)
  (.box (Ka sh n)::r.1,sh++r.2.1,r.2.2)
 | .gbox cs :: aZ, n =>
  let sh:=cs.map ZlO
  let r:=Jm aZ (n+sh.length)
  (.gbox (Ka sh n)::r.1,sh++r.2.1,r.2.2)
 | _ :: aZ, n =>
  let r:=Jm aZ n
  (.dead::r.1,r.2.1,r.2.2)
def ZmS (P:Program) (fresh:Nat) (T:TypeId):Option RSh:=
 match P.underlying T with
 | some (.struct _) => (YA P 8 T).map .agg
 | some (.array _ _) => (YA P 8 T).map .agg
 | some (.slice e) => some (.c (match fresh with | 0 => .slice (P.cellsOf e) | 1 => .own false e | _ => .own true e))
 | some (.int k) => some (.c (.int k))
 | some .bool => some (.c .bool)
 | some .string => some (.c .str)
 | some (.map _ _) => if (Kq P T).isSome = true ∧ (Jj P T).isNone = true ∧ T + 1048576 < 2097152 then some (.c (.own true (T + 1048576))) else none
 | _ => none
def ZoE (r:RSh) (n:Nat):TC×List Sh:=
 match r with
 | .c (.own x e) => (.own x e (.var n), [.own x e])
 | .c s => (.c (Jg s n), [s])
 | .agg l => (.agg (ZB l n), l)
 | .box l => (.agg (ZB l n), l)
 | .aggo l => (.agg (ZB l n), l)
def Wr (P:Program) (fresh:Nat):List TypeId→Nat→Option (List TC×List Sh×Nat)
 | [], n => some ([], [], n)
 | T :: Ts, n =>
  match ZmS P fresh T with
  | some r =>
   let x:=ZoE r n
   match Wr P fresh Ts (n+x.2.length) with
   | some (vs, sh, n') => some (x.1 :: vs, x.2 ++ sh, n')
   | none => none
  | none => none
def Zqd:TC→SV
 | .c x => .c x
 | .agg cs => .agg cs
 | .own x e l => .own x e l
 | .gone => .gone
def Zel (P:Program) (fresh:Nat) (Ts:List TypeId) (n:Nat):Option (SV×List Sh×Nat):=
 match Wr P fresh Ts n with
 | some ([x], sh, n') => some (Zqd x, sh, n')
 | some (vs, sh, n') => some (.tuple vs, sh, n')
 | none => none
inductive HP where
 | c (s : Sh)
 | agg (l : List Sh)
 | box (l : List Sh)
 | mref (d k : Nat)
 | ptr (d off : Nat)
 | dead
 | gbox (l : List Sh)
 | clo (g : FuncId) (ds : List Nat)
structure Env where
 nt:Nat
 cons:FuncId→Nat→Bool
 fresh:FuncId→Nat
 plain:List TypeId
 res:List Nat
 keep:Nat→List (Nat×HP)
 pins:List Nat
 ng:Nat
 ex:List Nat
 fz:Nat→List (Nat×Nat)
 rb:FuncId→Option (List Sh):=fun _=>none
 rfs:FuncId→List Nat:=fun _=>[]
 ks:List (FuncId×FuncId×FuncId):=[]
 srt:List FuncId:=[]
abbrev Env.top (E:Env):Nat:=E.nt+E.ng
def gE (E:Env) (s:Tr):Nat→SV:=fun d=>if d < E.top then s.get d else .dead
def ZdA:List SV→Option (List Nat)
 | [] => some []
 | .ptr d 0 :: r => (ZdA r).map fun ds => d :: ds
 | _ => none
def ZqB (P:Program) (f:FuncId):Nat:=match P.funcs[f]? with | some fn=>fn.ntmps | none=>0
def ZdM (txt:Odr) (g:Nat→SV) (top:Nat) (saks:List SAK):Bool:=
 saks.all fun a=>match a with
  | .own t true _ _ => (match txt with | .text => (ZR g t top).isEmpty | .any N _ _ => N t)
  | .box d _ _ cs => Vf cs || (match txt with | .text => (ZR g d top).all (fun u => saks.any fun b => match b with | .ref t _ _ _ => t == u.1 | _ => false) | .any N M _ => N d || match M d with | some t => (saks.any fun b => match b with | .ref t' _ _ _ => t' == t | _ => false) | none => false)
  | _ => true
def ZaZ (E:Env) (txt:Odr) (g:Nat→SV) (rf:List Nat) (args:List Operand):Ups:=
 match txt,rf with
 | .text, _ :: _ => (args.zipIdx.flatMap fun p => if rf.contains p.2 = true then (match (ZS p.1).map g with | some (.mref d _) => ZR g d E.top | _ => []) else []).filter fun u => !(args.filterMap ZS).contains u.1
 | _, _ => []
def ZfW (kl:Ups) (g:Nat→SV):Nat→SV:=fun d=>if (kl.any fun u=>u.1 == d)=true then .dead else g d
def Zm5 (P:Program):List Sh→List (Option TypeId)→Option (List Sh)
 | [], [] => some []
 | s :: ss, e :: es =>
  match Zm5 P ss es with
  | some r =>
   match s,e with
   | .slice _, some e =>
    (match YA P 8 e with
    | some l => if (l.any fun x => match x with | .slice _ => true | _ => false) = true then (if Zg P (e + 2097152) = true then some (.own true (e + 2097152) :: r) else none) else some (.own true e :: r)
    | none => none)
   | s, _ => some (s :: r)
  | none => none
 | _, _ => none
def Zph (P:Program) (Ts:List TypeId):Option (List Sh):=
 match Ts with
 | [T] => (match P.underlying T, YA P 8 T with | some (.struct _), some l => Zm5 P l (JR P 8 T) | _, _ => none)
 | _ => none
def Zg5 (P:Program) (E:Env) (f:FuncId) (Ts:List TypeId) (n:Nat):Option (SV×List Sh×Nat):=
 match E.rb f with
 | some l => some (.box (Ka l n), l, n + l.length)
 | none =>
  match (if E.fresh f=3 then Zph P Ts else none) with
  | some l => some (.aggo (Ka l n), l, n + l.length)
  | none => Zel P (E.fresh f) Ts n
def fpL (txt:Odr) (d off m:Nat):List Nat:=match decide (m≠0)&&(List.range m).all fun j=>txt.kp d (off+j) with | true=>[] | false=>[d]
def Zod (P:Program) (res:SV):Bool:=match res with | .own true e _=>!Zm P e||(Jj P (e-1048576)).isNone | _=>true
def ZcB (P:Program) (x:SV):Bool:=
 match x with
 | .own true e _ => !Zm P e
 | .box cs => cs.all fun c => match c with | .own true e _ => !Zg P e | _ => true
 | .gbox cs => cs.all fun c => match c with | .own true e _ => !Zg P e | _ => true
 | .tuple _ => false
 | .aggo _ => false
 | _ => true
def ZeC (P:Program) (E:Env) (txt:Odr) (g:Nat→SV) (f:FuncId) (bs:List (Nat×Nat)) (aZ:Option (List SAK)) (n:Nat) (k:K):STree:=
 match aZ,(P.funcs[f]?).map (·.resultTypes) with
 | some saks, some Ts =>
  if Zdn (saks.filterMap SAK.slot)=true∧ZdM txt g E.top saks=true then
   match Zg5 P E f Ts.toList n with
   | some (res, sh, n') =>
    let r:=Jm (saks.map SAK.sv) n'
    if Zpa bs (saks.filterMap SAK.slot) res r.1=true∧Zod P res=true then .call f (saks.map SAK.sv) res r.1 n (sh++r.2.1) (k res (Zak saks r.1) (saks.filterMap SAK.slot++bs.map (·.1)) r.2.2) else .stuck 136
   | none => .stuck 87
  else .stuck 86
 | _, _ => .stuck 184
def Env.exO (E:Env) (o:Oper):Bool:=match o.dst with | some d=>E.ex.contains d | none=>false
def Zep (P:Program) (E:Env) (txt:Odr) (tk:Bool) (g:Nat→SV) (t:Nat) (x:Bool) (e:TypeId) (xs:LE) (n:Nat) (k:K):STree:=
 match tk with
 | true =>
  if (x&&(Zm P e&&(Jj P (e-1048576)).isSome))=true then k (.mref t 0) [] [] n else
  match Y8 P txt g E.top t x e xs with
  | some us => k (.own x e xs) us [] n
  | none => .stuck 29
 | false => match x with | true => k (.mref t 0) [] [] n | false => k (.c (.slice false (P.cellsOf e) xs)) [] [] n
def ZgW (g:Nat→SV):List (Nat×Operand)→Option (Nat×Nat×TypeId×LE)
 | [(f, .tmp t)] => match g t with | .own true e l => some (f, t, e, l) | _ => none
 | _ => none
def ZdK (P:Program) (E:Env) (txt:Odr) (g:Nat→SV) (T:TypeId) (f t:Nat) (e:TypeId) (l:LE) (n:Nat) (k:K):STree:=
 match P.underlying T,P.info? T with
 | some (.struct fs), some i =>
  if (fs.toList.all fun f=>(P.info? f.type).isSome)=true then
   match i.zero,fs[f]? with
   | some z, some fd =>
    match ZfK z.cells.toList,Y8 P txt g E.top t true e l with
    | some zc, some us => if P.cellsOf fd.type = 1 ∧ fd.offset < zc.length then k (.aggo ((zc.map .c).set fd.offset (.own true e l))) us [] n else .stuck 130
    | _, _ => .stuck 131
   | _, _ => .stuck 132
  else .stuck 133
 | _, _ => .stuck 134
def vSh:SC→Option Sh
 | .int k _ => some (.int k)
 | .bool _ => some .bool
 | .slice false s _ => some (.slice s)
 | _ => none
def ZrM:List BC→Option Sh
 | .c x :: _ => vSh x
 | _ => none
def Zgp (sh:Sh):List BC→LE→Option LE
 | [], a => some a
 | .c x :: r, a => if vSh x = some sh then Zgp sh r (.snoc a (.cons x .nil)) else none
 | _, _ => none
def ZoS (g:Nat→SV) (d off m:Nat) (i:IE) (n:Nat) (k:K):STree:=
 match g d with
 | .box cs =>
  match ZrM ((cs.drop off).take m) with
  | some sh =>
   match Zgp sh ((cs.drop off).take m) .nil with
   | some l => .elem l i [sh] n (k (.c (Jg sh n)) [] [d] (n + 1))
   | none => .stuck 223
  | none => .stuck 224
 | _ => .stuck 225
def Zef:SC→SC
 | .slice _ s l => .slice false s l
 | c => c
def Zqn (i:IE) (j:Nat):SC→SC→Option SC
 | .bool b, .bool b' => some (.bool (.not (.and (.not (.and (.cmp .eql i (.lit (j : Nat))) b)) (.not (.and (.not (.cmp .eql i (.lit (j : Nat)))) b')))))
 | .slice _ s l, .slice false s' l' => if s' = s then some (.slice false s (.fn (.sel j) l' i l .nil)) else none
 | _, _ => none
def Zf7 (i:IE) (v:SC):Nat→List BC→Option (List BC)
 | _, [] => some []
 | j, .c c :: r => match Zqn i j v c, Zf7 i v (j + 1) r with | some c', some r' => some (.c c' :: r') | _, _ => none
 | _, _ => none
def ZjH (P:Program) (g:Nat→SV) (T:TypeId) (x:Operand) (d off m:Nat) (i:IE) (n:Nat) (k:K):STree:=
 match g d with
 | .box cs =>
  match Jh P g x with
  | .c v =>
   match Zf7 i v 0 ((cs.drop off).take m) with
   | some r => if P.cellsOf T = 1 ∧ off + m ≤ cs.length then .req (.le (.lit 0) i) (.req (.lt i (.lit (m : Nat))) (k .dead [(d, .box (cs.take off ++ r ++ cs.drop (off + m)))] [d] n)) else .stuck 226
   | none => .stuck 227
  | _ => .stuck 228
 | _ => .stuck 229
def ZnQ (ix:IE) (d off s m:Nat) (k:SV→STree):Nat→STree
 | 0 => .stuck 192
 | j + 1 =>
  match j with
  | 0 => .req (.le (.lit (m - 1 : Nat)) ix) (.req (.le ix (.lit (m - 1 : Nat))) (k (.ptr d (off + (m - 1) * s))))
  | j' + 1 => .branch (.cmp .eql ix (.lit (m - (j' + 2) : Nat))) (k (.ptr d (off + (m - (j' + 2)) * s))) (ZnQ ix d off s m k (j' + 1))
def Znt (P:Program) (op:BinOp) (T:TypeId) (x:SV) (y:Operand):Option Bool:=
 match x,y,P.underlying T with
 | .ptr _ _, .const (.pointer none), some (.pointer _) => (match op with | .eql => some false | .neq => some true | _ => none)
 | _, _, _ => none
def ZhM (P:Program) (E:Env) (g:Nat→SV) (f:FuncId) (args:List Operand):Option (Nat×FuncId×LE):=
 match E.ks with
 | [] => none
 | ks =>
  match args,ks.find? (fun p=>p.1 == f) with
  | [x], some p =>
   match Jh P g x with
   | .mref d 0 => (match g d with | .own true e l => if (Jj P (e - 1048576)).isSome = true ∧ P.cellsOf e = 0 then some (d, p.2.2, l) else none | _ => none)
   | _ => none
  | _, _ => none
def ZaW (P:Program) (E:Env) (g:Nat→SV) (f:FuncId) (args:List Operand):Option (Nat×LE):=
 match E.ks with
 | [] => none
 | ks =>
  match args with
  | [x] =>
   match Jh P g x with
   | .eref d 0 (.lit 0) 0 gf => (match g d with | .own true e l => if (Jj P (e - 1048576)).isSome = true ∧ P.cellsOf e = 0 ∧ (ks.any fun p => p.2.1 == f && p.2.2 == gf) = true then some (d, l) else none | _ => none)
   | _ => none
  | _ => none
def ZdW (P:Program) (E:Env) (g:Nat→SV) (f:FuncId) (args:List Operand):Option (Nat×TypeId×LE):=
 match E.srt.contains f with
 | false => none
 | true =>
  match args with
  | [x] =>
   match Jh P g x with
   | .mref d 0 => (match g d, P.underlying (match g d with | .own _ e _ => e | _ => 0) with | .own true e l, some (.int .i64) => if P.cellsOf e = 1 ∧ Zm P e = false then some (d, e, l) else none | _, _ => none)
   | _ => none
  | _ => none
def ZcP (P:Program) (g:Nat→SV) (a:Operand):Option (Nat×Nat×TypeId×LE×IE×Nat×Nat):=
 match Jh P g a with
 | .eref d q i s off =>
  match Jd (g d) q with
  | some (e, l) => if Zg P e = true then some (d, q, e, l, i, s, off) else none
  | none => none
 | _ => none
def ZdZ (P:Program) (g:Nat→SV) (T:TypeId) (agg:Bool) (d q:Nat) (e:TypeId) (l:LE) (i:IE) (off n:Nat) (k:K):STree:=
 match YA P 8 T with
 | some sh =>
  if sh.length=P.cellsOf T∧(agg=true∨sh.length=1) then
   .elem (.fn (.dcol off (P.cellsOf T)) (.fn (.dfz1 off (P.cellsOf T)) l i .nil .nil) (.lit 0) .nil .nil) i sh n
    (k (match agg with | true=>.agg (ZB sh n) | false=>match ZB sh n with | [x]=>.c x | _=>.dead) [(d,Z5 (g d) q true e (.fn (.dfz1 off (P.cellsOf T)) l i .nil .nil))] [d] (n+sh.length))
  else .stuck 201
 | none => .stuck 202
def Z4 (P:Program):List Sh→List (Option TypeId)→Nat→Option (List BC)
 | [], _, _ => some []
 | .slice s :: ss, es, n =>
  match es.head?,Z4 P ss es.tail (n+1) with
  | some (some e), some r => if P.cellsOf e = s then some (.own true e (.var n) :: r) else none
  | _, _ => none
 | .own _ _ :: _, _, _ => none
 | sh :: ss, es, n => (Z4 P ss es.tail (n + 1)).map fun r => .c (Jg sh n) :: r
def ZaV (P:Program) (l:LE) (i:IE):List BC→Nat→STree→STree
 | [], _, t => t
 | .own _ e _ :: r, j, t => .req (.lq (.nst j (P.cellsOf e) e) l i) (ZaV P l i r (j + 1) t)
 | _ :: r, j, t => ZaV P l i r (j + 1) t
def ZdY (P:Program) (g:Nat→SV) (T:TypeId) (d q:Nat) (e:TypeId) (l:LE) (i:IE) (n:Nat) (k:K):STree:=
 match YA P 8 T with
 | some sh =>
  match Z4 P sh (JR P 8 T) n with
  | some cs =>
   if sh.length=P.cellsOf T∧P.cellsOf T=P.cellsOf (bT e) then
    ZaV P l i cs 0 (.elem (.fn (.dcol 0 (P.cellsOf T)) (.fn (.dfz1 0 (P.cellsOf T)) l i .nil .nil) (.lit 0) .nil .nil) i sh n
     (k (.aggo cs) [(d,Z5 (g d) q true e (.fn .dlft l i .nil .nil))] [d] (n+sh.length)))
   else .stuck 218
  | none => .stuck 219
 | none => .stuck 220
def Zen (P:Program) (all tk:Bool) (g:Nat→SV) (T:TypeId) (p:Nat×Nat×TypeId×LE×IE×Nat×Nat) (n:Nat) (k:K):STree:=
 match p with
 | (d, q, e, l, i, s, off) =>
  if s=P.cellsOf (bT e)∧off+P.cellsOf T≤s∧0 < P.cellsOf T∧(g d).isG=false then
   match Z0 P T with
   | some true => match all with | true => if off = 0 then ZdY P g T d q e l i n k else .stuck 221 | false => ZdZ P g T true d q e l i off n k
   | some false =>
    match tk,P.underlying T with
    | true, some (.slice e') => .req (.le (.lit 0) i) (.req (.lq (.nst off (P.cellsOf e') e') l i) (k (.own true e' (.fn (.dget off) l i .nil .nil)) [(d, Z5 (g d) q true e (.fn (.dput off (P.cellsOf e') false e') l i .nil .nil))] [d] n))
    | _, _ => ZdZ P g T false d q e l i off n k
   | none => .stuck 203
  else .stuck 204
def ZbD (P:Program) (E:Env) (txt:Odr) (g:Nat→SV) (T:TypeId) (x:Operand) (p:Nat×Nat×TypeId×LE×IE×Nat×Nat) (n:Nat) (k:K):STree:=
 match p with
 | (d, q, e, l, i, s, off) =>
  if s=P.cellsOf (bT e)∧off+P.cellsOf T≤s∧0 < P.cellsOf T∧(g d).isG=false then
   match ZS x,(ZS x).map g with
   | some t, some (.own true e' ys) =>
    match Y8 P txt g E.top t true e' ys with
    | some us =>
     if P.cellsOf T=1∧Zm P e'=false∧d≠t then
      .req (.le (.lit 0) i) (.req (.lt i (.len l)) (k .dead (us++[(d,Z5 (g d) q true e (.fn (.dput off (P.cellsOf e') true e') l i ys .nil))]) [d] n))
     else .stuck 205
    | none => .stuck 206
   | _, _ =>
    match (Jh P g x).cells,YA P 8 T with
    | some vc, some sh =>
     match YO sh vc with
     | some vc' => if vc.length = P.cellsOf T then .req (.le (.lit 0) i) (.req (.lt i (.len l)) (k .dead [(d, Z5 (g d) q true e (.setAt l i off (Zij vc')))] [d] n)) else .stuck 207
     | none => .stuck 208
    | _, _ => .stuck 209
  else .stuck 210
def ZlA (c:BC):BC:=match c with | .own _ _ _=>.gone | c=>c
def ZdB (P:Program) (E:Env) (txt:Odr) (fgt:Bool) (g:Nat→SV) (T:TypeId) (d off:Nat) (cs:List BC) (n:Nat) (k:K):STree:=
 if fgt=true then (if off=0∧cs.length=P.cellsOf T∧K6 cs=true then k (.aggo (cs.map ZlA)) [] [d] n else .stuck 222) else
 match Zh3 txt g E.top d with
 | some us => if off = 0 ∧ cs.length = P.cellsOf T ∧ K6 cs = true then k (.aggo cs) (us ++ [(d, .box (cs.map ZlA))]) [d] n else .stuck 50
 | none => .stuck 211
def ZbC (z:Value):Option Sh:=
 match z with
 | .bool _ => some .bool
 | .int k _ => some (.int k)
 | _ => none
def Zgl (P:Program) (g:Nat→SV) (T:TypeId) (m kx:Operand) (ok:Bool) (z:Value) (n:Nat) (k:K):STree:=
 match Jj P T,Jh P g m,Jh P g kx with
 | none, .mref d 0, .c (.int .i64 ke) =>
  match ofC z,ZbC z,g d with
  | some zc, some sh, .own true e l =>
   if e=T+1048576∧e < 2097152∧P.cellsOf e=0 then
    .req (.lq .mapv l (.lit 0)) (.elem (.fn .mrow l ke .nil (.cons zc .nil)) (.lit 0) [sh,.bool] n (k (match ok with | true=>.tuple [.c (Jg sh n),.c (.bool (.var (n+1)))] | false=>.c (Jg sh n)) [] [d] (n+2)))
   else .stuck 212
  | _, _, _ => .stuck 213
 | _, _, _ => .stuck 214
def Zd2 (P:Program) (g:Nat→SV) (T:TypeId) (m kx v:Operand) (z:Value) (n:Nat) (k:K):STree:=
 match Jj P T,Jh P g m,Jh P g kx with
 | none, .mref d 0, .c (.int .i64 ke) =>
  match ZbC z,Jh P g v,g d with
  | some sh, .c c, .own true e l =>
   if e=T+1048576∧e < 2097152∧P.cellsOf e=0∧Zib sh c=true then
    .req (.lq .mapv l (.lit 0)) (k .dead [(d,.own true e (.fn .mput l ke .nil (.cons c .nil)))] [] n)
   else .stuck 215
  | _, _, _ => .stuck 216
 | _, _, _ => .stuck 217
def Zh2 (P:Program) (tk:Bool) (g:Nat→SV) (T:TypeId) (m kx:Operand) (n:Nat) (k:K):STree:=
 match Jj P T,Jh P g m,Jh P g kx with
 | some et, .mref d 0, .c (.int .i64 ke) =>
  match g d with
  | .own true e l =>
   if e=T+1048576∧P.cellsOf e=0∧Zo9 P T=true then
    match tk with
    | true => .req (.mq .full l (.lit 0)) (k (.own false et (.mget l ke)) [(d, .own true e (.mhole l ke))] [] n)
    | false => .req (.mq .any l (.lit 0)) (k (.c (.slice false (P.cellsOf et) (.mget l ke))) [] [d] n)
   else .stuck 142
  | _ => .stuck 143
 | _, _, _ => .stuck 144
def ZaS (P:Program) (g:Nat→SV) (T:TypeId) (m kx v:Operand) (n:Nat) (k:K):STree:=
 match Jj P T,Jh P g m,Jh P g kx with
 | some et, .mref d 0, .c (.int .i64 ke) =>
  match g d with
  | .own true e l =>
   if e=T+1048576∧P.cellsOf e=0 then
    match ZS v,(ZS v).map g with
    | some t, some (.own false et' ys) =>
     if et'=et then .req (.mq .at l ke) (k .dead [(t,.c (.slice false (P.cellsOf et) ys)),(d,.own true e (.mset l ke (P.cellsOf et) ys))] [] n) else .stuck 145
    | _, _ =>
     match Jh P g v with
     | .c (.slice true _ .nil) => .req (.mq .at l ke) (k .dead [(d, .own true e (.mset l ke (P.cellsOf et) .nil))] [] n)
     | _ => .stuck 146
   else .stuck 147
  | _ => .stuck 148
 | _, _, _ => .stuck 149
def JZ (P:Program) (E:Env) (txt:Odr) (tk:Bool) (g:Nat→SV) (o:Oper) (n:Nat) (k:K):STree:=
 match o.op with
 | .move x =>
  match x with
  | .tmp t =>
   match g t with
   | .tuple vs => k (.tuple vs) [(t, .gone)] [] n
   | .own b e xs => Zep P E txt tk g t b e xs n k
   | _ => k (Jh P g x) [] [] n
  | x => k (Jh P g x) [] [] n
 | .assign x =>
  match x with
  | .tmp t =>
   match g t with
   | .tuple _ => .stuck 30
   | .own b e xs => Zep P E txt tk g t b e xs n k
   | _ => k (Jh P g x) [] [] n
  | .const (.slice none 0 0) =>
   match P.underlying o.type with
   | some (.slice e) => k (.own (E.exO o) e .nil) [] [] n
   | _ => .stuck 31
  | x => k (Jh P g x) [] [] n
 | .pick c a b =>
  match Jh P g c with
  | .c (.bool v) => ZdV v (k (Jh P g a) [] [] n) (k (Jh P g b) [] [] n)
  | _ => .stuck 32
 | .alloc T =>
  match Zn9 P T with
  | some cs => k (.box cs) [] [] n
  | none => .stuck 33
 | .box _ x =>
  match (Jh P g x).cells with
  | some cs => k (.box (cs.map .c)) [] [] n
  | none => .stuck 34
 | .build T parts =>
  match ZgW g parts.toList with
  | some (f, t, e, l) => ZdK P E txt g T f t e l n k
  | none =>
  match P.underlying T,P.info? T with
  | some (.struct fs), some i =>
   if (fs.toList.all fun f=>(P.info? f.type).isSome)=true then
   match i.zero with
   | some z =>
    match ZfK z.cells.toList with
    | some zc =>
     match ZdF (fun i=>(fs[i]?).map fun f=>(f.offset,P.cellsOf f.type)) zc (parts.toList.map fun p=>(p.1,Jh P g p.2)) with
     | some cs => k (.agg cs) [] [] n
     | none => .stuck 35
    | none => .stuck 36
   | none => .stuck 37
   else .stuck 39
  | _, _ => .stuck 38
 | .buildSlice T len parts =>
  match P.underlying T with
  | some (.slice e) =>
   match P.info? e with
   | some i =>
    match i.zero with
    | some z =>
     match ZfK z.cells.toList with
     | some zc =>
      if z.cells.size=i.size∧0 < i.size∧len*i.size≤1048576∧Zm P e=false then
       match ZdF (fun j=>some (j*i.size,i.size)) ((List.replicate len zc).flatten) (parts.toList.map fun p=>(p.1,Jh P g p.2)),YA P 8 e with
       | some cs, some sh =>
        match YO ((List.replicate len sh).flatten) cs with
        | some cs' => k (.own (E.exO o) e (lOf i.size cs' len)) [] [] n
        | none => .stuck 46
       | _, _ => .stuck 40
      else .stuck 41
     | none => .stuck 42
    | none => .stuck 43
   | none => .stuck 44
  | _ => .stuck 45
 | .load T a =>
  match ZcP P g a with
  | some p => Zen P (E.exO o) tk g T p n k
  | none =>
  match Z0 P T,Jh P g a with
  | some true, .ptr d off =>
   match g d with
   | .box cs => if off + P.cellsOf T ≤ cs.length ∧ Vf ((cs.drop off).take (P.cellsOf T)) = true ∧ K6 ((cs.drop off).take (P.cellsOf T)) = true then k (.agg (((cs.drop off).take (P.cellsOf T)).map (Zdb P))) [] (fpL txt d off (P.cellsOf T)) n else ZdB P E txt (E.exO o) g T d off cs n k
   | _ => .stuck 51
  | some false, .ptr d off =>
   match g d with
   | .box cs =>
    match cs[off]? with
    | some (.own b e xs) =>
     match b with
     | true =>
      match tk,Zh3 txt g E.top d with
      | true, some us => if mvB P e xs = true then k (.own true e xs) (us ++ [(d, .box (cs.set off .gone))]) [d] n else .stuck 138
      | _, _ => k (.mref d (off + 1)) [] (fpL txt d off 1) n
     | false => if tk = true then k (.own false e xs) [(d, .box (cs.set off (.c (.slice false (P.cellsOf e) xs))))] [d] n else k (.c (.slice false (P.cellsOf e) xs)) [] [d] n
    | some (.c x) => k (.c x) [] (fpL txt d off 1) n
    | some .gone => .stuck 64
    | none => .stuck 52
   | _ => .stuck 53
  | some agg, .eref d q i s off =>
   match Jd (g d) q with
   | some (e, l) =>
    match YA P 8 e with
    | some sh =>
     if s=P.cellsOf e∧sh.length=s∧off+P.cellsOf T≤s∧0 < P.cellsOf T∧Zm P e=false then
      .elem l i sh n (k (match agg with | true=>.agg (((ZB sh n).drop off).take (P.cellsOf T)) | false=>match (ZB sh n)[off]? with | some x=>.c x | none=>.dead) [] [d] (n+sh.length))
     else .stuck 59
    | none => .stuck 157
   | none => .stuck 158
  | some true, .eptr cs => if P.cellsOf T ≤ cs.length then k (.agg (cs.take (P.cellsOf T))) [] [] n else .stuck 54
  | some false, .eptr cs =>
   match cs with
   | x :: _ => k (.c x) [] [] n
   | [] => .stuck 55
  | some false, .vptr d off m i => ZoS g d off m i n k
  | _, _ => .stuck 56
 | .store T a x =>
  match ZcP P g a with
  | some p => ZbD P E txt g T x p n k
  | none =>
  match Jh P g a with
  | .ptr d off =>
   match g d with
   | .box cs =>
    match ZS x,(ZS x).map g with
    | some t, some (.own b e xs) =>
     match Y8 P txt g E.top t b e xs with
     | some us =>
      if P.cellsOf T=1∧off < cs.length∧(Vf ((cs.drop off).take 1)||ZdC txt g E.top d)=true then
       k .dead (us++[(d,.box (cs.set off (.own b e xs)))]) [d] n
      else .stuck 60
     | none => .stuck 159
    | some t, some (.aggo vc) =>
     if vc.length=P.cellsOf T∧0 < P.cellsOf T∧off+P.cellsOf T≤cs.length∧Vf ((cs.drop off).take (P.cellsOf T))=true then
      k .dead [(t,.dead),(d,.box (cs.take off++vc++cs.drop (off+P.cellsOf T)))] [d] n
     else .stuck 135
    | _, _ =>
     match (Jh P g x).cells with
     | some vc =>
      if vc.length=P.cellsOf T∧0 < P.cellsOf T∧off+P.cellsOf T≤cs.length∧(Vf ((cs.drop off).take (P.cellsOf T))||ZdC txt g E.top d)=true then
       k .dead [(d,.box (cs.take off++YN (cs.drop off) (nrm P T vc)++cs.drop (off+P.cellsOf T)))] [d] n
      else .stuck 61
     | none => .stuck 62
   | _ => .stuck 63
  | .eref d q i s off =>
   match Jd (g d) q,(Jh P g x).cells with
   | some (e, l), some vc =>
    match YA P 8 T with
    | some sh =>
     match YO sh vc with
     | some vc' =>
      if s=P.cellsOf e∧vc.length=P.cellsOf T∧0 < P.cellsOf T∧off+P.cellsOf T≤P.cellsOf e∧(g d).isG=false∧Zm P e=false then
       .req (.le (.lit 0) i) (.req (.lt i (.len l)) (k .dead [(d,Z5 (g d) q true e (.setAt l i off (Zij vc')))] [d] n))
      else .stuck 160
     | none => .stuck 161
    | none => .stuck 162
   | _, _ => .stuck 163
  | .vptr d off m i => ZjH P g T x d off m i n k
  | _ => .stuck 64
 | .nilCheck x =>
  match Jh P g x with
  | .ptr d off => k (.ptr d off) [] [] n
  | .eptr cs => k (.eptr cs) [] [] n
  | .eref d q i s off => (match Jd (g d) q with | some (e, _) => if Zm P e = false ∨ Zg P e = true then k (.eref d q i s off) [] [d] n else .stuck 141 | none => .stuck 141)
  | _ => .stuck 65
 | .binOp op T x y _ =>
  match Znt P op T (Jh P g x) y with
  | some b => k (.c (.bool (.lit b))) [] [] n
  | none => bin P E.plain op T (Jh P g x) (Jh P g y) fun v => k v [] [] n
 | .unOp op _ x =>
  match op,Jh P g x with
  | .not, .c (.bool b) => k (.c (.bool (Zjl b))) [] [] n
  | .neg, .c (.int kd e) => k (.c (.int kd (.bin .sub kd (.lit 0) e))) [] [] n
  | .xor, .c (.int kd e) => k (.c (.int kd (.bin .xor kd (.lit (if kd.signed = true then -1 else kd.max)) e))) [] [] n
  | _, _ => .stuck 66
 | .convert src dst x =>
  match P.underlying src,P.underlying dst,Jh P g x with
  | some (.int _), some (.int kd), .c (.int _ e) => k (.c (.int kd (.conv kd e))) [] [] n
  | some (.slice e), some .string, .c (.slice _ s xs) =>
   match P.underlying e with
   | some (.int .u8) => if s = 1 then .req (.bytes xs) (k (.c (.str (.bytes xs))) [] [] n) else .stuck 67
   | _ => .stuck 68
  | _, _, _ => .stuck 69
 | .fieldAddr T x f =>
  match Yn P T f,Jh P g x with
  | some off, .ptr d o => k (.ptr d (o + off)) [] [] n
  | some off, .eptr cs => k (.eptr (cs.drop off)) [] [] n
  | some off, .eref d q i s o => (match Jd (g d) q with | some (e, _) => if Zm P e = false ∨ Zg P e = true then k (.eref d q i s (o + off)) [] [d] n else .stuck 141 | none => .stuck 141)
  | _, _ => .stuck 70
 | .field T x f =>
  match Yn P T f,ZdS P T f,Jh P g x with
  | some off, some (agg, sz), .agg cs =>
   if off+sz≤cs.length∧0 < sz then
    match agg with
    | true => k (.agg ((cs.drop off).take sz)) [] [] n
    | false => match cs[off]? with | some c => k (.c c) [] [] n | none => .stuck 195
   else .stuck 196
  | _, _, _ => .stuck 197
 | .indexAddr T x i =>
  match P.underlying T,Jh P g x,Jh P g i with
  | some (.slice e), .c (.slice _ s xs), .c (.int _ ix) =>
   match YA P 8 e with
   | some sh => if s = P.cellsOf e ∧ sh.length = s ∧ 0 < s then .elem xs ix sh n (k (.eptr (ZB sh n)) [] [] (n + sh.length)) else .stuck 71
   | none => .stuck 72
  | some (.array m e), .ptr d off, .c (.int _ ix) =>
   if 0 < P.cellsOf e∧2≤m then
    match ix with
    | .lit z => if 0 ≤ z ∧ z < (m : Int) then k (.ptr d (off + z.toNat * P.cellsOf e)) [] [] n else .stuck 193
    | ix => if 8 < m ∧ P.cellsOf e = 1 then .req (.le (.lit 0) ix) (.req (.lt ix (.lit (m : Nat))) (k (.vptr d off m ix) [] [] n)) else ZnQ ix d off (P.cellsOf e) m (fun x => k x [] [] n) m
   else .stuck 194
  | some (.slice e), .mref d q, .c (.int _ ix) =>
   match Jd (g d) q with
   | some (e', l) => if bT e' = e ∧ 0 < P.cellsOf e ∧ (Zm P e' = false ∨ Zg P e' = true) then .req (.le (.lit 0) ix) (.req (.lt ix (.len l)) (k (.eref d q ix (P.cellsOf e) 0) [] [d] n)) else .stuck 164
   | none => .stuck 165
  | _, _, _ => .stuck 73
 | .makeSlice T a b =>
  match Jh P g a,Jh P g b with
  | .c (.int .i64 m), .c (.int .i64 m') =>
   match P.underlying T with
   | some (.slice e) =>
    match P.info? e with
    | some i =>
     match i.zero with
     | some z =>
      match ZfK z.cells.toList,YA P 8 e with
      | some zc, some sh =>
       match YO sh zc with
       | some zc' => if z.cells.size = i.size ∧ Zm P e = false then .req (.make m i.bytes) (.req (.le m m') (.req (.le m' m) (k (.own (!(E.exO o)) e (.rep m (Zij zc'))) [] [] n))) else .stuck 166
       | none => .stuck 167
      | _, _ => .stuck 168
     | none => .stuck 169
    | none => .stuck 170
   | _ => .stuck 171
  | _, _ => .stuck 172
 | .slice T x lo hi mx =>
  match P.underlying T,Jh P g x with
  | some (.slice e), .c (.slice full s xs) => if s = P.cellsOf e ∧ 0 < s then ZjI full s xs (lo.map (Jh P g)) (hi.map (Jh P g)) (mx.map (Jh P g)) fun v => k v [] [] n else .stuck 75
  | some (.slice e), .mref d q =>
   match lo,hi.map (Jh P g),mx.map (Jh P g) with
   | none, some (.c (.int _ (.lit 0))), some (.c (.int _ (.lit 0))) => (match Jd (g d) q with | some (e', _) => if 0 < P.cellsOf e ∧ Zm P e' = false then k (.c (.slice true (P.cellsOf e) .nil)) [] [d] n else .stuck 75 | none => .stuck 75)
   | _, _, _ =>
   if q=0 then
   match lo,hi.map (Jh P g),mx,g d with
   | none, some (.c (.int _ h)), none, .own true e' l =>
    match Y8 P txt g E.top d true e' l with
    | some us => if e' = e ∧ 0 < P.cellsOf e ∧ Zm P e = false then .req (.le (.lit 0) h) (.req (.le h (.len l)) (k (.own true e (.take l h)) us [d] n)) else .stuck 137
    | none => .stuck 138
   | _, _, _, _ => .stuck 139
   else .stuck 138
  | _, _ => .stuck 76
 | .extract x i =>
  match ZS x,(ZS x).map g with
  | some t, some (.tuple vs) =>
   match vs[i]? with
   | some (.own b e xs) => if (!b || mvB P e xs) = true then k (.own b e xs) [(t, .tuple (vs.set i (match b with | true => .gone | false => .c (.slice false (P.cellsOf e) xs))))] [] n else .stuck 138
   | some (.c x) => k (.c x) [] [] n
   | some (.agg cs) => k (.agg cs) [] [] n
   | some .gone => .stuck 79
   | none => .stuck 77
  | _, _ => .stuck 78
 | .makeMap T x =>
  match x,Jj P T with
  | none, some _ => k (.own true (T + 1048576) Znc) [] [] n
  | none, none => (match Kq P T with | some _ => if T + 1048576 < 2097152 then k (.own true (T + 1048576) Znc) [] [] n else .stuck 140 | none => .stuck 140)
  | _, _ => .stuck 140
 | .lookup T m kx ok => (match Kq P T with | some z => Zgl P g T m kx ok z n k | none => match ok with | false => Zh2 P tk g T m kx n k | true => .stuck 139)
 | .insert T m kx v => (match Kq P T with | some z => Zd2 P g T m kx v z n k | none => ZaS P g T m kx v n k)
 | .mapUpdate T m kx v => (match Kq P T with | some z => Zd2 P g T m kx v z n k | none => ZaS P g T m kx v n k)
 | .makeFunc fn first captured =>
  match fn,first.toList,ZdA (captured.toList.map (Jh P g)) with
  | .func f, [], some ds => if ds.all (fun d => match g d with | .box _ => true | _ => false) = true then k (.clo f ds) [] ds n else .stuck 180
  | _, _, _ => .stuck 181
 | .call c =>
  match c.callee with
  | .builtin .len =>
   match c.args.toList,c.argTypes.toList with
   | [x], [T] =>
    match Jh P g x with
    | .mref d q =>
     match P.underlying T,Jd (g d) q with
     | some (.slice _), some (e', l) => if Zm P e' = false ∨ Zg P e' = true then k (.c (.int .i64 (.len l))) [] [d] n else .stuck 173
     | _, _ => .stuck 173
    | v => Zps P T v fun v => k v [] [] n
   | _, _ => .stuck 80
  | .builtin .copy =>
   match c.args.toList,c.argTypes.toList with
   | [x, y], [T, _] =>
    match P.underlying T,Jh P g x,Jh P g y with
    | some (.slice e), .mref d q, .c (.slice _ s ys) =>
     match Jd (g d) q with
     | some (e', l) => if e' = e ∧ P.cellsOf e = 1 ∧ s = 1 ∧ (g d).isG = false ∧ Zm P e = false then k .dead [(d, Z5 (g d) q true e (.spl l ys))] [d] n else .stuck 174
     | none => .stuck 175
    | _, _, _ => .stuck 176
   | _, _ => .stuck 177
  | .builtin .append =>
   match c.args.toList,c.argTypes.toList with
   | [x, y], [T, T'] =>
    if T=T' then
     match Jh P g y with
     | .mref d q =>
      match ZS x with
      | some t => Wy P T txt g E.top (E.exO o) (some t) (g t) (Jd (g d) q) fun v us => k v us [d] n
      | none => Wy P T txt g E.top (E.exO o) none (Jh P g x) (Jd (g d) q) fun v us => k v us [d] n
     | _ =>
     match ZS x with
     | some t => Za2 P T txt g E.top (E.exO o) (some t) (g t) (Jh P g y) fun v us => k v us [] n
     | none => Za2 P T txt g E.top (E.exO o) none (Jh P g x) (Jh P g y) fun v us => k v us [] n
    else .stuck 81
   | _, _ => .stuck 82
  | .builtin .min =>
   match c.args.toList.map (Jh P g) with
   | [.c (.int ka a), .c (.int kb b)] => if ka = kb then k (.c (.int ka (.bin .min ka a b))) [] [] n else .stuck 83
   | _ => .stuck 84
  | .builtin .max =>
   match c.args.toList.map (Jh P g) with
   | [.c (.int ka a), .c (.int kb b)] => if ka = kb then k (.c (.int ka (.bin .max ka a b))) [] [] n else .stuck 85
   | _ => .stuck 86
  | .value (.func f) =>
   match ZhM P E g f c.args.toList with
   | some (d, gf, l) => .req (.mq .any l (.lit 0)) (k (.eref d 0 (.lit 0) 0 gf) [] [d] n)
   | none =>
   match ZaW P E g f c.args.toList with
   | some (d, l) => .req (.mq .keys l (.lit 0)) (k (.c (.slice false 1 (.mkeys l))) [] [d] n)
   | none =>
   match ZdW P E g f c.args.toList with
   | some (d, e, l) => .req (.lq .ints l (.lit 0)) (k .dead [(d, .own true e (.fn .dsort l (.lit 0) .nil .nil))] [d] n)
   | none =>
   match ZaZ E txt g (E.rfs f) c.args.toList with
   | [] =>
    match Zbl P g (E.rfs f) c.args.toList 0 with
    | some aZ => ZeC P E txt g f (V9 P g (E.rfs f) c.args.toList 0) (W6 g (ZqB P f) aZ) n k
    | none => .stuck 88
   | kl =>
    if (kl.all fun u=>!(K2 o).contains u.1)=true then
     match Zbl P (ZfW kl g) (E.rfs f) c.args.toList 0 with
     | some aZ => ZeC P E txt (ZfW kl g) f (V9 P (ZfW kl g) (E.rfs f) c.args.toList 0) (W6 (ZfW kl g) (ZqB P f) aZ) n fun x us fp n' => k x (kl ++ us) fp n'
     | none => .stuck 88
    else .stuck 88
  | .value (.tmp t) =>
   match g t,Zbl P g [] c.args.toList 0 with
   | .clo f ds, some aZ =>
    match WO g false ds with
    | some cs => ZeC P E txt g f (V9 P g [] c.args.toList 0) (W6 g (ZqB P f) (aZ ++ cs)) n k
    | none => .stuck 182
   | _, _ => .stuck 183
  | _ => .stuck 89
 | _ => .stuck 90
def Zaw (old new:SV):Bool:=
 match old,new with
 | .gbox _, _ => false
 | _, .gbox _ => false
 | .box _, _ => false
 | .own true _ _, _ => false
 | .dead, .box _ => true
 | _, .box _ => false
 | _, _ => true
def Jn:Ups→Tr→Tr
 | [], s => s
 | (d, x) :: us, s => Jn us (s.set depth d x)
structure Log where
 i:Nat
 F:List Nat
 D:List Nat
def Zm8 (x:SV):Bool:=match x with | .box _=>true | _=>false
def ZbP (txt:Odr) (i:Nat) (x:SV):Bool:=
 match x with
 | .mref d _ => !txt.nr d i
 | .eref d _ _ _ _ => !txt.nr d i
 | _ => true
def Zhk (txt:Odr) (o:Oper) (x:SV):Bool:=match o.dst with | some d=>ZbP txt d x | none=>true
def ZaN (kp:Nat→Bool):Nat→List BC→List BC→Option (List BC×List (IE×IE))
 | _, [], [] => some ([], [])
 | j, c' :: cs', c :: cs =>
  match ZaN kp (j+1) cs' cs with
  | some (r, q) =>
   match kp j with
   | true =>
    match c',c with
    | .c (.int k' e'), .c (.int k e) => if k' = k then some (.c (.int k e) :: r, (e', e) :: q) else none
    | .own true t' l', .own true t _ => if t' = t then some (.own true t' l' :: r, q) else none
    | _, _ => none
   | false => some (c' :: r, q)
  | none => none
 | _, _, _ => none
def Odr.kpAt:Odr→Nat→Bool
 | .text, _ => false
 | .any _ _ K, d => K.any fun p => p.1 == d
def Zli (txt:Odr) (g:Nat→SV) (u:Nat×SV):Option ((Nat×SV)×List (IE×IE)):=
 match txt.kpAt u.1 with
 | true =>
  match u.2,g u.1 with
  | .box cs', .box cs => match ZaN (txt.kp u.1) 0 cs' cs with | some (r, q) => some ((u.1, .box r), q) | none => none
  | _, _ => none
 | false => some (u, [])
def W7 (txt:Odr) (g:Nat→SV):Ups→Option (Ups×List (IE×IE))
 | [] => some ([], [])
 | u :: us =>
  match Zli txt g u,W7 txt g us with
  | some (u', q), some (us', q') => some (u' :: us', q ++ q')
  | _, _ => none
def ZjJ:List (IE×IE)→STree→STree
 | [], t => t
 | (a, b) :: q, t => .req (.le a b) (.req (.le b a) (ZjJ q t))
def Zii (P:Program) (E:Env) (txt:Odr) (tk:Bool) (B:Nat→Bool) (o:Oper) (i:Nat) (s:Tr) (gs:List Nat) (n:Nat) (cont:Tr→Nat→Log→STree):STree:=
 JZ P E txt tk (gE E s) o n fun x us0 fp n'=>
  match W7 txt (gE E s) us0 with
  | some (us, qs) => ZjJ qs (
   if us.all (fun u=>(decide (u.1 < E.top)&&(!B u.1||Zm8 u.2))&&ZbP txt u.1 u.2)=true∧Zhk txt o x=true then
    match o.dst with
    | some d =>
     if d < E.nt∧Zaw (gE E (Jn us s) d) x=true∧B d=false then
      cont ((Jn us s).set depth d x) n' ⟨i,(K2 o).filter (fun t=>!B t)++gs++fp++us.map (·.1)++[d],us.map (·.1)++[d]⟩
     else .stuck 100
    | none => cont (Jn us s) n' ⟨i, (K2 o).filter (fun t => !B t) ++ gs ++ fp ++ us.map (·.1), us.map (·.1)⟩
   else .stuck 104)
  | none => .stuck 137
def ZbJ (E:Env) (B:Nat→Bool) (o:Oper) (i:Nat) (s:Tr) (gs:List Nat) (n:Nat) (cont:Tr→Nat→Log→STree):STree:=
 match o.dst with
 | some d => if d < E.nt ∧ Zaw (gE E s d) .dead = true ∧ B d = false then cont (s.set depth d (.tuple [])) n ⟨i, gs ++ [d], [d]⟩ else .stuck 101
 | none => cont s n ⟨i, gs, []⟩
def Zkd (P:Program) (E:Env) (txt:Odr) (tk:Bool) (B:Nat→Bool) (ops:Array Oper) (o:Oper) (i:Nat) (s:Tr) (n:Nat) (cont:Tr→Nat→Log→STree):STree:=
 match o.guard with
 | none => Zii P E txt tk B o i s [] n cont
 | some (j, want) =>
  match (ops[j]?).bind (·.dst) with
  | none => .stuck 102
  | some gd =>
   match gE E s gd with
   | .tuple [] => ZbJ E B o i s [gd] n cont
   | .c (.bool (.lit b)) => if want = b then Zii P E txt tk B o i s [gd] n cont else ZbJ E B o i s [gd] n cont
   | .c (.bool b) =>
    .branch b (if want=true then Zii P E txt tk B o i (s.set depth gd (.c (.bool (.lit true)))) [gd] n cont else ZbJ E B o i (s.set depth gd (.c (.bool (.lit true)))) [gd] n cont)
     (if want=false then Zii P E txt tk B o i (s.set depth gd (.c (.bool (.lit false)))) [gd] n cont else ZbJ E B o i (s.set depth gd (.c (.bool (.lit false)))) [gd] n cont)
   | _ => .stuck 103
def ZmZ (P:Program) (E:Env) (txt:Odr) (tk:Nat→Bool) (B:Nat→Bool) (ops:Array Oper):List Oper→Nat→Tr→Nat→List Log→(Tr→Nat→List Log→STree)→STree
 | [], _, s, n, logs, k => k s n logs
 | o :: rest, i, s, n, logs, k => Zkd P E txt (tk i) B ops o i s n fun s' n' lg => ZmZ P E txt tk B ops rest (i + 1) s' n' (lg :: logs) k
def Zj0 (t:Nat) (x:Operand):Bool:=
 match x with
 | .tmp t' => t' == t
 | _ => false
def takes (E:Env) (t:Nat) (o:Oper):Bool:=
 match o.op with
 | .call c =>
  match c.callee with
  | .builtin .append => match c.args.toList with | x :: _ => Zj0 t x | [] => false
  | .value (.func f) => c.args.toList.zipIdx.any fun p => Zj0 t p.1 && E.cons f p.2
  | _ => false
 | .assign x => Zj0 t x && (match o.dst with | some d => E.res.contains d | none => false)
 | _ => false
def ZqT (E:Env) (ops:Array Oper) (i:Nat):Bool:=
 match ops[i]? with
 | some o =>
  match o.op with
  | .assign _ => true
  | .move _ => match o.dst with | some t => ops.toList.any (takes E t) | none => false
  | .load _ _ => match o.dst with | some t => ops.toList.any (takes E t) | none => false
  | .lookup _ _ _ _ => match o.dst with | some t => ops.toList.any (takes E t) | none => false
  | _ => false
 | none => false
def Zqq (a b:List Nat):Bool:=a.all fun x=>!b.contains x
def ZgB (ops:Array Oper) (logs:List Log):Bool:=
 let B:=CheckFast.beforeF ops
 (ops.toList.zipIdx.all fun p=>p.1.after.all fun e=>!Region.binds .any e||decide (e.on < p.2))&&logs.all fun a=>logs.all fun b=>!(decide (b.i < a.i))||(B.getD a.i 0).testBit b.i||(Zqq b.D a.F&&Zqq a.D b.F)
def Jf:Code→Nat
 | .region id _ _ => id
 | .seq a _ => Jf a
 | .block _ c => Jf c
 | .loop c => Jf c
 | .scope c => Jf c
 | .cond _ a _ => Jf a
 | _ => 0
def Sh.imm:Sh→Bool
 | .own _ _ => false
 | _ => true
def Zni (s:Sh) (x:SC):Option VE:=
 match s,x with
 | .int k, .int k' e => if k' = k then some (.i e) else none
 | .bool, .bool e => some (.b e)
 | .str, .str e => some (.s e)
 | .slice s, .slice _ s' l => if s' = s then some (.l l) else (match l with | .nil => some (.l .nil) | _ => none)
 | .own _ e, .slice true _ l => (match l with | .nil => if e < 2097152 then some (.l .nil) else none | _ => none)
 | _, _ => none
def Zfn:List Sh→List SC→Option (List VE)
 | [], [] => some []
 | s :: ss, c :: cs => match Zni s c, Zfn ss cs with | some v, some vs => some (v :: vs) | _, _ => none
 | _, _ => none
def LE.isNil:LE→Bool
 | .nil => true
 | _ => false
def Zbh (P:Program) (s:Sh) (x:Bool) (e:TypeId) (l:LE):Option VE:=
 match s with
 | .own x' e' => if e = e' ∧ (x = x' ∨ (l.isNil = true ∧ e < 2097152)) then some (.l l) else none
 | .slice s => if P.cellsOf e = s ∧ (x = false ∨ l.isNil = true) then some (.l l) else none
 | _ => none
def Zq0 (P:Program) (s:Sh) (x:BC):Option VE:=
 match x with
 | .c x => Zni s x
 | .own x e l => Zbh P s x e l
 | .gone => none
def ZaD (P:Program):List Sh→List BC→Option (List VE)
 | [], [] => some []
 | s :: ss, c :: cs => match Zq0 P s c, ZaD P ss cs with | some v, some vs => some (v :: vs) | _, _ => none
 | _, _ => none
def Zhq (P:Program) (h:HP) (x:SV):Option (List VE):=
 match h,x with
 | .c s, .c x => (Zni s x).map fun v => [v]
 | .c s, .own x e l => (Zbh P s x e l).map fun v => [v]
 | .agg l, .agg cs => if l.all Sh.imm = true then Zfn l cs else none
 | .box l, .box cs => ZaD P l cs
 | .mref d k, .mref d' k' => if d' = d ∧ k' = k then some [] else none
 | .ptr d o, .ptr d' o' => if d' = d ∧ o' = o then some [] else none
 | .dead, _ => some []
 | .gbox l, .gbox cs => ZaD P l cs
 | .clo g ds, .clo g' ds' => if g' = g ∧ ds' = ds then some [] else none
 | _, _ => none
def Zlp (h:HP) (n:Nat):SV:=
 match h with
 | .c (.own x e) => .own x e (.var n)
 | .c s => .c (Jg s n)
 | .agg l => .agg (ZB l n)
 | .box l => .box (Ka l n)
 | .mref d k => .mref d k
 | .ptr d o => .ptr d o
 | .dead => .dead
 | .gbox l => .gbox (Ka l n)
 | .clo g ds => .clo g ds
def HP.n:HP→Nat
 | .c _ => 1
 | .agg l => l.length
 | .box l => l.length
 | .mref _ _ => 0
 | .ptr _ _ => 0
 | .dead => 0
 | .gbox l => l.length
 | .clo _ _ => 0
def YU (P:Program) (g:Nat→SV):List (Nat×HP)→Option (List VE)
 | [] => some []
 | p :: r => match Zhq P p.2 (g p.1), YU P g r with | some v, some vs => some (v ++ vs) | _, _ => none
def Z2:List (Nat×HP)→Nat→Ups×Nat
 | [], n => ([], n)
 | p :: r, n => let x := Z2 r (n + p.2.n); ((p.1, Zlp p.2 n) :: x.1, x.2)
def HP.isBox:HP→Bool
 | .box _ => true
 | _ => false
def HP.isPl (h:HP) (k:Nat):Bool:=
 match h,k with
 | .c (.own true _), 0 => true
 | .box l, k + 1 => match l[k]? with | some (.own true _) => true | _ => false
 | .gbox l, k + 1 => match l[k]? with | some (.own true _) => true | _ => false
 | _, _ => false
def HP.isG:HP→Bool
 | .gbox _ => true
 | _ => false
def HP.place (E:Env) (d:Nat) (h:HP):Bool:=
 match h with
 | .gbox _ => decide (E.nt ≤ d) && decide (d < E.top)
 | _ => decide (d < E.nt)
def ZeI (E:Env) (hs:List (Nat×HP)):Bool:=
 Zdn (hs.map (·.1))&&hs.all (fun p=>p.2.place E p.1&&match p.2 with | .ptr d _=>hs.any (fun q=>decide (q.1=d)&&q.2.isBox) | .mref d k=>hs.any (fun q=>decide (q.1=d)&&q.2.isPl k) | .clo _ ds=>ds.all (fun d=>hs.any fun q=>decide (q.1=d)&&(q.2.isBox||q.2.isG)) | _=>true)&&
  E.pins.all (fun d=>hs.any fun q=>decide (q.1=d)&&q.2.isBox)&&(List.range E.ng).all fun j=>hs.any fun q=>decide (q.1=E.nt+j)&&q.2.isG
def Zgu (P:Program) (g:Nat→SV):List (Nat×HP)→Nat
 | [] => 3000
 | p :: r => match Zhq P p.2 (g p.1) with | some _ => Zgu P g r | none => 2000 + p.1
def ZgZ (ops:Array Oper):Option (Nat×Nat×Nat×TypeId×Bool):=
 match ops.toList with
 | [o, p] =>
  if o.guard.isNone=true∧p.guard.isNone=true then
   match o.op,o.dst,p.op,p.dst with
   | .move (.tmp x), some a, .binOp .eql T (.tmp b) (.const (.slice none 0 0)) _, some d => if b = a then some (x, a, d, T, false) else none
   | .move (.tmp x), some a, .binOp .neq T (.tmp b) (.const (.slice none 0 0)) _, some d => if b = a then some (x, a, d, T, true) else none
   | _, _, _, _ => none
  else none
 | _ => none
def ZjL (P:Program) (g:Nat→SV) (x:SV):Option LE:=
 match x with
 | .c (.slice _ _ l) => some l
 | .own _ e l => if Zm P e = false then some l else none
 | .mref d q => (match Jd (g d) q with | some (e, l) => if Zm P e = false then some l else none | none => none)
 | _ => none
def Zb6 (ops:Array Oper):Option (Nat×Nat×Nat×Nat×Nat×TypeId):=
 match ops.toList with
 | [o, p, q, r] =>
  if o.guard.isNone=true∧p.guard.isNone=true∧q.guard.isNone=true∧r.guard.isNone=true then
   match o.op,o.dst,p.op,p.dst with
   | .move (.tmp x), some a, .move (.tmp i), some b =>
    match q.op,q.dst,r.op,r.dst with
    | .slice T (.tmp a') (some (.tmp b')) none none, some c, .call cl, none =>
     match cl.callee,cl.args.toList,cl.argTypes.toList with
     | .builtin .clear, [.tmp c'], [T'] => if a' = a ∧ b' = b ∧ c' = c ∧ T' = T then some (x, i, a, b, c, T) else none
     | _, _, _ => none
    | _, _, _, _ => none
   | _, _, _, _ => none
  else none
 | _ => none
def Zkl (E:Env) (s:Tr) (x i a b c:Nat):Bool:=
 decide (x < E.nt∧a < E.nt∧b < E.nt∧c < E.nt∧x≠a∧x≠b∧x≠c∧i≠a∧a≠b∧a≠c∧b≠c)&&(Zaw (gE E s a) .dead&&(Zaw (gE E s b) .dead&&Zaw (gE E s c) .dead))
def Zrc (ops:Array Oper):List Nat:=ops.toList.filterMap (·.dst)
def Zgj (ops:Array Oper):List Nat:=ops.toList.flatMap K2
def Zoj (E:Env) (ops:Array Oper):List Nat:=
 ops.toList.zipIdx.flatMap fun p=>match p.1.op with
  | .move (.tmp t) => if ZqT E ops p.2 = true then [t] else []
  | .assign (.tmp t) => [t]
  | .store _ _ (.tmp t) => [t]
  | .call c => (match c.callee with | .builtin .append => (match c.args.toList with | .tmp t :: _ => [t] | _ => []) | .value _ => c.args.toList.filterMap ZS | _ => [])
  | _ => []
def Zqc (ops:Array Oper):List Nat:=
 if ops.toList.any (fun o=>match o.op with | .store _ _ (.tmp v)=>ops.toList.any (fun p=>decide (p.dst=some v)&&match p.op with | .buildSlice _ _ _=>true | _=>false) | _=>false)=true then
  ops.toList.filterMap fun o=>match o.op with | .move (.tmp t)=>some t | _=>none
 else []
def Zlq (E:Env) (ops:Array Oper) (s:Tr):List Nat:=
 (ops.toList.flatMap fun o=>match o.op with
  | .call c => (match c.callee with | .value _ => c.args.toList.filterMap ZS | _ => [])
  | _ => []).filterMap fun a => (ops.toList.find? fun p => decide (p.dst = some a)).bind fun p => match p.op with
   | .move (.tmp t) => (match gE E s t with | .ptr d _ => some d | .box _ => some t | _ => none)
   | _ => none
def ZkI (E:Env) (ops:Array Oper) (s:Tr):Nat→Nat→Option Nat
 | 0, _ => none
 | k + 1, a =>
  match (ops.toList.find? fun (p:Oper)=>decide (p.dst=some a)).map Oper.op with
  | some (.move (.tmp t)) => ZkI E ops s k t
  | some (.nilCheck (.tmp t)) => ZkI E ops s k t
  | some (.fieldAddr _ (.tmp t) _) => ZkI E ops s k t
  | some _ => none
  | none => match gE E s a with | .ptr d _ => some d | .box _ => some a | _ => none
def Znl (E:Env) (ops:Array Oper) (s:Tr):List (Nat×Nat):=
 ops.toList.flatMap fun o=>match o.op with
  | .call c => (match c.callee with
   | .value (.func f) => (match E.rfs f with
    | [] => []
    | rf => c.args.toList.zipIdx.filterMap fun p => if rf.contains p.2 = true then (ZS p.1).bind fun t => (match (ops.toList.find? fun (p : Oper) => decide (p.dst = some t)).map Oper.op with | some (.load _ (.tmp a)) => (ZkI E ops s 8 a).map fun d => (d, t) | _ => none) else none)
   | _ => [])
  | _ => []
def Zl0 (E:Env) (ops:Array Oper) (s:Tr):List Nat:=
 ops.toList.zipIdx.filterMap fun p=>match p.1.op with
  | .load _ (.tmp a) => if (ZqT E ops p.2 && ops.toList.any fun o => match o.op, p.1.dst with | .call c, some t => (match c.callee, c.args.toList with | .builtin .append, .tmp t' :: _ => t' == t | _, _ => false) | _, _ => false) = true then ZkI E ops s 8 a else none
  | _ => none
def Zgo (P:Program) (E:Env) (ops:Array Oper) (s:Tr):Nat→Nat→Option (Nat×Nat)
 | 0, _ => none
 | k + 1, a =>
  match (ops.toList.find? fun (p:Oper)=>decide (p.dst=some a)).map Oper.op with
  | some (.move (.tmp t)) => Zgo P E ops s k t
  | some (.nilCheck (.tmp t)) => Zgo P E ops s k t
  | some (.fieldAddr T (.tmp t) f) => (match Zgo P E ops s k t, Yn P T f with | some (d, o), some off => some (d, o + off) | _, _ => none)
  | some _ => none
  | none => match gE E s a with | .ptr d o => some (d, o) | .box _ => some (a, 0) | _ => none
def ZrO (P:Program) (E:Env) (ops:Array Oper) (s:Tr):List (Nat×Nat):=
 match ops.toList.zipIdx.flatMap fun p=>(match p.1.op with
  | .call c => (match c.callee with | .value _ => (c.args.toList.filterMap ZS).filterMap fun a => (Zgo P E ops s 8 a).map fun q => (p.2, q.1) | _ => [])
  | _ => []) with
 | [] => ops.toList.zipIdx.flatMap fun p => match p.1.op with
  | .load _ (.tmp a) => (match Zgo P E ops s 8 a with
   | some (d, off) => (match gE E s d with
    | .box cs => (match cs[off]? with
     | some (.own true e _) => if (Zg P e && ops.toList.zipIdx.any fun q => decide (q.2 ≠ p.2) && match q.1.op with | .load _ (.tmp b) => decide (Zgo P E ops s 8 b = some (d, off)) | _ => false) = true then [(d, off)] else []
     | _ => [])
    | _ => [])
   | none => [])
  | _ => []
 | cs => ops.toList.zipIdx.flatMap fun p => match p.1.op with
  | .load T (.tmp a) => (match Zgo P E ops s 8 a with
   | some (d, off) => if (Zm8 (gE E s d) && cs.any fun c => c.2 == d && (!((CheckFast.beforeF ops).getD c.1 0).testBit p.2 && !((CheckFast.beforeF ops).getD p.2 0).testBit c.1)) = true then (List.range (P.cellsOf T)).map fun j => (d, off + j) else []
   | none => [])
  | _ => []
def ZkG (P:Program) (E:Env) (draw:Bool) (ops:Array Oper) (s:Tr):Odr:=
 match draw with
 | false => .text
 | true => .any (fun d => ((Zoj E ops).contains d || (Zm8 (gE E s d) && ((Zqc ops).contains d || (Zlq E ops s).contains d || (Zl0 E ops s).contains d))) && (ZR (gE E s) d E.top).isEmpty && !(Znl E ops s).any fun p => p.1 == d)
  (fun d=>if (ZR (gE E s) d E.top).isEmpty=true then ((Znl E ops s).find? fun p=>p.1 == d).map (·.2) else none)
  ((ZrO P E ops s).filter fun p=>Zm8 (gE E s p.1))
def W4 (E:Env) (used:List Nat) (s:Tr) (d:Nat):Tr:=
 match gE E s d with
 | .own true _ _ => if d < E.nt ∧ used.contains d = false then Jn ((d, .dead) :: ZR (gE E s) d E.top) s else s
 | _ => s
def KE (P:Program) (g:Nat→SV) (d q:Nat) (e:TypeId) (l:LE):Nat→Ups
 | 0 => []
 | i + 1 =>
  match g i with
  | .mref d' q' => if d' = d ∧ q' = q then (i, .c (.slice false (P.cellsOf e) l)) :: KE P g d q e l i else KE P g d q e l i
  | .eref d' q' _ _ _ => if d' = d ∧ q' = q then (i, .dead) :: KE P g d q e l i else KE P g d q e l i
  | _ => KE P g d q e l i
def ZgA (P:Program) (x:SV) (k:Nat):Option SV:=
 match x,k with
 | .box cs, k + 1 => match cs[k]? with | some (.own false e l) => some (.box (cs.set k (.c (.slice false (P.cellsOf e) l)))) | _ => none
 | _, _ => none
def ZgY (P:Program) (E:Env) (s:Tr) (p:Nat×Nat):Option Tr:=
 match Jd (gE E s p.1) (p.2 % 1000) with
 | some (e, l) =>
  if p.1 < E.nt∧(gE E s p.1).isG=false then
   match decide (1000≤p.2),Zg P e with
   | true, _ => if Zm P e = false ∧ Zg P (e + 2097152) = true then some (Jn (ZR (gE E s) p.1 E.top ++ [(p.1, Z5 (gE E s p.1) (p.2 % 1000) true (e + 2097152) (.fn .dclr l (.lit 0) .nil .nil))]) s) else none
   | false, true => if Zm P (bT e) = false then some (Jn (ZR (gE E s) p.1 E.top ++ [(p.1, Z5 (gE E s p.1) (p.2 % 1000) true (bT e) (.fn .dfrz l (.lit 0) .nil .nil))]) s) else none
   | _, _ => none
  else none
 | none => none
def Kx (P:Program) (E:Env) (s:Tr) (p:Nat×Nat):Tr:=
 match ZgY P E s p with
 | some s' => s'
 | none =>
 match Jd (gE E s p.1) p.2 with
 | some (e, l) => if p.1 < E.nt ∧ 0 < P.cellsOf e ∧ (gE E s p.1).isG = false ∧ Zm P e = false then Jn ((p.1, Z5 (gE E s p.1) p.2 false e l) :: KE P (gE E s) p.1 p.2 e l E.top) s else s
 | none => match ZgA P (gE E s p.1) p.2 with
  | some x => if p.1 < E.nt then Jn [(p.1, x)] s else s
  | none => s
def ZpE (P:Program) (E:Env) (id:Nat) (ops:Array Oper) (s:Tr):Tr:=
 (Zrc ops).foldl (W4 E (Zgj ops)) ((E.fz id).foldl (Kx P E) s)
def ev (P:Program) (E:Env):Nat→Code→Tr→Nat→(Tr→Nat→STree)→(Nat→Tr→Nat→STree)→(Tr→Nat→STree)→STree
  | _, .skip, s, n, kn, _, _ => kn s n
  | _, .label _, s, n, kn, _, _ => kn s n
  | lv, .seq a b, s, n, kn, kx, kr => ev P E lv a s n (fun s' n' => ev P E lv b s' n' kn kx kr) kx kr
  | lv, .cond c a b, s, n, kn, kx, kr =>
    match ZS c with
    | some t =>
      match gE E s t with
      | .c (.bool (.lit v)) => if v = true then ev P E lv a s n kn kx kr else ev P E lv b s n kn kx kr
      | .c (.bool v) => .branch v (ev P E lv a (s.set depth t (.c (.bool (.lit true)))) n kn kx kr) (ev P E lv b (s.set depth t (.c (.bool (.lit false)))) n kn kx kr)
      | _ => .stuck 110
    | none => .stuck 111
  | lv, .block id c, s, n, kn, kx, kr => ev P E lv c s n kn (fun i s' n' => if i = id then kn s' n' else kx i s' n') kr
  | lv, .scope c, s, n, kn, kx, kr => ev P E lv c s n kn kx kr
  | lv, .loop c, s, _, _, kx, kr =>
    let hs:=E.keep (Jf c)
    if ZeI E hs=true then
      match YU P (gE E s) hs with
      | some init => .loop lv init 0 (ev P E (lv + 1) c (Jn (Z2 hs 0).1 (.leaf .dead)) (Z2 hs 0).2 (fun s' _ => match YU P (gE E s') hs with | some vals => .again lv vals | none => .stuck (Zgu P (gE E s') hs)) kx kr)
      | none => .stuck (Zgu P (gE E s) hs)
    else .stuck 113
  | _, .exit id, s, n, _, kx, _ => kx id s n
  | _, .ret, s, n, _, _, kr => kr s n
  | _, .region id ops draw, s0, n, kn, _, _ =>
    let s:=ZpE P E id ops s0
    match draw,ZgZ ops with
    | false, some (x, a, d, T, neg) =>
      match P.underlying T,ZjL P (gE E s) (gE E s x) with
      | some (.slice _), some l =>
        if a < E.nt∧d < E.nt∧Zaw (gE E s a) .dead=true∧Zaw (gE E s d) .dead=true∧a≠d∧x≠a then
          .nilq l n (kn ((s.set depth a .dead).set depth d (.c (.bool (if neg=true then .not (.var n) else .var n)))) (n+1))
        else .stuck 116
      | _, _ => .stuck 117
    | _, _ =>
     match draw,Zb6 ops with
     | false, some (x, i, a, b, c, T) =>
      match P.underlying T,gE E s x,gE E s i with
      | some (.slice e), .own true e' l, .c (.int .i64 ie) =>
        match P.info? e with
        | some inf =>
          match inf.zero with
          | some z =>
            match ZfK z.cells.toList,YA P 8 e with
            | some zc, some sh =>
              match YO sh zc with
              | some zc' =>
                if e'=e∧z.cells.size=inf.size∧(0 < inf.size∧Zm P e=false)∧Zkl E s x i a b c=true then
                  .req (.le (.lit 0) ie) (.req (.le ie (.len l)) (kn ((((s.set depth x (.own true e (.app (.take l ie) (.rep (.bin .sub .i64 (.len l) ie) (Zij zc'))))).set depth a .dead).set depth b .dead).set depth c .dead) n))
                else .stuck 180
              | none => .stuck 181
            | _, _ => .stuck 182
          | none => .stuck 183
        | none => .stuck 184
      | _, _, _ => .stuck 185
     | _, _ =>
      ZmZ P E (ZkG P E draw ops s) (ZqT E ops) (fun d=>Zm8 (gE E s d)) ops ops.toList 0 s n [] fun s' n' logs=>if draw=true then (if ZgB ops logs=true then kn s' n' else .stuck 114) else kn s' n'
  | _, _, _, _, _, _, _ => .stuck 115
def KF (P:Program) (g:Nat→SV):ResultVar→Option TC
 | .tmp t =>
  match g t with
  | .c x => some (.c x)
  | .agg cs => some (.agg cs)
  | .own x e xs => some (.own x e xs)
  | _ => none
 | .cell t T =>
  match Z0 P T,g t with
  | some true, .box cs => if cs.length = P.cellsOf T ∧ Vf cs = true ∧ K6 cs = true then some (.agg (cs.map (Zdb P))) else none
  | some false, .box [.own x e xs] => some (.own x e xs)
  | some false, .box [.c x] => some (.c x)
  | _, _ => none
def Va (P:Program) (g:Nat→SV):List ResultVar→Option (List TC)
 | [] => some []
 | r :: rs =>
  match KF P g r,Va P g rs with
  | some x, some xs => some (x :: xs)
  | _, _ => none
def Zkp (P:Program) (g:Nat→SV) (r:ResultVar):Option (List BC):=
 match r with
 | .cell t T =>
  match Z0 P T,g t with
  | some true, .box cs => if cs.length = P.cellsOf T ∧ Vf cs = false ∧ K6 cs = true then some cs else none
  | _, _ => none
 | _ => none
def ZlS (P:Program) (g:Nat→SV) (rs:List ResultVar):Option SV:=
 match rs with
 | [r] => (match Zkp P g r with | some cs => some (.aggo cs) | none => (KF P g r).map Zqd)
 | rs => (Va P g rs).map .tuple
def YW (g:Nat→SV):List SV→Nat→List SV
 | [], _ => []
 | .box _ :: aZ, i => g i :: YW g aZ (i + 1)
 | .gbox _ :: aZ, i => g i :: YW g aZ (i + 1)
 | _ :: aZ, i => .dead :: YW g aZ (i + 1)
def Vi:List SV→Nat→Ups
 | [], _ => []
 | a :: aZ, i => (i, a) :: Vi aZ (i + 1)
def Jr (E:Env):List SV→Nat→Bool
 | [], _ => true
 | .box _ :: aZ, i => decide (i < E.nt) && E.pins.contains i && Jr E aZ (i + 1)
 | .gbox _ :: aZ, i => decide (E.nt ≤ i) && Jr E aZ (i + 1)
 | .dead :: aZ, i => decide (i < E.nt) && Jr E aZ (i + 1)
 | .c _ :: aZ, i => decide (i < E.nt) && Jr E aZ (i + 1)
 | .agg _ :: aZ, i => decide (i < E.nt) && Jr E aZ (i + 1)
 | .own _ _ _ :: aZ, i => decide (i < E.nt) && Jr E aZ (i + 1)
 | .clo _ _ :: aZ, i => decide (i < E.nt) && Jr E aZ (i + 1)
 | .mref _ _ :: aZ, i => decide (i < E.nt) && Jr E aZ (i + 1)
 | _, _ => false
def Z6:ResultVar→Nat
 | .tmp t => t
 | .cell t _ => t
def Zal (args:List SV) (rs:List ResultVar):Bool:=
 Zdn (rs.map Z6)&&rs.all fun r=>match args[Z6 r]? with | some (.box _)=>false | some (.gbox _)=>false | _=>true
def Zq6:Option SV→Bool
 | some (.box _) => false
 | some (.gbox _) => false
 | _ => true
def Zjg (g:Nat→SV) (args:List SV) (rs:List ResultVar):Option (Nat×List BC):=
 match rs with
 | [.tmp t] =>
  match g t with
  | .ptr d 0 =>
   match g d with
   | .box cs => if Zq6 args[d]? = true then some (d, cs) else none
   | _ => none
  | _ => none
 | _ => none
def Zqw (P:Program) (E:Env) (fn:Func) (args:List SV) (n:Nat):STree:=
 match fn.body with
 | some c =>
  let fin:Tr→Nat→STree:=fun s0 _=>
   let s:=ZpE P E 1000000 #[] s0
   match Zjg (gE E s) args fn.results.toList with
   | some (_, cs) => if (YW (gE E s) args 0).all (ZcB P) = true then .ret (.box cs) (YW (gE E s) args 0) else .stuck 125
   | none =>
   match ZlS P (gE E s) fn.results.toList with
   | some r => if Zal args fn.results.toList = true ∧ (YW (gE E s) args 0).all (ZcB P) = true then .ret r (YW (gE E s) args 0) else .stuck 124
   | none => .stuck 120
  if E.top≤1024∧fn.ntmps=E.nt∧args.length≤E.top∧(E.ng=0∨args.length=E.top)∧Jr E args 0=true∧args.all (ZcB P)=true then ev P E 0 c (Jn (Vi args 0) (.leaf .dead)) n fin (fun _ _ _=>.stuck 121) fin else .stuck 123
 | none => .stuck 122
end Go.AM
end

section
namespace Go.AM
inductive V where
 | i (z : Int)
 | b (b : Bool)
 | s (s : ByteArray)
 | l (xs : List (List AV))
def V.int:V→Int
 | .i z => z
 | _ => 0
def V.bool:V→Bool
 | .b z => z
 | _ => false
def V.str:V→ByteArray
 | .s z => z
 | _ => ⟨#[]⟩
def V.list:V→List (List AV)
 | .l xs => xs
 | _ => []
def Znx:List AV→Option UInt8
 | [.val (.int .u8 n)] => some (UInt8.ofNat n.toNat)
 | _ => none
def Zex (xs:List (List AV)):ByteArray:=⟨(xs.map fun e=>(Znx e).getD 0).toArray⟩
def iop (op:IOp) (k:IntKind) (a b:Int):Int:=
 match op with
 | .add => k.wrap (a + b)
 | .sub => k.wrap (a - b)
 | .mul => k.wrap (a * b)
 | .quo => k.wrap (a.tdiv b)
 | .rem => a.tmod b
 | .and => k.wrap (BitVec.ofInt k.bits a &&& BitVec.ofInt k.bits b).toNat
 | .or => k.wrap (BitVec.ofInt k.bits a ||| BitVec.ofInt k.bits b).toNat
 | .xor => k.wrap (BitVec.ofInt k.bits a ^^^ BitVec.ofInt k.bits b).toNat
 | .andNot => k.wrap (BitVec.ofInt k.bits a &&& ~~~BitVec.ofInt k.bits b).toNat
 | .shl => k.wrap (a * 2 ^ (min b.toNat k.bits))
 | .shr => a.fdiv (2 ^ (min b.toNat k.bits))
 | .min => min a b
 | .max => max a b
def cop (op:COp) (a b:Int):Bool:=
 match op with
 | .eql => a == b
 | .neq => a != b
 | .lss => decide (a < b)
 | .leq => decide (a ≤ b)
 | .gtr => decide (a > b)
 | .geq => decide (a ≥ b)
def setCells (x:List AV) (o:Nat) (e:List AV):List AV:=x.take o++e++x.drop (o+e.length)
def Zw (l:List (List AV)) (i o:Nat) (e:List AV):List (List AV):=l.modify i fun x=>setCells x o e
def Znm (l a:List (List AV)):List (List AV):=a.take l.length++l.drop a.length
def Zaq (c:AV):AV:=match c with | .nest s true _ ys=>.slice false s ys | c=>c
def Wh (l:List (List AV)):List (List AV):=l.map fun r=>r.map Zaq
def ZoW (c:AV):AV:=match c with | .nest s true e ys=>.nest s false e ys | c=>c
def ZkV (l:List (List AV)):List (List AV):=l.map fun r=>r.map ZoW
def Zf8 (c:AV):AV:=match c with | .nest s true e _=>.nest s false e [] | c=>c
def Zm7 (l:List (List AV)) (i:Nat):List (List AV):=l.modify i fun r=>r.map Zf8
def Zem (l:List (List AV)):List (List AV):=((l.filterMap ZV).mergeSort fun a b=>decide (a≤b)).map fun z=>[.val (.int .i64 z)]
def ZeE (r:List AV):Bool:=match r with | [.val (.int .i64 _)]=>true | _=>false
def Wg (l:List (List AV)) (i o:Nat):List (List AV):=match (l[i]?).bind (·[o]?) with | some (.nest _ _ _ ys)=>ys | some (.slice _ _ ys)=>ys | _=>[]
def Ye (l:List (List AV)) (i o:Nat) (c:AV):List (List AV):=Zw l i o [c]
def Kz (l:List (List AV)) (i o n:Nat):List (List AV):=l.modify i fun r=>r.take o++((r.drop o).take n).map Zaq++r.drop (o+n)
def Ziz (l:List (List AV)) (o n:Nat):List (List AV):=l.map fun r=>(r.drop o).take n
def Zbx (l:List (List AV)) (k:Int) (z:List AV):List (List AV):=match (JJ l).find? (fun r=>ZV r == some k) with | some (_::v::_)=>[[v,.val (.bool true)]] | _=>[z++[.val (.bool false)]]
def Zlg (l:List (List AV)) (k:Int) (c:List AV):List (List AV):=[[.slice false 2 (Kw (JJ l) k (c.headD .dead))]]
def lop (op:LOp) (l:List (List AV)) (i:Int) (v:List (List AV)) (c:List AV):List (List AV):=
 match op with
 | .dget o => Wg l i.toNat o
 | .dput o s h e => Ye l i.toNat o (.nest s h e v)
 | .dfz1 o n => Kz l i.toNat o n
 | .dfrz => Wh l
 | .dclr => ZkV l
 | .dcol o n => Ziz l o n
 | .mrow => Zbx l i c
 | .mput => Zlg l i c
 | .dlft => Zm7 l i.toNat
 | .dsort => Zem l
 | .sel j => if i = (j : Int) then v else l
def qop (op:QOp) (l:List (List AV)) (i:Int):Bool:=
 match op with
 | .nst o s e => (match (l[i.toNat]?).bind (·[o]?) with | some (.nest s' true e' _) => s' == s && e' == e | _ => false)
 | .mapv => (match l with | [[.slice false 2 _]] => true | _ => false)
 | .ints => l.all ZeE && decide (l.length ≤ 1048576)
mutual
def IE.den (ρ:Nat→V):IE→Int
 | .var n => (ρ n).int
 | .lit z => z
 | .bin op k a b => iop op k (a.den ρ) (b.den ρ)
 | .conv k a => k.wrap (a.den ρ)
 | .len l => ((l.den ρ).length : Int)
 | .slen s => ((s.den ρ).size : Int)
 | .getc s i => (((s.den ρ).data.toList.getD (i.den ρ).toNat 0).toNat : Int)
def BE.den (ρ:Nat→V):BE→Bool
 | .var n => (ρ n).bool
 | .lit b => b
 | .cmp op a b => cop op (a.den ρ) (b.den ρ)
 | .beq a b => a.den ρ == b.den ρ
 | .seq a b => (a.den ρ).toList == (b.den ρ).toList
 | .and a b => a.den ρ && b.den ρ
 | .not a => !a.den ρ
def SE.den (ρ:Nat→V):SE→ByteArray
 | .var n => (ρ n).str
 | .lit s => s
 | .bytes l => Zex (l.den ρ)
def LE.den (ρ:Nat→V):LE→List (List AV)
 | .var n => (ρ n).list
 | .nil => []
 | .snoc l e => l.den ρ ++ [e.den ρ]
 | .app a b => a.den ρ ++ b.den ρ
 | .take l i => (l.den ρ).take (i.den ρ).toNat
 | .drop l i => (l.den ρ).drop (i.den ρ).toNat
 | .rep i e => List.replicate (i.den ρ).toNat (e.den ρ)
 | .setAt l i o e => Zw (l.den ρ) (i.den ρ).toNat o (e.den ρ)
 | .spl l a => Znm (l.den ρ) (a.den ρ)
 | .mget l k => Zas (l.den ρ) (k.den ρ)
 | .mhole l k => Zb5 (l.den ρ) (k.den ρ)
 | .mset l k s v => Zc1 (l.den ρ) (k.den ρ) s (v.den ρ)
 | .mkeys l => Zb4 (l.den ρ)
 | .fn op l i v c => lop op (l.den ρ) (i.den ρ) (v.den ρ) (c.den ρ)
def CE.den (ρ:Nat→V):CE→List AV
 | .nil => []
 | .cons c r => c.den ρ :: r.den ρ
def SC.den (ρ:Nat→V):SC→AV
 | .int k e => .val (.int k (e.den ρ))
 | .bool b => .val (.bool (b.den ρ))
 | .str s => .val (.string (s.den ρ))
 | .slice f s l => .slice f s (l.den ρ)
end
def TC.den (ρ:Nat→V):TC→AV
 | .c x => x.den ρ
 | .agg cs => .agg (cs.map (SC.den ρ))
 | .own x e l => .own x e (l.den ρ)
 | .gone => .gone
def BC.den (ρ:Nat→V):BC→AV
 | .c x => x.den ρ
 | .own x e l => .own x e (l.den ρ)
 | .gone => .gone
def SV.den (ρ:Nat→V):SV→AV
 | .dead => .dead
 | .gone => .gone
 | .c x => x.den ρ
 | .agg cs => .agg (cs.map (SC.den ρ))
 | .tuple vs => .tuple (vs.map (TC.den ρ))
 | .aggo cs => .aggo (cs.map (BC.den ρ))
 | .own x e l => .own x e (l.den ρ)
 | .box cs => .box (cs.map (BC.den ρ))
 | .ptr d off => .ptr d off
 | .eptr cs => .eptr (cs.map (SC.den ρ))
 | .mref d k => .mref d k
 | .eref d k i s o => .eref d k ((i.den ρ).toNat * s + o)
 | .gbox cs => .gbox (cs.map (BC.den ρ))
 | .clo g ds => .clo g ds
 | .vptr d off _ i => .ptr d (off + (i.den ρ).toNat)
def Ja:Nat:=1099511627776
def PE.den (ρ:Nat→V):PE→Prop
 | .le a b => a.den ρ ≤ b.den ρ
 | .lt a b => a.den ρ < b.den ρ
 | .make a k => 0 ≤ a.den ρ ∧ (a.den ρ).toNat * (k + 1) ≤ Ja
 | .ne0 a => a.den ρ ≠ 0
 | .bytes l => ∀ e ∈ l.den ρ, ∃ n : Int, 0 ≤ n ∧ n ≤ 255 ∧ e = [.val (.int .u8 n)]
 | .room a b k => ((a.den ρ).length + (b.den ρ).length) * (k + 1) ≤ Ja
 | .cons l => l.den ρ ≠ []
 | .mq q l k => Zll q (l.den ρ) (k.den ρ) = true
 | .lq op l i => qop op (l.den ρ) (i.den ρ) = true
def Zqu:List AV→Bool
 | [.val (.int .u8 n)] => decide (0 ≤ n ∧ n ≤ 255)
 | _ => false
theorem Zho (e:List AV):Zqu e=true↔∃ n:Int,0≤n∧n≤255∧e = [.val (.int .u8 n)]:=by
 constructor
 ·intro h
  unfold Zqu at h
  split at h
  ·rename_i n
   have:=of_decide_eq_true h
   exact ⟨n,this.1,this.2,rfl⟩
  ·cases h
 ·rintro ⟨n,h1,h2,rfl⟩
  simp only [Zqu,h1,h2,and_self,decide_true]
def Zhz (l:List (List AV)):Decidable (∀ e∈l,∃ n:Int,0≤n∧n≤255∧e = [.val (.int .u8 n)]):=
 if h:l.all Zqu=true then isTrue (fun e he=>(Zho e).1 (List.all_eq_true.1 h e he)) else isFalse (fun hh=>h (List.all_eq_true.2 fun e he=>(Zho e).2 (hh e he)))
def Zjb:(l:List (List AV))→Decidable (l≠[])
 | [] => isFalse (fun h => h rfl)
 | _ :: _ => isTrue (fun h => by cases h)
def PE.decDen (ρ:Nat→V):(p:PE)→Decidable (p.den ρ)
 | .le a b => inferInstanceAs (Decidable (a.den ρ ≤ b.den ρ))
 | .lt a b => inferInstanceAs (Decidable (a.den ρ < b.den ρ))
 | .make a k => inferInstanceAs (Decidable (0 ≤ a.den ρ ∧ (a.den ρ).toNat * (k + 1) ≤ Ja))
 | .ne0 a => inferInstanceAs (Decidable (a.den ρ ≠ 0))
 | .bytes l => Zhz (l.den ρ)
 | .room a b k => inferInstanceAs (Decidable (((a.den ρ).length + (b.den ρ).length) * (k + 1) ≤ Ja))
 | .cons l => Zjb (l.den ρ)
 | .mq q l k => inferInstanceAs (Decidable (Zll q (l.den ρ) (k.den ρ) = true))
 | .lq op l i => inferInstanceAs (Decidable (qop op (l.den ρ) (i.den ρ) = true))
def VE.den (ρ:Nat→V):VE→V
 | .i e => .i (e.den ρ)
 | .b e => .b (e.den ρ)
 | .s e => .s (e.den ρ)
 | .l e => .l (e.den ρ)
def Ze1:Nat→V:=fun _=>.i 0
def bind (ρ:Nat→V) (n:Nat) (vs:List V):Nat→V:=fun m=>if m < n then ρ m else (vs[m-n]?).getD (ρ m)
mutual
def IE.bd (n:Nat):IE→Prop
 | .var m => m < n
 | .lit _ => True
 | .bin _ _ a b => a.bd n ∧ b.bd n
 | .conv _ a => a.bd n
 | .len l => l.bd n
 | .slen s => s.bd n
 | .getc s i => s.bd n ∧ i.bd n
def BE.bd (n:Nat):BE→Prop
 | .var m => m < n
 | .lit _ => True
 | .cmp _ a b => a.bd n ∧ b.bd n
 | .beq a b => a.bd n ∧ b.bd n
 | .seq a b => a.bd n ∧ b.bd n
 | .and a b => a.bd n ∧ b.bd n
 | .not a => a.bd n
def SE.bd (n:Nat):SE→Prop
 | .var m => m < n
 | .lit _ => True
 | .bytes l => l.bd n
def LE.bd (n:Nat):LE→Prop
 | .var m => m < n
 | .nil => True
 | .snoc l e => l.bd n ∧ e.bd n
 | .app a b => a.bd n ∧ b.bd n
 | .take l i => l.bd n ∧ i.bd n
 | .drop l i => l.bd n ∧ i.bd n
 | .rep i e => i.bd n ∧ e.bd n
 | .setAt l i _ e => l.bd n ∧ i.bd n ∧ e.bd n
 | .spl l a => l.bd n ∧ a.bd n
 | .mget l k => l.bd n ∧ k.bd n
 | .mhole l k => l.bd n ∧ k.bd n
 | .mset l k _ v => l.bd n ∧ k.bd n ∧ v.bd n
 | .mkeys l => l.bd n
 | .fn _ l i v c => l.bd n ∧ i.bd n ∧ v.bd n ∧ c.bd n
def CE.bd (n:Nat):CE→Prop
 | .nil => True
 | .cons c r => c.bd n ∧ r.bd n
def SC.bd (n:Nat):SC→Prop
 | .int _ e => e.bd n
 | .bool b => b.bd n
 | .str s => s.bd n
 | .slice _ _ l => l.bd n
end
def TC.bd (n:Nat):TC→Prop
 | .c x => x.bd n
 | .agg cs => ∀ c ∈ cs, c.bd n
 | .own _ _ l => l.bd n
 | .gone => True
def BC.bd (n:Nat):BC→Prop
 | .c x => x.bd n
 | .own _ _ l => l.bd n
 | .gone => True
def SV.bd (n:Nat):SV→Prop
 | .dead => True
 | .gone => True
 | .c x => x.bd n
 | .agg cs => ∀ c ∈ cs, c.bd n
 | .tuple vs => ∀ c ∈ vs, c.bd n
 | .aggo cs => ∀ c ∈ cs, c.bd n
 | .own _ _ l => l.bd n
 | .box cs => ∀ c ∈ cs, c.bd n
 | .ptr _ _ => True
 | .eptr cs => ∀ c ∈ cs, c.bd n
 | .mref _ _ => True
 | .eref _ _ i _ _ => i.bd n
 | .gbox cs => ∀ c ∈ cs, c.bd n
 | .clo _ _ => True
 | .vptr _ _ _ i => i.bd n
def VE.bd (n:Nat):VE→Prop
 | .i e => e.bd n
 | .b e => e.bd n
 | .s e => e.bd n
 | .l e => e.bd n
mutual
theorem IE.den_congr {n:Nat} {ρ ρ':Nat→V} (hρ:∀ m,m < n→ρ' m=ρ m):∀ (x:IE),x.bd n→x.den ρ'=x.den ρ
 | .var m, h => by simp only [IE.den, hρ m h]
 | .lit _, _ => rfl
 | .bin _ _ a b, h => by simp only [IE.den, IE.den_congr hρ a h.1, IE.den_congr hρ b h.2]
 | .conv _ a, h => by simp only [IE.den, IE.den_congr hρ a h]
 | .len l, h => by simp only [IE.den, LE.den_congr hρ l h]
 | .slen s, h => by simp only [IE.den, SE.den_congr hρ s h]
 | .getc s i, h => by simp only [IE.den, SE.den_congr hρ s h.1, IE.den_congr hρ i h.2]
theorem BE.den_congr {n:Nat} {ρ ρ':Nat→V} (hρ:∀ m,m < n→ρ' m=ρ m):∀ (x:BE),x.bd n→x.den ρ'=x.den ρ
 | .var m, h => by simp only [BE.den, hρ m h]
 | .lit _, _ => rfl
 | .cmp _ a b, h => by simp only [BE.den, IE.den_congr hρ a h.1, IE.den_congr hρ b h.2]
 | .beq a b, h => by simp only [BE.den, BE.den_congr hρ a h.1, BE.den_congr hρ b h.2]
 | .seq a b, h => by simp only [BE.den, SE.den_congr hρ a h.1, SE.den_congr hρ b h.2]
 | .and a b, h => by simp only [BE.den, BE.den_congr hρ a h.1, BE.den_congr hρ b h.2]
 | .not a, h => by simp only [BE.den, BE.den_congr hρ a h]
theorem SE.den_congr {n:Nat} {ρ ρ':Nat→V} (hρ:∀ m,m < n→ρ' m=ρ m):∀ (x:SE),x.bd n→x.den ρ'=x.den ρ
 | .var m, h => by simp only [SE.den, hρ m h]
 | .lit _, _ => rfl
 | .bytes l, h => by simp only [SE.den, LE.den_congr hρ l h]
theorem LE.den_congr {n:Nat} {ρ ρ':Nat→V} (hρ:∀ m,m < n→ρ' m=ρ m):∀ (x:LE),x.bd n→x.den ρ'=x.den ρ
 | .var m, h => by simp only [LE.den, hρ m h]
 | .nil, _ => rfl
 | .snoc l e, h => by simp only [LE.den, LE.den_congr hρ l h.1, CE.den_congr hρ e h.2]
 | .app a b, h => by simp only [LE.den, LE.den_congr hρ a h.1, LE.den_congr hρ b h.2]
 | .take l i, h => by simp only [LE.den, LE.den_congr hρ l h.1, IE.den_congr hρ i h.2]
 | .drop l i, h => by simp only [LE.den, LE.den_congr hρ l h.1, IE.den_congr hρ i h.2]
 | .rep i e, h => by simp only [LE.den, IE.den_congr hρ i h.1, CE.den_congr hρ e h.2]
 | .setAt l i o e, h => by simp only [LE.den, LE.den_congr hρ l h.1, IE.den_congr hρ i h.2.1, CE.den_congr hρ e h.2.2]
 | .spl l a, h => by simp only [LE.den, LE.den_congr hρ l h.1, LE.den_congr hρ a h.2]
 | .mget l k, h => by simp only [LE.den, LE.den_congr hρ l h.1, IE.den_congr hρ k h.2]
 | .mhole l k, h => by simp only [LE.den, LE.den_congr hρ l h.1, IE.den_congr hρ k h.2]
 | .mset l k _ v, h => by simp only [LE.den, LE.den_congr hρ l h.1, IE.den_congr hρ k h.2.1, LE.den_congr hρ v h.2.2]
 | .mkeys l, h => by simp only [LE.den, LE.den_congr hρ l h]
 | .fn op l i v c, h => by simp only [LE.den, LE.den_congr hρ l h.1, IE.den_congr hρ i h.2.1, LE.den_congr hρ v h.2.2.1, CE.den_congr hρ c h.2.2.2]
theorem CE.den_congr {n:Nat} {ρ ρ':Nat→V} (hρ:∀ m,m < n→ρ' m=ρ m):∀ (x:CE),x.bd n→x.den ρ'=x.den ρ
 | .nil, _ => rfl
 | .cons c r, h => by simp only [CE.den, SC.den_congr hρ c h.1, CE.den_congr hρ r h.2]
theorem SC.den_congr {n:Nat} {ρ ρ':Nat→V} (hρ:∀ m,m < n→ρ' m=ρ m):∀ (x:SC),x.bd n→x.den ρ'=x.den ρ
 | .int _ e, h => by simp only [SC.den, IE.den_congr hρ e h]
 | .bool b, h => by simp only [SC.den, BE.den_congr hρ b h]
 | .str s, h => by simp only [SC.den, SE.den_congr hρ s h]
 | .slice _ _ l, h => by simp only [SC.den, LE.den_congr hρ l h]
end
theorem Jx {α:Type} {n:Nat} {ρ ρ':Nat→V} {f:(Nat→V)→α→AV} {bd:Nat→α→Prop} (h:∀ x,bd n x→f ρ' x=f ρ x) :
  ∀ (l:List α),(∀ x∈l,bd n x)→l.map (f ρ')=l.map (f ρ)
 | [], _ => rfl
 | x :: xs, hx => by
  simp only [List.map_cons]
  rw [h x (hx x (by simp)),Jx h xs fun y hy=>hx y (by simp [hy])]
theorem TC.den_congr {n:Nat} {ρ ρ':Nat→V} (hρ:∀ m,m < n→ρ' m=ρ m):∀ (x:TC),x.bd n→x.den ρ'=x.den ρ
 | .c x, h => SC.den_congr hρ x h
 | .agg cs, h => by simp only [TC.den, Jx (f := SC.den) (bd := SC.bd) (SC.den_congr hρ) cs h]
 | .own _ _ l, h => by simp only [TC.den, LE.den_congr hρ l h]
 | .gone, _ => rfl
theorem BC.den_congr {n:Nat} {ρ ρ':Nat→V} (hρ:∀ m,m < n→ρ' m=ρ m):∀ (x:BC),x.bd n→x.den ρ'=x.den ρ
 | .c x, h => SC.den_congr hρ x h
 | .own _ _ l, h => by simp only [BC.den, LE.den_congr hρ l h]
 | .gone, _ => rfl
theorem SV.den_congr {n:Nat} {ρ ρ':Nat→V} (hρ:∀ m,m < n→ρ' m=ρ m):∀ (x:SV),x.bd n→x.den ρ'=x.den ρ
 | .dead, _ => rfl
 | .gone, _ => rfl
 | .c x, h => SC.den_congr hρ x h
 | .agg cs, h => by simp only [SV.den, Jx (f := SC.den) (bd := SC.bd) (SC.den_congr hρ) cs h]
 | .tuple vs, h => by simp only [SV.den, Jx (f := TC.den) (bd := TC.bd) (TC.den_congr hρ) vs h]
 | .aggo cs, h => by simp only [SV.den, Jx (f := BC.den) (bd := BC.bd) (BC.den_congr hρ) cs h]
 | .own _ _ l, h => by simp only [SV.den, LE.den_congr hρ l h]
 | .box cs, h => by simp only [SV.den, Jx (f := BC.den) (bd := BC.bd) (BC.den_congr hρ) cs h]
 | .ptr _ _, _ => rfl
 | .eptr cs, h => by simp only [SV.den, Jx (f := SC.den) (bd := SC.bd) (SC.den_congr hρ) cs h]
 | .mref _ _, _ => rfl
 | .eref _ _ i _ _, h => by simp only [SV.den, IE.den_congr hρ i h]
 | .gbox cs, h => by simp only [SV.den, Jx (f := BC.den) (bd := BC.bd) (BC.den_congr hρ) cs h]
 | .clo _ _, _ => rfl
 | .vptr _ _ _ i, h => by simp only [SV.den, IE.den_congr hρ i h]
theorem VE.den_congr {n:Nat} {ρ ρ':Nat→V} (hρ:∀ m,m < n→ρ' m=ρ m):∀ (x:VE),x.bd n→x.den ρ'=x.den ρ
 | .i e, h => by simp only [VE.den, IE.den_congr hρ e h]
 | .b e, h => by simp only [VE.den, BE.den_congr hρ e h]
 | .s e, h => by simp only [VE.den, SE.den_congr hρ e h]
 | .l e, h => by simp only [VE.den, LE.den_congr hρ e h]
theorem YB (ρ:Nat→V) (n:Nat) (vs:List V):∀ m,m < n→bind ρ n vs m=ρ m:=fun m h=>by simp [bind,h]
mutual
theorem IE.bd_mono {n n':Nat} (hn:n≤n'):∀ (x:IE),x.bd n→x.bd n'
 | .var _, h => Nat.lt_of_lt_of_le h hn
 | .lit _, _ => trivial
 | .bin _ _ a b, h => ⟨IE.bd_mono hn a h.1, IE.bd_mono hn b h.2⟩
 | .conv _ a, h => IE.bd_mono hn a h
 | .len l, h => LE.bd_mono hn l h
 | .slen s, h => SE.bd_mono hn s h
 | .getc s i, h => ⟨SE.bd_mono hn s h.1, IE.bd_mono hn i h.2⟩
theorem BE.bd_mono {n n':Nat} (hn:n≤n'):∀ (x:BE),x.bd n→x.bd n'
 | .var _, h => Nat.lt_of_lt_of_le h hn
 | .lit _, _ => trivial
 | .cmp _ a b, h => ⟨IE.bd_mono hn a h.1, IE.bd_mono hn b h.2⟩
 | .beq a b, h => ⟨BE.bd_mono hn a h.1, BE.bd_mono hn b h.2⟩
 | .seq a b, h => ⟨SE.bd_mono hn a h.1, SE.bd_mono hn b h.2⟩
 | .and a b, h => ⟨BE.bd_mono hn a h.1, BE.bd_mono hn b h.2⟩
 | .not a, h => BE.bd_mono hn a h
theorem SE.bd_mono {n n':Nat} (hn:n≤n'):∀ (x:SE),x.bd n→x.bd n'
 | .var _, h => Nat.lt_of_lt_of_le h hn
 | .lit _, _ => trivial
 | .bytes l, h => LE.bd_mono hn l h
theorem LE.bd_mono {n n':Nat} (hn:n≤n'):∀ (x:LE),x.bd n→x.bd n'
 | .var _, h => Nat.lt_of_lt_of_le h hn
 | .nil, _ => trivial
 | .snoc l e, h => ⟨LE.bd_mono hn l h.1, CE.bd_mono hn e h.2⟩
 | .app a b, h => ⟨LE.bd_mono hn a h.1, LE.bd_mono hn b h.2⟩
 | .take l i, h => ⟨LE.bd_mono hn l h.1, IE.bd_mono hn i h.2⟩
 | .drop l i, h => ⟨LE.bd_mono hn l h.1, IE.bd_mono hn i h.2⟩
 | .rep i e, h => ⟨IE.bd_mono hn i h.1, CE.bd_mono hn e h.2⟩
 | .setAt l i _ e, h => ⟨LE.bd_mono hn l h.1, IE.bd_mono hn i h.2.1, CE.bd_mono hn e h.2.2⟩
 | .spl l a, h => ⟨LE.bd_mono hn l h.1, LE.bd_mono hn a h.2⟩
 | .mget l k, h => ⟨LE.bd_mono hn l h.1, IE.bd_mono hn k h.2⟩
 | .mhole l k, h => ⟨LE.bd_mono hn l h.1, IE.bd_mono hn k h.2⟩
 | .mset l k _ v, h => ⟨LE.bd_mono hn l h.1, IE.bd_mono hn k h.2.1, LE.bd_mono hn v h.2.2⟩
 | .mkeys l, h => LE.bd_mono hn l h
 | .fn _ l i v c, h => ⟨LE.bd_mono hn l h.1, IE.bd_mono hn i h.2.1, LE.bd_mono hn v h.2.2.1, CE.bd_mono hn c h.2.2.2⟩
theorem CE.bd_mono {n n':Nat} (hn:n≤n'):∀ (x:CE),x.bd n→x.bd n'
 | .nil, _ => trivial
 | .cons c r, h => ⟨SC.bd_mono hn c h.1, CE.bd_mono hn r h.2⟩
theorem SC.bd_mono {n n':Nat} (hn:n≤n'):∀ (x:SC),x.bd n→x.bd n'
 | .int _ e, h => IE.bd_mono hn e h
 | .bool b, h => BE.bd_mono hn b h
 | .str s, h => SE.bd_mono hn s h
 | .slice _ _ l, h => LE.bd_mono hn l h
end
theorem TC.bd_mono {n n':Nat} (hn:n≤n'):∀ (x:TC),x.bd n→x.bd n'
 | .c x, h => SC.bd_mono hn x h
 | .agg _, h => fun c hc => SC.bd_mono hn c (h c hc)
 | .own _ _ l, h => LE.bd_mono hn l h
 | .gone, _ => trivial
theorem BC.bd_mono {n n':Nat} (hn:n≤n'):∀ (x:BC),x.bd n→x.bd n'
 | .c x, h => SC.bd_mono hn x h
 | .own _ _ l, h => LE.bd_mono hn l h
 | .gone, _ => trivial
theorem SV.bd_mono {n n':Nat} (hn:n≤n'):∀ (x:SV),x.bd n→x.bd n'
 | .dead, _ => trivial
 | .gone, _ => trivial
 | .c x, h => SC.bd_mono hn x h
 | .agg _, h => fun c hc => SC.bd_mono hn c (h c hc)
 | .tuple _, h => fun c hc => TC.bd_mono hn c (h c hc)
 | .aggo _, h => fun c hc => BC.bd_mono hn c (h c hc)
 | .own _ _ l, h => LE.bd_mono hn l h
 | .box _, h => fun c hc => BC.bd_mono hn c (h c hc)
 | .ptr _ _, _ => trivial
 | .eptr _, h => fun c hc => SC.bd_mono hn c (h c hc)
 | .mref _ _, _ => trivial
 | .eref _ _ i _ _, h => IE.bd_mono hn i h
 | .gbox _, h => fun c hc => BC.bd_mono hn c (h c hc)
 | .clo _ _, _ => trivial
 | .vptr _ _ _ i, h => IE.bd_mono hn i h
end Go.AM
end

section
namespace Go.AM
def upd (σ:Nat→AV) (d:Nat) (x:AV):Nat→AV:=fun i=>if i=d then x else σ i
def Ju:(Nat→AV)→List (Nat×AV)→(Nat→AV)
 | σ, [] => σ
 | σ, (d, x) :: us => Ju (upd σ d x) us
theorem ZC (σ:Nat→AV) (d:Nat) (x:AV):upd σ d x d=x:=by simp [upd]
theorem Zf (σ:Nat→AV) {d i:Nat} (x:AV) (h:i≠d):upd σ d x i=σ i:=by simp [upd,h]
def KH (X:Nat→Nat→Option Nat) (d:Nat) (r:Nat→Option Nat):Nat→Nat→Option Nat:=fun i=>if i=d then r else X i
theorem Zp (X:Nat→Nat→Option Nat) (d:Nat) (r:Nat→Option Nat):KH X d r d=r:=by simp [KH]
theorem Zk (X:Nat→Nat→Option Nat) {d i:Nat} (r:Nat→Option Nat) (h:i≠d):KH X d r i=X i:=by simp [KH,h]
def JV:Nat→Option Nat:=fun _=>none
def KD (ob:Option Nat):Nat→Option Nat:=fun k=>if k=0 then ob else none
structure ZN (w:World) (lim:Nat→Nat) (w':World) (lim':Nat→Nat) (S:Nat→Prop):Prop where
 os:w'.os=w.os
 tape:w'.tape=w.tape
 output:w'.output=w.output
 size:w.heap.size≤w'.heap.size
 frz:∀ a:Addr,a.block < w.heap.size→w'.frozen? a=w.frozen? a
 blk:∀ b,b < w.heap.size→¬ S b→Zf6 w lim w' lim' b
 ext:Ext w lim w' lim'
theorem ZN.refl (w:World) (lim:Nat→Nat) (S:Nat→Prop):ZN w lim w lim S:=
 ⟨rfl,rfl,rfl,Nat.le_refl _,fun _ _=>rfl,fun _ _ _=>⟨rfl,rfl⟩,Ext.refl w lim⟩
theorem ZN.drew {w:World} {lim:Nat→Nat} {w':World} {lim':Nat→Nat} {S:Nat→Prop} (h:ZN w lim w' lim' S):ZN w lim w'.drew lim' S:=
 ⟨h.os,h.tape,h.output,h.size,h.frz,h.blk,h.ext⟩
theorem Frm.step {c:Ctx} {w:World} {lim:Nat→Nat} {w':World} {lim':Nat→Nat} {S:Nat→Prop} (h:Frm c w lim) (hw:ZN w lim w' lim' S)
  (hS:∀ b,S b→c.A b∨c.w0.heap.size≤b):Frm c w' lim' where
 os:=hw.os.trans h.os
 tape:=hw.tape.trans h.tape
 output:=hw.output.trans h.output
 size:=Nat.le_trans h.size hw.size
 frz a ha:=(hw.frz a (Nat.lt_of_lt_of_le ha h.size)).trans (h.frz a ha)
 blk b hb hA:=by
  have hns:¬ S b:=fun hs=>(hS b hs).elim hA (fun h=>by omega)
  have h1:=h.blk b hb hA
  have h2:=hw.blk b (by have:=h.size;omega) hns
  exact ⟨h2.1.trans h1.1,h2.2.trans h1.2⟩
 ext:=h.ext.trans hw.ext h.size
theorem Zj7 {x:AV} (h:x.isB=true):(∃ cs,x = .box cs)∨x.isG=true:=by
 cases x<;>simp [AV.isB] at h
 ·exact .inl ⟨_,rfl⟩
 ·exact .inr rfl
theorem W5 {x:AV} (h:x.isG=true):x.isB=true:=by
 cases x<;>simp [AV.isG] at h
 rfl
theorem ZhP {X X':Nat→Nat→Option Nat} {σ σ':Nat→AV} {d b:Nat} (hp:∀ d' cs,σ d' = .box cs→(∃ cs',σ' d' = .box cs')∧X' d' 0=X d' 0)
  (hg:∀ d',(σ d').isG=true→(σ' d').isG=true∧X' d' 0=X d' 0) (h:X d 0=some b∧(σ d).isB=true):X' d 0=some b∧(σ' d).isB=true:=by
 rcases Zj7 h.2 with ⟨cs,hcs⟩ | hcs
 ·obtain ⟨⟨cs',h1⟩,h2⟩:=hp d cs hcs
  exact ⟨h2.trans h.1,by rw [h1];rfl⟩
 ·obtain ⟨h1,h2⟩:=hg d hcs
  exact ⟨h2.trans h.1,W5 h1⟩
theorem ZP.chg {P:Program} {w:World} {lim:Nat→Nat} {X X':Nat→Nat→Option Nat} {σ σ':Nat→AV} {d:Nat} {x:AV} {v:Value}
  (h:ZP P w lim X σ d x v) (hX:X' d=X d) (hp:∀ d' cs,σ d' = .box cs→(∃ cs',σ' d' = .box cs')∧X' d' 0=X d' 0)
  (hg:∀ d',(σ d').isG=true→(σ' d').isG=true∧X' d' 0=X d' 0) (hr:∀ d' k,Je x d' k→Kl (σ d') (σ' d') k∧X' d' k=X d' k):ZP P w lim X' σ' d x v:=by
 cases x with
 | gbox cs =>
  obtain ⟨v',h⟩:=h
  exact ⟨v',by rw [hX];exact h⟩
 | clo g ds =>
  obtain ⟨bs,h1,h2,h3⟩:=h
  exact ⟨bs,h1,h2,fun i d' b hd hb=>ZhP hp hg (h3 i d' b hd hb)⟩
 | ptr d' off =>
  obtain ⟨b,cs,h1,h2,h3⟩:=h
  obtain ⟨⟨cs',h4⟩,h5⟩:=hp d' cs h2
  exact ⟨b,cs',h5.trans h1,h4,h3⟩
 | mref d' k =>
  obtain ⟨e,xs,h1,h2⟩:=h
  obtain ⟨h3,h4⟩:=hr d' k (.inl rfl)
  obtain ⟨xs',h5,h6⟩:=h3 e xs h1
  exact ⟨e,xs',h5,by rw [h4,h6];exact h2⟩
 | eref d' k o =>
  obtain ⟨b,e,xs,h1,h2,h3⟩:=h
  obtain ⟨h4,h5⟩:=hr d' k (.inr ⟨o,rfl⟩)
  obtain ⟨xs',h6,_⟩:=h4 e xs h1
  exact ⟨b,e,xs',h6,h5.trans h2,h3⟩
 | own x e xs => show ZQ P w lim x e xs v (X' d 0); rw [hX]; exact h
 | box cs => show ZI P w lim (X' d) cs v; rw [hX]; exact h
 | aggo cs =>
  obtain ⟨us,h1,h2,h4,h3⟩:=h
  refine ⟨us,h1,h2,h4,?_⟩
  rw [hX]
  exact h3
 | tuple vs => 
  obtain ⟨us,h1,h2,h3⟩:=h
  refine ⟨us,h1,h2,?_⟩
  rw [hX]
  exact h3
 | dead => trivial
 | gone => trivial
 | eptr cs => exact h
 | val v => exact h
 | agg cs => exact h
 | slice f s xs => exact h
 | nest s o e ys => exact h
def ZjV (σ:Nat→AV) (d:Nat):Prop:=∀ i k,i≠d→¬ Je (σ i) d k
theorem Y7 {c:Ctx} {σ:Nat→AV} {tm:Array Value} {w:World} {lim:Nat→Nat} {X:Nat→Nat→Option Nat} (h:Sim c σ tm w lim X) {i d k:Nat} (hi:Je (σ i) d k):∃ p,Zo (σ d) k=some p:=by
 have hr:=h.rel i
 rcases hi with e | ⟨o,e⟩
 ·rw [e] at hr
  obtain ⟨t,xs,h1,_⟩:=hr
  exact ⟨_,h1⟩
 ·rw [e] at hr
  obtain ⟨_,t,xs,h1,_⟩:=hr
  exact ⟨_,h1⟩
theorem Sim.noRefs {c:Ctx} {σ:Nat→AV} {tm:Array Value} {w:World} {lim:Nat→Nat} {X:Nat→Nat→Option Nat} (h:Sim c σ tm w lim X) {d:Nat} (hd:∀ k,Zo (σ d) k=none):ZjV σ d:=by
 intro i k _ hi
 obtain ⟨p,hp⟩:=Y7 h hi
 rw [hd k] at hp
 cases hp
def VQ (y:AV):Prop:=(∀ cs,y≠.box cs)∧(∀ e xs,y≠.own true e xs)∧∀ cs,y≠.gbox cs
theorem VQ.none {y:AV} (h:VQ y) (k:Nat):Zo y k=none:=by
 unfold Zo
 split
 ·exact (h.2.1 _ _ rfl).elim
 ·exact (h.1 _ rfl).elim
 ·exact (h.2.2 _ rfl).elim
 ·rfl
theorem Sim.world {c:Ctx} {σ:Nat→AV} {tm:Array Value} {w:World} {lim:Nat→Nat} {X:Nat→Nat→Option Nat} (h:Sim c σ tm w lim X)
  {w':World} {lim':Nat→Nat} {S:Nat→Prop} (hw:ZN w lim w' lim' S) (hS:∀ b,S b→(c.A b∨c.w0.heap.size≤b)∧∀ i j,X i j≠some b):Sim c σ tm w' lim' X where
 rel d:=(h.rel d).mono hw.ext (fun k b hb=>hw.blk b (h.ours d k b hb).1 fun hs=>(hS b hs).2 d k hb) fun d' k b _ hb=>.of (hw.blk b (h.ours d' k b hb).1 fun hs=>(hS b hs).2 d' k hb).1
 size:=h.size
 out:=h.out
 ghost:=h.ghost
 dist:=h.dist
 ours d k b hb:=⟨Nat.lt_of_lt_of_le (h.ours d k b hb).1 hw.size,(h.ours d k b hb).2⟩
 frm:=h.frm.step hw fun b hs=>(hS b hs).1
 pin:=h.pin
 mp d e xs hd:=(h.mp d e xs hd).mono hw.ext fun k b hb=>hw.blk b (h.ours d k b hb).1 fun hs=>(hS b hs).2 d k hb
 gpin:=h.gpin
 ntN:=h.ntN
 far:=h.far
 nst d k e xs b h1 h2 h3:=(h.nst d k e xs b h1 h2 h3).mono hw.ext (hw.blk b (h.ours d k b h3).1 fun hs=>(hS b hs).2 d k h3).1 fun j b' hb=>hw.blk b' (h.ours _ j b' hb).1 fun hs=>(hS b' hs).2 _ j hb
 yfr b m b' hb:=Nat.lt_of_lt_of_le (h.yfr b m b' hb) hw.size
theorem Sim.putRow {c:Ctx} {σ:Nat→AV} {tm:Array Value} {w:World} {lim:Nat→Nat} {X:Nat→Nat→Option Nat} (h:Sim c σ tm w lim X)
  {w':World} {lim':Nat→Nat} {S:Nat→Prop} {d:Nat} {x:AV} {tm':Array Value} (r:Nat→Option Nat) (hw:ZN w lim w' lim' S) (hS:∀ b,S b→∃ k,X d k=some b)
  (hd:d < c.nt) (hsz:tm'.size=tm.size) (hoth:∀ i,i≠d→tm'.getD i undef=tm.getD i undef)
  (hb:(∀ cs,σ d≠.box cs)∨((∃ cs,x = .box cs)∧r 0=X d 0∧tm'.getD d undef=tm.getD d undef))
  (hrf:∀ i k,i≠d→Je (σ i) d k→Kl (σ d) x k∧r k=X d k∧∀ b,X d k=some b→V8 w w' b)
  (hx:ZP c.P w' lim' (KH X d r) (upd σ d x) d x (tm'.getD d undef))
  (hr1:∀ k b,r k=some b→b < w'.heap.size∧(c.A b∨c.w0.heap.size≤b)∧∀ i j,i≠d→X i j≠some b)
  (hr2:∀ k k' b,r k=some b→r k'=some b→k=k') (hxg:x.isG=false:=by rfl) (hmp:∀ e xs,x = .own true e xs→ZeA c.P w' lim' e xs r:=by intro e xs h;cases h)
  (hns:∀ k e xs b,ZX x k=some (e,xs)→Zg c.P e=true→r k=some b→VN c.P w' lim' e xs b (X (ngN+b)):=by intro k e xs b h;cases k<;>simp [ZX] at h):Sim c (upd σ d x) tm' w' lim' (KH X d r) where
 rel i:=by
  by_cases hi:i=d
  ·subst hi
   rw [ZC]
   exact hx
  ·rw [Zf σ x hi,hoth i hi]
   have h1:=(h.rel i).mono hw.ext (fun k b hb=>hw.blk b (h.ours i k b hb).1 fun hs=>by
    obtain ⟨k',hk'⟩:=hS b hs
    exact hi (h.dist i k d k' b hb hk').1) fun d' k b he hbb=>by
    by_cases hdd:d'=d
    ·subst hdd
     exact (hrf i k hi (.inl he)).2.2 b hbb
    ·exact .of (hw.blk b (h.ours d' k b hbb).1 fun hs=>by
      obtain ⟨k',hk'⟩:=hS b hs
      exact hdd (h.dist d' k d k' b hbb hk').1).1
   have hgh:∀ d',(σ d').isG=true→d'≠d:=fun d' hg e=>by have:=h.ghost d' hg;omega
   refine h1.chg (Zk X r hi) (fun d' cs hd'=>?_) (fun d' hg=>⟨by rw [Zf σ x (hgh d' hg)];exact hg,by rw [Zk X r (hgh d' hg)]⟩) fun d' k hr=>?_
   ·by_cases hdd:d'=d
    ·subst hdd
     rcases hb with hb | ⟨⟨cs',hx'⟩,hr,_⟩
     ·exact (hb cs hd').elim
     ·exact ⟨⟨cs',by rw [ZC,hx']⟩,by rw [Zp,hr]⟩
    ·exact ⟨⟨cs,by rw [Zf σ x hdd,hd']⟩,by rw [Zk X r hdd]⟩
   ·by_cases hdd:d'=d
    ·subst hdd
     obtain ⟨g1,g2,_⟩:=hrf i k hi hr
     exact ⟨by rw [ZC];exact g1,by rw [Zp];exact g2⟩
    ·exact ⟨by rw [Zf σ x hdd];exact Kl.refl _ _,by rw [Zk X r hdd]⟩
 size:=hsz.trans h.size
 out i hi:=by rw [Zf σ x (by omega)];exact h.out i hi
 ghost i hi:=by
  by_cases hd':i=d
  ·subst hd'
   rw [ZC,hxg] at hi
   cases hi
  ·rw [Zf σ x hd'] at hi
   exact h.ghost i hi
 dist i k i' k' b h1 h2:=by
  by_cases hi:i=d<;>by_cases hi':i'=d
  ·subst hi;subst hi'
   rw [Zp] at h1 h2
   exact ⟨rfl,hr2 k k' b h1 h2⟩
  ·subst hi
   rw [Zp] at h1
   rw [Zk X r hi'] at h2
   exact ((hr1 k b h1).2.2 i' k' hi' h2).elim
  ·subst hi'
   rw [Zp] at h2
   rw [Zk X r hi] at h1
   exact ((hr1 k' b h2).2.2 i k hi h1).elim
  ·rw [Zk X r hi] at h1
   rw [Zk X r hi'] at h2
   exact h.dist i k i' k' b h1 h2
 ours i k b h1:=by
  by_cases hi:i=d
  ·subst hi
   rw [Zp] at h1
   exact ⟨(hr1 k b h1).1,(hr1 k b h1).2.1⟩
  ·rw [Zk X r hi] at h1
   exact ⟨Nat.lt_of_lt_of_le (h.ours i k b h1).1 hw.size,(h.ours i k b h1).2⟩
 frm:=h.frm.step hw fun b hs=>by
  obtain ⟨k,hk⟩:=hS b hs
  exact (h.ours d k b hk).2
 pin i v hv:=by
  obtain ⟨h1,cs,h2⟩:=h.pin i v hv
  by_cases hi:i=d
  ·subst hi
   rcases hb with hb | ⟨⟨cs',rfl⟩,_,hv2⟩
   ·exact (hb cs h2).elim
   ·exact ⟨hv2.trans h1,cs',ZC _ _ _⟩
  ·exact ⟨(hoth i hi).trans h1,cs,by rw [Zf σ x hi,h2]⟩
 mp i e xs hi':=by
  by_cases hi:i=d
  ·subst hi
   rw [ZC] at hi'
   rw [Zp]
   exact hmp e xs hi'
  ·rw [Zf σ x hi] at hi'
   rw [show KH X d r i=X i from Zk X r hi]
   exact (h.mp i e xs hi').mono hw.ext fun k b hb=>hw.blk b (h.ours i k b hb).1 fun hs=>by
    obtain ⟨k',hk'⟩:=hS b hs
    exact hi (h.dist i k d k' b hb hk').1
 gpin i b hb':=by
  obtain ⟨h1,h2⟩:=h.gpin i b hb'
  have hi:i≠d:=fun e=>by have:=h.ghost i h2;omega
  exact ⟨by rw [Zk X r hi];exact h1,by rw [Zf σ x hi];exact h2⟩
 ntN:=h.ntN
 far i hi:=by
  have:=h.ntN
  rw [Zf σ x (show i≠d by omega)]
  exact h.far i hi
 nst i k e xs b h1 h2 h3:=by
  have hbd:ngN+b≠d:=by have:=h.ntN;omega
  rw [Zk X r hbd]
  by_cases hi:i=d
  ·subst hi
   rw [ZC] at h1
   rw [Zp] at h3
   exact hns k e xs b h1 h2 h3
  ·rw [Zf σ x hi] at h1
   rw [Zk X r hi] at h3
   have key:∀ i k b',i≠d→X i k=some b'→Zf6 w lim w' lim' b':=fun i k b' hi hb=>hw.blk b' (h.ours i k b' hb).1 fun hs=>by
    obtain ⟨k',hk'⟩:=hS b' hs
    exact hi (h.dist i k d k' b' hb hk').1
   exact (h.nst i k e xs b h1 h2 h3).mono hw.ext (key i k b hi h3).1 fun j b' hb=>key _ j b' hbd hb
 yfr b m b' hb:=by
  have hbd:ngN+b≠d:=by have:=h.ntN;omega
  rw [Zk X r hbd] at hb
  exact Nat.lt_of_lt_of_le (h.yfr b m b' hb) hw.size
def AV.plain:AV→Bool
 | .own _ _ _ => false
 | .box _ => false
 | .tuple _ => false
 | .aggo _ => false
 | .gbox _ => false
 | _ => true
theorem Zb7 {x:AV} (h:x.plain=true) (k:Nat):ZX x k=none:=by
 cases x<;>first | (cases k<;>rfl) | simp [AV.plain] at h
theorem ZcR {x:AV} (h:x.plain=true):x.isG=false:=by
 cases x<;>first | rfl | simp [AV.plain] at h
theorem ZP.plain {P:Program} {w:World} {lim:Nat→Nat} {X X':Nat→Nat→Option Nat} {σ σ':Nat→AV} {d d':Nat} {x:AV} {v:Value}
  (h:ZP P w lim X σ d x v) (hx:x.plain=true) (hp:∀ i cs,σ i = .box cs→(∃ cs',σ' i = .box cs')∧X' i 0=X i 0)
  (hg:∀ d',(σ d').isG=true→(σ' d').isG=true∧X' d' 0=X d' 0) (hr:∀ d' k,Je x d' k→Kl (σ d') (σ' d') k∧X' d' k=X d' k):ZP P w lim X' σ' d' x v:=by
 cases x with
 | gbox cs => simp [AV.plain] at hx
 | clo g ds =>
  obtain ⟨bs,h1,h2,h3⟩:=h
  exact ⟨bs,h1,h2,fun i d' b hd hb=>ZhP hp hg (h3 i d' b hd hb)⟩
 | ptr i off =>
  obtain ⟨b,cs,h1,h2,h3⟩:=h
  obtain ⟨⟨cs',h4⟩,h5⟩:=hp i cs h2
  exact ⟨b,cs',h5.trans h1,h4,h3⟩
 | mref i k =>
  obtain ⟨e,xs,h1,h2⟩:=h
  obtain ⟨h3,h4⟩:=hr i k (.inl rfl)
  obtain ⟨xs',h5,h6⟩:=h3 e xs h1
  exact ⟨e,xs',h5,by rw [h4,h6];exact h2⟩
 | eref i k o =>
  obtain ⟨b,e,xs,h1,h2,h3⟩:=h
  obtain ⟨h4,h5⟩:=hr i k (.inr ⟨o,rfl⟩)
  obtain ⟨xs',h6,_⟩:=h4 e xs h1
  exact ⟨b,e,xs',h6,h5.trans h2,h3⟩
 | own x e xs => simp [AV.plain] at hx
 | box cs => simp [AV.plain] at hx
 | tuple vs => simp [AV.plain] at hx
 | aggo cs => simp [AV.plain] at hx
 | dead => trivial
 | gone => trivial
 | eptr cs => exact h
 | val v => exact h
 | agg cs => exact h
 | slice f s xs => exact h
 | nest s o e ys => exact h
theorem Jz (tm:Array Value) (d:Nat) (v:Value) (h:d < tm.size):(tm.setIfInBounds d v).getD d undef=v:=by
 simp [Array.getD,h]
theorem ZL (tm:Array Value) (d i:Nat) (v:Value) (h:i≠d):(tm.setIfInBounds d v).getD i undef=tm.getD i undef:=by
 by_cases hi:i < tm.size
 ·simp [Array.getD,hi,Ne.symm h]
 ·simp [Array.getD,hi]
theorem ZfN {P:Program} {w:World} {lim:Nat→Nat} {X:Nat→Nat→Option Nat} {σ:Nat→AV} {k d q:Nat} {x:AV} {v:Value} (h:ZP P w lim X σ k x v) (hr:Je x d q):∃ p,Zo (σ d) q=some p:=by
 rcases hr with rfl | ⟨o,rfl⟩
 ·obtain ⟨e,xs,h1,_⟩:=h
  exact ⟨_,h1⟩
 ·obtain ⟨_,e,xs,h1,_⟩:=h
  exact ⟨_,h1⟩
theorem Sim.put {c:Ctx} {σ:Nat→AV} {tm:Array Value} {w:World} {lim:Nat→Nat} {X:Nat→Nat→Option Nat} (h:Sim c σ tm w lim X)
  {d k:Nat} {x:AV} {v:Value} (hd:d < c.nt) (hb:VQ (σ d)) (hp:x.plain=true) (hx:ZP c.P w lim X σ k x v) :
  Sim c (upd σ d x) (tm.setIfInBounds d v) w lim (KH X d JV):=by
 refine h.putRow JV (ZN.refl w lim (fun _=>False)) (fun _ hs=>hs.elim) hd (by simp) (fun i hi=>ZL tm d i v hi) (.inl hb.1) (fun i q hi hr=>(h.noRefs hb.none i q hi hr).elim) ?_
  (fun k b hk=>by simp [JV] at hk) (fun k k' b hk=>by simp [JV] at hk) (ZcR hp) (fun e xs he=>by rw [he] at hp;simp [AV.plain] at hp) (fun k e xs b he=>by rw [Zb7 hp] at he;cases he)
 rw [Jz tm d v (by rw [h.size];exact hd)]
 have hgh:∀ d',(σ d').isG=true→d'≠d:=fun d' hg e=>by have:=h.ghost d' hg;omega
 refine hx.plain hp (fun i cs hi=>?_) (fun d' hg=>⟨by rw [Zf σ x (hgh d' hg)];exact hg,by rw [Zk X JV (hgh d' hg)]⟩) fun d' q hr=>?_
 ·have hne:i≠d:=fun e=>hb.1 cs (e ▸ hi)
  exact ⟨⟨cs,by rw [Zf σ x hne,hi]⟩,by rw [Zk X JV hne]⟩
 ·have hne:d'≠d:=by
   intro e
   subst e
   obtain ⟨p,hp⟩:=ZfN hx hr
   rw [hb.none] at hp
   cases hp
  exact ⟨by rw [Zf σ x hne];exact Kl.refl _ _,by rw [Zk X JV hne]⟩
theorem Sim.weaken {c:Ctx} {σ:Nat→AV} {tm:Array Value} {w:World} {lim:Nat→Nat} {X:Nat→Nat→Option Nat} (h:Sim c σ tm w lim X)
  {d k:Nat} {x:AV} (hd:d < c.nt) (hb:∀ cs,σ d≠.box cs) (hno:ZjV σ d) (hp:x.plain=true) (hxr:∀ i q,¬ Je x i q) (hx:ZP c.P w lim X σ k x (tm.getD d undef)) :
  Sim c (upd σ d x) tm w lim (KH X d JV):=by
 refine h.putRow JV (ZN.refl w lim (fun _=>False)) (fun _ hs=>hs.elim) hd rfl (fun i hi=>rfl) (.inl hb) (fun i q hi hr=>(hno i q hi hr).elim) ?_
  (fun k b hk=>by simp [JV] at hk) (fun k k' b hk=>by simp [JV] at hk) (ZcR hp) (fun e xs he=>by rw [he] at hp;simp [AV.plain] at hp) (fun k e xs b he=>by rw [Zb7 hp] at he;cases he)
 have hgh:∀ d',(σ d').isG=true→d'≠d:=fun d' hg e=>by have:=h.ghost d' hg;omega
 refine hx.plain hp (fun i cs hi=>?_) (fun d' hg=>⟨by rw [Zf σ x (hgh d' hg)];exact hg,by rw [Zk X JV (hgh d' hg)]⟩) fun d' q hr=>(hxr d' q hr).elim
 have hne:i≠d:=fun e=>hb cs (e ▸ hi)
 exact ⟨⟨cs,by rw [Zf σ x hne,hi]⟩,by rw [Zk X JV hne]⟩
theorem Sim.putOwn {c:Ctx} {σ:Nat→AV} {tm:Array Value} {w:World} {lim:Nat→Nat} {X:Nat→Nat→Option Nat} (h:Sim c σ tm w lim X)
  {d:Nat} {x:Bool} {e:TypeId} {xs:List (List AV)} {v:Value} {ob:Option Nat} (hd:d < c.nt) (hb:VQ (σ d)) (hx:ZQ c.P w lim x e xs v ob)
  (ho:∀ b,ob=some b→(c.A b∨c.w0.heap.size≤b)∧∀ i j,i≠d→X i j≠some b) (hmo:x=true→ZeA c.P w lim e xs (KD ob))
  (hns:x=true→Zg c.P e=true→∀ b,ob=some b→VN c.P w lim e xs b (X (ngN+b))) :
  Sim c (upd σ d (.own x e xs)) (tm.setIfInBounds d v) w lim (KH X d (KD ob)):=by
 refine h.putRow (KD ob) (ZN.refl w lim (fun _=>False)) (fun _ hs=>hs.elim) hd (by simp) (fun i hi=>ZL tm d i v hi) (.inl hb.1) (fun i q hi hr=>(h.noRefs hb.none i q hi hr).elim) ?_
  (fun k b hk=>?_) (fun k k' b hk hk'=>?_) (by rfl) (fun e' xs' he=>by injection he with h1 h2 h3;subst h1;subst h2;subst h3;exact hmo rfl)
  (fun k e' xs' b he hd hb=>by
   cases k with
   | zero =>
    cases x with
    | false => simp [ZX] at he
    | true =>
     simp only [ZX,Option.some.injEq,Prod.mk.injEq] at he
     obtain ⟨rfl,rfl⟩:=he
     exact hns rfl hd b hb
   | succ k => simp [ZX] at he)
 ·rw [Jz tm d v (by rw [h.size];exact hd)]
  show ZQ c.P w lim x e xs v (KH X d (KD ob) d 0)
  rw [Zp]
  exact hx
 ·unfold KD at hk
  split at hk
  ·subst hk
   exact ⟨hx.lt,(ho b rfl).1,(ho b rfl).2⟩
  ·simp at hk
 ·unfold KD at hk hk'
  split at hk<;>split at hk'
  ·omega
  ·simp at hk'
  ·simp at hk
  ·simp at hk
theorem Zl (xs:List (List AV)) (s:Nat) (h:∀ x∈xs,x.length=s):xs.flatten.length=xs.length*s:=by
 induction xs with
 | nil => simp
 | cons x xs ih =>
  simp only [List.flatten_cons,List.length_append,List.length_cons]
  rw [h x (by simp),ih fun y hy=>h y (by simp [hy]),Nat.add_mul]
  omega
theorem ZQ.rep {P:Program} {w:World} {lim:Nat→Nat} {e:TypeId} {xs:List (List AV)} {v:Value} {ob:Option Nat} (h:ZQ P w lim false e xs v ob) (f:Bool) (hf:f=false) :
  Rep w lim (.slice f (P.cellsOf e) xs) v:=by
 subst hf
 rcases h with ⟨us,h1,h2,h3,h4,h5,h6⟩ | ⟨rfl,_,a,rfl⟩ | ⟨hx,_⟩
 case inr.inl=>exact .sliceE (fun h=>by simp at h)
 case inr.inr=>cases hx
 rcases h1.2 with ⟨hv,hn⟩ | ⟨g,cap,cur,hv,hbg,hg,hnc,hcm,hcs,htake⟩
 ·have:xs = []:=List.eq_nil_of_length_eq_zero hn
  subst this
  rw [hv]
  exact .sliceN
 ·rw [hv]
  have hob:ob=some g:=by rw [← h2,hv];rfl
  refine .sliceC h4 h5 (fun h=>by simp at h) hnc (fun _=>?_) h1.1 (fun j u hj=>?_) h6
  ·rw [h3 g hob,if_neg (by simp)];omega
  ·have hcell:=h1.cells (g:=g) (by rw [hv];rfl) j u hj
   have hadd:(⟨g,0,none⟩:Addr).add j=⟨g,0+j,none⟩:=by unfold Addr.add;split<;>simp_all
   rw [hadd] at hcell
   exact hcell
theorem Sim.graft {c:Ctx} {σ:Nat→AV} {tm:Array Value} {w:World} {lim:Nat→Nat} {X X2:Nat→Nat→Option Nat} (h:Sim c σ tm w lim X) (B:Nat→Prop) (h1:∀ d,d < ngN→X2 d=X d) (h2:∀ b,¬ B b→X2 (ngN+b)=X (ngN+b))
  (h3:∀ b,B b→b < w.heap.size∧∀ d k,X d k≠some b) (h4:∀ b k b',B b→X2 (ngN+b) k=some b'→b' < w.heap.size∧(c.A b'∨c.w0.heap.size≤b')∧(∀ d j,X d j=some b'→ngN≤d∧B (d-ngN))∧∀ b2 k2,B b2→X2 (ngN+b2) k2=some b'→b2=b∧k2=k) :
  Sim c σ tm w lim X2:=by
 have hG:∀ d,(σ d).isG=true→d < ngN:=fun d hd=>by
  rcases Nat.lt_or_ge d ngN with hlt | hge
  ·exact hlt
  ·rw [h.far d hge] at hd;cases hd
 have hcase:∀ d,d < ngN∨∃ b,d=ngN+b:=fun d=>by
  rcases Nat.lt_or_ge d ngN with hlt | hge
  ·exact .inl hlt
  ·exact .inr ⟨d-ngN,by omega⟩
 -- a row is as it was, or it is told anew
 have hrow:∀ d,X2 d=X d∨∃ b,d=ngN+b∧B b:=fun d=>by
  rcases hcase d with hlt | ⟨b,rfl⟩
  ·exact .inl (h1 d hlt)
  ·by_cases hb:B b
   ·exact .inr ⟨b,rfl,hb⟩
   ·exact .inl (h2 b hb)
 refine ⟨fun d=>?_,h.size,h.out,h.ghost,fun d k d' k' b g g'=>?_,fun d k b g=>?_,h.frm,h.pin,fun d e xs hd=>?_,fun d b hb=>?_,h.ntN,h.far,fun d k e xs b g1 g2 g3=>?_,fun b m b' hb=>?_⟩
 ·rcases hcase d with hlt | ⟨b,rfl⟩
  ·refine (h.rel d).chg (h1 d hlt) (fun d' cs hd'=>⟨⟨cs,hd'⟩,?_⟩) (fun d' hd'=>⟨hd',by rw [h1 d' (hG d' hd')]⟩) fun d' k hr=>⟨Kl.refl _ _,?_⟩
   ·rcases hcase d' with hlt' | ⟨b,rfl⟩
    ·rw [h1 d' hlt']
    ·rw [h.far _ (Nat.le_add_right _ _)] at hd';cases hd'
   ·obtain ⟨p,hp⟩:=Y7 h hr
    rcases hcase d' with hlt' | ⟨b,rfl⟩
    ·rw [h1 d' hlt']
    ·rw [h.far _ (Nat.le_add_right _ _)] at hp;cases hp
  ·rw [h.far _ (Nat.le_add_right _ _)];trivial
 ·rcases hrow d with e1 | ⟨b1,rfl,hb1⟩ <;> rcases hrow d' with e2 | ⟨b2,rfl,hb2⟩
  ·rw [e1] at g;rw [e2] at g'
   exact h.dist d k d' k' b g g'
  ·rw [e1] at g
   obtain ⟨_,_,m3,_⟩:=h4 b2 k' b hb2 g'
   obtain ⟨n1,n2⟩:=m3 d k g
   obtain ⟨b3,rfl⟩:∃ b3,d=ngN+b3:=⟨d-ngN,by omega⟩
   rw [Nat.add_sub_cancel_left] at n2
   rw [← e1] at g
   obtain ⟨m1,m2⟩:=(h4 b2 k' b hb2 g').2.2.2 b3 k n2 g
   exact ⟨by rw [m1],m2⟩
  ·rw [e2] at g'
   obtain ⟨_,_,m3,_⟩:=h4 b1 k b hb1 g
   obtain ⟨n1,n2⟩:=m3 d' k' g'
   obtain ⟨b3,rfl⟩:∃ b3,d'=ngN+b3:=⟨d'-ngN,by omega⟩
   rw [Nat.add_sub_cancel_left] at n2
   rw [← e2] at g'
   obtain ⟨m1,m2⟩:=(h4 b1 k b hb1 g).2.2.2 b3 k' n2 g'
   exact ⟨by rw [m1],m2.symm⟩
  ·obtain ⟨m1,m2⟩:=(h4 b1 k b hb1 g).2.2.2 b2 k' hb2 g'
   exact ⟨by rw [m1],m2.symm⟩
 ·rcases hrow d with e1 | ⟨b1,rfl,hb1⟩
  ·rw [e1] at g;exact h.ours d k b g
  ·exact ⟨(h4 b1 k b hb1 g).1,(h4 b1 k b hb1 g).2.1⟩
 ·rcases hcase d with hlt | ⟨b,rfl⟩
  ·rw [h1 d hlt];exact h.mp d e xs hd
  ·rw [h.far _ (Nat.le_add_right _ _)] at hd;cases hd
 ·obtain ⟨g1,g2⟩:=h.gpin d b hb
  exact ⟨by rw [h1 d (hG d g2)];exact g1,g2⟩
 ·rcases hcase d with hlt | ⟨b',rfl⟩
  ·rw [h1 d hlt] at g3
   have hnb:¬ B b:=fun hb=>(h3 b hb).2 d k g3
   rw [h2 b hnb]
   exact h.nst d k e xs b g1 g2 g3
  ·rw [h.far _ (Nat.le_add_right _ _)] at g1;cases g1
 ·by_cases hB:B b
  ·exact (h3 b hB).1
  ·rw [h2 b hB] at hb;exact h.yfr b m b' hb
end Go.AM
end

section
namespace Go.AM
def Zo2:Value→Option AV
 | .slice none 0 0 => some (.slice true 0 [])
 | .bool b => some (.val (.bool b))
 | .int k n => some (.val (.int k n))
 | .string s => some (.val (.string s))
 | _ => none
def Zac:List Value→Option (List AV)
 | [] => some []
 | v :: vs =>
  match Zo2 v,Zac vs with
  | some c, some cs => some (c :: cs)
  | _, _ => none
def ZoD:Value→AV
 | .agg cs => match Zac cs.toList with | some l => .agg l | none => .dead
 | v => match Zo2 v with | some c => c | none => .dead
def Zr (P:Program) (σ:Nat→AV):Operand→AV
 | .tmp t =>
  match σ t with
  | .box _ => .ptr t 0
  | .own x e xs => match x with | true => .mref t 0 | false => .slice false (P.cellsOf e) xs
  | .tuple _ => .dead
  | .aggo _ => .dead
  | .gbox _ => .dead
  | x => x
 | .const v => ZoD v
 | .func f => .clo f []
 | _ => .dead
def V3 (old new:AV):Bool:=
 match old,new with
 | .gbox _, _ => false
 | _, .gbox _ => false
 | .box _, _ => false
 | .own true _ _, _ => false
 | .dead, .box _ => true
 | _, .box _ => false
 | _, _ => true
theorem ZD {old new:AV} (h:V3 old new=true):VQ old:=by
 refine ⟨fun cs e=>?_,fun e' xs e=>?_,fun cs e=>?_⟩ <;> subst e<;>cases new<;>simp [V3] at h
def Zlc (c:Ctx) (dst:Option Tmp) (σ1:Nat→AV) (x:AV) (tm:Array Value) (v:Value) (w':World):Prop:=
 match dst with
 | some d => d < c.nt → V3 (σ1 d) x = true → ∃ lim' X', Sim c (upd σ1 d x) (tm.setIfInBounds d v) w' lim' X'
 | none => ∃ lim' X', Sim c σ1 tm w' lim' X'
def ZcQ (x:AV):Prop:=∃ cs,x = .box cs
def ZcU (x y:AV):Prop:=y=x∨(ZcQ x∧ZcQ y)
theorem ZcU.eq {x y:AV} (h:ZcU x y) (hx:∀ cs,x≠.box cs):y=x:=by
 rcases h with h | ⟨⟨cs,h⟩,_⟩
 ·exact h
 ·exact (hx cs h).elim
def YY (T:Odr) (P:Program) (o:Oper) (σ:Nat→AV) (x:AV) (us:List (Nat×AV)) (fp:List Nat):Prop:=
 ∀ (c:Ctx),c.P=P→∀ (σ':Nat→AV) (tm:Array Value) (w:World) (lim:Nat→Nat) (X:Nat→Nat→Option Nat),
  (∀ d∈K2 o,ZcU (σ d) (σ' d))→(∀ d∈fp++us.map (·.1),σ' d=σ d)→T.rel σ σ'→Sim c σ' tm w lim X→∀ (next:Act→World→Prop) (Q:Exit→Act→World→Prop),
   (∀ v w',Zlc c o.dst (Ju σ' us) x tm v w'→next (Act.put ⟨tm,[]⟩ o.dst v) w')→o.wp P ⟨tm,[]⟩ w next Q
def JA (P:Program) (o:Oper) (σ:Nat→AV) (x:AV) (us:List (Nat×AV)) (fp:List Nat):Prop:=
 ∀ (c:Ctx),c.P=P→∀ (σ':Nat→AV) (tm:Array Value) (w:World) (lim:Nat→Nat) (X:Nat→Nat→Option Nat),
  (∀ d∈K2 o,ZcU (σ d) (σ' d))→(∀ d∈fp++us.map (·.1),σ' d=σ d)→Sim c σ' tm w lim X→∀ (next:Act→World→Prop) (Q:Exit→Act→World→Prop),
   (∀ v w',Zlc c o.dst (Ju σ' us) x tm v w'→next (Act.put ⟨tm,[]⟩ o.dst v) w')→o.wp P ⟨tm,[]⟩ w next Q
theorem JA.t {T:Odr} {P:Program} {o:Oper} {σ:Nat→AV} {x:AV} {us:List (Nat×AV)} {fp:List Nat} (h:JA P o σ x us fp):YY T P o σ x us fp:=
 fun c hc σ' tm w lim X h1 h2 _ h4=>h c hc σ' tm w lim X h1 h2 h4
theorem ZQ.sliceV {P:Program} {w:World} {lim:Nat→Nat} {x:Bool} {e:TypeId} {xs:List (List AV)} {v:Value} {ob:Option Nat} (h:ZQ P w lim x e xs v ob) (hd:Zff P w e ob):Zat P w ob e xs.length v:=by
 by_cases hm:Zm P e=false∨Zg P e=true
 ·rcases h.one hm hd with ⟨us,h1,h2,_⟩ | ⟨rfl,h2,a,rfl⟩
  ·rcases h1.2 with ⟨hv,hn⟩ | ⟨g,cap,cur,hv,_,hg,_,_,hcs,_⟩
   ·exact .inl ⟨by rw [← h2,hv];rfl,hn,.inl hv⟩
   ·exact .inr (.inl ⟨g,cur,cap,by rw [← h2,hv];rfl,hg,hcs,hv⟩)
  ·exact .inl ⟨h2,rfl,.inr ⟨a,rfl⟩⟩
 ·have h0:Zm P e=true:=by cases h:Zm P e with | true=>rfl | false=>exact (hm (.inl h)).elim
  have h0':Zg P e=false:=by cases h:Zg P e with | false=>rfl | true=>exact (hm (.inr h)).elim
  have hb:bT e=e∨bT e≠e:=Classical.em _
  rcases h with ⟨us,h1,h2,_⟩ | ⟨rfl,h2,a,rfl⟩ | ⟨_,⟨_,b,es,clock,kvs,_,_,h1,h2,h3,_⟩ | h | ⟨_,b,es,clock,kvs,_,_,h1,h2,h3,_⟩⟩
  ·rcases h1.2 with ⟨hv,hn⟩ | ⟨g,cap,cur,hv,_,hg,_,_,hcs,_⟩
   ·exact .inl ⟨by rw [← h2,hv];rfl,hn,.inl hv⟩
   ·exact .inr (.inr (.inl ⟨h0,h0',g,cur,cap,by rw [← h2,hv];rfl,hg,hv⟩))
  ·exact .inl ⟨h2,rfl,.inr ⟨a,rfl⟩⟩
  ·exact .inr (.inr (.inr ⟨h0,h0',b,es,clock,h1,h3,h2⟩))
  ·rw [h.1] at h0';cases h0'
  ·exact .inr (.inr (.inr ⟨h0,h0',b,es,clock,h1,h3,h2⟩))
theorem Sim.deepB {c:Ctx} {σ:Nat→AV} {tm:Array Value} {w:World} {lim:Nat→Nat} {X:Nat→Nat→Option Nat} (h:Sim c σ tm w lim X) {d k:Nat} {e:TypeId} {xs:List (List AV)} (ho:ZX (σ d) k=some (e,xs)) :
  Zff c.P w e (X d k):=fun hd b hb=>(h.nst d k e xs b ho hd hb).1
theorem Z7 {x:AV} {k:Nat} {p:TypeId×List (List AV)} (h:Zo x k=some p):ZX x k=some p:=by
 unfold Zo at h
 unfold ZX
 split at h<;>first | exact h | cases h
theorem ZQ.cells1 {P:Program} {w:World} {lim:Nat→Nat} {x:Bool} {e:TypeId} {xs:List (List AV)} {v:Value} {ob:Option Nat} (h:ZQ P w lim x e xs v ob):v.cells = #[v]∧v.oneCell'=true:=by
 have key:∀ {e},WX P w lim x e xs v ob→v.cells = #[v]∧v.oneCell'=true:=fun h=>by
  rcases h with ⟨us,hr,_⟩ | ⟨_,_,b1,hv⟩
  ·rcases hr.2 with ⟨hv,_⟩ | ⟨g,cap,cur,hv,_⟩ <;> rw [hv]<;>exact ⟨rfl,rfl⟩
  ·rw [hv];exact ⟨rfl,rfl⟩
 rcases h with h | h | ⟨hx,⟨_,b1,_,_,_,_,_,_,hv,_⟩ | h | ⟨_,b1,_,_,_,_,_,_,hv,_⟩⟩
 ·exact key (.inl h)
 ·exact key (e:=e) (.inr h)
 ·rw [hv];exact ⟨rfl,rfl⟩
 ·subst hx;exact key h.2.2
 ·rw [hv];exact ⟨rfl,rfl⟩
theorem Yp {cs:List AV} {off:Nat} {y:AV} {k:Nat} {e:TypeId} {xs:List (List AV)} (h:ZX (.box (cs.set off y)) k=some (e,xs)):(k=off+1∧y = .own true e xs)∨(k≠off+1∧ZX (.box cs) k=some (e,xs)):=by
 cases k with
 | zero => simp [ZX] at h
 | succ k =>
  by_cases hk:k=off
  ·subst hk
   simp only [ZX] at h
   split at h
   ·rename_i e1 xs1 hq
    simp only [Option.some.injEq,Prod.mk.injEq] at h
    obtain ⟨rfl,rfl⟩:=h
    have hlt:=(List.getElem?_eq_some_iff.1 hq).1
    rw [List.getElem?_set_self (by simpa using hlt)] at hq
    simp only [Option.some.injEq] at hq
    exact .inl ⟨rfl,hq⟩
   ·cases h
  ·refine .inr ⟨by omega,?_⟩
   simp only [ZX] at h ⊢
   rw [List.getElem?_set_ne (fun h=>hk h.symm)] at h
   exact h
theorem Zq {P:Program} {o:Oper} {a:Act} {w w':World} {v:Value} {next:Act→World→Prop} {Q:Exit→Act→World→Prop}
  (hr:(execOp a.eval o).run P w = .ok (.value v) w') (h:next (a.put o.dst v) w'):o.wp P a w next Q:=by
 unfold Oper.wp;rw [hr];exact h
theorem Zy {c:Ctx} {dst:Option Tmp} {σ1:Nat→AV} {x:AV} {tm:Array Value} {v:Value} {w:World} {lim:Nat→Nat} {X:Nat→Nat→Option Nat} {k:Nat}
  (h:Sim c σ1 tm w lim X) (hp:x.plain=true) (hx:ZP c.P w lim X σ1 k x v):Zlc c dst σ1 x tm v w:=by
 cases dst with
 | none => exact ⟨lim, X, h⟩
 | some d => exact fun hd hm => ⟨lim, _, h.put hd (ZD hm) hp hx⟩
theorem WL {w:World} {lim:Nat→Nat} {v:Value} {c:AV} (h:Zo2 v=some c):c.isCell=true∧Rep w lim c v:=by
 unfold Zo2 at h
 split at h<;>simp at h<;>subst h
 ·exact ⟨rfl,.sliceN⟩
 ·exact ⟨rfl,.val rfl⟩
 ·exact ⟨rfl,.val rfl⟩
 ·exact ⟨rfl,.val rfl⟩
theorem WN {w:World} {lim:Nat→Nat} : ∀ {vs:List Value} {cs:List AV},Zac vs=some cs→cs.length=vs.length∧(∀ c∈cs,c.isCell=true)∧
  ∀ (i:Nat) (c:AV) (v:Value),cs[i]? = some c→vs[i]? = some v→Rep w lim c v
 | [], cs, h => by
  simp [Zac] at h
  subst h
  simp
 | v :: vs, cs, h => by
  simp only [Zac] at h
  split at h
  ·rename_i c cs' hc hcs
   simp at h
   subst h
   obtain ⟨h1,h2,h3⟩:=WN (w:=w) (lim:=lim) hcs
   refine ⟨by simp [h1],fun x hx=>?_,fun i x u hx hu=>?_⟩
   ·rcases List.mem_cons.1 hx with rfl | hx
    ·exact (WL (w:=w) (lim:=lim) hc).1
    ·exact h2 x hx
   ·cases i with
    | zero => simp at hx hu; subst hx; subst hu; exact (WL hc).2
    | succ i => exact h3 i x u (by simpa using hx) (by simpa using hu)
  ·simp at h
theorem ZlX {P:Program} {w:World} {lim:Nat→Nat} {X:Nat→Nat→Option Nat} {σ:Nat→AV} {k:Nat} (v:Value) :
  (ZoD v).plain=true∧ZP P w lim X σ k (ZoD v) v:=by
 unfold ZoD
 split
 ·rename_i cs
  split
  ·rename_i l hl
   obtain ⟨h1,h2,h3⟩:=WN (w:=w) (lim:=lim) hl
   refine ⟨rfl,?_⟩
   have:cs=cs.toList.toArray:=by simp
   show Rep w lim (.agg l) (.agg cs)
   rw [this]
   exact .agg h1 h2 h3
  ·exact ⟨rfl,trivial⟩
 ·split
  ·rename_i c hc
   obtain ⟨h1,h2⟩:=WL (w:=w) (lim:=lim) hc
   cases c<;>simp [AV.isCell] at h1<;>exact ⟨rfl,h2⟩
  ·exact ⟨rfl,trivial⟩
theorem Kj {c:Ctx} {σ:Nat→AV} {tm:Array Value} {w:World} {lim:Nat→Nat} {X:Nat→Nat→Option Nat} (h:Sim c σ tm w lim X) (x:Operand) (k:Nat) :
  (Zr c.P σ x).plain=true∧ZP c.P w lim X σ k (Zr c.P σ x) (Act.eval ⟨tm,[]⟩ x):=by
 cases x with
 | tmp t =>
  have ht:=h.rel t
  have hev:Act.eval ⟨tm,[]⟩ (.tmp t)=tm.getD t undef:=rfl
  rw [hev]
  cases hs:σ t with
  | box cs =>
   rw [hs] at ht
   obtain ⟨b,arr,ty,h1,h2,_⟩:=(show ZI c.P w lim (X t) cs (tm.getD t undef) from ht)
   simp only [Zr,hs]
   exact ⟨rfl,b,cs,h1,hs,h2⟩
  | mref d k => rw [hs] at ht; simp only [Zr, hs]; exact ⟨rfl, ht⟩
  | eref d k o => rw [hs] at ht; simp only [Zr, hs]; exact ⟨rfl, ht⟩
  | gbox cs => simp only [Zr, hs]; exact ⟨rfl, trivial⟩
  | clo g ds => rw [hs] at ht; simp only [Zr, hs]; exact ⟨rfl, ht⟩
  | own x e xs =>
   rw [hs] at ht
   simp only [Zr,hs]
   cases x with
   | true => exact ⟨rfl, e, xs, by rw [hs]; rfl, ZQ.sliceV ht (h.deepB (xs := xs) (by rw [hs]; rfl))⟩
   | false => exact ⟨rfl, ZQ.rep ht false rfl⟩
  | tuple vs => simp only [Zr, hs]; exact ⟨rfl, trivial⟩
  | aggo cs => simp only [Zr, hs]; exact ⟨rfl, trivial⟩
  | dead => simp only [Zr, hs]; exact ⟨rfl, trivial⟩
  | gone => simp only [Zr, hs]; exact ⟨rfl, trivial⟩
  | ptr d off => rw [hs] at ht; simp only [Zr, hs]; exact ⟨rfl, ht⟩
  | eptr cs => rw [hs] at ht; simp only [Zr, hs]; exact ⟨rfl, ht⟩
  | val v => rw [hs] at ht; simp only [Zr, hs]; exact ⟨rfl, ht⟩
  | agg cs => rw [hs] at ht; simp only [Zr, hs]; exact ⟨rfl, ht⟩
  | slice f s xs => rw [hs] at ht; simp only [Zr, hs]; exact ⟨rfl, ht⟩
  | nest s o e ys => rw [hs] at ht; simp only [Zr, hs]; exact ⟨rfl, ht⟩
 | const v => exact ZlX v
 | global g => exact ⟨rfl, trivial⟩
 | func f => exact ⟨rfl, [], rfl, rfl, by simp⟩
theorem Zt {o:Oper} {x:Operand} {t:Nat} (hx:x∈o.op.operands) (ht:ZS x=some t):t∈K2 o:=
 List.mem_filterMap.2 ⟨x,by simpa using hx,ht⟩
theorem ZA {P:Program} {σ σ':Nat→AV} {x:Operand} (h:∀ t,ZS x=some t→ZcU (σ t) (σ' t)):Zr P σ' x=Zr P σ x:=by
 cases x with
 | tmp t =>
  rcases h t rfl with h1 | ⟨⟨cs,h1⟩,cs',h3⟩
  ·simp only [Zr,h1]
  ·simp only [Zr,h1,h3]
 | const v => rfl
 | global g => rfl
 | func f => rfl
theorem ZE {P:Program} {o:Oper} {σ:Nat→AV} {x:AV} (fp:List Nat) (hp:x.plain=true)
  (h:∀ (c:Ctx),c.P=P→∀ (σ':Nat→AV) (tm:Array Value) (w:World) (lim:Nat→Nat) (X:Nat→Nat→Option Nat),
   (∀ y∈o.op.operands,Zr P σ' y=Zr P σ y)→(∀ d∈fp,σ' d=σ d)→Sim c σ' tm w lim X→
   ∃ v,(execOp (Act.eval ⟨tm,[]⟩) o).run P w = .ok (.value v) w∧ZP P w lim X σ' 0 x v):JA P o σ x [] fp:=by
 intro c hc σ' tm w lim X hid hag hsim next Q hn
 obtain ⟨v,hr,hx⟩:=h c hc σ' tm w lim X (fun y hy=>ZA fun t ht=>hid t (by simp [Zt hy ht])) (fun d hd=>hag d (by simp [hd])) hsim
 exact Zq hr (hn v w (Zy hsim hp (k:=0) (by rw [hc];exact hx)))
theorem KN {w:World} {lim:Nat→Nat} {u v:Value} (h:Rep w lim (.val u) v):v=u:=by cases h;rfl
theorem ZeZ {P:Program} {o:Oper} {σ:Nat→AV} {x:Operand} (ho:o.op = .move x∨o.op = .assign x):JA P o σ (Zr P σ x) [] []:=by
 have hmem:x∈o.op.operands:=by rcases ho with ho | ho<;>rw [ho]<;>simp [Op.operands]
 intro c hc σ' tm w lim X hid hag hsim next Q hn
 have hg:Zr P σ' x=Zr P σ x:=ZA fun t ht=>hid t (by simp [Zt hmem ht])
 obtain ⟨h1,h2⟩:=Kj hsim x 0
 rw [hc,hg] at h1 h2
 refine Zq (v:=Act.eval ⟨tm,[]⟩ x) ?_ (hn _ w (Zy hsim h1 (k:=0) (by rw [hc];exact h2)))
 rcases ho with ho | ho<;>simp [execOp,ho]
theorem J0 {P:Program} {c:Ctx} (hc:c.P=P) {σ σ':Nat→AV} {tm:Array Value} {w:World} {lim:Nat→Nat} {X:Nat→Nat→Option Nat} (h:Sim c σ' tm w lim X) {x:Operand} {y:AV}
  (hx:Zr P σ x=y) (hg:Zr P σ' x=Zr P σ x):ZP P w lim X σ' 0 y (Act.eval ⟨tm,[]⟩ x):=by
 have:=(Kj h x 0).2
 rw [hc,hg,hx] at this
 exact this
theorem Z1 {P:Program} {c:Ctx} (hc:c.P=P) {σ σ':Nat→AV} {tm:Array Value} {w:World} {lim:Nat→Nat} {X:Nat→Nat→Option Nat} (h:Sim c σ' tm w lim X) {x:Operand} {u:Value}
  (hx:Zr P σ x = .val u) (hg:Zr P σ' x=Zr P σ x):Act.eval ⟨tm,[]⟩ x=u:=KN (J0 hc h hx hg)
theorem Zlf {P:Program} {o:Oper} {σ:Nat→AV} {cd a b:Operand} {v:Bool} (ho:o.op = .pick cd a b) (hv:Zr P σ cd = .val (.bool v)) :
  JA P o σ (if v=true then Zr P σ a else Zr P σ b) [] []:=by
 intro c hc σ' tm w lim X hid hag hsim next Q hn
 have hg:∀ y∈o.op.operands,Zr P σ' y=Zr P σ y:=fun y hy=>ZA fun t ht=>hid t (by simp [Zt hy ht])
 rw [ho] at hg
 simp only [Op.operands] at hg
 have h1:=Z1 hc hsim hv (hg cd (by simp))
 obtain ⟨ha1,ha2⟩:=Kj hsim a 0
 obtain ⟨hb1,hb2⟩:=Kj hsim b 0
 rw [hc,hg a (by simp)] at ha1 ha2
 rw [hc,hg b (by simp)] at hb1 hb2
 cases v with
 | true =>
  refine Zq (v:=Act.eval ⟨tm,[]⟩ a) ?_ (hn _ w (Zy hsim ha1 (k:=0) (by rw [hc];exact ha2)))
  simp [execOp,ho,h1,asBool]
 | false =>
  refine Zq (v:=Act.eval ⟨tm,[]⟩ b) ?_ (hn _ w (Zy hsim hb1 (k:=0) (by rw [hc];exact hb2)))
  simp [execOp,ho,h1,asBool]
theorem Jo {P:Program} {o:Oper} {σ:Nat→AV} {v:Value} (hv:ZbI v=true)
  (h:∀ (a:Act) (w:World),(∀ y∈o.op.operands,∀ u,Zr P σ y = .val u→a.eval y=u)→(execOp a.eval o).run P w = .ok (.value v) w):JA P o σ (.val v) [] []:=by
 refine ZE [] rfl fun c hc σ' tm w lim X hg _ hsim=>⟨v,h ⟨tm,[]⟩ w fun y hy u hu=>Z1 hc hsim hu (hg y hy),.val hv⟩
def Zoo:BinOp→Option IOp
 | .add => some .add
 | .sub => some .sub
 | .mul => some .mul
 | .quo => some .quo
 | .rem => some .rem
 | .and => some .and
 | .or => some .or
 | .xor => some .xor
 | .andNot => some .andNot
 | _ => none
theorem ZlR {P:Program} {o:Oper} {σ:Nat→AV} {op:BinOp} {i:IOp} {T T':TypeId} {x y:Operand} {k:IntKind} {a b:Int} (ho:o.op = .binOp op T x y T')
  (hi:Zoo op=some i) (hx:Zr P σ x = .val (.int k a)) (hy:Zr P σ y = .val (.int k b)) (hz:i = .quo∨i = .rem→b≠0):JA P o σ (.val (.int k (iop i k a b))) [] []:=by
 refine Jo rfl fun ac w h=>?_
 rw [ho] at h
 simp only [Op.operands] at h
 have h1:=h x (by simp) _ hx
 have h2:=h y (by simp) _ hy
 cases op<;>simp [Zoo] at hi<;>subst hi <;>
  simp [execOp,ho,h1,h2,eqGuard,binOp,Op.intArith,Op.intDiv,Op.intBits,iop]<;>exact fun hb=>(hz (by simp) hb).elim
def ZoU:BinOp→Option COp
 | .eql => some .eql
 | .neq => some .neq
 | .lss => some .lss
 | .leq => some .leq
 | .gtr => some .gtr
 | .geq => some .geq
 | _ => none
theorem ZlE {P:Program} {o:Oper} {σ:Nat→AV} {op:BinOp} {i:COp} {T T':TypeId} {x y:Operand} {k:IntKind} {a b:Int} (ho:o.op = .binOp op T x y T')
  (hi:ZoU op=some i) (hx:Zr P σ x = .val (.int k a)) (hy:Zr P σ y = .val (.int k b)):JA P o σ (.val (.bool (cop i a b))) [] []:=by
 refine Jo rfl fun ac w h=>?_
 rw [ho] at h
 simp only [Op.operands] at h
 have h1:=h x (by simp) _ hx
 have h2:=h y (by simp) _ hy
 cases op<;>simp [ZoU] at hi<;>subst hi <;>
  simp [execOp,ho,h1,h2,eqGuard,binOp,Op.intCmp,cop]
theorem ZcZ {P:Program} {o:Oper} {σ:Nat→AV} {op:BinOp} {i:IOp} {T T':TypeId} {x y:Operand} {k k':IntKind} {a b:Int} (ho:o.op = .binOp op T x y T')
  (hi:(op = .shl∧i = .shl)∨(op = .shr∧i = .shr)) (hx:Zr P σ x = .val (.int k a)) (hy:Zr P σ y = .val (.int k' b)) (hb:0≤b):JA P o σ (.val (.int k (iop i k a b))) [] []:=by
 refine Jo rfl fun ac w h=>?_
 rw [ho] at h
 simp only [Op.operands] at h
 have h1:=h x (by simp) _ hx
 have h2:=h y (by simp) _ hy
 rcases hi with ⟨rfl,rfl⟩ | ⟨rfl,rfl⟩ <;> simp [execOp,ho,h1,h2,eqGuard,binOp,Op.shift,iop,Int.not_lt.2 hb]
theorem ZhZ {P:Program} {o:Oper} {σ:Nat→AV} {op:BinOp} {T T':TypeId} {x y:Operand} {a b:ByteArray} (ho:o.op = .binOp op T x y T')
  (hop:op = .eql∨op = .neq) (hx:Zr P σ x = .val (.string a)) (hy:Zr P σ y = .val (.string b)) :
  JA P o σ (.val (.bool (if op = .eql then a.toList == b.toList else !(a.toList == b.toList)))) [] []:=by
 refine Jo rfl fun ac w h=>?_
 rw [ho] at h
 simp only [Op.operands] at h
 have h1:=h x (by simp) _ hx
 have h2:=h y (by simp) _ hy
 rcases hop with rfl | rfl<;>simp [execOp,ho,h1,h2,eqGuard,binOp,Op.stringOp]
theorem ZfU {P:Program} {o:Oper} {σ:Nat→AV} {op:BinOp} {T T':TypeId} {x y:Operand} {a b:Bool} (ho:o.op = .binOp op T x y T') (hT:P.underlying T=some .bool)
  (hop:op = .eql∨op = .neq) (hx:Zr P σ x = .val (.bool a)) (hy:Zr P σ y = .val (.bool b)) :
  JA P o σ (.val (.bool (if op = .eql then a == b else !(a == b)))) [] []:=by
 refine Jo rfl fun ac w h=>?_
 rw [ho] at h
 simp only [Op.operands] at h
 have h1:=h x (by simp) _ hx
 have h2:=h y (by simp) _ hy
 have he:(Op.equal T (.bool a) (.bool b)).run P w = .ok (a == b) w:=run_equalIn_bool' w 9999 T a b hT
 rcases hop with rfl | rfl<;>simp [execOp,ho,h1,h2,eqGuard,binOp,he]
theorem Zlz {P:Program} {o:Oper} {σ:Nat→AV} {T:TypeId} {x:Operand} {b:Bool} (ho:o.op = .unOp .not T x) (hx:Zr P σ x = .val (.bool b)) :
  JA P o σ (.val (.bool !b)) [] []:=by
 refine Jo rfl fun ac w h=>?_
 rw [ho] at h
 simp only [Op.operands] at h
 have h1:=h x (by simp) _ hx
 simp [execOp,ho,h1,Op.unary]
theorem Zml {P:Program} {o:Oper} {σ:Nat→AV} {T:TypeId} {x:Operand} {k:IntKind} {n:Int} (ho:o.op = .unOp .neg T x) (hx:Zr P σ x = .val (.int k n)) :
  JA P o σ (.val (.int k (iop .sub k 0 n))) [] []:=by
 refine Jo rfl fun ac w h=>?_
 rw [ho] at h
 simp only [Op.operands] at h
 have h1:=h x (by simp) _ hx
 simp [execOp,ho,h1,Op.unary,Op.intArith,iop]
theorem ZiQ {P:Program} {o:Oper} {σ:Nat→AV} {T:TypeId} {x:Operand} {k:IntKind} {n:Int} (ho:o.op = .unOp .xor T x) (hx:Zr P σ x = .val (.int k n)) :
  JA P o σ (.val (.int k (iop .xor k (if k.signed=true then -1 else k.max) n))) [] []:=by
 refine Jo rfl fun ac w h=>?_
 rw [ho] at h
 simp only [Op.operands] at h
 have h1:=h x (by simp) _ hx
 simp [execOp,ho,h1,Op.unary,Op.intBits,iop]
theorem Zju {P:Program} {o:Oper} {σ:Nat→AV} {S T:TypeId} {x:Operand} {k k1 k2:IntKind} {n:Int} (ho:o.op = .convert S T x) (hS:P.underlying S=some (.int k1)) (hT:P.underlying T=some (.int k2))
  (hx:Zr P σ x = .val (.int k n)):JA P o σ (.val (.int k2 (k2.wrap n))) [] []:=by
 refine Jo rfl fun ac w h=>?_
 rw [ho] at h
 simp only [Op.operands] at h
 have h1:=h x (by simp) _ hx
 simp [execOp,ho,h1,convert,run_underlying hS,run_underlying hT,Conv.intToInt]
theorem ZbK {P:Program} {o:Oper} {σ:Nat→AV} {cl:Call} {mn:Bool} {x y:Operand} {k:IntKind} {a b:Int} (ho:o.op = .call cl) (hcl:cl.callee = .builtin (if mn=true then .min else .max))
  (hargs:cl.args.toList = [x,y]) (hx:Zr P σ x = .val (.int k a)) (hy:Zr P σ y = .val (.int k b)) :
  JA P o σ (.val (.int k (iop (if mn=true then .min else .max) k a b))) [] []:=by
 refine Jo rfl fun ac w h=>?_
 have hargs':cl.args = #[x,y]:=by
  apply Array.toList_inj.1
  rw [hargs]
 rw [ho] at h
 simp only [Op.operands,Call.operands,hargs',hcl] at h
 have h1:=h x (by simp) _ hx
 have h2:=h y (by simp) _ hy
 cases mn
 ·simp [execOp,ho,hcl,resolve,hargs',h1,h2,invoke,builtin,Builtin.max_,Builtin.max2,iop]
  omega
 ·simp [execOp,ho,hcl,resolve,hargs',h1,h2,invoke,builtin,Builtin.min_,Builtin.min2,iop]
  omega
end Go.AM
end

section
namespace Go.AM
def Yq (P:Program):AV→AV
 | .own _ e xs => .slice false (P.cellsOf e) xs
 | .gone => .slice true 0 []
 | x => x
def WZ (x:AV):Prop:=x.isCell=true∨(∃ b e xs,x = .own b e xs)∨x = .gone
theorem JC (b o n:Nat):(⟨b,o,none⟩:Addr).add n=⟨b,o+n,none⟩:=by
 unfold Addr.add
 split
 ·rename_i h;subst h;rfl
 ·rfl
theorem WW {P:Program} {T:TypeId} {d:TypeDesc} (h:P.underlying T=some d):∃ i,P.info? T=some i:=by
 unfold Program.underlying at h
 split at h
 ·rename_i hi;exact ⟨_,hi⟩
 ·rename_i i hi;exact ⟨_,hi⟩
 ·cases h
theorem ZG {P:Program} {T:TypeId} {i:TypeInfo} (h:P.info? T=some i):P.cellsOf T=i.size:=by simp [Program.cellsOf,h]
theorem Zx {P:Program} {T:TypeId} {i:TypeInfo} (h:P.info? T=some i) (w:World):(sizeOf T).run P w = .ok (P.cellsOf T) w:=by
 simp [sizeOf,typeInfo,h,ZG h]
theorem ZH {P:Program} {T:TypeId} (h:P.cellsOf T≠0):∃ i,P.info? T=some i:=by
 cases hi:P.info? T with
 | none => simp [Program.cellsOf, hi] at h
 | some i => exact ⟨i, rfl⟩
theorem VF {P:Program} {T:TypeId} (h:Z0 P T=some true) (w:World):(isAgg T).run P w = .ok true w:=by
 unfold Z0 at h
 split at h<;>simp at h
 ·rename_i hu;simp [isAgg,run_underlying hu]
 ·rename_i hu;simp [isAgg,run_underlying hu]
theorem KZ {P:Program} {T:TypeId} (h:Z0 P T=some false) (w:World):(isAgg T).run P w = .ok false w:=by
 unfold Z0 at h
 split at h<;>simp at h
 rename_i d h1 h2 hu
 simp only [isAgg,Sem.run_bind,run_underlying hu,Result.andThen_ok]
 rfl
theorem Zab {P:Program} {T:TypeId} {b:Bool} (h:Z0 P T=some b):∃ i,P.info? T=some i:=by
 unfold Z0 at h
 split at h<;>simp at h<;>(rename_i hu;exact WW hu)
theorem JW.strip {P:Program} {w:World} {lim:Nat→Nat} {ob:Option Nat} {x:AV} {v:Value} (h:JW P w lim ob x v) (hx:WZ x) (hn:∀ e xs,x≠.own true e xs) (hg:x≠.gone) :
  (Yq P x).isCell=true∧Rep w lim (Yq P x) v:=by
 rcases hx with hx | ⟨b,e,xs,rfl⟩ | rfl
 ·cases x<;>simp [AV.isCell] at hx<;>exact ⟨rfl,h⟩
 ·cases b with
  | true => exact (hn e xs rfl).elim
  | false => exact ⟨rfl, ZQ.rep h false rfl⟩
 ·exact (hg rfl).elim
theorem Zs {w:World} {b o:Nat} {arr:Array Value} {t:TypeId} {fr:Nat×Nat} (h:w.heap[b]? = some (.cells arr t fr)):w.cell? ⟨b,o,none⟩=arr[o]?:=by
 simp [World.cell?,h]
theorem ZI.part {P:Program} {w:World} {lim:Nat→Nat} {X:Nat→Option Nat} {cs:List AV} {v:Value} (h:ZI P w lim X cs v) (off n:Nat) (hn:off+n≤cs.length) (hnr:ZaF ((cs.drop off).take n)) (hwh:Whole ((cs.drop off).take n)) :
  ∃ (b:Nat) (us:List Value),X 0=some b∧v = .pointer (some ⟨b,0,none⟩)∧us.length=n∧(∀ (j:Nat) (u:Value),us[j]? = some u→w.cell? ⟨b,off+j,none⟩=some u)∧
   (∀ c∈((cs.drop off).take n).map (Yq P),c.isCell=true)∧
   ∀ (i:Nat) (c:AV) (u:Value),(((cs.drop off).take n).map (Yq P))[i]? = some c→us[i]? = some u→Rep w lim c u:=by
 obtain ⟨b,arr,t,h1,h2,h3,h4,h5,h6,h7⟩:=h
 refine ⟨b,(arr.toList.drop off).take n,h1,h2,by simp [h4];omega,fun j u hj=>?_,fun c hc=>?_,fun i c u hc hu=>?_⟩
 ·rw [Zs h3]
  rw [List.getElem?_take] at hj
  split at hj
  ·simpa using hj
  ·cases hj
 ·obtain ⟨x,hx,rfl⟩:=List.mem_map.1 hc
  have hx':x∈cs:=List.mem_of_mem_drop (List.mem_of_mem_take hx)
  rcases h6 x hx' with h | ⟨b,e,xs,rfl⟩ | rfl
  ·cases x<;>simp [AV.isCell] at h<;>rfl
  ·rfl
  ·exact (hwh _ hx rfl).elim
 ·rw [List.getElem?_map,List.getElem?_take] at hc
  rw [List.getElem?_take] at hu
  split at hc
  ·rename_i hlt
   rw [if_pos hlt] at hu
   simp only [List.getElem?_drop] at hc hu
   cases hx:cs[off+i]? with
   | none => simp [hx] at hc
   | some x =>
    simp [hx] at hc
    subst hc
    have hmem:x∈cs:=List.mem_of_getElem? hx
    exact ((h7 (off+i) x u hx (by simpa using hu)).strip (h6 x hmem) (hnr x (List.mem_of_getElem? (i:=i) (by rw [List.getElem?_take,if_pos hlt,List.getElem?_drop];exact hx))) (hwh x (List.mem_of_getElem? (i:=i) (by rw [List.getElem?_take,if_pos hlt,List.getElem?_drop];exact hx)))).2
  ·simp at hc
theorem Ko {c:Ctx} {σ:Nat→AV} {tm:Array Value} {w:World} {lim:Nat→Nat} {X:Nat→Nat→Option Nat} (h:Sim c σ tm w lim X) {d off k:Nat} {cs:List AV} {v:Value}
  (hd:σ d = .box cs) (hv:ZP c.P w lim X σ k (.ptr d off) v):∃ b,X d 0=some b∧v = .pointer (some ⟨b,off,none⟩)∧ZI c.P w lim (X d) cs (.pointer (some ⟨b,0,none⟩)):=by
 obtain ⟨b,cs',h1,h2,h3⟩:=hv
 have hr:=h.rel d
 rw [hd] at hr
 have hr':ZI c.P w lim (X d) cs (tm.getD d undef):=hr
 have hrp:=hr'
 obtain ⟨b',arr,t,g1,g2,_⟩:=hrp
 have:b'=b:=by rw [g1] at h1;exact Option.some.inj h1
 subst this
 refine ⟨b',h1,h3,?_⟩
 rw [g2] at hr'
 exact hr'
theorem J7 {P:Program} {T:TypeId} {w:World} {b off:Nat} {us:List Value} (hT:Z0 P T=some true) (hn:us.length=P.cellsOf T)
  (hc:∀ (j:Nat) (u:Value),us[j]? = some u→w.cell? ⟨b,off+j,none⟩=some u):(Instr.loadAt T (.pointer (some ⟨b,off,none⟩))).run P w = .ok (.agg us.toArray) w:=by
 obtain ⟨i,hi⟩:=Zab hT
 have hl:=run_loadCells_list (P:=P) w ⟨b,off,none⟩ us (fun j v hj=>by rw [JC];exact hc j v hj)
 rw [hn] at hl
 simp [Instr.loadAt,Instr.sureAddr,loadVar,VF hT,Zx hi,hl]
theorem Jy {P:Program} {T:TypeId} {w:World} {b off:Nat} {u:Value} (hT:Z0 P T=some false)
  (hc:w.cell? ⟨b,off,none⟩=some u):(Instr.loadAt T (.pointer (some ⟨b,off,none⟩))).run P w = .ok u w:=by
 simp [Instr.loadAt,Instr.sureAddr,loadVar,KZ hT,hc]
theorem Kv {P:Program} {w:World} {lim:Nat→Nat} {X:Nat→Nat→Option Nat} {σ:Nat→AV} {k:Nat} {x:AV} {v:Value} (hx:x.isCell=true) (h:Rep w lim x v) :
  x.plain=true∧ZP P w lim X σ k x v:=by
 cases x<;>simp [AV.isCell] at hx<;>exact ⟨rfl,h⟩
theorem WT {P:Program} {o:Oper} {σ:Nat→AV} {T:TypeId} {a:Operand} {d off:Nat} {cs:List AV} (ho:o.op = .load T a) (hT:Z0 P T=some true)
  (ha:Zr P σ a = .ptr d off) (hd:σ d = .box cs) (hn:off+P.cellsOf T≤cs.length) (hnr:ZaF ((cs.drop off).take (P.cellsOf T))) (hwh:Whole ((cs.drop off).take (P.cellsOf T))):JA P o σ (.agg (((cs.drop off).take (P.cellsOf T)).map (Yq P))) [] [d]:=by
 refine ZE [d] rfl fun c hc σ' tm w lim X hg hfp hsim=>?_
 rw [ho] at hg
 have hv:=J0 hc hsim ha (hg a (by simp [Op.operands]))
 have hd':σ' d = .box cs:=by rw [hfp d (by simp),hd]
 rw [← hc] at hv
 obtain ⟨b,h1,h2,h3⟩:=Ko hsim hd' hv
 obtain ⟨b',us,g1,g2,g3,g4,g5,g6⟩:=h3.part off (P.cellsOf T) hn hnr hwh
 have:b'=b:=by rw [g1] at h1;exact Option.some.inj h1
 subst this
 refine ⟨.agg us.toArray,?_,?_⟩
 ·simp [execOp,ho,h2,J7 hT g3 g4]
 ·rw [hc] at g5 g6
  exact .agg (by simp [g3];omega) g5 g6
theorem YH {P:Program} {o:Oper} {σ:Nat→AV} {T:TypeId} {a:Operand} {d off:Nat} {cs:List AV} {x:AV} (ho:o.op = .load T a) (hT:Z0 P T=some false)
  (ha:Zr P σ a = .ptr d off) (hd:σ d = .box cs) (hx:cs[off]? = some x) (hnr:∀ e xs,x≠.own true e xs) (hwh:x≠.gone):JA P o σ (Yq P x) [] [d]:=by
 intro c hc σ' tm w lim X hid hag hsim next Q hn
 have hg:Zr P σ' a=Zr P σ a:=ZA fun t ht=>hid t (by simp [Zt (o:=o) (x:=a) (by rw [ho];simp [Op.operands]) ht])
 have hv:=J0 hc hsim ha hg
 have hd':σ' d = .box cs:=by rw [hag d (by simp),hd]
 rw [← hc] at hv
 obtain ⟨b,h1,h2,h3⟩:=Ko hsim hd' hv
 have hlt:off < cs.length:=(List.getElem?_eq_some_iff.1 hx).1
 have ht1:(cs.drop off).take 1 = [x]:=by
  rw [List.take_one,List.head?_drop,hx];rfl
 obtain ⟨b',us,g1,g2,g3,g4,g5,g6⟩:=h3.part off 1 (by omega) (by
  rw [ht1]
  intro y hy e xs he
  rw [List.mem_singleton.1 hy] at he
  exact hnr e xs he) (by
  rw [ht1]
  intro y hy
  rw [List.mem_singleton.1 hy]
  exact hwh)
 have:b'=b:=by rw [g1] at h1;exact Option.some.inj h1
 subst this
 obtain ⟨u,rfl⟩:∃ u,us = [u]:=List.length_eq_one_iff.1 g3
 have hcell:=g4 0 u rfl
 rw [Nat.add_zero] at hcell
 have hl:((cs.drop off).take 1).map (Yq c.P) = [Yq c.P x]:=by
  rw [ht1];rfl
 rw [hl] at g5 g6
 have hx1:=g5 (Yq c.P x) (by simp)
 have hx2:=g6 0 (Yq c.P x) u rfl rfl
 rw [hc] at hx1 hx2
 obtain ⟨p1,p2⟩:=Kv (P:=P) (X:=X) (σ:=σ') (k:=0) hx1 hx2
 refine Zq (v:=u) ?_ (hn u w (Zy hsim p1 (k:=0) (by rw [hc];exact p2)))
 simp [execOp,ho,h2,Jy hT hcell]
theorem Ze5 {T:Odr} {σ σ':Nat→AV} {d j:Nat} {cs:List AV} {x:AV} (hT:T.rel σ σ') (hd:σ d = .box cs) (hk:T.kp d j=true) (hx:cs[j]? = some x):∃ cs2 y,σ' d = .box cs2∧cs2[j]? = some y∧JU y=JU x:=by
 cases T with
 | text => cases hk
 | any N M K =>
  have h:=hT.2 d j hk
  rw [hd] at h
  have h':Ji (σ' d) j=some (JU x):=h.trans (by show (cs[j]?).map JU=_;rw [hx];rfl)
  unfold Ji at h'
  split at h'
  ·rename_i cs2 he
   cases hy:cs2[j]? with
   | none => rw [hy] at h'; cases h'
   | some y =>
    rw [hy] at h'
    exact ⟨cs2,y,he,hy,Option.some.inj h'⟩
  ·cases h'
theorem ZhG {T:Odr} {σ σ':Nat→AV} {d j:Nat} {cs:List AV} {x:AV} (hT:T.rel σ σ') (hd:σ d = .box cs) (hk:T.kp d j=true) (hx:cs[j]? = some x) (hno:∀ e xs,x≠.own true e xs):∃ cs2,σ' d = .box cs2∧cs2[j]? = some x:=by
 obtain ⟨cs2,y,h1,h2,h3⟩:=Ze5 hT hd hk hx
 rw [Zis hno h3] at h2
 exact ⟨cs2,h1,h2⟩
theorem Zch {T':Odr} {P:Program} {o:Oper} {σ:Nat→AV} {x:AV} {d:Nat} {cs:List AV} (hd:σ d = .box cs)
  (h:∀ σ',T'.rel σ σ'→∃ cs2,σ' d = .box cs2∧∀ σ2,(∀ i,i≠d→σ2 i=σ i)→σ2 d = .box cs2→JA P o σ2 x [] [d]):YY T' P o σ x [] []:=by
 intro c hc σ' tm w lim X hid hag hrel hsim next Q hn
 obtain ⟨cs2,h1,h2⟩:=h σ' hrel
 refine h2 (fun i=>if i=d then σ' d else σ i) (fun i hi=>if_neg hi) (by simp [h1]) c hc σ' tm w lim X (fun t ht=>?_) (fun t ht=>?_) hsim next Q hn
 ·by_cases htd:t=d
  ·subst htd;simp only [if_true];exact .inl rfl
  ·simp only [if_neg htd];exact hid t ht
 ·have htd:t=d:=by simpa using ht
  subst htd;simp
theorem Zby {P:Program} {σ σ2:Nat→AV} {d:Nat} {cs cs2:List AV} (hd:σ d = .box cs) (h1:∀ i,i≠d→σ2 i=σ i) (h2:σ2 d = .box cs2) (a:Operand):Zr P σ2 a=Zr P σ a:=
 ZA fun t _=>by
  by_cases htd:t=d
  ·subst htd;exact .inr ⟨⟨cs,hd⟩,⟨cs2,h2⟩⟩
  ·exact .inl (h1 t htd)
theorem WR {T':Odr} {P:Program} {o:Oper} {σ:Nat→AV} {T:TypeId} {a:Operand} {d off:Nat} {cs:List AV} (ho:o.op = .load T a) (hT:Z0 P T=some true)
  (ha:Zr P σ a = .ptr d off) (hd:σ d = .box cs) (hn:off+P.cellsOf T≤cs.length) (hnr:ZaF ((cs.drop off).take (P.cellsOf T))) (hwh:Whole ((cs.drop off).take (P.cellsOf T))) (h0:P.cellsOf T≠0) (hk:∀ j,j < P.cellsOf T→T'.kp d (off+j)=true) :
  YY T' P o σ (.agg (((cs.drop off).take (P.cellsOf T)).map (Yq P))) [] []:=by
 refine Zch hd fun σ' hrel=>?_
 have hat:∀ j,j < P.cellsOf T→∃ cs2,σ' d = .box cs2∧cs2[off+j]? = cs[off+j]?:=fun j hj=>by
  obtain ⟨cs2,h1,h2⟩:=ZhG hrel hd (hk j hj) (List.getElem?_eq_getElem (show off+j < cs.length by omega)) (hnr _ (List.mem_of_getElem? (i:=j) (by rw [List.getElem?_take,if_pos hj,List.getElem?_drop];exact List.getElem?_eq_getElem (show off+j < cs.length by omega))))
  exact ⟨cs2,h1,h2.trans (List.getElem?_eq_getElem (by omega)).symm⟩
 obtain ⟨cs2,h1,_⟩:=hat 0 (by omega)
 have hat2:∀ j,j < P.cellsOf T→cs2[off+j]? = cs[off+j]?:=fun j hj=>by
  obtain ⟨cs3,h3,h4⟩:=hat j hj
  rw [h1] at h3
  cases h3
  exact h4
 have hlen:off+P.cellsOf T≤cs2.length:=by
  have:=hat2 (P.cellsOf T-1) (by omega)
  rw [List.getElem?_eq_getElem (show off+(P.cellsOf T-1) < cs.length by omega)] at this
  have:=(List.getElem?_eq_some_iff.1 this).1
  omega
 have he:(cs2.drop off).take (P.cellsOf T)=(cs.drop off).take (P.cellsOf T):=by
  apply List.ext_getElem?
  intro j
  rw [List.getElem?_take,List.getElem?_take]
  split
  ·rename_i hj;rw [List.getElem?_drop,List.getElem?_drop];exact hat2 j hj
  ·rfl
 refine ⟨cs2,h1,fun σ2 g1 g2=>?_⟩
 rw [← he] at hnr hwh ⊢
 exact WT ho hT ((Zby hd g1 g2 a).trans ha) g2 hlen hnr hwh
theorem V1 {T':Odr} {P:Program} {o:Oper} {σ:Nat→AV} {T:TypeId} {a:Operand} {d off:Nat} {cs:List AV} {x:AV} (ho:o.op = .load T a) (hT:Z0 P T=some false)
  (ha:Zr P σ a = .ptr d off) (hd:σ d = .box cs) (hx:cs[off]? = some x) (hnr:∀ e xs,x≠.own true e xs) (hwh:x≠.gone) (hk:T'.kp d off=true):YY T' P o σ (Yq P x) [] []:=by
 refine Zch hd fun σ' hrel=>?_
 obtain ⟨cs2,h1,h2⟩:=ZhG hrel hd hk hx hnr
 exact ⟨cs2,h1,fun σ2 g1 g2=>YH ho hT ((Zby hd g1 g2 a).trans ha) g2 h2 hnr hwh⟩
theorem Zad {P:Program} {w:World} {lim:Nat→Nat} {X:Nat→Nat→Option Nat} {σ:Nat→AV} {k:Nat} {cs:List AV} {v:Value} (h:ZP P w lim X σ k (.eptr cs) v) :
  ∃ (b o:Nat) (us:List Value),v = .pointer (some ⟨b,o,none⟩)∧us.length=cs.length∧(us≠[]→o+us.length≤lim b)∧
   (∀ (j:Nat) (u:Value),us[j]? = some u→w.cell? ⟨b,o+j,none⟩=some u)∧(∀ c∈cs,c.isCell=true)∧
   ∀ (j:Nat) (c:AV) (u:Value),cs[j]? = some c→us[j]? = some u→Rep w lim c u:=h
theorem ZcH {P:Program} {o:Oper} {σ:Nat→AV} {T:TypeId} {a:Operand} {cs:List AV} (ho:o.op = .load T a) (hT:Z0 P T=some true)
  (ha:Zr P σ a = .eptr cs) (hn:P.cellsOf T≤cs.length):JA P o σ (.agg (cs.take (P.cellsOf T))) [] []:=by
 refine ZE [] rfl fun c hc σ' tm w lim X hg hfp hsim=>?_
 rw [ho] at hg
 obtain ⟨b,off,us,h1,h2,h3,h4,h5,h6⟩:=Zad (J0 hc hsim ha (hg a (by simp [Op.operands])))
 refine ⟨.agg (us.take (P.cellsOf T)).toArray,?_,?_⟩
 ·have:=J7 (w:=w) (b:=b) (off:=off) (us:=us.take (P.cellsOf T)) hT (by simp [h2];omega) (fun j u hj=>h4 j u (by
   rw [List.getElem?_take] at hj;split at hj
   ·exact hj
   ·cases hj))
  simp [execOp,ho,h1,this]
 ·refine .agg (by simp [h2]) (fun x hx=>h5 x (List.mem_of_mem_take hx)) fun i x u hx hu=>?_
  rw [List.getElem?_take] at hx hu
  split at hx
  ·rename_i hlt
   rw [if_pos hlt] at hu
   exact h6 i x u hx hu
  ·cases hx
theorem Zbm {P:Program} {o:Oper} {σ:Nat→AV} {T:TypeId} {a:Operand} {x:AV} {cs:List AV} (ho:o.op = .load T a) (hT:Z0 P T=some false)
  (ha:Zr P σ a = .eptr (x::cs)):JA P o σ x [] []:=by
 intro c hc σ' tm w lim X hid hag hsim next Q hn
 have hg:Zr P σ' a=Zr P σ a:=ZA fun t ht=>hid t (by simp [Zt (o:=o) (x:=a) (by rw [ho];simp [Op.operands]) ht])
 obtain ⟨b,off,us,h1,h2,h3,h4,h5,h6⟩:=Zad (J0 hc hsim ha hg)
 obtain ⟨u,us',rfl⟩:∃ u us',us=u::us':=by
  cases us with
  | nil => simp at h2
  | cons u us' => exact ⟨u, us', rfl⟩
 have hcell:=h4 0 u rfl
 rw [Nat.add_zero] at hcell
 obtain ⟨p1,p2⟩:=Kv (P:=P) (X:=X) (σ:=σ') (k:=0) (h5 x (by simp)) (h6 0 x u rfl rfl)
 refine Zq (v:=u) ?_ (hn u w (Zy hsim p1 (k:=0) (by rw [hc];exact p2)))
 simp [execOp,ho,h1,Jy hT hcell]
theorem WA {P:Program} {T:TypeId} {f off:Nat} (h:Yn P T f=some off) :
  ∃ fs fd,P.underlying T=some (.struct fs)∧fs[f]? = some fd∧fd.offset=off∧P.cellsOf fd.type≠0:=by
 unfold Yn at h
 split at h
 ·rename_i fs hu
  split at h
  ·rename_i fd hf
   split at h
   ·cases h
   ·rename_i hz
    exact ⟨fs,fd,hu,hf,by simpa using h,hz⟩
  ·cases h
 ·cases h
theorem Wf {P:Program} {T:TypeId} {f off b o:Nat} (h:Yn P T f=some off) (w:World) :
  (Instr.fieldAt T (.pointer (some ⟨b,o,none⟩)) f).run P w = .ok (.pointer (some ⟨b,o+off,none⟩)) w:=by
 obtain ⟨fs,fd,h1,h2,h3,h4⟩:=WA h
 obtain ⟨i,hi⟩:=ZH h4
 simp [Instr.fieldAt,run_underlying h1,h2,Instr.sureAddr,fieldPlace,Zx hi,h4,JC,h3]
theorem ZcC {P:Program} {o:Oper} {σ:Nat→AV} {T:TypeId} {x:Operand} {f off d p:Nat} (ho:o.op = .fieldAddr T x f) (hf:Yn P T f=some off)
  (hx:Zr P σ x = .ptr d p):JA P o σ (.ptr d (p+off)) [] []:=by
 refine ZE [] rfl fun c hc σ' tm w lim X hg hfp hsim=>?_
 rw [ho] at hg
 obtain ⟨b,cs,h1,h2,h3⟩:=J0 hc hsim hx (hg x (by simp [Op.operands]))
 exact ⟨.pointer (some ⟨b,p+off,none⟩),by simp [execOp,ho,h3,Wf hf],b,cs,h1,h2,rfl⟩
theorem Zb9 {P:Program} {o:Oper} {σ:Nat→AV} {T e:TypeId} {x:Operand} {f off d k p:Nat} {xs:List (List AV)} (ho:o.op = .fieldAddr T x f) (hf:Yn P T f=some off)
  (hx:Zr P σ x = .eref d k p) (hd:Zo (σ d) k=some (e,xs)) (hm:Zm P e=false∨Zg P e=true):JA P o σ (.eref d k (p+off)) [] [d]:=by
 refine ZE [d] rfl fun c hc σ' tm w lim X hg hfp hsim=>?_
 rw [ho] at hg
 obtain ⟨b,e',xs',h1,h2,h3⟩:=J0 hc hsim hx (hg x (by simp [Op.operands]))
 have hd':Zo (σ' d) k=some (e,xs):=by rw [hfp d (by simp),hd]
 have he:=h1.symm.trans hd'
 simp only [Option.some.injEq,Prod.mk.injEq] at he
 obtain ⟨rfl,rfl⟩:=he
 exact ⟨.pointer (some ⟨b,p+off,none⟩),by simp [execOp,ho,h3.ptr hm,Wf hf],b,_,_,h1,h2,.inl ⟨hm,rfl⟩⟩
theorem Zbv {P:Program} {o:Oper} {σ:Nat→AV} {T:TypeId} {x:Operand} {f off:Nat} {cs:List AV} (ho:o.op = .fieldAddr T x f) (hf:Yn P T f=some off)
  (hx:Zr P σ x = .eptr cs):JA P o σ (.eptr (cs.drop off)) [] []:=by
 refine ZE [] rfl fun c hc σ' tm w lim X hg hfp hsim=>?_
 rw [ho] at hg
 obtain ⟨b,p,us,h1,h2,h3,h4,h5,h6⟩:=Zad (J0 hc hsim hx (hg x (by simp [Op.operands])))
 refine ⟨.pointer (some ⟨b,p+off,none⟩),by simp [execOp,ho,h1,Wf hf],b,p+off,us.drop off,rfl,by simp [h2],fun hne=>?_,fun j u hj=>?_,fun y hy=>h5 y (List.mem_of_mem_drop hy),fun j y u hy hu=>?_⟩
 ·have hl:off < us.length:=by
   rcases Nat.lt_or_ge off us.length with h | h
   ·exact h
   ·exact (hne (List.drop_eq_nil_of_le h)).elim
  have:=h3 (by intro e;subst e;simp at hl)
  simp only [List.length_drop]
  omega
 ·rw [List.getElem?_drop] at hj
  have:=h4 _ u hj
  rwa [← Nat.add_assoc] at this
 ·rw [List.getElem?_drop] at hy hu
  exact h6 _ y u hy hu
theorem KY {P:Program} {o:Oper} {σ:Nat→AV} {x:Operand} {y:AV} (ho:o.op = .nilCheck x) (hx:Zr P σ x=y) {fp:List Nat} (hy:(∃ d p,y = .ptr d p)∨(∃ cs,y = .eptr cs)∨∃ d k p e xs,y = .eref d k p∧Zo (σ d) k=some (e,xs)∧(Zm P e=false∨Zg P e=true)∧d∈fp):JA P o σ y [] fp:=by
 have hp:y.plain=true:=by rcases hy with ⟨d,p,rfl⟩ | ⟨cs,rfl⟩ | ⟨d,k,p,e,xs,rfl,_⟩ <;> rfl
 refine ZE fp hp fun c hc σ' tm w lim X hg hfp hsim=>?_
 rw [ho] at hg
 have hv:=J0 hc hsim hx (hg x (by simp [Op.operands]))
 refine ⟨Act.eval ⟨tm,[]⟩ x,?_,hv⟩
 have:∃ a,Act.eval ⟨tm,[]⟩ x = .pointer (some a):=by
  rcases hy with ⟨d,p,rfl⟩ | ⟨cs,rfl⟩ | ⟨d,k,p,e,xs,rfl,hd,hm,hfd⟩
  ·obtain ⟨b,cs,h1,h2,h3⟩:=hv;exact ⟨_,h3⟩
  ·obtain ⟨b,p,us,h1,_⟩:=hv;exact ⟨_,h1⟩
  ·obtain ⟨b,e',xs',h1,h2,h3⟩:=hv
   rw [hfp d (by simp [hfd]),hd] at h1
   simp only [Option.some.injEq,Prod.mk.injEq] at h1
   obtain ⟨rfl,rfl⟩:=h1
   exact ⟨_,h3.ptr hm⟩
 obtain ⟨a,ha⟩:=this
 simp [execOp,ho,ha]
theorem Zcw {P:Program} {o:Oper} {σ:Nat→AV} {cl:Call} {x:Operand} {T e:TypeId} {f:Bool} {s:Nat} {xs:List (List AV)} (ho:o.op = .call cl) (hcl:cl.callee = .builtin .len)
  (hargs:cl.args.toList = [x]) (hts:cl.argTypes.toList = [T]) (hT:P.underlying T=some (.slice e)) (hx:Zr P σ x = .slice f s xs):JA P o σ (.val (.int .i64 xs.length)) [] []:=by
 have hargs':cl.args = #[x]:=by apply Array.toList_inj.1;rw [hargs]
 have hts':cl.argTypes = #[T]:=by apply Array.toList_inj.1;rw [hts]
 refine ZE [] rfl fun c hc σ' tm w lim X hg hfp hsim=>⟨.int .i64 xs.length,?_,.val rfl⟩
 rw [ho] at hg
 have hv:=J0 hc hsim hx (hg x (by simp [Op.operands,Call.operands,hargs',hcl]))
 have:∃ a cap,Act.eval ⟨tm,[]⟩ x = .slice a xs.length cap:=by
  have hv':Rep w lim (.slice f s xs) (Act.eval ⟨tm,[]⟩ x):=hv
  generalize Act.eval ⟨tm,[]⟩ x=u at hv'
  cases hv' with
  | sliceN => exact ⟨none, 0, rfl⟩
  | sliceE _ => exact ⟨_, _, rfl⟩
  | sliceC => exact ⟨_, _, rfl⟩
 obtain ⟨a,cap,ha⟩:=this
 simp [execOp,ho,hcl,resolve,hargs',hts',invoke,builtin,Builtin.len_,run_underlying hT,ha,goInt]
theorem ZfJ {P:Program} {o:Oper} {σ:Nat→AV} {cl:Call} {x:Operand} {T:TypeId} {s:ByteArray} (ho:o.op = .call cl) (hcl:cl.callee = .builtin .len)
  (hargs:cl.args.toList = [x]) (hts:cl.argTypes.toList = [T]) (hT:P.underlying T=some .string) (hx:Zr P σ x = .val (.string s)):JA P o σ (.val (.int .i64 s.size)) [] []:=by
 have hargs':cl.args = #[x]:=by apply Array.toList_inj.1;rw [hargs]
 have hts':cl.argTypes = #[T]:=by apply Array.toList_inj.1;rw [hts]
 refine ZE [] rfl fun c hc σ' tm w lim X hg hfp hsim=>⟨.int .i64 s.size,?_,.val rfl⟩
 rw [ho] at hg
 have hv:=Z1 hc hsim hx (hg x (by simp [Op.operands,Call.operands,hargs',hcl]))
 simp [execOp,ho,hcl,resolve,hargs',hts',invoke,builtin,Builtin.len_,run_underlying hT,hv,goInt]
theorem JE (xs:List (List AV)) (s:Nat) (hs:∀ x∈xs,x.length=s):∀ (n:Nat) (e:List AV),xs[n]? = some e→∀ j,j < s→xs.flatten[n*s+j]? = e[j]?:=by
 induction xs with
 | nil => intro n e h; simp at h
 | cons x xs ih =>
  intro n e h j hj
  have hx:x.length=s:=hs x (by simp)
  cases n with
  | zero =>
   simp at h
   subst h
   simp only [List.flatten_cons,Nat.zero_mul,Nat.zero_add]
   rw [List.getElem?_append_left (by omega)]
  | succ n =>
   simp only [List.flatten_cons]
   rw [List.getElem?_append_right (by rw [hx,Nat.add_mul];omega)]
   have:(n+1)*s+j-x.length=n*s+j:=by rw [hx,Nat.add_mul];omega
   rw [this]
   exact ih (fun y hy=>hs y (by simp [hy])) n e (by simpa using h) j hj
theorem ZeD {P:Program} {T:TypeId} {f off sz:Nat} {agg:Bool} (h:Yn P T f=some off) (hs:ZdS P T f=some (agg,sz)) :
  ∃ fs fd,P.underlying T=some (.struct fs)∧fs[f]? = some fd∧fd.offset=off∧Z0 P fd.type=some agg∧P.cellsOf fd.type=sz:=by
 obtain ⟨fs,fd,h1,h2,h3,h4⟩:=WA h
 unfold ZdS at hs
 simp only [h1,h2] at hs
 cases ha:Z0 P fd.type with
 | none => rw [ha] at hs; simp at hs
 | some a =>
  rw [ha] at hs
  simp only [Option.map_some,Option.some.injEq,Prod.mk.injEq] at hs
  exact ⟨fs,fd,h1,h2,h3,by rw [ha,hs.1],hs.2⟩
theorem Za9 {P:Program} {o:Oper} {σ:Nat→AV} {T:TypeId} {x:Operand} {f off sz:Nat} {agg:Bool} {cs:List AV} {y:AV} (ho:o.op = .field T x f) (hf:Yn P T f=some off) (hs:ZdS P T f=some (agg,sz))
  (hx:Zr P σ x = .agg cs) (hl:off+sz≤cs.length) (hsz:0 < sz) (hy:(agg=true∧y = .agg ((cs.drop off).take sz))∨(agg=false∧cs[off]? = some y∧y.plain=true)):JA P o σ y [] []:=by
 obtain ⟨fs,fd,h1,h2,h3,h4,h5⟩:=ZeD hf hs
 have hp:y.plain=true:=by
  rcases hy with ⟨_,rfl⟩ | ⟨_,_,h⟩
  ·rfl
  ·exact h
 refine ZE [] hp fun c hc σ' tm w lim X hg hfp hsim=>?_
 rw [ho] at hg
 have hv:Rep w lim (.agg cs) (Act.eval ⟨tm,[]⟩ x):=J0 hc hsim hx (hg x (by simp [Op.operands]))
 generalize hu:Act.eval ⟨tm,[]⟩ x=u at hv
 cases hv with
 | @agg _ vs hl' hcell hr =>
  obtain ⟨inf,hinf⟩:=ZH (show P.cellsOf fd.type≠0 by omega)
  rcases hy with ⟨rfl,rfl⟩ | ⟨rfl,hy,_⟩
  ·refine ⟨.agg (vs.toArray.extract off (off+sz)),by simp [execOp,ho,hu,Instr.field,run_underlying h1,h2,part,VF h4,Zx hinf,h3,h5,asAgg],?_⟩
   have e:(vs.toArray.extract off (off+sz))=((vs.drop off).take sz).toArray:=by
    apply Array.toList_inj.1
    simp [List.take_drop]
   rw [e]
   refine Rep.agg (by simp;omega) (fun y hy=>hcell y (List.mem_of_mem_drop (List.mem_of_mem_take hy))) fun i c' v' hc' hv'=>?_
   rw [List.getElem?_take] at hc' hv'
   split at hc'
   ·rename_i hi
    rw [if_pos hi] at hv'
    rw [List.getElem?_drop] at hc' hv'
    exact hr _ _ _ hc' hv'
   ·cases hc'
  ·obtain ⟨v,hvv⟩:∃ v,vs[off]? = some v:=⟨_,List.getElem?_eq_getElem (by omega)⟩
   refine ⟨v,by simp [execOp,ho,hu,Instr.field,run_underlying h1,h2,part,KZ h4,h3,asAgg,hvv],?_⟩
   have h6:=hr off y v hy hvv
   have hc6:=hcell y (List.mem_of_getElem? hy)
   cases y<;>first | exact h6 | (simp [AV.isCell] at hc6)
theorem Kp {P:Program} {o:Oper} {σ:Nat→AV} {T el:TypeId} {x i:Operand} {m d p:Nat} {kd:IntKind} {z:Int} (ho:o.op = .indexAddr T x i) (hT:P.underlying T=some (.array m el)) (hs0:P.cellsOf el≠0)
  (hx:Zr P σ x = .ptr d p) (hi:Zr P σ i = .val (.int kd z)) (h0:0≤z) (h1:z < (m:Int)):JA P o σ (.ptr d (p+z.toNat*P.cellsOf el)) [] []:=by
 refine ZE [] rfl fun c hc σ' tm w lim X hg hfp hsim=>?_
 rw [ho] at hg
 obtain ⟨b,cs,g1,g2,g3⟩:=J0 hc hsim hx (hg x (by simp [Op.operands]))
 have hiv:=Z1 hc hsim hi (hg i (by simp [Op.operands]))
 obtain ⟨inf,hinf⟩:=ZH hs0
 have hb:0≤z∧z < (m:Int):=⟨h0,h1⟩
 exact ⟨.pointer (some ⟨b,p+z.toNat*P.cellsOf el,none⟩),by simp [execOp,ho,g3,hiv,Instr.indexAt,Instr.sureAddr,asIntOf,run_underlying hT,hb,Zx hinf,JC],b,cs,g1,g2,rfl⟩
theorem ZiE {P:Program} {o:Oper} {σ:Nat→AV} {T el:TypeId} {x i:Operand} {f:Bool} {s:Nat} {xs:List (List AV)} {k:IntKind} {n:Int} {e:List AV} (ho:o.op = .indexAddr T x i)
  (hT:P.underlying T=some (.slice el)) (hs:s=P.cellsOf el) (hs0:P.cellsOf el≠0) (hx:Zr P σ x = .slice f s xs) (hi:Zr P σ i = .val (.int k n)) (h0:0≤n) (he:xs[n.toNat]? = some e) :
  JA P o σ (.eptr e) [] []:=by
 refine ZE [] rfl fun c hc σ' tm w lim X hg hfp hsim=>?_
 rw [ho] at hg
 have hv:Rep w lim (.slice f s xs) (Act.eval ⟨tm,[]⟩ x):=J0 hc hsim hx (hg x (by simp [Op.operands]))
 have hiv:=Z1 hc hsim hi (hg i (by simp [Op.operands]))
 generalize hu:Act.eval ⟨tm,[]⟩ x=u at hv
 have hlt:n.toNat < xs.length:=(List.getElem?_eq_some_iff.1 he).1
 cases hv with
 | sliceN => simp at hlt
 | sliceE _ => simp at hlt
 | @sliceC _ _ _ b p cap us hls hc1 hf hle hlim hus hcell hrep =>
  subst hs
  obtain ⟨inf,hinf⟩:=ZH hs0
  have hel:e.length=P.cellsOf el:=hls e (List.mem_of_getElem? he)
  have hmul:n.toNat*P.cellsOf el+P.cellsOf el≤xs.length*P.cellsOf el:=by
   rw [← Nat.succ_mul];exact Nat.mul_le_mul_right _ hlt
  refine ⟨.pointer (some ⟨b,p+n.toNat*P.cellsOf el,none⟩),?_,b,p+n.toNat*P.cellsOf el,(us.drop (n.toNat*P.cellsOf el)).take (P.cellsOf el),rfl,?_,fun _=>?_,fun j w' hj=>?_,hc1 e (List.mem_of_getElem? he),fun j y w' hy hw'=>?_⟩
  ·have hb:0≤n∧n < (xs.length:Int):=⟨h0,by omega⟩
   simp [execOp,ho,hu,hiv,Instr.indexAt,asIntOf,run_underlying hT,hb,Zx hinf,JC]
  ·simp [hus,hel];omega
  ·have:=hlim (by intro h;rw [h] at hus;simp at hus;omega)
   simp only [List.length_take,List.length_drop,hus] at this ⊢
   omega
  ·rw [List.getElem?_take] at hj
   split at hj
   ·rw [List.getElem?_drop] at hj
    have:=hcell _ w' hj
    rwa [← Nat.add_assoc] at this
   ·cases hj
  ·rw [List.getElem?_take] at hw'
   split at hw'
   ·rename_i hjlt
    rw [List.getElem?_drop] at hw'
    exact hrep _ y w' (by rw [JE xs _ hls n.toNat e he j hjlt];exact hy) hw'
   ·cases hw'
end Go.AM
end
