/- T524a, T524c, T524d, T5L23a, T5L23b, T5L23c, T5L23d, T5J11a, T5J11b, T5L23f, T5L23g, T5L23h, T5L23i, T5L23j, T5C24a, T5C24c, T5C24d, T5Fa, T5Fb: texts of the proof, put together. -/
import Derived.Test.YthdihcchfjlgkaaGreatM5
import Derived.Test.YthdihcchfjlgkaaGreatF5d

section
namespace Go.Proofs.YthdihcchfjlgkaaGreat
open Go Go.AM
set_option linter.unusedSimpArgs false
set_option linter.unusedVariables false
set_option maxRecDepth 100000
theorem ZiE {α:Type} {F:Nat→LL→Int→Option LL} (l:List α) (f:α→LL) (hn:l.length < 2 ^ 63)
  (step:∀ (k i:Nat) (hi:i < l.length),F (k+1) ((l.take i).flatMap f) (i:Int)=F k ((l.take i).flatMap f++f l[i]) ((i+1:Nat):Int))
  (last:∀ (k:Nat) (acc:LL) (i:Nat),l.length≤i→F (k+1) acc (i:Int)=some acc):F Zw [] 0=some (l.flatMap f):=by
 have key:∀ (j i fuel:Nat),l.length≤i+j→j < fuel→F fuel ((l.take i).flatMap f) (i:Int)=some (l.flatMap f):=by
  intro j
  induction j with
  | zero =>
   intro i fuel h hf
   obtain ⟨q,rfl⟩:∃ q,fuel=q+1:=⟨fuel - 1,by omega⟩
   rw [last q _ i (by omega),List.take_of_length_le (by omega)]
  | succ j ih =>
   intro i fuel h hf
   obtain ⟨q,rfl⟩:∃ q,fuel=q+1:=⟨fuel - 1,by omega⟩
   by_cases hi:i < l.length
   ·have e:(l.take i).flatMap f++f l[i]=(l.take (i+1)).flatMap f:=by
     rw [List.take_add_one,List.getElem?_eq_getElem hi,Option.toList_some,List.flatMap_append,List.flatMap_singleton]
    rw [step q i hi,e]
    exact ih (i+1) q (by omega) (by omega)
   ·rw [last q _ i (by omega),List.take_of_length_le (by omega)]
 exact key l.length 0 Zw (by omega) (by have:=JA hn; omega)
theorem Wq {α:Type} (f:α→List AV) (l:List α):l.flatMap (fun x=>[f x])=l.map f:=by
 induction l with
 | nil => rfl
 | cons a r ih => rw [List.flatMap_cons, ih, List.map_cons]; rfl
theorem Zy {a b:LL} {k:Nat} (h:a.length+b.length≤4096) (hk:k≤10000):Jy a b k:=by
 unfold Jy JN
 have:(a.length+b.length) * (k+1)≤4096 * 10001:=Nat.mul_le_mul h (by omega)
 omega
theorem s56 (l:List Id) (h:l.length≤64):g56 (Zb l)=some (Zb l):=by
 rw [Zvz]
 exact Zn (Zy (by rw [Z1]; simp; omega) (by omega)) _
theorem s70 (l:List Id) (h:l.length≤64):g70 (Zb l)=some (Zb l):=by
 rw [Ztv]
 refine Ziw (fun hn=>?_) ?_
 ·rw [if_pos rfl,hn]
 ·rw [if_neg Bool.false_ne_true]
  exact Zn (Zy (by rw [Z1]; simp; omega) (by omega)) _
theorem s26 (n:Yr) (h:n.path.length≤64):g26 n.id.core n.id.op n.id.part (Zb n.path) n.cap.kind n.cap.base n.cap.bits n.cap.rights n.cap.width n.cap.level n.cap.device=some (Ze3 n):=by
 rw [ZuU,s56 _ h]; rfl
theorem s40 (n:Yr) (h:n.path.length≤64):g40 n.id.core n.id.op n.id.part (Zb n.path) n.cap.kind n.cap.base n.cap.bits n.cap.rights n.cap.width n.cap.level n.cap.device=some (Ze3 n):=by
 rw [ZtY,s70 _ h]; rfl
structure Few (p:List Req):Prop where
 len:p.length≤30
 path:∀ r∈p,r.src.path.length≤20
def Zn9 (v:ZdT):List AV:=[I v.number,.slice false 1 (Za v.members),.slice false 1 (Za v.owners)]
def Ziv (r:Yv):List AV:=[I r.core]++Zn9 r.view++ZjY r.state++[B r.ready]++Zn9 r.next++ZjY r.proposal
def Zlh (m:Msg):List AV:=[I m.kind,I m.view,I m.frm,I m.to,I m.round,I m.region,I m.slot,I m.op.core,I m.op.op,I m.op.part,I m.err,B m.settled]++Zt m.req++[.slice false 3 (Zb m.ids),.slice false 11 (m.nodes.map ZP),.slice false 1 (Za m.cores),.slice false 2 (m.moves.map Z4),I m.base]++Zn9 m.next++ZjY m.state++Ziv m.report
theorem Zg3 {γ:Type} {l:List Msg} {i:Nat} (h:i < l.length) (k:Qt2→Option γ):Zl (l.map Zlh) (i:Int) hs0 k=k (ZlB l[i]):=J9 (f:=Zlh) (sh:=hs0) (v:=ZlB) (fun _=>rfl) h k
theorem s33 (l:List Msg) (hl:l.length < 2 ^ 63) (hf:∀ m∈l,m.Fits):g33 (l.map Zlh) (l.map Zlh)=some true:=by
 rw [Zt3,if_neg (by simp [cop])]
 have:=ZO (F:=fun k i=>ZkT k (l.map Zlh) (l.map Zlh) i) (n:=l.length) (fin:=some true) (bad:=some false) (fun _=>true) hl 0 (by omega)
  (fun k i _ hi=>by
   show ZkT (k+1) _ _ _=_
   rw [ZjJ,List.length_map,if_pos (Z2 hi)]
   refine (Zg3 hi _).trans ?_
   refine (Zg3 hi _).trans ?_
   simp only [ZlB,d2,d4,d8,d16]
   have hm:=hf l[i] (List.getElem_mem hi)
   rw [s65 l[i] l[i] hm hm,Option.bind_some,Zkk,ZR hi hl]
   rfl)
  (fun k i hi=>by show ZkT (k+1) _ _ _=_; rw [ZjJ,List.length_map,if_neg (ZZ hi)])
 refine this.trans ?_
 rw [if_pos (by simp)]
structure VI (l:List Jh):Prop where
 len:l.length≤70
 path:∀ s∈l,s.node.path.length≤20
end Go.Proofs.YthdihcchfjlgkaaGreat
end

section
namespace Go.Proofs.YthdihcchfjlgkaaGreat
open Go Go.AM
set_option linter.unusedSimpArgs false
set_option linter.unusedVariables false
set_option maxRecDepth 100000
theorem K5 {α:Type} (f:α→List AV) (g:α→α) (l:List α) (i o:Nat) (c:List AV) (h:∀ x,l[i]? = some x→setCells (f x) o c=f (g x)):ZE (l.map f) i o c=(l.modify i g).map f:=by
 unfold ZE
 refine List.ext_getElem? fun j=>?_
 rw [List.getElem?_modify,List.getElem?_map,List.getElem?_map,List.getElem?_modify]
 cases hj:l[j]? with
 | none => rfl
 | some x =>
  by_cases hij:i=j
  ·subst hij
   simp [h x hj]
  ·simp [hij]
theorem ZlL {α:Type} (l:List α) (i:Nat):l.modify i (fun x=>x)=l:=by
 refine List.ext_getElem? fun j=>?_
 rw [List.getElem?_modify]
 cases l[j]? <;> simp
theorem Zjt {α:Type} (f:α→List AV) (l:List α) (i o:Nat) (c:List AV) (h:∀ x,l[i]? = some x→setCells (f x) o c=f x):ZE (l.map f) i o c=l.map f:=by
 rw [K5 f (fun x=>x) l i o c h,ZlL]
theorem Zpz {i n:Nat} (h:i < n):((i:Int) < (n:Int)):=by omega
theorem s15 (l:List Jh) (h:VI l):g15 (l.map Zf)=some (l.map Zf):=by
 rw [Ztl]
 have hn:l.length < 2 ^ 63:=by have:=h.len; omega
 refine (ZiE (F:=fun k acc i=>Zkv k (l.map Zf) acc i) l (fun r=>[Zf r]) hn (fun k i hi=>?_) (fun k acc i hi=>?_)).trans (by rw [Wq])
 ·show Zkv (k+1) _ _ _=_
  rw [Zka,List.length_map,if_pos (Z2 hi)]
  refine (ZW hi _).trans ?_
  simp only [KV,d2,d4,d8,d16]
  have hp:=h.path l[i] (List.getElem_mem hi)
  rw [s26 l[i].node (by omega),Option.bind_some]
  refine (ZW hi _).trans ?_
  refine (ZW hi _).trans ?_
  refine (Zn (Zy ?_ (by omega)) _).trans ?_
  ·rw [Wq]
   have:=h.len
   simp only [List.length_map,List.length_take,List.length_append,List.length_cons,List.length_nil]
   omega
  ·rw [ZR hi hn]
   rfl
 ·show Zkv (k+1) _ _ _=_
  rw [Zka,List.length_map,if_neg (ZZ hi)]
theorem s74 (l:List Jh) (h:VI l):g74 (l.map Zf)=some (l.map Zf):=by
 rw [Zt4]
 refine Ziw (fun hn=>?_) ?_
 ·rw [if_pos rfl,hn]
 ·rw [if_neg Bool.false_ne_true]
  refine Zn (Zy (by have:=h.len; simp; omega) (by omega)) _
theorem s43 (l:List Jh) (h:VI l):g43 (l.map Zf)=some (l.map Zf):=by
 rw [Zvi,s74 l h,Option.bind_some,List.length_map]
 have hn:l.length < 2 ^ 63:=by have:=h.len; omega
 have:=ZO (F:=fun k i=>ZhN k (l.map Zf) (l.length:Int) i) (n:=l.length) (fin:=some (l.map Zf)) (bad:=none) (fun _=>true) hn 0 (by omega)
  (fun k i _ hi=>by
   show ZhN (k+1) _ _ _=_
   rw [Zjr,if_pos (Z2 hi),List.length_map]
   have hin:=Zpz hi
   refine (Zn (by omega) _).trans ?_
   refine (Zn hin _).trans ?_
   refine (ZW hi _).trans ?_
   simp only [KV,d2,d4,d8,d16]
   have hp:=h.path l[i] (List.getElem_mem hi)
   rw [s40 l[i].node (by omega),Option.bind_some]
   refine (Zn (by omega) _).trans ?_
   refine (Zn hin _).trans ?_
   refine (Zn (by omega) _).trans ?_
   refine (Zn hin _).trans ?_
   rw [ZR hi hn]
   refine Eq.trans ?_ (if_pos trivial).symm
   refine congrArg (fun x=>ZhN k x (l.length:Int) ((i+1:Nat):Int)) ?_
   refine Zjt Zf l _ 0 (ZP l[i].node) fun x hx=>?_
   have hx':l[i]=x:=by
    rw [Int.toNat_natCast,List.getElem?_eq_getElem hi] at hx
    exact Option.some.inj hx
   rw [hx']
   rfl)
  (fun k i hi=>by show ZhN (k+1) _ _ _=_; rw [Zjr,if_neg (ZZ hi)])
 refine this.trans ?_
 rw [if_pos (by simp)]
def Zqo (op:Int) (s:Jh):Jh:={ s with op:=op }
theorem JH {γ:Type} {l:List Jh} {v:Int} (h0:0≤v) (h:v.toNat < l.length) (k:ShsT Zc9→Option γ):Zl (l.map Zf) v Zc9 k=k (KV l[v.toNat]):=by
 have e:v=((v.toNat:Nat):Int):=by omega
 have:=ZW h k
 rwa [← e] at this
theorem Zuv (acc:List Jh) (i:Nat) (op:Int):ZE (acc.map Zf) i 11 [AV.val (.int .i64 op)]=(acc.modify i (Zqo op)).map Zf:=K5 Zf (Zqo op) acc i 11 _ fun _ _=>rfl
end Go.Proofs.YthdihcchfjlgkaaGreat
end

section
namespace Go.Proofs.YthdihcchfjlgkaaGreat
open Go Go.AM
set_option linter.unusedSimpArgs false
set_option linter.unusedVariables false
set_option maxRecDepth 100000
theorem ZaP {γ:Type} {F:Nat→Int→Option γ} {n:Nat} (hit:Nat→γ) (p:Nat→Bool) (hn:n < 2 ^ 63)
  (step:∀ k i:Nat,i < n→F (k+1) (i:Int)=if p i=true then some (hit i) else F k ((i+1:Nat):Int))
  (last:∀ k:Nat,F (k+1) (n:Int)=some (hit n)) (m:Nat) (hm:m≤n) (h1:∀ j,j < m→p j=false) (h2:m < n→p m=true):F Zw 0=some (hit m):=by
 have key:∀ (j i fuel:Nat),i+j=m→n - i < fuel→F fuel (i:Int)=some (hit m):=by
  intro j
  induction j with
  | zero =>
   intro i fuel h hf
   obtain ⟨q,rfl⟩:∃ q,fuel=q+1:=⟨fuel - 1,by omega⟩
   have:i=m:=by omega
   subst this
   by_cases hi:i < n
   ·rw [step q i hi,if_pos (h2 hi)]
   ·have:i=n:=by omega
    subst this
    exact last q
  | succ j ih =>
   intro i fuel h hf
   obtain ⟨q,rfl⟩:∃ q,fuel=q+1:=⟨fuel - 1,by omega⟩
   rw [step q i (by omega),if_neg (by rw [h1 i (by omega)]; exact Bool.false_ne_true)]
   exact ih (i+1) q (by omega) (by omega)
 exact key m 0 Zw (by omega) (by have:=JA hn; omega)
def Zbi {α:Type} (q:α→Bool):List α→Nat
 | [] => 0
 | a :: r => match q a with | true => 0 | false => Zbi q r + 1
theorem VZ {α:Type} (q:α→Bool):∀ (l:List α),Zbi q l≤l.length
 | [] => Nat.le_refl _
 | a :: r => by
  unfold Zbi
  have:=VZ q r
  split <;> simp only [List.length_cons] <;> omega
theorem Zev {α:Type} (q:α→Bool):∀ (l:List α) (j:Nat) (hj:j < l.length),j < Zbi q l→q l[j]=false
 | [], j, hj, _ => by simp at hj
 | a :: r, j, hj, h => by
  unfold Zbi at h
  split at h
  ·omega
  ·rename_i ha
   cases j with
   | zero => exact ha
   | succ j => exact Zev q r j (by simpa using hj) (by omega)
theorem Zgd {α:Type} (q:α→Bool):∀ (l:List α) (h:Zbi q l < l.length),q l[Zbi q l]=true
 | [], h => by simp at h
 | a :: r, h => by
  cases ha:q a with
  | true =>
   have e:Zbi q (a :: r)=0:=by unfold Zbi; rw [ha]
   simp only [e]
   exact ha
  | false =>
   have e:Zbi q (a :: r)=Zbi q r+1:=by rw [Zbi]; rw [ha]
   have h':Zbi q r < r.length:=by rw [e] at h; simpa using h
   have:=Zgd q r h'
   simp only [e]
   exact this
def atR (q:Req→Bool) (p:List Req) (i:Nat):Bool:=match p[i]? with | some x=>q x | none=>false
theorem Zdv (q:Req→Bool) {p:List Req} {i:Nat} (h:i < p.length):atR q p i=q p[i]:=by unfold atR; rw [List.getElem?_eq_getElem h]
def Zfw (i:Id) (r:Req):Bool:=decide (r.id=i)
def Zyz (i:Id) (p:List Req):Bool:=decide (Zbi (Zfw i) p < p.length)
def ZdJ (n m:Nat):Int:=if m < n then (m:Int) else -1
theorem ZfI (n m:Nat):cop .geq (ZdJ n m) 0=decide (m < n):=by
 unfold ZdJ
 rw [Zh]
 split <;> simp only [CQ] <;> constructor <;> intro <;> first | omega | simp_all
theorem V9 {n m:Nat} (h:m < n):ZdJ n m=(m:Int):=if_pos h
theorem Zmx (r:Req) (i:Id):((cop .eql r.id.core i.core)&&((cop .eql r.id.op i.op)&&((cop .eql r.id.part i.part)&&true)))=Zfw i r:=by
 rw [Zh,JO]
 unfold Zfw
 rw [decide_eq_true_eq]
def before (r q:Req):Bool:=ZsJ r.id q.id
theorem Zox {p:List Req} (h:Few p) (i:Nat):Few (p.take i):=⟨by have:=h.len; rw [List.length_take]; omega,fun r hr=>h.path r (List.mem_of_mem_take hr)⟩
theorem ZnQ {p:List Req} (h:Few p) (i:Nat):Few (p.drop i):=⟨by have:=h.len; rw [List.length_drop]; omega,fun r hr=>h.path r (List.mem_of_mem_drop hr)⟩
theorem Zhx (p:List Req) (i:Nat):List.take (Int.toNat (i:Int)) (p.map Zt)=(p.take i).map Zt:=by rw [Int.toNat_natCast]; exact (List.map_take ..).symm
theorem Zgs (p:List Req) (i:Nat):List.drop (Int.toNat (i:Int)) (p.map Zt)=(p.drop i).map Zt:=by rw [Int.toNat_natCast]; exact (List.map_drop ..).symm
end Go.Proofs.YthdihcchfjlgkaaGreat
end

section
namespace Go.Proofs.YthdihcchfjlgkaaGreat
open Go Go.AM
set_option linter.unusedSimpArgs false
set_option linter.unusedVariables false
set_option maxRecDepth 100000
theorem ZlJ {σ γ:Type} {F:Nat→σ→Int→Option γ} {n:Nat} (S:Nat→σ) {fin:Option γ} (hn:n < 2 ^ 63)
  (step:∀ k i:Nat,i < n→F (k+1) (S i) (i:Int)=F k (S (i+1)) ((i+1:Nat):Int)) (last:∀ k:Nat,F (k+1) (S n) (n:Int)=fin):F Zw (S 0) 0=fin:=by
 have key:∀ (j i fuel:Nat),i+j=n→j < fuel→F fuel (S i) (i:Int)=fin:=by
  intro j
  induction j with
  | zero =>
   intro i fuel h hf
   obtain ⟨q,rfl⟩:∃ q,fuel=q+1:=⟨fuel - 1,by omega⟩
   have:i=n:=by omega
   subst this
   exact last q
  | succ j ih =>
   intro i fuel h hf
   obtain ⟨q,rfl⟩:∃ q,fuel=q+1:=⟨fuel - 1,by omega⟩
   rw [step q i (by omega)]
   exact ih (i+1) q (by omega) (by omega)
 exact key n 0 Zw (by omega) (by have:=JA hn; omega)
def ZdI {α:Type} (f:α→α) (l:List α) (i:Nat):List α:=(l.take i).map f++l.drop i
theorem Wh {α:Type} (f:α→α) (l:List α) (i:Nat):(ZdI f l i).length=l.length:=by simp [ZdI]; omega
theorem Zgl {α:Type} (f:α→α) (l:List α):ZdI f l 0=l:=by simp [ZdI]
theorem ZjW {α:Type} (f:α→α) (l:List α):ZdI f l l.length=l.map f:=by simp [ZdI]
theorem Wk {α:Type} (f:α→α) (l:List α) (i j:Nat):(ZdI f l i)[j]? = (l[j]?).map (if j < i then f else id):=by
 unfold ZdI
 by_cases h:j < i
 ·by_cases hj:j < l.length
  ·rw [List.getElem?_append_left (by simp; omega),if_pos h]
   simp [List.getElem?_take,h]
  ·rw [List.getElem?_eq_none (by simp; omega),List.getElem?_eq_none (by omega)]; rfl
 ·rw [if_neg h]
  by_cases hi:i≤l.length
  ·rw [List.getElem?_append_right (by simp; omega),List.getElem?_drop]
   simp
   congr 1; omega
  ·rw [List.getElem?_eq_none (by simp; omega),List.getElem?_eq_none (by omega)]; rfl
theorem ZoE {α:Type} (f:α→α) (l:List α) (i:Nat):(ZdI f l i).modify i f=ZdI f l (i+1):=by
 refine List.ext_getElem? fun j=>?_
 rw [List.getElem?_modify,Wk,Wk]
 cases l[j]? with
 | none => rfl
 | some x =>
  by_cases hij:i=j
  ·subst hij; simp
  ·have:(j < i+1)↔(j < i):=by omega
   simp [hij,this]
theorem Zrs {α:Type} (f:α→α) (l:List α) {i:Nat} (hi:i < l.length):(ZdI f l i)[i]'(by rw [Wh]; exact hi)=l[i]:=by
 have h:=Wk f l i i
 rw [List.getElem?_eq_getElem (by rw [Wh]; exact hi),List.getElem?_eq_getElem hi] at h
 simpa using h
theorem Zhb {α:Type} (f:α→α) (l:List α) {i:Nat} (hi:i < l.length) (h:f l[i]=l[i]):ZdI f l (i+1)=ZdI f l i:=by
 refine List.ext_getElem? fun j=>?_
 rw [Wk,Wk]
 by_cases hij:j=i
 ·subst hij
  rw [List.getElem?_eq_getElem hi]; simp [h]
 ·have:(j < i+1)↔(j < i):=by omega
  simp only [this]
theorem Zhz {γ:Type} (f:Jh→Jh) (l:List Jh) {i:Nat} (hi:i < l.length) (k:ShsT Zc9→Option γ):Zl ((ZdI f l i).map Zf) (i:Int) Zc9 k=k (KV l[i]):=by
 have h:i < (ZdI f l i).length:=by rw [Wh]; exact hi
 rw [ZW h,Zrs f l hi]
def Y2 (s:Jh):Bool:=decide (s.node.id=zid)
theorem Zf5 (s:Jh):((cop .eql s.node.id.core 0)&&((cop .eql s.node.id.op 0)&&((cop .eql s.node.id.part 0)&&true)))=Y2 s:=by
 rw [Zh,YS]
 unfold Y2
 rw [decide_eq_true_eq]
theorem Zyw (s:Jh):ZsC s.node.id.core s.node.id.op s.node.id.part (Zb s.node.path) s.node.cap.kind s.node.cap.base s.node.cap.bits s.node.cap.rights s.node.cap.width s.node.cap.level s.node.cap.device s.op s.lock.core s.lock.op s.lock.part=some (Y2 s):=by rw [Zh7,Zf5]
theorem s13 (s:Jh):g13 s.node.id.core s.node.id.op s.node.id.part (Zb s.node.path) s.node.cap.kind s.node.cap.base s.node.cap.bits s.node.cap.rights s.node.cap.width s.node.cap.level s.node.cap.device s.op s.lock.core s.lock.op s.lock.part=some (Y2 s):=by rw [ZmJ,Zf5]
def lockS (ids:List Id) (by_:Id) (s:Jh):Jh:=if Y2 s=false∧ids.contains s.node.id=true then { s with lock:=by_ } else s
end Go.Proofs.YthdihcchfjlgkaaGreat
end

section
namespace Go.Proofs.YthdihcchfjlgkaaGreat
open Go Go.AM
set_option linter.unusedSimpArgs false
set_option linter.unusedVariables false
set_option maxRecDepth 100000
theorem Zvq (s:Jh) (i:Id):ZbO i s=(!Y2 s&&decide (s.node.id=i)):=rfl
theorem ZmR (s:Jh) (i:Id):((cop .eql s.node.id.core i.core)&&((cop .eql s.node.id.op i.op)&&((cop .eql s.node.id.part i.part)&&true)))=decide (s.node.id=i):=by
 rw [Zh,JO,decide_eq_true_eq]
theorem Zxz (l:List Jh) (hl:l.length < 2 ^ 63) (i:Id):∃ r,ZsW (l.map Zf) i.core i.op i.part=some r∧cop .geq r 0=l.any (ZbO i):=by
 rw [Znm]
 have:=Zfu (F:=fun k j=>WK k (l.map Zf) i.core i.op i.part j) (n:=l.length) (miss:=(-1:Int)) (fun j=>(j:Int)) (atB (ZbO i) l) hl
  (fun k j hj=>by
   show WK (k+1) _ _ _ _ _=_
   rw [Za3,Yn,if_pos (Z2 hj)]
   refine (ZW hj _).trans ?_
   simp only [KV,d2,d4,d8,d16]
   rw [s13,Option.bind_some,ZR hj hl,Je _ hj,Zvq]
   refine Zo (fun h1=>?_) fun h1=>?_
   ·refine (ZW hj _).trans ?_
    simp only [KV,d2,d4,d8,d16]
    refine Zo (fun h2=>?_) fun h2=>?_
    ·rw [ZmR] at h2
     rw [if_pos (by rw [h1,h2]; rfl)]
    ·rw [ZmR] at h2
     rw [if_neg (by simp only [Bool.not_eq_true] at h2; rw [h2]; simp)]
   ·rw [if_neg (by simp only [Bool.not_eq_true] at h1; rw [h1]; simp)])
  (fun k j hj=>by show WK (k+1) _ _ _ _ _=_; rw [Za3,Yn,if_neg (ZZ hj)])
 rcases this with ⟨j,h1,h2,h3,h4⟩ | ⟨h1,h2⟩
 ·refine ⟨_,h4,?_⟩
  have e:l.any (ZbO i)=true:=by
   rw [Je _ h1] at h2
   exact List.any_eq_true.2 ⟨l[j],List.getElem_mem h1,h2⟩
  rw [e]; simp only [cop]; simp
 ·refine ⟨_,h2,?_⟩
  have e:l.any (ZbO i)=false:=by
   rw [List.any_eq_false]
   intro x hx
   obtain ⟨j,hj,rfl⟩:=List.getElem_of_mem hx
   have:=h1 j hj
   rw [Je _ hj] at this
   rw [this]; exact Bool.false_ne_true
  rw [e]; rfl
def ZsV (n:Yr) (s:Jh):Jh:={ s with node:=n }
def Jz (l:List Jh) (z:Int) (n:Yr):Int:=
 if z < 0∨(l.length:Int)≤z∨ZK n=false∨l.any (ZbO n.id)=true then 1 else if (l[z.toNat]?).any (fun s=>!Y2 s)=true then 3 else 0
def ZgN (l:List Jh) (z:Int) (n:Yr):List Jh:=if Jz l z n=0 then l.modify z.toNat (ZsV n) else []
theorem Vt {n:Yr} (h:ZK n=true):n.path.length≤8:=by
 simp only [ZK,Bool.and_eq_true,decide_eq_true_eq] at h
 exact h.1.2
theorem Wz (l:List Jh) (i:Nat) (n:Yr):ZE (l.map Zf) i 0 (ZP n)=(l.modify i (ZsV n)).map Zf:=K5 Zf (ZsV n) l i 0 _ fun _ _=>rfl
theorem s81 (l:List Jh) (h:VI l) (z:Int) (n:Yr) (hn:n.path.length < 2 ^ 63):g81 (l.map Zf) z n.id.core n.id.op n.id.part (Zb n.path) n.cap.kind n.cap.base n.cap.bits n.cap.rights n.cap.width n.cap.level n.cap.device=some ((ZgN l z n).map Zf,Jz l z n):=by
 have hl:l.length < 2 ^ 63:=by have:=h.len; omega
 obtain ⟨r,hf⟩:=Zz9 l hl n.id.core n.id.op n.id.part
 rw [Zv1,hf,Option.bind_some]
 refine Zo (fun h1=>?_) fun h1=>Zo (fun h2=>?_) fun h2=>?_
 ·simp only [CQ] at h1
  have he:Jz l z n=1:=by rw [Jz,if_pos (.inl h1)]
  rw [ZgN,he]; rfl
 ·simp only [CQ,List.length_map] at h2
  have he:Jz l z n=1:=by rw [Jz,if_pos (.inr (.inl h2))]
  rw [ZgN,he]; rfl
 simp only [CQ,List.length_map] at h1 h2
 rw [ZtE n hn,Option.bind_some]
 refine Zo (fun h3=>?_) fun h3=>Zo (fun h4=>?_) fun h4=>?_
 ·have he:Jz l z n=1:=by rw [Jz,if_pos (.inr (.inr (.inl (by simpa using h3))))]
  rw [ZgN,he]; rfl
 ·have he:Jz l z n=1:=by rw [Jz,if_pos (.inr (.inr (.inr h4)))]
  rw [ZgN,he]; rfl
 ·simp only [Bool.not_eq_true',Bool.not_eq_false] at h3
  have hno:¬ (z < 0∨(l.length:Int)≤z∨ZK n=false∨l.any (ZbO n.id)=true):=by
   rintro (h | h | h | h)
   ·omega
   ·omega
   ·rw [h3] at h; cases h
   ·exact h4 h
  have hz:z=((z.toNat:Nat):Int):=by omega
  have hlt:z.toNat < l.length:=by omega
  refine (JH (by omega) hlt _).trans ?_
  simp only [KV,d2,d4,d8,d16]
  rw [Zyw,Option.bind_some]
  have hat:l[z.toNat]? = some l[z.toNat]:=List.getElem?_eq_getElem hlt
  refine Zo (fun h5=>?_) fun h5=>?_
  ·have he:Jz l z n=3:=by rw [Jz,if_neg hno,if_pos (by rw [hat]; exact h5)]
   rw [ZgN,he]; rfl
  ·have he:Jz l z n=0:=by rw [Jz,if_neg hno,if_neg (by rw [hat]; exact h5)]
   have hp:=Vt h3
   rw [ZgN,he,s43 l h,Option.bind_some,s40 n (by omega),Option.bind_some,List.length_map]
   refine (Zn (by omega) _).trans ?_
   refine (Zn (by omega) _).trans ?_
   refine (Zn (by omega) _).trans ?_
   refine (Zn (by omega) _).trans ?_
   rw [if_pos rfl]
   exact congrArg (fun x=>some (x,(0:Int))) (Wz l z.toNat n)
theorem ZAP (l:List Jh) (h:VI l) (z:Int) (n:Yr) (hn:n.path.length < 2 ^ 63):Zzs (l.map Zf) z n.id.core n.id.op n.id.part (Zb n.path) n.cap.kind n.cap.base n.cap.bits n.cap.rights n.cap.width n.cap.level n.cap.device=some ((ZgN l z n).map Zf,Jz l z n):=by
 have hl:l.length < 2 ^ 63:=by have:=h.len; omega
 obtain ⟨r,hf,hr⟩:=Zxz l hl n.id
 rw [ZrD]
 refine Zo (fun h1=>?_) fun h1=>Zo (fun h2=>?_) fun h2=>?_
 ·simp only [CQ] at h1
  have he:Jz l z n=1:=by rw [Jz,if_pos (.inl h1)]
  rw [ZgN,he]; rfl
 ·simp only [CQ,List.length_map] at h2
  have he:Jz l z n=1:=by rw [Jz,if_pos (.inr (.inl h2))]
  rw [ZgN,he]; rfl
 simp only [CQ,List.length_map] at h1 h2
 rw [s93 n hn,Option.bind_some]
 refine Zo (fun h3=>?_) fun h3=>?_
 ·have he:Jz l z n=1:=by rw [Jz,if_pos (.inr (.inr (.inl (by simpa using h3))))]
  rw [ZgN,he]; rfl
 rw [hf,Option.bind_some]
 refine Zo (fun h4=>?_) fun h4=>?_
 ·rw [hr] at h4
  have he:Jz l z n=1:=by rw [Jz,if_pos (.inr (.inr (.inr h4)))]
  rw [ZgN,he]; rfl
 ·rw [hr] at h4
  simp only [Bool.not_eq_true',Bool.not_eq_false] at h3
  have hno:¬ (z < 0∨(l.length:Int)≤z∨ZK n=false∨l.any (ZbO n.id)=true):=by
   rintro (h | h | h | h)
   ·omega
   ·omega
   ·rw [h3] at h; cases h
   ·exact h4 h
  have hz:z=((z.toNat:Nat):Int):=by omega
  have hlt:z.toNat < l.length:=by omega
  refine (JH (by omega) hlt _).trans ?_
  simp only [KV,d2,d4,d8,d16]
  rw [s13,Option.bind_some]
  have hat:l[z.toNat]? = some l[z.toNat]:=List.getElem?_eq_getElem hlt
  refine Zo (fun h5=>?_) fun h5=>?_
  ·have he:Jz l z n=3:=by rw [Jz,if_neg hno,if_pos (by rw [hat]; exact h5)]
   rw [ZgN,he]; rfl
  ·have he:Jz l z n=0:=by rw [Jz,if_neg hno,if_neg (by rw [hat]; exact h5)]
   have hp:=Vt h3
   rw [ZgN,he,s15 l h,Option.bind_some,s26 n (by omega),Option.bind_some,List.length_map]
   refine (Zn (by omega) _).trans ?_
   refine (Zn (by omega) _).trans ?_
   refine (Zn (by omega) _).trans ?_
   refine (Zn (by omega) _).trans ?_
   rw [if_pos rfl]
   exact congrArg (fun x=>some (x,(0:Int))) (Wz l z.toNat n)
end Go.Proofs.YthdihcchfjlgkaaGreat
end

section
namespace Go.Proofs.YthdihcchfjlgkaaGreat
open Go Go.AM
set_option linter.unusedSimpArgs false
set_option linter.unusedVariables false
set_option maxRecDepth 100000
def rep (k e:Int) (m:Msg):Msg:=⟨k,0,0,m.frm,0,m.region,0,m.op,e,false,Z9,[],[],[],[],0,ZH,Zi,Zm⟩
def ZvI (c:Id×Bool):List AV:=[I c.1.core,I c.1.op,I c.1.part,B c.2]
theorem Zqi {l:List Jh} (h:VI l) (f:Jh→Jh) (hf:∀ s,(f s).node.path.length≤s.node.path.length):VI (l.map f):=
 ⟨by rw [List.length_map]; exact h.len,fun s hs=>by
  obtain ⟨t,ht,rfl⟩:=List.mem_map.1 hs
  exact Nat.le_trans (hf t) (h.path t ht)⟩
theorem ZiD {l:List Jh} (h:VI l) (z:Int) (n:Yr):VI (ZgN l z n):=by
 unfold ZgN
 split
 ·rename_i he
  have hok:ZK n=true:=by
   unfold Jz at he
   split at he
   ·cases he
   ·rename_i hh
    cases hn:ZK n with
    | true => rfl
    | false => exact (hh (.inr (.inr (.inl hn)))).elim
  have hp:=Vt hok
  refine ⟨by rw [List.length_modify]; exact h.len,fun s hs=>?_⟩
  obtain ⟨i,hi,rfl⟩:=List.getElem_of_mem hs
  rw [List.getElem_modify]
  split
  ·show n.path.length≤20; omega
  ·exact h.path _ (List.getElem_mem _)
 ·exact ⟨by simp,by simp⟩
theorem ZgG {γ:Type} {l:List (Id×Bool)} {i:Nat} (h:i < l.length) (k:(Int×Int×Int×Bool)→Option γ):Zl (l.map ZvI) (i:Int) [.int .i64,.int .i64,.int .i64,.bool] k=k (l[i].1.core,l[i].1.op,l[i].1.part,l[i].2):=J9 (f:=ZvI) (sh:=[.int .i64,.int .i64,.int .i64,.bool]) (v:=fun c=>(c.1.core,c.1.op,c.1.part,c.2)) (fun _=>rfl) h k
theorem s8 (x n:Int) (h1:1≤n) (h2:n < 2 ^ 62):g8 x n=some (x % n):=by
 have e62:(2:Int) ^ 62=4611686018427387904:=by decide
 have hm0:=Int.emod_nonneg x (show n≠0 by omega)
 have hm1:=Int.emod_lt_of_pos x (show 0 < n by omega)
 have ht:iop .rem .i64 x n=x.tmod n:=rfl
 rw [Zzz,if_neg (by simp only [CQ]; omega),Zn (by omega),ht]
 have:=Int.tmod_eq_emod (a:=x) (b:=n)
 by_cases hd:0≤x∨n ∣ x
 ·rw [if_pos hd] at this
  rw [if_neg (by simp only [CQ]; omega)]
  congr 1
  omega
 ·rw [if_neg hd] at this
  have habs:((n.natAbs:Nat):Int)=n:=by omega
  have hne:x % n≠0:=fun h=>hd (.inr (Int.dvd_of_emod_eq_zero h))
  rw [if_pos (by simp only [CQ]; omega),Y8 (by omega) (by omega)]
  congr 1
  omega
end Go.Proofs.YthdihcchfjlgkaaGreat
end

section
namespace Go.Proofs.YthdihcchfjlgkaaGreat
open Go Go.AM
set_option linter.unusedSimpArgs false
set_option linter.unusedVariables false
set_option maxRecDepth 100000
theorem ZhU {d:Nat} {cs:List AV} (h:TyR Tryz.prog (d+2) 37 cs):∃ l,cs = [.slice false 1 (Za l)]∧l.length≤maxLen:=by
 rw [TyR] at h
 simp only [Tryz.underlying37,Zpy] at h
 obtain ⟨xs,h1,h2,h3⟩:=h
 obtain ⟨l,rfl,h5⟩:=JL (f:=ZhF) (p:=fun _=>True) xs fun y hy=>by
  obtain ⟨z,hz⟩:=ZD (h3 y hy)
  exact ⟨z,hz,trivial⟩
 exact ⟨l,by simpa [Za] using h1,by simpa using h2⟩
theorem ZhS {d:Nat} {cs:List AV} (h:TyR Tryz.prog (d+3) 40 cs):∃ v:ZdT,cs=Zn9 v∧v.Fits:=by
 rw [TyR] at h
 simp only [Tryz.underlying40] at h
 obtain ⟨ps,rfl,hl,hp⟩:=h
 obtain ⟨p0,p1,p2,rfl⟩:∃ p0 p1 p2,ps = [p0,p1,p2]:=by
  match ps,hl with
  | [p0, p1, p2], _ => exact ⟨p0, p1, p2, rfl⟩
 obtain ⟨n,rfl⟩:=ZD (hp 0 _ _ rfl rfl)
 obtain ⟨m,rfl,hm⟩:=ZhU (hp 1 _ _ rfl rfl)
 obtain ⟨o,rfl,ho⟩:=ZhU (hp 2 _ _ rfl rfl)
 exact ⟨⟨n,m,o⟩,rfl,Zit hm,Zit ho⟩
theorem Zl5 {d:Nat} {cs:List AV} (h:TyR Tryz.prog (d+8) 47 cs):∃ r:Yv,cs=Ziv r∧r.Fits:=by
 rw [TyR] at h
 simp only [Tryz.underlying47] at h
 obtain ⟨ps,rfl,hl,hp⟩:=h
 obtain ⟨p0,p1,p2,p3,p4,p5,rfl⟩:∃ p0 p1 p2 p3 p4 p5,ps = [p0,p1,p2,p3,p4,p5]:=by
  match ps,hl with
  | [p0, p1, p2, p3, p4, p5], _ => exact ⟨p0, p1, p2, p3, p4, p5, rfl⟩
 obtain ⟨n,rfl⟩:=ZD (hp 0 _ _ rfl rfl)
 obtain ⟨v,rfl,hv⟩:=ZhS (hp 1 _ _ rfl rfl)
 obtain ⟨s,rfl,hs⟩:=Zfg (hp 2 _ _ rfl rfl)
 obtain ⟨b,rfl⟩:=Zc8 (hp 3 _ _ rfl rfl)
 obtain ⟨w,rfl,hw⟩:=ZhS (hp 4 _ _ rfl rfl)
 obtain ⟨t,rfl,ht⟩:=Zfg (hp 5 _ _ rfl rfl)
 exact ⟨⟨n,v,s,b,w,t⟩,by simp [Ziv],⟨hv,hs,hw,ht⟩⟩
theorem Zu7:Tryz.prog.cellsOf 95=2:=by kernel_rfl
theorem Zue:Tryz.prog.cellsOf 33=11:=by kernel_rfl
theorem Zq9 {d:Nat} {cs:List AV} (h:TyR Tryz.prog (d+2) 95 cs):∃ m:ZhG,cs=Z4 m:=by
 rw [TyR] at h
 simp only [Tryz.underlying95] at h
 obtain ⟨ps,rfl,hl,hp⟩:=h
 obtain ⟨p0,p1,rfl⟩:∃ p0 p1,ps = [p0,p1]:=by
  match ps,hl with
  | [p0, p1], _ => exact ⟨p0, p1, rfl⟩
 obtain ⟨a,rfl⟩:=ZD (hp 0 _ _ rfl rfl)
 obtain ⟨b,rfl⟩:=ZD (hp 1 _ _ rfl rfl)
 exact ⟨⟨a,b⟩,rfl⟩
theorem ZnY {d:Nat} {cs:List AV} (h:TyR Tryz.prog (d+3) 38 cs):∃ l:List ZhG,cs = [.slice false 2 (l.map Z4)]∧l.length < 2 ^ 63:=by
 rw [TyR] at h
 simp only [Tryz.underlying38,Zu7] at h
 obtain ⟨xs,h1,h2,h3⟩:=h
 obtain ⟨l,rfl,h5⟩:=JL (f:=Z4) (p:=fun _=>True) xs fun y hy=>(Zq9 (h3 y hy)).elim fun a h=>⟨a,h,trivial⟩
 exact ⟨l,h1,Zit (by simpa using h2)⟩
theorem Zor {d:Nat} {cs:List AV} (h:TyR Tryz.prog (d+5) 36 cs):∃ l:List Yr,cs = [.slice false 11 (l.map ZP)]∧l.length < 2 ^ 63∧∀ x∈l,x.path.length < 2 ^ 63:=by
 rw [TyR] at h
 simp only [Tryz.underlying36,Zue] at h
 obtain ⟨xs,h1,h2,h3⟩:=h
 obtain ⟨l,rfl,h5⟩:=JL (f:=ZP) (p:=fun x=>x.path.length < 2 ^ 63) xs fun y hy=>Zcu (h3 y hy)
 exact ⟨l,h1,Zit (by simpa using h2),h5⟩
theorem Zub {d:Nat} {cs:List AV} (h:TyR Tryz.prog (d+10) 49 cs):∃ m:Msg,cs=Zlh m∧m.Fits:=by
 rw [TyR] at h
 simp only [Tryz.underlying49] at h
 obtain ⟨ps,rfl,hl,hp⟩:=h
 obtain ⟨p0,p1,p2,p3,p4,p5,p6,p7,p8,p9,p10,p11,p12,p13,p14,p15,p16,p17,p18,rfl⟩:∃ p0 p1 p2 p3 p4 p5 p6 p7 p8 p9 p10 p11 p12 p13 p14 p15 p16 p17 p18,ps = [p0,p1,p2,p3,p4,p5,p6,p7,p8,p9,p10,p11,p12,p13,p14,p15,p16,p17,p18]:=by
  match ps,hl with
  | [p0, p1, p2, p3, p4, p5, p6, p7, p8, p9, p10, p11, p12, p13, p14, p15, p16, p17, p18], _ => exact ⟨p0, p1, p2, p3, p4, p5, p6, p7, p8, p9, p10, p11, p12, p13, p14, p15, p16, p17, p18, rfl⟩
 obtain ⟨k0,rfl⟩:=ZD (hp 0 _ _ rfl rfl)
 obtain ⟨k1,rfl⟩:=ZD (hp 1 _ _ rfl rfl)
 obtain ⟨k2,rfl⟩:=ZD (hp 2 _ _ rfl rfl)
 obtain ⟨k3,rfl⟩:=ZD (hp 3 _ _ rfl rfl)
 obtain ⟨k4,rfl⟩:=ZD (hp 4 _ _ rfl rfl)
 obtain ⟨k5,rfl⟩:=ZD (hp 5 _ _ rfl rfl)
 obtain ⟨k6,rfl⟩:=ZD (hp 6 _ _ rfl rfl)
 obtain ⟨op,rfl⟩:=Zif (hp 7 _ _ rfl rfl)
 obtain ⟨e,rfl⟩:=ZpQ (hp 8 _ _ rfl rfl)
 obtain ⟨st,rfl⟩:=Zc8 (hp 9 _ _ rfl rfl)
 obtain ⟨r,rfl,hr⟩:=ZpF (hp 10 _ _ rfl rfl)
 obtain ⟨l1,rfl,h1⟩:=ZmI (hp 11 _ _ rfl rfl)
 obtain ⟨l2,rfl,h2,h2b⟩:=Zor (hp 12 _ _ rfl rfl)
 obtain ⟨l3,rfl,h3⟩:=ZhU (hp 13 _ _ rfl rfl)
 obtain ⟨l4,rfl,h4⟩:=ZnY (hp 14 _ _ rfl rfl)
 obtain ⟨bs,rfl⟩:=ZD (hp 15 _ _ rfl rfl)
 obtain ⟨nx,rfl,hn⟩:=ZhS (hp 16 _ _ rfl rfl)
 obtain ⟨ss,rfl,hs⟩:=Zfg (hp 17 _ _ rfl rfl)
 obtain ⟨rp,rfl,hp2⟩:=Zl5 (hp 18 _ _ rfl rfl)
 exact ⟨⟨k0,k1,k2,k3,k4,k5,k6,op,e,st,r,l1,l2,l3,l4,bs,nx,ss,rp⟩,by simp [Zlh,idc],⟨hr,Zit h1,h2,h2b,Zit h3,h4,hn,hs,hp2⟩⟩
theorem ZqS {x:AV} (h:VH Tryz.prog 12 49 x):∃ m:Msg,x = .agg (Zlh m)∧m.Fits:=by
 simp only [VH,Tryz.underlying49] at h
 obtain ⟨cs,rfl,h⟩:=h
 obtain ⟨m,rfl,hm⟩:=Zub h
 exact ⟨m,rfl,hm⟩
theorem Zme {x:AV} (h:VH Tryz.prog 12 22 x):∃ l:List Jh,x = .slice false 15 (l.map Zf)∧l.length < 2 ^ 63∧∀ s∈l,s.node.path.length < 2 ^ 63:=by
 simp only [VH,Tryz.underlying22] at h
 obtain ⟨l,h1,h2,h3⟩:=Zj2 h.2
 exact ⟨l,by simpa using h1,h2,h3⟩
structure ZpC where
 root:Bool
 src:Int
 core:Int
 slot:Int
 kind:Int
 base:Int
 bits:Int
 count:Int
 rights:Int
 copy:Bool
def Zao (s:ZpC):List AV:=[B s.root,I s.src,I s.core,I s.slot,I s.kind,I s.base,I s.bits,I s.count,I s.rights,B s.copy]
theorem Zve:Tryz.prog.cellsOf 79=10:=by kernel_rfl
theorem ZqF {d:Nat} {cs:List AV} (h:TyR Tryz.prog (d+2) 79 cs):∃ s:ZpC,cs=Zao s:=by
 rw [TyR] at h
 simp only [Tryz.underlying79] at h
 obtain ⟨ps,rfl,hl,hp⟩:=h
 obtain ⟨p0,p1,p2,p3,p4,p5,p6,p7,p8,p9,rfl⟩:∃ p0 p1 p2 p3 p4 p5 p6 p7 p8 p9,ps = [p0,p1,p2,p3,p4,p5,p6,p7,p8,p9]:=by
  match ps,hl with
  | [p0, p1, p2, p3, p4, p5, p6, p7, p8, p9], _ => exact ⟨p0, p1, p2, p3, p4, p5, p6, p7, p8, p9, rfl⟩
 obtain ⟨a,rfl⟩:=Zc8 (hp 0 _ _ rfl rfl)
 obtain ⟨b,rfl⟩:=ZD (hp 1 _ _ rfl rfl)
 obtain ⟨c,rfl⟩:=ZD (hp 2 _ _ rfl rfl)
 obtain ⟨d,rfl⟩:=ZD (hp 3 _ _ rfl rfl)
 obtain ⟨e,rfl⟩:=ZD (hp 4 _ _ rfl rfl)
 obtain ⟨f,rfl⟩:=ZD (hp 5 _ _ rfl rfl)
 obtain ⟨g,rfl⟩:=ZD (hp 6 _ _ rfl rfl)
 obtain ⟨i,rfl⟩:=ZD (hp 7 _ _ rfl rfl)
 obtain ⟨j,rfl⟩:=ZD (hp 8 _ _ rfl rfl)
 obtain ⟨k,rfl⟩:=Zc8 (hp 9 _ _ rfl rfl)
 exact ⟨⟨a,b,c,d,e,f,g,i,j,k⟩,rfl⟩
theorem Znz {x:AV} (h:VH Tryz.prog 12 50 x):∃ l:List ZpC,x = .slice false 10 (l.map Zao)∧l.length < 2 ^ 63:=by
 simp only [VH,Tryz.underlying50] at h
 have hh:=h.2
 rw [TyR] at hh
 simp only [Tryz.underlying50,Zve] at hh
 obtain ⟨xs,h1,h2,h3⟩:=hh
 obtain ⟨l,rfl,h5⟩:=JL (f:=Zao) (p:=fun _=>True) xs fun y hy=>(ZqF (h3 y hy)).elim fun a h=>⟨a,h,trivial⟩
 exact ⟨l,by simpa using h1,Zit (by simpa using h2)⟩
end Go.Proofs.YthdihcchfjlgkaaGreat
end

section
namespace Go.Proofs.YthdihcchfjlgkaaGreat
open Go Go.AM
set_option linter.unusedSimpArgs false
set_option linter.unusedVariables false
set_option maxRecDepth 100000
theorem ZzI (a b:Int):ZsS a b=some (ZbQ a b):=by
 rw [ZrI]
 simp only [ZwC,Option.bind_some]
 cases h:K4 a b with
 | false => simp [ZbQ, h]
 | true =>
  obtain ⟨h1,h2,h3,h4,h5⟩:=Ze4 h
  have hw:IntKind.wrap .u64 b=b:=KP (by omega) (by omega)
  simp only [Bool.not_true,Bool.false_eq_true,if_false,hw]
  rw [Zn (by omega),ZqN h]
theorem s88 (a b c d:Int):g88 a b c d=some (Zs8 a b c d):=by
 rw [ZvJ]
 simp only [ZwC,ZzI,Option.bind_some]
 repeat' split
 all_goals (refine congrArg some ?_; rw [Zh]; simp only [Zs8,JW,J2,JY,JZ,JV,JU,J5,JX,J3,J0,J4,J1,Bool.not_eq_true,Bool.not_eq_false,Bool.not_eq_true',Bool.not_eq_false',Bool.and_eq_true,Bool.or_eq_true,decide_eq_true_eq,decide_eq_false_iff_not,Bool.false_eq_true,Bool.true_eq_false,Option.bind_some,Option.some.injEq,false_iff,true_iff,iff_false,iff_true] at *; grind)
theorem s86 (a b c d:Int):g86 a b c d=some (inB a b c d):=by
 rw [Zu6]
 simp only [ZwC,ZzI,Option.bind_some]
 repeat' split
 all_goals (refine congrArg some ?_; rw [Zh]; simp only [inB,JW,J2,JY,JZ,JV,JU,J5,JX,J3,J0,J4,J1,Bool.not_eq_true,Bool.not_eq_false,Bool.not_eq_true',Bool.not_eq_false',Bool.and_eq_true,Bool.or_eq_true,decide_eq_true_eq,decide_eq_false_iff_not,Bool.false_eq_true,Bool.true_eq_false,Option.bind_some,Option.some.injEq,false_iff,true_iff,iff_false,iff_true] at *; grind)
theorem s53 (k b s r w l:Int) (d:Bool) (m:Int):g53 k b s r w l d m=some (k,b,s,iop .and .i64 r m,w,l,d):=Zui ..
end Go.Proofs.YthdihcchfjlgkaaGreat
end

section
namespace Go.Proofs.YthdihcchfjlgkaaGreat
open Go Go.AM
set_option linter.unusedSimpArgs false
set_option linter.unusedVariables false
set_option maxRecDepth 100000
theorem l54 {b r w l k s:Int} {d fl:Bool} {lv wd bits sz off obj cnt:Int} (hb:0≤b) (hoff:0≤off) (hsz:0≤sz) (hc:cnt≤8) (hm:b+off+8 * sz < 2 ^ 62):∀ (j i fuel:Nat),cnt=i+j→j < fuel→
  VF fuel obj bits lv wd off cnt k b s r w l d fl sz (Y0 obj (b+off) sz bits r (if fl=true then wd else 0) (if fl=true then lv else 0) d i) i=some (Y0 obj (b+off) sz bits r (if fl=true then wd else 0) (if fl=true then lv else 0) d cnt.toNat,0):=by
 intro j
 have e62:(2:Int) ^ 62=4611686018427387904:=by decide
 induction j with
 | zero =>
  intro i fuel h hf
  obtain ⟨f,rfl⟩:∃ f,fuel=f+1:=⟨fuel - 1,by omega⟩
  rw [Zjm,if_neg (by simp only [JW,J2,JY,JZ,JV,JU,J5,JX,J3,J0,J4,J1,Bool.not_eq_true,Bool.not_eq_false,Bool.not_eq_true',Bool.not_eq_false',Bool.and_eq_true,Bool.or_eq_true,decide_eq_true_eq,decide_eq_false_iff_not,Bool.false_eq_true,Bool.true_eq_false,Option.bind_some,Option.some.injEq,false_iff,true_iff,iff_false,iff_true]; omega)]
  have:cnt.toNat=i:=by omega
  rw [this]
 | succ j ih =>
  intro i fuel h hf
  obtain ⟨f,rfl⟩:∃ f,fuel=f+1:=⟨fuel - 1,by omega⟩
  have hsi:(i:Int) * sz≤8 * sz:=Int.mul_le_mul_of_nonneg_right (by omega) hsz
  have hsi0:0≤(i:Int) * sz:=Int.mul_nonneg (by omega) hsz
  have a1:iop .add .i64 b off=b+off:=Y8 (by omega) (by omega)
  have a2:iop .mul .i64 i sz=i * sz:=Zs9 (by omega) (by omega)
  have a3:iop .add .i64 (b+off) (i * sz)=b+off+i * sz:=Y8 (by omega) (by omega)
  have a4:iop .add .i64 i 1=((i+1:Nat):Int):=by rw [Y8 (by omega) (by omega)]; omega
  have:=ih (i+1) f (by omega) (by omega)
  rw [Ze0] at this
  rw [Zjm,if_pos (by simp only [JW,J2,JY,JZ,JV,JU,J5,JX,J3,J0,J4,J1,Bool.not_eq_true,Bool.not_eq_false,Bool.not_eq_true',Bool.not_eq_false',Bool.and_eq_true,Bool.or_eq_true,decide_eq_true_eq,decide_eq_false_iff_not,Bool.false_eq_true,Bool.true_eq_false,Option.bind_some,Option.some.injEq,false_iff,true_iff,iff_false,iff_true]; omega)]
  cases fl
  ·simp only [Bool.false_eq_true,if_false] at this ⊢
   rw [Zn (Znk (by rw [ZbU]; simp; omega)),a1,a2,a3,a4]
   exact this
  ·simp only [if_true] at this ⊢
   rw [Zn (Znk (by rw [ZbU]; simp; omega)),a1,a2,a3,a4]
   exact this
set_option maxHeartbeats 4000000 in
theorem s54 (k b s r w l:Int) (d:Bool) (obj bits level width off cnt:Int):g54 k b s r w l d obj bits level width off cnt =
  some (Wm ⟨k,b,s,r,w,l,d⟩ obj bits level width off cnt,Zdn ⟨k,b,s,r,w,l,d⟩ obj bits level width off cnt):=by
 rw [Ztj]
 simp only [s90,s91,s92,Option.bind_some]
 by_cases hh:VG ⟨k,b,s,r,w,l,d⟩=true∧k=1∧iop .and .i64 r 2≠0∧VO obj bits=true∧(obj=3→Zc5 width level=true)∧1≤cnt∧cnt≤8∧0≤off
 ·obtain ⟨h1,rfl,h3,h4,h5,h6,h7,h8⟩:=hh
  obtain ⟨n1,n2,n3,n4,n5,n6,n7,n8,n9,n10,n11,n12,n13,n14,n15,n16⟩:=Zpu h1 h4 h6 h7 h8
  have q1:(ZA ((0:Int)≤bits):Option (List (List AV)×Int)→_)=fun x=>x:=ZiW n7
  have q2:(ZA ((2:Int) ^ bits.toNat≠0):Option (List (List AV)×Int)→_)=fun x=>x:=ZiW n6
  have hw1:IntKind.wrap .u64 bits=bits:=KP n7 (by omega)
  have hw2:IntKind.wrap .u64 s=s:=KP n8 (by simp only at n16; omega)
  have q3:(ZA ((0:Int)≤s):Option (List (List AV)×Int)→_)=fun x=>x:=ZiW n8
  simp only at n3 n5
  have loop:∀ fl:Bool,off+cnt * 2 ^ bits.toNat≤2 ^ s.toNat→VF Zw obj bits level width off cnt 1 b s r w l d fl (2 ^ bits.toNat) [] 0=some (Y0 obj (b+off) (2 ^ bits.toNat) bits r (if fl=true then width else 0) (if fl=true then level else 0) d cnt.toNat,0):=by
   intro fl hle
   have:=l54 (fl:=fl) (k:=1) (s:=s) (r:=r) (w:=w) (l:=l) (d:=d) (lv:=level) (wd:=width) (bits:=bits) (obj:=obj) (cnt:=cnt) n9 h8 (Int.le_of_lt n11) h7 (show b+off+8 * 2 ^ bits.toNat < 2 ^ 62 by
    have e62:(2:Int) ^ 62=4611686018427387904:=by decide
    simp only at n10
    omega) cnt.toNat 0 Zw (by omega) (Zbx (by omega))
   exact this
  have n9':0≤b:=n9
  have n10':b+2 ^ s.toNat≤1099511627776:=n10
  have n5':off≤2 ^ s.toNat→iop .sub .i64 (2 ^ s.toNat) off=2 ^ s.toNat - off:=fun h=>ZkY (by omega) (by omega)
  have hR:Zdn ⟨1,b,s,r,w,l,d⟩ obj bits level width off cnt=if d=true∧obj≠1∧obj≠2 then 5 else if off % 2 ^ bits.toNat≠0∨2 ^ s.toNat - cnt * 2 ^ bits.toNat < off∨(obj=1∧s≤bits) then 6 else 0:=by
   rw [Zdn,if_neg (by simp [h1]),if_neg h3,if_neg (by
    rintro (h | ⟨h,h'⟩ | h | h | h)
    ·rw [h4] at h; cases h
    ·rw [h5 h] at h'; cases h'
    ·omega
    ·omega
    ·omega)]
  have hk1:cop .neq (1:Int) 1=false:=rfl
  simp only [hw1,hw2,n1,n2,n3,n4,q1,q2,q3,h1,h4,hk1,Bool.not_true,Bool.false_eq_true,if_false]
  clear n1 n2 n3 n4 n5 q1 q2 q3
  by_cases e5:d=true∧obj≠1∧obj≠2
  ·rw [if_pos e5] at hR
   obtain ⟨hd,e1,e2⟩:=e5
   repeat' (with_reducible refine Zo (fun _=>?_) (fun _=>?_))
   all_goals first
    | exact ZhW (by decide) hR
    | (exfalso; simp only [JW, J2, JY, JZ, JV, JU, J5, JX, J3, J0, J4, J1, Bool.not_eq_true, Bool.not_eq_false, Bool.not_eq_true', Bool.not_eq_false', Bool.and_eq_true, Bool.or_eq_true, decide_eq_true_eq, decide_eq_false_iff_not, Bool.false_eq_true, Bool.true_eq_false, Option.bind_some, Option.some.injEq, false_iff, true_iff, iff_false, iff_true] at *; first | omega | grind)
  ·rw [if_neg e5] at hR
   by_cases e6:off % 2 ^ bits.toNat≠0∨2 ^ s.toNat - cnt * 2 ^ bits.toNat < off∨(obj=1∧s≤bits)
   ·rw [if_pos e6] at hR
    repeat' (with_reducible refine Zo (fun _=>?_) (fun _=>?_))
    all_goals first
     | exact ZhW (by decide) hR
     | (exfalso; simp only [JW, J2, JY, JZ, JV, JU, J5, JX, J3, J0, J4, J1, Bool.not_eq_true, Bool.not_eq_false, Bool.not_eq_true', Bool.not_eq_false', Bool.and_eq_true, Bool.or_eq_true, decide_eq_true_eq, decide_eq_false_iff_not, Bool.false_eq_true, Bool.true_eq_false, Option.bind_some, Option.some.injEq, false_iff, true_iff, iff_false, iff_true] at *; rw [n5' (by omega)] at *; first | omega | grind)
     | (exfalso; simp only [JW, J2, JY, JZ, JV, JU, J5, JX, J3, J0, J4, J1, Bool.not_eq_true, Bool.not_eq_false, Bool.not_eq_true', Bool.not_eq_false', Bool.and_eq_true, Bool.or_eq_true, decide_eq_true_eq, decide_eq_false_iff_not, Bool.false_eq_true, Bool.true_eq_false, Option.bind_some, Option.some.injEq, false_iff, true_iff, iff_false, iff_true] at *; first | omega | grind)
   ·rw [if_neg e6] at hR
    have hL:∀ fl,VF Zw obj bits level width off cnt 1 b s r w l d fl (2 ^ bits.toNat) [] 0=some (Y0 obj (b+off) (2 ^ bits.toNat) bits r (if fl=true then width else 0) (if fl=true then level else 0) d cnt.toNat,0):=fun fl=>loop fl (by omega)
    have n5:=n5' (by omega)
    simp only [hL,Wm,hR,if_true,n5]
    have hfl:(cop .eql obj 3=true)=(obj=3):=by simp only [JW,J2,JY,JZ,JV,JU,J5,JX,J3,J0,J4,J1,Bool.not_eq_true,Bool.not_eq_false,Bool.not_eq_true',Bool.not_eq_false',Bool.and_eq_true,Bool.or_eq_true,decide_eq_true_eq,decide_eq_false_iff_not,Bool.false_eq_true,Bool.true_eq_false,Option.bind_some,Option.some.injEq,false_iff,true_iff,iff_false,iff_true]
    simp only [hfl]
    repeat' (with_reducible refine Zo (fun _=>?_) (fun _=>?_))
    all_goals first
     | rfl
     | (exfalso; simp only [JW, J2, JY, JZ, JV, JU, J5, JX, J3, J0, J4, J1, Bool.not_eq_true, Bool.not_eq_false, Bool.not_eq_true', Bool.not_eq_false', Bool.and_eq_true, Bool.or_eq_true, decide_eq_true_eq, decide_eq_false_iff_not, Bool.false_eq_true, Bool.true_eq_false, Option.bind_some, Option.some.injEq, false_iff, true_iff, iff_false, iff_true] at *; first | omega | grind)
 ·repeat' (with_reducible refine Zo (fun _=>?_) (fun _=>?_))
  all_goals first
   | exact ZhW (by decide) (by simp only [JW, J2, JY, JZ, JV, JU, J5, JX, J3, J0, J4, J1, Bool.not_eq_true, Bool.not_eq_false, Bool.not_eq_true', Bool.not_eq_false', Bool.and_eq_true, Bool.or_eq_true, decide_eq_true_eq, decide_eq_false_iff_not, Bool.false_eq_true, Bool.true_eq_false, Option.bind_some, Option.some.injEq, false_iff, true_iff, iff_false, iff_true] at *; simp only [Zdn]; grind)
   | (exfalso; simp only [JW, J2, JY, JZ, JV, JU, J5, JX, J3, J0, J4, J1, Bool.not_eq_true, Bool.not_eq_false, Bool.not_eq_true', Bool.not_eq_false', Bool.and_eq_true, Bool.or_eq_true, decide_eq_true_eq, decide_eq_false_iff_not, Bool.false_eq_true, Bool.true_eq_false, Option.bind_some, Option.some.injEq, false_iff, true_iff, iff_false, iff_true] at *; grind)
end Go.Proofs.YthdihcchfjlgkaaGreat
end

section
namespace Go.Proofs.YthdihcchfjlgkaaGreat
open Go Go.AM
set_option linter.unusedSimpArgs false
set_option linter.unusedVariables false
set_option maxRecDepth 100000
def Ret {α:Type} (P:α→Prop) (o:Option α):Prop:=∃ r,o=some r∧P r
theorem Zk {α:Type} {P:α→Prop} {a:α} (h:P a):Ret P (some a):=⟨a,rfl,h⟩
theorem Zc {α β:Type} {P:β→Prop} {Q:α→Prop} {o:Option α} {f:α→Option β} (h:Ret Q o) (k:∀ r,Q r→Ret P (f r)):Ret P (o.bind f):=by
 obtain ⟨r,rfl,hr⟩:=h
 exact k r hr
theorem Zq {α:Type} {P:α→Prop} {c:Prop} {_:Decidable c} {a b:Option α} (h1:c→Ret P a) (h2:¬ c→Ret P b):Ret P (if c then a else b):=by
 split
 ·exact h1 ‹_›
 ·exact h2 ‹_›
theorem Zp {α:Type} {P:α→Prop} {p:Prop} {_:Decidable p} {x:Option α} (h:p) (k:Ret P x):Ret P (ZA p x):=by
 rw [Zn h]; exact k
theorem Ze {α:Type} {P:α→Prop} {a b:Option α} (h:a=b) (k:Ret P b):Ret P a:=h ▸ k
theorem Zjk {α:Type} {P Q:α→Prop} {o:Option α} (h:Ret P o) (k:∀ r,P r→Q r):Ret Q o:=by
 obtain ⟨r,e,hr⟩:=h
 exact ⟨r,e,k r hr⟩
theorem Jx {α β:Type} {P:β→Prop} {o:Option α} {a:α} {f:α→Option β} (h:o=some a) (k:Ret P (f a)):Ret P (o.bind f):=by
 subst h; exact k
theorem Vj {σ γ:Type} {P:γ→Prop} {F:Nat→σ→Int→Option γ} {n:Nat} (J:Nat→σ→Prop) (hn:n < 2 ^ 63)
  (step:∀ (k i:Nat) (s:σ),i < n→J i s→(∀ s',J (i+1) s'→Ret P (F k s' ((i+1:Nat):Int)))→Ret P (F (k+1) s (i:Int)))
  (last:∀ (k:Nat) (s:σ),J n s→Ret P (F (k+1) s (n:Int))) (s:σ) (h:J 0 s):Ret P (F Zw s 0):=by
 have key:∀ (j i fuel:Nat) (s:σ),i+j=n→j < fuel→J i s→Ret P (F fuel s (i:Int)):=by
  intro j
  induction j with
  | zero =>
   intro i fuel s h hf hj
   obtain ⟨q,rfl⟩:∃ q,fuel=q+1:=⟨fuel - 1,by omega⟩
   have:i=n:=by omega
   subst this
   exact last q s hj
  | succ j ih =>
   intro i fuel s h hf hj
   obtain ⟨q,rfl⟩:∃ q,fuel=q+1:=⟨fuel - 1,by omega⟩
   exact step q i s (by omega) hj fun s' hs=>ih (i+1) q s' (by omega) (by omega) hs
 exact key n 0 Zw s (by omega) (by have:=JA hn; omega) h
theorem place (x n:Int) (h1:1≤n) (h2:n < 2 ^ 62):Ret (fun r=>0≤r∧r < n) (g8 x n):=⟨_,s8 x n h1 h2,Int.emod_nonneg x (by omega),Int.emod_lt_of_pos x (by omega)⟩
theorem Zv (l:List Int) (z:Int):Ret (fun _=>True) (g21 (Za l) z):=by
 rw [Zs6]
 refine Zq (fun _=>Zk trivial) fun h1=>Zq (fun _=>Zk trivial) fun h2=>?_
 simp only [CQ,ZN] at h1 h2
 have e:z=((z.toNat:Nat):Int):=by omega
 have hl:z.toNat < l.length:=by omega
 have:=Z0 (γ:=Int) hl (fun r=>some r)
 rw [← e] at this
 exact Ze this (Zk trivial)
theorem ZbY {γ:Type} {P:γ→Prop} {l:List Int} {z:Int} {k:Int→Option γ} (h0:0≤z) (h:z.toNat < l.length) (hk:Ret P (k l[z.toNat])):Ret P (Zl (Za l) z [.int .i64] k):=by
 have e:z=((z.toNat:Nat):Int):=by omega
 have:=Z0 h k
 rw [← e] at this
 exact Ze this hk
theorem KG {γ:Type} {P:γ→Prop} {l:List ZJ} {z:Int} {k:ShsT Zda→Option γ} (h0:0≤z) (h:z.toNat < l.length) (hk:Ret P (k (Yf l[z.toNat]))):Ret P (Zl (l.map Zd) z Zda k):=by
 have e:z=((z.toNat:Nat):Int):=by omega
 have:=Zu h k
 rw [← e] at this
 exact Ze this hk
def ZnC (c:Cap):List AV:=[I c.kind,I c.base,I c.bits,I c.rights,I c.width,I c.level,B c.device]
abbrev Zmo:List Sh:=[.int .i64,.int .i64,.int .i64,.int .i64,.int .i64,.int .i64,.bool]
def ZsD (c:Cap):ShsT Zmo:=(c.kind,c.base,c.bits,c.rights,c.width,c.level,c.device)
theorem Zal {γ:Type} {l:List Cap} {i:Nat} (h:i < l.length) (k:ShsT Zmo→Option γ):Zl (l.map ZnC) (i:Int) Zmo k=k (ZsD l[i]):=J9 (fun _=>rfl) h k
def atP {α:Type} (q:α→Bool) (p:List α) (i:Nat):Bool:=match p[i]? with | some x=>q x | none=>false
theorem Zer {α:Type} (q:α→Bool) {p:List α} {i:Nat} (h:i < p.length):atP q p i=q p[i]:=by unfold atP; rw [List.getElem?_eq_getElem h]
def idE (i:Id) (e:ZJ):Bool:=decide (e.node.id=i)
def plE (c s:Int) (e:ZJ):Bool:=decide (e.core=c)&&decide (e.slot=s)
theorem s85 (l:List ZJ) (hn:l.length < 2 ^ 63) (j:Id):g85 (l.map Zd) j.core j.op j.part=some (ZdJ l.length (Zbi (idE j) l)):=by
 rw [ZvW]
 exact ZaP (F:=fun k z=>Zkw k (l.map Zd) j.core j.op j.part z) (n:=l.length) (fun m=>ZdJ l.length m) (atP (idE j) l) hn
  (fun k i hi=>by
   show Zkw (k+1) _ _ _ _ _=_
   rw [Zjn,List.length_map,if_pos (Z2 hi)]
   refine (Zu hi _).trans ?_
   simp only [Yf,d2,d4,d8,d16]
   rw [ZR hi hn,Zer _ hi,V9 hi,idE]
   refine Zo (fun h1=>?_) fun h1=>?_
   ·rw [if_pos (by rw [JO] at h1; rw [decide_eq_true_eq]; exact h1)]
   ·rw [if_neg (by rw [JO] at h1; rw [decide_eq_true_eq]; exact h1)])
  (fun k=>by
   show Zkw (k+1) _ _ _ _ _=_
   rw [Zjn,List.length_map,if_neg (ZZ (Nat.le_refl _)),ZdJ,if_neg (Nat.lt_irrefl _)]) (Zbi (idE j) l) (VZ _ l) (fun i hi=>by
    have hl:=VZ (idE j) l
    rw [Zer _ (by omega)]; exact Zev _ l i (by omega) hi) (fun h=>by rw [Zer _ h]; exact Zgd _ l h)
theorem ZBn (l:List ZJ) (hn:l.length < 2 ^ 63) (c s:Int):ZyH (l.map Zd) c s=some (ZdJ l.length (Zbi (plE c s) l)):=by
 rw [Zrl]
 exact ZaP (F:=fun k z=>Zdh k (l.map Zd) c s z) (n:=l.length) (fun m=>ZdJ l.length m) (atP (plE c s) l) hn
  (fun k i hi=>by
   show Zdh (k+1) _ _ _ _=_
   rw [Zg5,List.length_map,if_pos (Z2 hi)]
   refine (Zu hi _).trans ?_
   simp only [Yf,d2,d4,d8,d16]
   rw [ZR hi hn,Zer _ hi,V9 hi,plE]
   refine Zo (fun h1=>?_) fun h1=>?_
   ·simp only [CQ] at h1
    refine (Zu hi _).trans ?_
    simp only [Yf,d2,d4,d8,d16]
    refine Zo (fun h2=>?_) fun h2=>?_
    ·simp only [CQ] at h2
     rw [if_pos (by simp [h1,h2])]
    ·simp only [CQ] at h2
     rw [if_neg (by simp [h2])]
   ·simp only [CQ] at h1
    rw [if_neg (by simp [h1])])
  (fun k=>by
   show Zdh (k+1) _ _ _ _=_
   rw [Zg5,List.length_map,if_neg (ZZ (Nat.le_refl _)),ZdJ,if_neg (Nat.lt_irrefl _)]) (Zbi (plE c s) l) (VZ _ l) (fun i hi=>by
    have hl:=VZ (plE c s) l
    rw [Zer _ (by omega)]; exact Zev _ l i (by omega) hi) (fun h=>by rw [Zer _ h]; exact Zgd _ l h)
structure ZsY (l:List ZJ):Prop where
 len:l.length≤100
 path:∀ e∈l,e.node.path.length≤20
theorem ZzW (l:List ZJ) (h:ZsY l):ZpD (l.map Zd)=some (l.map Zd):=by
 rw [Zr7]
 have hn:l.length < 2 ^ 63:=by have:=h.len; omega
 refine (ZiE (F:=fun k acc i=>Zeu k (l.map Zd) acc i) l (fun r=>[Zd r]) hn (fun k i hi=>?_) (fun k acc i hi=>?_)).trans (by rw [Wq])
 ·show Zeu (k+1) _ _ _=_
  rw [Zhq,List.length_map,if_pos (Z2 hi)]
  refine (Zu hi _).trans ?_
  simp only [Yf,d2,d4,d8,d16]
  refine (Zu hi _).trans ?_
  refine (Zu hi _).trans ?_
  have hp:=h.path l[i] (List.getElem_mem hi)
  simp only [Yf,d2,d4,d8,d16]
  rw [s26 l[i].node (by omega),Option.bind_some]
  refine (Zn (Zy ?_ (by omega)) _).trans ?_
  ·rw [Wq]
   have:=h.len
   simp only [List.length_map,List.length_take,List.length_append,List.length_cons,List.length_nil]
   omega
  ·rw [ZR hi hn]
   rfl
 ·show Zeu (k+1) _ _ _=_
  rw [Zhq,List.length_map,if_neg (ZZ hi)]
def ZtQ (l:List ZJ) (x:ZJ) (r:List ZJ):Prop:=∃ i,i≤l.length∧(∀ j (h:j < l.length),j < i→lte x l[j]=false)∧(∀ h:i < l.length,lte x l[i]=true)∧l.any (idE x.node.id)=false∧l.any (plE x.core x.slot)=false∧r=l.take i++[x]++l.drop i
theorem Zpx {α:Type} (q:α→Bool) (l:List α) (h:¬ cop .geq (ZdJ l.length (Zbi q l)) 0=true):l.any q=false:=by
 rw [ZfI,decide_eq_true_eq] at h
 rw [List.any_eq_false]
 intro x hx
 obtain ⟨i,hi,rfl⟩:=List.getElem_of_mem hx
 have:=Zev q l i hi (by omega)
 simp [this]
theorem Zmw {l m:List ZJ} (h:ZsY l) (hs:∀ e∈m,e∈l) (hl:m.length≤l.length):ZsY m:=⟨by have:=h.len; omega,fun e he=>h.path e (hs e he)⟩
theorem s89 (l:List ZJ) (h:ZsY l) (x:ZJ) (hx:x.node.path.length≤20):Ret (fun r=>r=(E0,false)∨∃ m,ZtQ l x m∧r=(m.map Zd,true)) (g89 (l.map Zd) x.core x.slot x.node.id.core x.node.id.op x.node.id.part (Zb x.node.path) x.node.cap.kind x.node.cap.base x.node.cap.bits x.node.cap.rights x.node.cap.width x.node.cap.level x.node.cap.device):=by
 have hn:l.length < 2 ^ 63:=by have:=h.len; omega
 rw [Zt0,s85 l hn x.node.id,Option.bind_some]
 refine Zq (fun _=>Zk (.inl rfl)) fun h1=>?_
 rw [ZBn l hn,Option.bind_some]
 refine Zq (fun _=>Zk (.inl rfl)) fun h2=>?_
 have n1:=Zpx _ _ h1
 have n2:=Zpx _ _ h2
 have ins:∀ (i:Nat),i≤l.length→(∀ j (h:j < l.length),j < i→lte x l[j]=false)→(∀ h:i < l.length,lte x l[i]=true)→Ret (fun r=>r=(E0,false)∨∃ m,ZtQ l x m∧r=(m.map Zd,true)) (ZA ((0:Int)≤(i:Int))<|ZA ((i:Int)≤(List.length (l.map Zd):Int))<|
   (ZpD (List.take (Int.toNat (i:Int)) (l.map Zd))).bind fun (r29:LL)=>(g26 x.node.id.core x.node.id.op x.node.id.part (Zb x.node.path) x.node.cap.kind x.node.cap.base x.node.cap.bits x.node.cap.rights x.node.cap.width x.node.cap.level x.node.cap.device).bind fun r30=>
   ZA (Jy r29 (E0++[[I x.core,I x.slot,I r30.1,I r30.2.1,I r30.2.2.1,AV.slice false 3 r30.2.2.2.1,I r30.2.2.2.2.1,I r30.2.2.2.2.2.1,I r30.2.2.2.2.2.2.1,I r30.2.2.2.2.2.2.2.1,I r30.2.2.2.2.2.2.2.2.1,I r30.2.2.2.2.2.2.2.2.2.1,AV.val (.bool r30.2.2.2.2.2.2.2.2.2.2)]]) 120)<|
   ZA ((0:Int)≤(i:Int))<|ZA ((i:Int)≤(List.length (l.map Zd):Int))<|(ZpD (List.drop (Int.toNat (i:Int)) (l.map Zd))).bind fun (r41:LL)=>
   ZA (Jy (r29++(E0++[[I x.core,I x.slot,I r30.1,I r30.2.1,I r30.2.2.1,AV.slice false 3 r30.2.2.2.1,I r30.2.2.2.2.1,I r30.2.2.2.2.2.1,I r30.2.2.2.2.2.2.1,I r30.2.2.2.2.2.2.2.1,I r30.2.2.2.2.2.2.2.2.1,I r30.2.2.2.2.2.2.2.2.2.1,AV.val (.bool r30.2.2.2.2.2.2.2.2.2.2)]])) r41 120)<|
   some (((r29++(E0++[[I x.core,I x.slot,I r30.1,I r30.2.1,I r30.2.2.1,AV.slice false 3 r30.2.2.2.1,I r30.2.2.2.2.1,I r30.2.2.2.2.2.1,I r30.2.2.2.2.2.2.1,I r30.2.2.2.2.2.2.2.1,I r30.2.2.2.2.2.2.2.2.1,I r30.2.2.2.2.2.2.2.2.2.1,AV.val (.bool r30.2.2.2.2.2.2.2.2.2.2)]]))++r41),true)):=by
  intro i hi hlo hhi
  have hl:=h.len
  refine Zp (by omega) (Zp (by rw [List.length_map]; omega) ?_)
  rw [Int.toNat_natCast,← List.map_take,← List.map_drop,ZzW _ (Zmw h (fun e he=>List.mem_of_mem_take he) (by simp; omega)),Option.bind_some,s26 x.node (by omega),Option.bind_some]
  refine Zp (Zy (by simp; omega) (by omega)) (Zp (by omega) (Zp (by rw [List.length_map]; omega) ?_))
  rw [ZzW _ (Zmw h (fun e he=>List.mem_of_mem_drop he) (by simp)),Option.bind_some]
  refine Zp (Zy (by simp; omega) (by omega)) (Zk (.inr ⟨_,⟨i,hi,hlo,hhi,n1,n2,rfl⟩,?_⟩))
  simp [Zd,Ze3]
 refine Vj (F:=fun k (_:Unit) z=>Zlf k (l.map Zd) x.core x.slot x.node.id.core x.node.id.op x.node.id.part (Zb x.node.path) x.node.cap.kind x.node.cap.base x.node.cap.bits x.node.cap.rights x.node.cap.width x.node.cap.level x.node.cap.device z) (n:=l.length) (fun i _=>∀ j (h:j < l.length),j < i→lte x l[j]=false) hn (fun k i _ hi hJ ih=>?_) (fun k _ hJ=>?_) () (fun j _ h0=>absurd h0 (Nat.not_lt_zero _))
 ·show Ret _ (Zlf (k+1) _ _ _ _ _ _ _ _ _ _ _ _ _ _ _)
  rw [ZjU,List.length_map,if_pos (Z2 hi)]
  refine Ze (Zu hi _) ?_
  simp only [Yf,d2,d4,d8,d16]
  rw [s25,Option.bind_some]
  refine Zq (fun hc=>?_) fun hc=>?_
  ·rw [ZR hi hn]
   refine ih () fun j h1 h2=>?_
   by_cases hji:j < i
   ·exact hJ j h1 hji
   ·have:j=i:=by omega
    subst this
    rw [Bool.not_eq_true'] at hc
    exact hc
  ·have:=ins i (by omega) hJ fun _=>by rw [Bool.not_eq_true',Bool.not_eq_false] at hc; exact hc
   rw [List.length_map] at this
   exact this
 ·show Ret _ (Zlf (k+1) _ _ _ _ _ _ _ _ _ _ _ _ _ _ _)
  rw [ZjU,List.length_map,if_neg (ZZ (Nat.le_refl _))]
  have:=ins l.length (Nat.le_refl _) hJ fun h=>absurd h (Nat.lt_irrefl _)
  rw [List.length_map] at this
  exact this
theorem s52 (l:List ZJ) (h:ZsY l) (x:ZJ) (hx:x.node.path.length≤20):Ret (fun r=>∃ m,(m=l∨ZtQ l x m)∧r=m.map Zd) (g52 (l.map Zd) x.core x.slot x.node.id.core x.node.id.op x.node.id.part (Zb x.node.path) x.node.cap.kind x.node.cap.base x.node.cap.bits x.node.cap.rights x.node.cap.width x.node.cap.level x.node.cap.device):=by
 rw [Ztf]
 refine Zc (s89 l h x hx) fun r hr=>?_
 rcases hr with rfl | ⟨m,hm,rfl⟩
 ·exact Zq (fun _=>Zk ⟨l,.inl rfl,rfl⟩) fun h=>absurd rfl h
 ·exact Zq (fun h=>absurd h (by simp)) fun _=>Zk ⟨m,.inr hm,rfl⟩
structure Zm0 (s:Yr) (i:Id) (c:Cap):Prop where
 src:ZK s=true
 id:WM i=true
 cap:VG c=true
 ne:i≠s.id
 fresh:s.path.contains i=false
 room:s.path.length < 8
def Zdj (s:Yr) (i:Id) (c:Cap):Yr:=⟨i,s.path++[s.id],c⟩
theorem s55 (s:Yr) (hs:s.path.length≤20) (i:Id) (c:Cap):Ret (fun r=>(∃ e:Int,e≠0∧r=(0,0,0,E0,0,0,0,0,0,0,false,e))∨(Zm0 s i c∧r=(i.core,i.op,i.part,Zb (s.path++[s.id]),c.kind,c.base,c.bits,c.rights,c.width,c.level,c.device,0)))
  (g55 s.id.core s.id.op s.id.part (Zb s.path) s.cap.kind s.cap.base s.cap.bits s.cap.rights s.cap.width s.cap.level s.cap.device i.core i.op i.part c.kind c.base c.bits c.rights c.width c.level c.device):=by
 rw [Zt2,s93 s (by omega),Option.bind_some]
 refine Zq (fun _=>Zk (.inl ⟨1,by omega,rfl⟩)) fun h1=>?_
 rw [s94,Option.bind_some]
 refine Zq (fun _=>Zk (.inl ⟨1,by omega,rfl⟩)) fun h2=>?_
 rw [s90,Option.bind_some]
 refine Zq (fun _=>Zk (.inl ⟨1,by omega,rfl⟩)) fun h3=>?_
 refine Zq (fun _=>Zk (.inl ⟨1,by omega,rfl⟩)) fun h4=>?_
 rw [JO] at h4
 rw [s58 s.path (by omega),Option.bind_some]
 refine Zq (fun _=>Zk (.inl ⟨1,by omega,rfl⟩)) fun h5=>?_
 refine Zq (fun _=>Zk (.inl ⟨9,by omega,rfl⟩)) fun h6=>?_
 rw [s56 s.path (by omega),Option.bind_some]
 refine Zp (Zy (by rw [Z1]; simp; omega) (by omega)) (Zk (.inr ⟨?_,?_⟩))
 ·simp only [Bool.not_eq_true',Bool.not_eq_false] at h1 h2 h3
  simp only [Bool.not_eq_true] at h5
  have h8:=Vt h1
  simp only [CQ,Z1] at h6
  exact ⟨h1,h2,h3,h4,h5,by omega⟩
 ·simp [Zb,idc]
end Go.Proofs.YthdihcchfjlgkaaGreat
end

section
namespace Go.Proofs.YthdihcchfjlgkaaGreat
open Go Go.AM
set_option linter.unusedSimpArgs false
set_option linter.unusedVariables false
set_option maxRecDepth 100000
theorem ZxE {a b:Int} (h0:0≤b) (h1:b≤62) (h2:0≤a) (h3:a * 2 ^ b.toNat < 2 ^ 63):iop .shl .i64 a b=a * 2 ^ b.toNat:=by
 have hmin:min b.toNat IntKind.i64.bits=b.toNat:=by
  have:IntKind.i64.bits=64:=rfl
  omega
 simp only [iop,hmin]
 have hp:=Yy b.toNat
 have:0≤a * 2 ^ b.toNat:=Int.mul_nonneg h2 (by omega)
 rw [Zbv (by omega) h3]
theorem s84 (a b:Int):Ret (fun r=>∃ k q:Int,r=(q * 2 ^ k.toNat,k)∧6≤k∧k≤16∧0≤q∧q < 2 ^ (16 - k).toNat) (g84 a b):=by
 rw [Zuz]
 refine Zc (place b 11 (by omega) (by omega)) fun x hx=>?_
 obtain ⟨k,hk⟩:∃ k,k=6+x:=⟨_,rfl⟩
 have e1:iop .add .i64 6 x=k:=by rw [Y8 (by omega) (by omega),hk]
 have e2:iop .sub .i64 16 k=16 - k:=ZkY (by omega) (by omega)
 have w1:IntKind.wrap .u64 (16 - k)=16 - k:=KP (by omega) (by omega)
 have w2:IntKind.wrap .u64 k=k:=KP (by omega) (by omega)
 have hp:(2:Int) ^ (16 - k).toNat < 2 ^ 62:=by
  have:=ZmM (m:=(16 - k).toNat) (n:=16) (by omega)
  have e:(2:Int) ^ 16=65536:=by decide
  have e:(2:Int) ^ 62=4611686018427387904:=by decide
  omega
 have hp1:=Yy (16 - k).toNat
 rw [e1,e2,w1,w2,Zs1 (by omega)]
 refine Zp (by omega) (Zc (place a _ (by omega) hp) fun q hq=>Zp (by omega) (Zk ⟨k,q,?_,by omega,by omega,hq.1,hq.2⟩))
 have hm:q * 2 ^ k.toNat < 2 ^ 63:=by
  have h1:q * 2 ^ k.toNat≤2 ^ (16 - k).toNat * 2 ^ k.toNat:=Int.mul_le_mul_of_nonneg_right (by omega) (by have:=Yy k.toNat; omega)
  rw [← Int.pow_add,show (16 - k).toNat+k.toNat=16 by omega] at h1
  have e:(2:Int) ^ 16=65536:=by decide
  have e:(2:Int) ^ 63=9223372036854775808:=by decide
  omega
 rw [ZxE (by omega) (by omega) hq.1 hm]
theorem s50 (a b:Int):Ret (fun r=>∃ c:Cap,r=ZsD c∧VG c=true) (g50 a b):=by
 rw [ZuF]
 refine Zc (s84 a b) fun r ⟨k,q,hr,h1,h2,h3,h4⟩=>?_
 subst hr
 refine Zk ⟨⟨1,q * 2 ^ k.toNat,k,7,0,0,false⟩,rfl,?_⟩
 have hm:(q+1) * 2 ^ k.toNat≤65536:=by
  have h5:(q+1) * 2 ^ k.toNat≤2 ^ (16 - k).toNat * 2 ^ k.toNat:=Int.mul_le_mul_of_nonneg_right (by omega) (by have:=Yy k.toNat; omega)
  rw [← Int.pow_add,show (16 - k).toNat+k.toNat=16 by omega] at h5
  have e:(2:Int) ^ 16=65536:=by decide
  omega
 rw [Int.add_mul,Int.one_mul] at hm
 have h6:0≤q * 2 ^ k.toNat:=Int.mul_nonneg h3 (by have:=Yy k.toNat; omega)
 have h7:q * 2 ^ k.toNat % 2 ^ k.toNat=0:=Int.mul_emod_left ..
 simp [VG,VO,K4,h6,h7]
 omega
theorem ZoO (c:Cap) (obj bits level width off cnt:Int):∃ cs:List Cap,Wm c obj bits level width off cnt=cs.map ZnC∧(cs.length:Int)≤max 0 cnt:=by
 unfold Wm
 split
 ·refine ⟨(List.range cnt.toNat).map fun (j:Nat)=>⟨obj,c.base+off+(j:Int) * 2 ^ bits.toNat,bits,c.rights,if obj=3 then width else 0,if obj=3 then level else 0,c.device⟩,?_,by simp; omega⟩
  rw [List.map_map]; rfl
 ·exact ⟨[],rfl,by simp; omega⟩
theorem l51 (rec0:List V→Option Bool) (l:List ZJ) (hn:l.length < 2 ^ 63) (cs:List Cap) (m i:Nat) (hi:i < cs.length) (ih':Ret (fun _=>True) (rec0 [.l (l.map Zd),.l (cs.map ZnC),.i (ZdJ l.length m),.i (iop .add .i64 (i:Int) 1)])) :
  Ret (fun _=>True) (ZcA rec0 Zw (l.map Zd) (cs.map ZnC) (ZdJ l.length m) (i:Int) 0):=by
 refine Vj (P:=fun _=>True) (F:=fun k2 (_:Unit) z=>ZcA rec0 k2 (l.map Zd) (cs.map ZnC) (ZdJ l.length m) (i:Int) z) (n:=l.length) (fun _ _=>True) hn (fun k2 t _ ht _ ih2=>?_) (fun k2 _ _=>?_) () trivial
 ·show Ret _ (ZcA _ (k2+1) _ _ _ _ _)
  rw [ZjT,List.length_map,if_pos (Z2 ht)]
  refine Ze (Zu ht _) ?_
  simp only [Yf,d2,d4,d8,d16]
  have nxt:Ret (fun _=>True) (ZcA rec0 k2 (l.map Zd) (cs.map ZnC) (ZdJ l.length m) (i:Int) (iop .add .i64 (t:Int) 1)):=by rw [ZR ht hn]; exact ih2 () trivial
  refine Zq (fun h1=>?_) fun h1=>?_
  ·rw [ZfI,decide_eq_true_eq] at h1
   refine Zq (fun h2=>?_) fun h2=>?_
   ·rw [s87,Option.bind_some]
    refine Ze (congrArg (fun z=>Zl (l.map Zd) z _ _) (V9 h1)) ?_
    refine Ze (Zu h1 _) ?_
    simp only [Yf,d2,d4,d8,d16]
    rw [s87,Option.bind_some,s86,Option.bind_some,Option.bind_some]
    refine Ze (Zal hi _) ?_
    simp only [ZsD]
    rw [s87,Option.bind_some,s88,Option.bind_some]
    exact Zq (fun _=>Zq (fun _=>Zk trivial) fun _=>nxt) fun _=>nxt
   ·rw [s87,Option.bind_some]
    refine Ze (Zal hi _) ?_
    simp only [ZsD]
    rw [s87,Option.bind_some,s88,Option.bind_some]
    exact Zq (fun _=>Zk trivial) fun _=>nxt
  ·rw [s87,Option.bind_some]
   refine Ze (Zal hi _) ?_
   simp only [ZsD]
   rw [s87,Option.bind_some,s88,Option.bind_some]
   exact Zq (fun _=>Zk trivial) fun _=>nxt
 ·show Ret _ (ZcA _ (k2+1) _ _ _ _ _)
  rw [ZjT,List.length_map,if_neg (ZZ (Nat.le_refl _))]
  exact ih'
theorem s51 (l:List ZJ) (hn:l.length < 2 ^ 63) (j:Id) (cs:List Cap) (hc:cs.length < 2 ^ 63):Ret (fun _=>True) (g51 (l.map Zd) j.core j.op j.part (cs.map ZnC)):=by
 rw [Zta,s85 l hn j,Option.bind_some]
 generalize hm:Zbi (idE j) l=m
 refine Vj (F:=fun k (_:Unit) z=>Zl1 k (l.map Zd) (cs.map ZnC) (ZdJ l.length m) z) (n:=cs.length) (fun _ _=>True) hc (fun k i _ hi _ ih=>?_) (fun k _ _=>?_) () trivial
 ·show Ret _ (Zl1 (k+1) _ _ _ _)
  rw [Zi8,List.length_map,if_pos (Z2 hi)]
  exact l51 _ l hn cs m i hi (by rw [ZR hi hc]; exact ih () trivial)
 ·show Ret _ (Zl1 (k+1) _ _ _ _)
  rw [Zi8,List.length_map,if_neg (ZZ (Nat.le_refl _))]
  exact Zk trivial
structure EOk (e:ZJ):Prop where
 c0:0≤e.core
 c1:e.core < 4
 s0:0≤e.slot
 s1:e.slot < 16
 ic:e.node.id.core=e.core
 o1:1≤e.node.id.op
 o2:e.node.id.op≤40
 p0:0≤e.node.id.part
 p1:e.node.id.part < 3
 ok:ZK e.node=true
structure FOk (l:List ZJ) (n:Nat):Prop where
 len:l.length≤n
 all:∀ e∈l,EOk e
 asc:l.Pairwise fun a b=>lte a b=true
theorem Yb {n:Yr} (h:ZK n=true):WM n.id=true∧VG n.cap=true∧n.path.length≤8∧(List.range n.path.length).all (VA n)=true:=by
 simp only [ZK,Bool.and_eq_true,decide_eq_true_eq] at h
 exact ⟨h.1.1.1,h.1.1.2,h.1.2,h.2⟩
theorem FOk.few {l:List ZJ} {n:Nat} (h:FOk l n) (hn:n≤100):ZsY l:=⟨by have:=h.len; omega,fun e he=>by have:=(Yb (h.all e he).ok).2.2.1; omega⟩
theorem ZgS {a b:ZJ} : lte a b=true↔(a.node.id.core < b.node.id.core∨(a.node.id.core=b.node.id.core∧(a.node.id.op < b.node.id.op∨(a.node.id.op=b.node.id.op∧a.node.id.part < b.node.id.part)))):=by simp [lte,ZsJ,ZsI]
theorem Zls {a b c:ZJ} (h1:lte a b=true) (h2:lte b c=true):lte a c=true:=by
 rw [ZgS] at *; omega
theorem Znq {a b:ZJ} (h:lte a b=false) (hne:a.node.id≠b.node.id):lte b a=true:=by
 rw [← Bool.not_eq_true,ZgS] at h
 rw [ZgS]
 have:¬ (a.node.id.core=b.node.id.core∧a.node.id.op=b.node.id.op∧a.node.id.part=b.node.id.part):=fun ⟨e1,e2,e3⟩=>hne (by cases ha:a.node.id; cases hb:b.node.id; simp_all)
 omega
theorem Zoi {l m:List ZJ} {x:ZJ} (h:l.Pairwise fun a b=>lte a b=true) (ha:ZtQ l x m):m.Pairwise fun a b=>lte a b=true:=by
 obtain ⟨i,hi,hlo,hhi,hid,_,rfl⟩:=ha
 have hge:∀ j (hj:j < l.length),i≤j→lte x l[j]=true:=by
  intro j hj hij
  have h1:lte x (l[i]'(by omega))=true:=hhi (by omega)
  by_cases hji:j=i
  ·subst hji; exact h1
  ·exact Zls h1 (List.pairwise_iff_getElem.1 h i j (by omega) hj (by omega))
 rw [List.pairwise_append,List.pairwise_append]
 refine ⟨⟨h.take,List.pairwise_singleton ..,fun a ha b hb=>?_⟩,h.drop,fun a ha b hb=>?_⟩
 ·rw [List.mem_singleton] at hb
  subst hb
  obtain ⟨j,hj,rfl⟩:=List.getElem_of_mem ha
  rw [List.length_take] at hj
  rw [List.getElem_take]
  refine Znq (hlo j (by omega) (by omega)) fun he=>?_
  rw [List.any_eq_false] at hid
  have:=hid _ (List.getElem_mem (show j < l.length by omega))
  rw [idE,decide_eq_true_eq] at this
  exact this he.symm
 ·obtain ⟨k,hk,rfl⟩:=List.getElem_of_mem hb
  rw [List.length_drop] at hk
  rw [List.getElem_drop]
  rw [List.mem_append,List.mem_singleton] at ha
  rcases ha with ha | rfl
  ·obtain ⟨j,hj,rfl⟩:=List.getElem_of_mem ha
   rw [List.length_take] at hj
   rw [List.getElem_take]
   exact List.pairwise_iff_getElem.1 h j (i+k) (by omega) (by omega) (by omega)
  ·exact hge (i+k) (by omega) (by omega)
theorem ZmQ {l m:List ZJ} {x:ZJ} {n:Nat} (h:FOk l n) (hx:EOk x) (ha:m=l∨ZtQ l x m):FOk m (n+1):=by
 rcases ha with rfl | ha
 ·exact ⟨by have:=h.len; omega,h.all,h.asc⟩
 ·have hasc:=Zoi h.asc ha
  obtain ⟨i,hi,_,_,_,_,rfl⟩:=ha
  refine ⟨by have:=h.len; simp; omega,fun e he=>?_,hasc⟩
  simp only [List.mem_append,List.mem_singleton] at he
  rcases he with (he | rfl) | he
  ·exact h.all e (List.mem_of_mem_take he)
  ·exact hx
  ·exact h.all e (List.mem_of_mem_drop he)
theorem Zmz (i:Id) (c:Cap) (hi:WM i=true) (hc:VG c=true):ZK ⟨i,[],c⟩=true:=by simp [ZK,hi,hc]
theorem ZjB {s:Yr} {i:Id} {c:Cap} (h:Zm0 s i c):ZK (Zdj s i c)=true:=by
 obtain ⟨k1,k2,k3,k4⟩:=Yb h.src
 have hr:=h.room
 simp only [ZK,Zdj,Bool.and_eq_true,decide_eq_true_eq,h.id,h.cap,true_and,List.length_append,List.length_cons,List.length_nil]
 refine ⟨by omega,?_⟩
 rw [List.all_eq_true] at k4 ⊢
 intro j hj
 rw [List.mem_range] at hj
 by_cases hjl:j < s.path.length
 ·have:=k4 j (List.mem_range.2 hjl)
  simp only [VA,List.getElem?_eq_getElem hjl] at this
  simp only [VA,List.getElem?_append_left hjl,List.getElem?_eq_getElem hjl,List.take_append_of_le_length (Nat.le_of_lt hjl)]
  simp only [Bool.and_eq_true,decide_eq_true_eq] at this ⊢
  refine ⟨⟨this.1.1,fun he=>?_⟩,this.2⟩
  have hf:=h.fresh
  rw [← he] at hf
  simp at hf
 ·have hje:j=s.path.length:=by omega
  subst hje
  simp only [VA,List.getElem?_append_right (Nat.le_refl _),Nat.sub_self,List.getElem?_cons_zero,List.take_left]
  simp only [Bool.and_eq_true,decide_eq_true_eq]
  refine ⟨⟨k1,fun he=>h.ne he.symm⟩,?_⟩
  rw [Bool.not_eq_true',← Bool.not_eq_true,List.contains_iff_mem]
  intro hm
  obtain ⟨t,ht,hte⟩:=List.getElem_of_mem hm
  have:=k4 t (List.mem_range.2 ht)
  simp only [VA,List.getElem?_eq_getElem ht,hte] at this
  simp at this
theorem l20 (src:Yr) (hs:src.path.length≤20) (root:Bool) (op core slot:Int) (hc0:0≤core) (hc1:core < 4) (hs0:0≤slot) (hs1:slot < 8) (h1:1≤op) (h2:op≤40) (cs:List Cap) (hcs:cs.length≤3) (l:List ZJ) (n:Nat) (hn:n≤60) (h:FOk l n) :
  Ret (fun r=>∃ m,FOk m (n+3)∧r=m.map Zd) (Zhu Zw (l.map Zd) op core slot src.id.core src.id.op src.id.part (Zb src.path) src.cap.kind src.cap.base src.cap.bits src.cap.rights src.cap.width src.cap.level src.cap.device (cs.map ZnC) 0):=by
 refine Vj (F:=fun k (s:LL) z=>Zhu k s op core slot src.id.core src.id.op src.id.part (Zb src.path) src.cap.kind src.cap.base src.cap.bits src.cap.rights src.cap.width src.cap.level src.cap.device (cs.map ZnC) z) (n:=cs.length) (fun i s=>∃ m,FOk m (n+i)∧s=m.map Zd) (by omega) (fun k i s hi hj ih=>?_) (fun k s hj=>?_) _ ⟨l,h,rfl⟩
 ·obtain ⟨m,hm,rfl⟩:=hj
  show Ret _ (Zhu (k+1) _ _ _ _ _ _ _ _ _ _ _ _ _ _ _ _ _)
  rw [ZjM,List.length_map,if_pos (Z2 hi)]
  refine Ze (Zal hi _) ?_
  simp only [ZsD]
  refine Zc (s55 src hs ⟨core,op,(i:Int)⟩ cs[i]) fun r hr=>?_
  rcases hr with ⟨e,he,rfl⟩ | ⟨hk,rfl⟩
  ·refine Zq (fun _=>Zk ⟨m,⟨by have:=hm.len; omega,hm.all,hm.asc⟩,rfl⟩) fun hh=>?_
   simp only [CQ] at hh
   exact absurd hh (by omega)
  ·refine Zq (fun hh=>absurd hh (by simp [cop])) fun _=>?_
   have ho:=Yb (ZjB hk)
   have hx:EOk ⟨core,slot+i,Zdj src ⟨core,op,(i:Int)⟩ cs[i]⟩:=⟨hc0,hc1,by show 0≤slot+i; omega,by show slot+i < 16; omega,rfl,h1,h2,by show (0:Int)≤i; omega,by show (i:Int) < 3; omega,ZjB hk⟩
   have ea:iop .add .i64 slot (i:Int)=slot+i:=Y8 (by omega) (by omega)
   rw [ea]
   refine Zc (s52 m (hm.few (by omega)) ⟨core,slot+i,Zdj src ⟨core,op,(i:Int)⟩ cs[i]⟩ (by have:=ho.2.2.1; show (Zdj src ⟨core,op,(i:Int)⟩ cs[i]).path.length≤20; omega)) fun r ⟨m',hm',hr⟩=>?_
   subst hr
   rw [ZR hi (by omega)]
   exact ih _ ⟨m',ZmQ hm hx hm',rfl⟩
 ·obtain ⟨m,hm,rfl⟩:=hj
  show Ret _ (Zhu (k+1) _ _ _ _ _ _ _ _ _ _ _ _ _ _ _ _ _)
  rw [ZjM,List.length_map,if_neg (ZZ (Nat.le_refl _))]
  exact Zk ⟨m,⟨by have:=hm.len; omega,hm.all,hm.asc⟩,rfl⟩
theorem Zz1 (l:List ZJ) (n:Nat) (hn:n≤60) (h:FOk l n) (core slot op base bits:Int) (hc0:0≤core) (hc1:core < 4) (hs0:0≤slot) (hs1:slot < 8) (h1:1≤op) (h2:op≤40) :
    Ret (fun r=>∃ m,FOk m (n+3)∧r=m.map Zd) ((g50 base bits).bind fun r14=>
 (g51 (l.map Zd) 0 0 0 (E0++[[I r14.1,I r14.2.1,I r14.2.2.1,I r14.2.2.2.1,I r14.2.2.2.2.1,I r14.2.2.2.2.2.1,AV.val (.bool r14.2.2.2.2.2.2)]])).bind fun (r21:Bool)=>
 if r21=true then some (l.map Zd) else
 (g52 (l.map Zd) core slot core op 0 E0 r14.1 r14.2.1 r14.2.2.1 r14.2.2.2.1 r14.2.2.2.2.1 r14.2.2.2.2.2.1 r14.2.2.2.2.2.2).bind fun (r22:LL)=>some (r22)):=by
  refine Zc (s50 base bits) fun r ⟨c,hr,hc⟩=>?_
  subst hr
  have hl:=h.len
  refine Zc (s51 l (by omega) ⟨0,0,0⟩ [c] (by simp)) fun b _=>?_
  refine Zq (fun _=>Zk ⟨l,⟨by omega,h.all,h.asc⟩,rfl⟩) fun _=>?_
  have hi:WM ⟨core,op,0⟩=true:=by simp [WM]; omega
  have hx:EOk ⟨core,slot,⟨⟨core,op,0⟩,[],c⟩⟩:=⟨hc0,hc1,hs0,by show slot < 16; omega,rfl,h1,h2,Int.le_refl _,by show (0:Int) < 3; omega,Zmz _ _ hi hc⟩
  refine Zc (s52 l (h.few (by omega)) ⟨core,slot,⟨⟨core,op,0⟩,[],c⟩⟩ (by simp)) fun r ⟨m',hm',hr⟩=>?_
  subst hr
  have:=ZmQ h hx hm'
  exact Zk ⟨m',⟨by have:=this.len; omega,this.all,this.asc⟩,rfl⟩
theorem s20 (l:List ZJ) (n:Nat) (hn:n≤60) (h:FOk l n) (root copy:Bool) (src core slot kind base bits count rights op:Int) (h1:1≤op) (h2:op≤40) :
  Ret (fun r=>∃ m,FOk m (n+3)∧r=m.map Zd) (g20 (l.map Zd) root src core slot kind base bits count rights copy op):=by
 have hl:=h.len
 rw [Zvv]
 refine Zc (place core 4 (by omega) (by omega)) fun c hc=>Zc (place slot 8 (by omega) (by omega)) fun s hs=>?_
 refine Zq (fun _=>Zz1 l n hn h c s op base bits hc.1 hc.2 hs.1 hs.2 h1 h2) fun _=>?_
 refine Zq (fun _=>Zz1 l n hn h c s op base bits hc.1 hc.2 hs.1 hs.2 h1 h2) fun h3=>?_
 simp only [CQ,List.length_map] at h3
 rw [List.length_map]
 refine Zc (place src _ (by omega) (by omega)) fun i hi=>?_
 have hil:i.toNat < l.length:=by omega
 refine KG hi.1 hil ?_
 simp only [Yf,d2,d4,d8,d16]
 have he:=h.all _ (List.getElem_mem hil)
 have ho:=Yb he.ok
 generalize l[i.toNat]=e at he ho
 refine Zc (place rights 8 (by omega) (by omega)) fun r28 _=>?_
 rw [s53,Option.bind_some]
 refine Zq (fun _=>?_) fun _=>?_
 ·refine Zc (place kind 6 (by omega) (by omega)) fun r36 h36=>Zc (place bits 10 (by omega) (by omega)) fun r37 h37=>?_
  have e1:iop .add .i64 6 r37=6+r37:=Y8 (by omega) (by omega)
  have e2:iop .sub .i64 (iop .add .i64 1 r36) 1=r36:=by rw [Y8 (by omega) (by omega),ZkY (by omega) (by omega)]; omega
  rw [e1,e2]
  refine ZbY (l:=[6+r37,12,12,6,10,16]) h36.1 (by simp; omega) ?_
  have hb:∀ x∈[6+r37,12,12,6,10,16],0≤x∧x≤16:=by
   intro x hx
   simp only [List.mem_cons,List.not_mem_nil,or_false] at hx
   omega
  have hb':=hb _ (List.getElem_mem (show r36.toNat < [6+r37,12,12,6,10,16].length by simp; omega))
  generalize [6+r37,12,12,6,10,16][r36.toNat]'(by simp; omega)=r38 at hb'
  refine Zc (place rights 2 (by omega) (by omega)) fun r39 _=>Zc (place base 8 (by omega) (by omega)) fun r40 _=>?_
  refine Zp (by rw [KP (by omega) (by omega)]; omega) (Zc (place count 3 (by omega) (by omega)) fun r41 h41=>?_)
  rw [s54,Option.bind_some]
  refine Zq (fun _=>Zk ⟨l,⟨by omega,h.all,h.asc⟩,rfl⟩) fun _=>?_
  obtain ⟨cs,hcs,hcl⟩:=ZoO ⟨e.node.cap.kind,e.node.cap.base,e.node.cap.bits,e.node.cap.rights,e.node.cap.width,e.node.cap.level,e.node.cap.device⟩ (iop .add .i64 1 r36) r38 r39 32 (iop .shl .i64 r40 (IntKind.wrap .u64 r38)) (iop .add .i64 1 r41)
  rw [hcs]
  have e3:iop .add .i64 1 r41=1+r41:=Y8 (by omega) (by omega)
  rw [e3] at hcl
  refine Zc (s51 l (by omega) e.node.id cs (by omega)) fun b _=>?_
  refine Zq (fun _=>Zk ⟨l,⟨by omega,h.all,h.asc⟩,rfl⟩) fun _=>?_
  exact l20 e.node (by omega) true op c s hc.1 hc.2 hs.1 hs.2 h1 h2 cs (by omega) l n hn h
 ·exact l20 e.node (by omega) true op c s hc.1 hc.2 hs.1 hs.2 h1 h2 [⟨e.node.cap.kind,e.node.cap.base,e.node.cap.bits,iop .and .i64 e.node.cap.rights r28,e.node.cap.width,e.node.cap.level,e.node.cap.device⟩] (by simp) l n hn h
def Zss (s:ZpC):Bool×Int×Int×Int×Int×Int×Int×Int×Int×Bool:=(s.root,s.src,s.core,s.slot,s.kind,s.base,s.bits,s.count,s.rights,s.copy)
theorem ZkE {γ:Type} {l:List ZpC} {i:Nat} (h:i < l.length) (k:(Bool×Int×Int×Int×Int×Int×Int×Int×Int×Bool)→Option γ):Zl (l.map Zao) (i:Int) [.bool,.int .i64,.int .i64,.int .i64,.int .i64,.int .i64,.int .i64,.int .i64,.int .i64,.bool] k=k (Zss l[i]):=J9 (f:=Zao) (sh:=[.bool,.int .i64,.int .i64,.int .i64,.int .i64,.int .i64,.int .i64,.int .i64,.int .i64,.bool]) (v:=Zss) (fun _=>rfl) h k
theorem s7 (l:List ZpC) (hn:l.length < 2 ^ 63):Ret (fun r=>∃ m,FOk m 30∧r=m.map Zd) (g7 (l.map Zao)):=by
 rw [Zx6]
 have key:∀ (d i fuel:Nat) (m:List ZJ),i+d=41→d < fuel→FOk m 30→Ret (fun r=>∃ m,FOk m 30∧r=m.map Zd) (ZwV fuel (l.map Zao) (m.map Zd) (i:Int)):=by
  intro d
  induction d with
  | zero =>
   intro i fuel m hi hf hm
   obtain ⟨q,rfl⟩:∃ q,fuel=q+1:=⟨fuel - 1,by omega⟩
   rw [Zm4]
   refine Zq (fun _=>?_) fun _=>Zk ⟨m,hm,rfl⟩
   rw [if_neg (by simp only [CQ]; omega)]
   exact Zk ⟨m,hm,rfl⟩
  | succ d ih =>
   intro i fuel m hi hf hm
   obtain ⟨q,rfl⟩:∃ q,fuel=q+1:=⟨fuel - 1,by omega⟩
   rw [Zm4]
   refine Zq (fun h1=>?_) fun _=>Zk ⟨m,hm,rfl⟩
   refine Zq (fun h2=>?_) fun _=>Zk ⟨m,hm,rfl⟩
   refine Zq (fun h3=>?_) fun _=>Zk ⟨m,hm,rfl⟩
   simp only [CQ,List.length_map] at h1 h2 h3
   have hil:i < l.length:=by omega
   refine Ze (ZkE hil _) ?_
   simp only [Zss]
   have e:iop .add .i64 (i:Int) 1=((i+1:Nat):Int):=ZR hil hn
   rw [e]
   refine Zc (s20 m 27 (by omega) ⟨by omega,hm.all,hm.asc⟩ _ _ _ _ _ _ _ _ _ _ _ (by omega) (by omega)) fun r ⟨m',hm',hr⟩=>?_
   subst hr
   exact ih (i+1) q m' (by omega) (by omega) hm'
 exact key 41 0 Zw [] rfl (by have:=@JA 41 (by omega); omega) ⟨by simp,by simp,List.Pairwise.nil⟩
end Go.Proofs.YthdihcchfjlgkaaGreat
end

section
namespace Go.Proofs.YthdihcchfjlgkaaGreat
open Go Go.AM
set_option linter.unusedSimpArgs false
set_option linter.unusedVariables false
set_option maxRecDepth 100000
structure SOk (l:List ZJ) (s:List Jh):Prop where
 len:s.length=12
 spot:∀ t (h:t < s.length),s[t].op=0∧s[t].lock=zid∧(s[t].node=ZU∨∃ e∈l,e.slot=(t:Int)∧s[t].node=e.node)
theorem SOk.all {l:List ZJ} {s:List Jh} (h:SOk l s):∀ x∈s,x.op=0∧x.lock=zid∧(x.node=ZU∨∃ e∈l,x.node=e.node):=by
 intro x hx
 obtain ⟨t,ht,rfl⟩:=List.getElem_of_mem hx
 obtain ⟨h1,h2,h3⟩:=h.spot t ht
 exact ⟨h1,h2,h3.imp id fun ⟨e,he,_,hn⟩=>⟨e,he,hn⟩⟩
theorem SOk.few {l:List ZJ} {s:List Jh} {n:Nat} (h:SOk l s) (hf:FOk l n):VI s:=by
 refine ⟨by have:=h.len; omega,fun x hx=>?_⟩
 rcases (h.all x hx).2.2 with e | ⟨e,he,hne⟩
 ·rw [e]; simp [ZU]
 ·have:=(Yb (hf.all e he).ok).2.2.1
  rw [hne]; omega
theorem s12 (l:List ZJ) (n:Nat) (hn:n≤60) (hf:FOk l n) (c:Int):Ret (fun r=>∃ s,SOk l s∧r=s.map Zf) (g12 (l.map Zd) c):=by
 have hl:=hf.len
 rw [Zvd]
 refine Zp (by decide) (Zp (by decide) (Zp (by decide) ?_))
 refine Vj (F:=fun k (s:LL) z=>Ze7 k (l.map Zd) c s z) (n:=l.length) (fun i s=>∃ s',SOk l s'∧s=s'.map Zf) (by omega) (fun k i s hi hj ih=>?_) (fun k s hj=>?_) _ ⟨List.replicate 12 ⟨ZU,0,zid⟩,⟨rfl,fun t ht=>?_⟩,rfl⟩
 ·obtain ⟨s,hs,rfl⟩:=hj
  show Ret _ (Ze7 (k+1) _ _ _ _)
  rw [Zj8,List.length_map,if_pos (Z2 hi)]
  refine Ze (Zu hi _) ?_
  simp only [Yf,d2,d4,d8,d16]
  have nxt:Ret (fun r=>∃ s,SOk l s∧r=s.map Zf) (Ze7 k (l.map Zd) c (s.map Zf) (iop .add .i64 (i:Int) 1)):=by rw [ZR hi (by omega)]; exact ih _ ⟨s,hs,rfl⟩
  refine Zq (fun _=>?_) fun _=>nxt
  refine Ze (Zu hi _) ?_
  simp only [Yf,d2,d4,d8,d16]
  refine Zq (fun h1=>?_) fun _=>nxt
  simp only [CQ] at h1
  refine Ze (Zu hi _) ?_
  simp only [Yf,d2,d4,d8,d16]
  refine Ze (Zu hi _) ?_
  simp only [Yf,d2,d4,d8,d16]
  have he:=hf.all _ (List.getElem_mem hi)
  have hp:=(Yb he.ok).2.2.1
  rw [s26 l[i].node (by omega),Option.bind_some]
  have h0:=he.s0
  have hsl:=hs.len
  refine Zp (by omega) (Zp (by rw [List.length_map]; omega) (Zp (by omega) (Zp (by rw [List.length_map]; omega) ?_)))
  rw [ZR hi (by omega)]
  refine ih _ ⟨s.modify l[i].slot.toNat (ZsV l[i].node),⟨by rw [List.length_modify]; exact hsl,fun t ht=>?_⟩,Wz s _ l[i].node⟩
  rw [List.length_modify] at ht
  rw [List.getElem_modify]
  have ha:=hs.spot t ht
  split
  ·exact ⟨ha.1,ha.2.1,.inr ⟨l[i],List.getElem_mem hi,by omega,rfl⟩⟩
  ·exact ha
 ·obtain ⟨s,hs,rfl⟩:=hj
  show Ret _ (Ze7 (k+1) _ _ _ _)
  rw [Zj8,List.length_map,if_neg (ZZ (Nat.le_refl _))]
  exact Zk ⟨s,hs,rfl⟩
 ·rw [List.getElem_replicate]
  exact ⟨rfl,rfl,.inl rfl⟩
end Go.Proofs.YthdihcchfjlgkaaGreat
end

section
namespace Go.Proofs.YthdihcchfjlgkaaGreat
open Go Go.AM
set_option linter.unusedSimpArgs false
set_option linter.unusedVariables false
set_option maxRecDepth 100000
theorem Zfr {α:Type} (lt:α→α→Bool) (l:List α):KC lt l=true↔∀ j (h:j+1 < l.length),lt l[j] l[j+1]=true:=by
 rw [KC,List.all_eq_true]
 constructor
 ·intro h j hj
  have:=h (j+1) (by rw [List.mem_range'_1]; omega)
  rw [Kc lt hj] at this
  exact this
 ·intro h i hi
  rw [List.mem_range'_1] at hi
  match i with
  | 0 => rfl
  | j + 1 => rw [Kc lt (by omega)]; exact h j (by omega)
theorem Zjb {α:Type} {lt:α→α→Bool} {l:List α} {a:α} (h:KC lt l=true) (ha:∀ h:0 < l.length,lt (l[l.length - 1]'(by omega)) a=true):KC lt (l++[a])=true:=by
 rw [Zfr] at h ⊢
 intro j hj
 rw [List.length_append,List.length_cons,List.length_nil] at hj
 by_cases hjl:j+1 < l.length
 ·rw [List.getElem_append_left (by omega),List.getElem_append_left hjl]
  exact h j hjl
 ·have e:j=l.length - 1:=by omega
  subst e
  rw [List.getElem_append_left (by omega),List.getElem_append_right (by omega)]
  have:=ha (by omega)
  simpa using this
theorem Zpn {α:Type} {lt:α→α→Bool} {l:List α} (h:l.Pairwise fun a b=>lt a b=true):KC lt l=true:=by
 rw [Zfr]
 intro j hj
 exact List.pairwise_iff_getElem.1 h j (j+1) (by omega) hj (by omega)
theorem Kh {α:Type} (f:α→List AV) (l:List α) (a:α):l.map f++(E0++[f a])=(l++[a]).map f:=by simp
theorem YC {α:Type} {P:α→Prop} {l:List α} {a:α} (h:∀ x∈l,P x) (ha:P a):∀ x∈l++[a],P x:=by
 intro x hx
 simp only [List.mem_append,List.mem_singleton] at hx
 rcases hx with hx | rfl
 ·exact h x hx
 ·exact ha
theorem Yh {σ γ:Type} {P:γ→Prop} {F:Nat→σ→Int→Option γ} (n:Nat) (J:Nat→σ→Prop) (hn:n < 1000)
  (step:∀ (k i:Nat) (s:σ),i≤n→J i s→(i < n→∀ s',J (i+1) s'→Ret P (F k s' ((i+1:Nat):Int)))→Ret P (F (k+1) s (i:Int))) (s:σ) (h:J 0 s):Ret P (F Zw s 0):=by
 refine Vj (F:=F) (n:=n) J (by omega) (fun k i s hi hj ih=>step k i s (by omega) hj fun _=>ih) (fun k s hj=>step k n s (Nat.le_refl _) hj fun h=>absurd h (Nat.lt_irrefl _)) s h
theorem Zd3 {i n:Nat} (h:i≤n) (hn:n < 1000):iop .add .i64 (i:Int) 1=((i+1:Nat):Int):=by
 rw [Y8 (by omega) (by omega)]; omega
structure Zzf (i:Id):Prop where
 c0:0≤i.core
 c1:i.core < 4
 o0:1≤i.op
 o1:i.op≤20
 p:i.part=0
theorem Zzf.ok {i:Id} (h:Zzf i):ZbX i=true:=by
 obtain ⟨h1,h2,h3,h4,h5⟩:=h
 simp only [ZbX,WM,Bool.and_eq_true,decide_eq_true_eq]
 omega
theorem s22 (x:Int):Ret (fun r=>∃ i:Id,r=(i.core,i.op,i.part)∧Zzf i) (g22 x):=by
 rw [Zth]
 refine Zc (place x 4 (by omega) (by omega)) fun a ha=>Zp (by omega) (Zc (place _ 20 (by omega) (by omega)) fun b hb=>?_)
 have e:iop .add .i64 1 b=1+b:=Y8 (by omega) (by omega)
 rw [e]
 exact Zk ⟨⟨a,1+b,0⟩,rfl,⟨ha.1,ha.2,by show 1≤1+b; omega,by show 1+b≤20; omega,rfl⟩⟩
theorem s24 (l:List Int) (z:Int) (hz:0≤z):Ret (fun r=>∃ m:List Int,r=Za m∧m.length≤l.length) (g24 (Za l) z):=by
 rw [Zvp,ZN]
 refine Zq (fun _=>Zk ⟨[],rfl,by simp⟩) fun h=>?_
 simp only [CQ] at h
 refine Zp hz (Zp (by omega) (Zk ⟨l.drop z.toNat,?_,by simp⟩))
 exact (List.map_drop ..).symm
theorem Zlj {γ:Type} {P:γ→Prop} {a b z:Int} {k:Int→Option γ} (h0:0≤z) (h:z < 2) (hk:∀ x,x=a∨x=b→Ret P (k x)):Ret P (Zl ((E0++[[I a]])++[[I b]]) z [.int .i64] k):=
 ZbY (l:=[a,b]) h0 (by simp; omega) (hk _ (by rcases (by omega:z=0∨z=1) with rfl | rfl <;> simp))
theorem Zmd:KJ ZU ZU=true:=by kernel_rfl
theorem s23 (l:List Int) (n:Yr) (hn:ZK n=true) (hp:n.path.length≤20):Ret (fun r=>∃ q:Req,r=Zje q∧(q.src.path.length≤20∧q.call.dest < 8)∧KK q=true) (g23 (Za l) n.id.core n.id.op n.id.part (Zb n.path) n.cap.kind n.cap.base n.cap.bits n.cap.rights n.cap.width n.cap.level n.cap.device):=by
 rw [Zvm]
 refine Zc (Zv l 0) fun _ _=>Zc (s22 _) fun r ⟨i,hi,hio⟩=>?_
 subst hi
 refine Zc (Zv l 1) fun _ _=>Zc (place _ 3 (by omega) (by omega)) fun rg hrg=>?_
 refine Zc (Zv l 2) fun _ _=>Zc (place _ 2 (by omega) (by omega)) fun _ h2=>?_
 refine Zlj h2.1 h2.2 fun w hw=>?_
 rw [s26 n (by omega),Option.bind_some]
 refine Zc (Zv l 3) fun _ _=>Zc (place _ 6 (by omega) (by omega)) fun kd hkd=>?_
 refine Zc (Zv l 4) fun _ _=>Zc (place _ 8 (by omega) (by omega)) fun _ _=>?_
 refine Zc (Zv l 5) fun _ _=>Zc (place _ 8 (by omega) (by omega)) fun _ hde=>?_
 refine Zc (Zv l 6) fun _ _=>Zc (place _ 4 (by omega) (by omega)) fun _ _=>?_
 refine Zc (Zv l 7) fun _ _=>Zc (place _ 8 (by omega) (by omega)) fun _ _=>?_
 refine Zc (Zv l 8) fun _ _=>Zc (place _ 6 (by omega) (by omega)) fun _ _=>?_
 refine Zc (Zv l 9) fun _ _=>Zc (place _ 3 (by omega) (by omega)) fun _ _=>?_
 refine Zc (Zv l 10) fun _ _=>Zc (place _ 2 (by omega) (by omega)) fun _ _=>?_
 refine Zc (Zv l 11) fun _ _=>Zc (place _ 8 (by omega) (by omega)) fun _ _=>Zp (by omega) ?_
 refine Zc (Zv l 12) fun _ _=>Zc (place _ 3 (by omega) (by omega)) fun _ _=>?_
 refine Zc (Zv l 13) fun _ _=>Zc (Zv l 14) fun _ _=>?_
 have ek:iop .add .i64 1 kd=1+kd:=Y8 (by omega) (by omega)
 rw [ek]
 have hr:Z5 rg=true:=by simp only [Z5,decide_eq_true_eq]; omega
 refine Zq (fun h1=>Zk ⟨⟨i,⟨_,_,_,_,_,_,_,_,_,_,_,_⟩,_,_,ZU⟩,rfl,⟨by simp [ZU],hde.2⟩,?_⟩) fun h1=>Zk ⟨⟨i,⟨_,_,_,_,_,_,_,_,_,_,_,_⟩,_,_,n⟩,rfl,⟨hp,hde.2⟩,?_⟩
 ·simp only [CQ] at h1
  simp only [KK,hio.ok,hr,h1,Zmd,Bool.and_eq_true,decide_eq_true_eq,if_true,true_and,and_true]
  exact ⟨by omega,hw⟩
 ·simp only [CQ] at h1
  simp only [KK,hio.ok,hr,hn,if_neg h1,Bool.and_eq_true,decide_eq_true_eq,true_and,and_true]
  exact ⟨by omega,hw⟩
structure ZkK (f:List ZJ) (ss:List Jh):Prop where
 len:ss.length=12
 spot:∀ t (h:t < ss.length),(0≤ss[t].op∧ss[t].op≤20)∧((ss[t].node=ZU∧ss[t].lock=zid)∨∃ e∈f,e.slot=(t:Int)∧ss[t].node=e.node∧(ss[t].lock=zid∨ZbX ss[t].lock=true))
theorem SOk.slIn {f:List ZJ} {s:List Jh} (h:SOk f s):ZkK f s:=⟨h.len,fun t ht=>by
 obtain ⟨h1,h2,h3⟩:=h.spot t ht
 refine ⟨by omega,?_⟩
 rcases h3 with h3 | ⟨e,he,hs,hn⟩
 ·exact .inl ⟨h3,h2⟩
 ·exact .inr ⟨e,he,hs,hn,.inl h2⟩⟩
theorem Zvr {f:List ZJ} {n:Nat} (hf:FOk f n) {a b:ZJ} (ha:a∈f) (hb:b∈f) (h:a.node.id=b.node.id):a=b:=by
 obtain ⟨i,hi,rfl⟩:=List.getElem_of_mem ha
 obtain ⟨j,hj,rfl⟩:=List.getElem_of_mem hb
 have hp:=List.pairwise_iff_getElem.1 hf.asc
 by_cases hij:i < j
 ·have:=hp i j hi hj hij
  rw [ZgS,h] at this; omega
 ·by_cases hji:j < i
  ·have:=hp j i hj hi hji
   rw [ZgS,h] at this; omega
  ·have:i=j:=by omega
   subst this; rfl
theorem Zkj {f:List ZJ} {n:Nat} (hf:FOk f n) {e:ZJ} (he:e∈f):e.node.id≠zid:=by
 intro h
 have:=(hf.all e he).o1
 rw [h] at this
 exact absurd this (by decide)
theorem Zn0 {f:List ZJ} {n:Nat} {ss:List Jh} (hf:FOk f n) (h:ZkK f ss):Vs ss=true:=by
 have hl:=h.len
 rw [Vs,Bool.and_eq_true,decide_eq_true_eq,List.all_eq_true]
 refine ⟨by omega,fun i hi=>?_⟩
 rw [List.mem_range'_1] at hi
 have hil:i < ss.length:=by omega
 obtain ⟨ho,hn⟩:=h.spot i hil
 rw [Bool.and_eq_true,Je _ hil]
 refine ⟨?_,?_⟩
 ·rw [ZdC,Bool.and_eq_true,decide_eq_true_eq]
  refine ⟨by omega,?_⟩
  rcases hn with ⟨e1,e2⟩ | ⟨e,he,_,e1,e2⟩
  ·rw [e1,e2,if_pos (show ZU.id=zid from rfl),Zmd]; rfl
  ·rw [e1,if_neg (Zkj hf he),(hf.all e he).ok,Bool.true_and,Bool.or_eq_true,decide_eq_true_eq]
   exact e2
 ·unfold KR
  rw [List.getElem?_eq_getElem hil]
  show (!((ss.take i).any (ZbO ss[i].node.id)))=true
  rw [Bool.not_eq_true',List.any_eq_false]
  intro x hx
  obtain ⟨j,hj,rfl⟩:=List.getElem_of_mem hx
  rw [List.length_take] at hj
  rw [List.getElem_take]
  have hji:j < i:=by omega
  obtain ⟨_,hm⟩:=h.spot j (by omega)
  rw [ZbO,Bool.not_eq_true,Bool.and_eq_false_iff]
  rcases hm with ⟨e1,_⟩ | ⟨e,he,hs,e1,_⟩
  ·left; rw [e1]; rfl
  ·right
   rw [decide_eq_false_iff_not,e1]
   intro heq
   rcases hn with ⟨e3,_⟩ | ⟨e',he',hs',e3,_⟩
   ·rw [e3] at heq; exact Zkj hf he heq
   ·rw [e3] at heq
    have:=Zvr hf he he' heq
    subst this
    omega
structure StG (f:List ZJ) (s:Kg):Prop where
 slots:ZkK f s.slots
 ok:YI s=true
 pend:s.pending.length≤3
 psrc:∀ q∈s.pending,q.src.path.length≤20∧q.call.dest < 8
 pok:∀ q∈s.pending,KK q=true
 marks:s.marks.length≤3
 answers:s.answers.length≤3
 entries:s.entries.length≤3
 epath:∀ e∈s.entries,e.node.path.length≤20
 commits:s.commits.length≤3
abbrev StT:=LL×LL×LL×LL×LL×LL
def stV (s:Kg):StT:=(s.slots.map Zf,s.pending.map Zt,s.marks.map Zj,s.answers.map ZF,s.entries.map Zd,Zb s.commits)
def StR (f:List ZJ) (r:StT):Prop:=∃ s:Kg,r=stV s∧StG f s
def ZzN (l:List Req):Prop:=l.length≤3∧(∀ q∈l,q.src.path.length≤20∧q.call.dest < 8)∧(∀ q∈l,KK q=true)∧KC ltp l=true
def ZxC (l:List ZdR):Prop:=l.length≤3∧(∀ q∈l,Y1 q=true)∧KC ltm l=true
def ZwM (l:List Ans):Prop:=l.length≤3∧(∀ q∈l,VL q=true)∧KC lta l=true
def Zu1 (l:List ZJ):Prop:=l.length≤3∧(∀ e∈l,e.node.path.length≤20)∧(∀ q∈l,VQ q=true)∧KC lte l=true
def ZvO (l:List Id):Prop:=l.length≤3∧∀ q∈l,ZbX q=true
theorem Zos {f:List ZJ} {n:Nat} (hf:FOk f n) {ss:List Jh} (hs:ZkK f ss) {pe:List Req} (hp:ZzN pe) {ma:List ZdR} (hm:ZxC ma) {an:List Ans} (ha:ZwM an) {en:List ZJ} (he:Zu1 en) {co:List Id} (hc:ZvO co) :
  StR f (ss.map Zf,pe.map Zt,ma.map Zj,an.map ZF,en.map Zd,Zb co):=by
 refine ⟨⟨ss,pe,ma,an,en,co⟩,rfl,⟨hs,?_,hp.1,hp.2.1,hp.2.2.1,hm.1,ha.1,he.1,he.2.1,hc.1⟩⟩
 simp only [YI,Zn0 hf hs,List.all_eq_true.2 hp.2.2.1,hp.2.2.2,List.all_eq_true.2 hm.2.1,hm.2.2,List.all_eq_true.2 ha.2.1,ha.2.2,List.all_eq_true.2 he.2.2.1,he.2.2.2,List.all_eq_true.2 hc.2,Bool.and_self]
theorem Zs3 {e:ZJ} (h:EOk e):VQ e=true:=by
 obtain ⟨h1,h2,h3,h4,_,_,_,_,_,h5⟩:=h
 simp only [VQ,Zs,Jw,h5,Bool.and_eq_true,decide_eq_true_eq,and_true]
 omega
theorem Zxy (l:List Int) (f:List ZJ) (n:Nat) (hf:FOk f n) (hn:n≤60) (y2 y3 y4 y5 y6 y7 sl pe ma an:LL) (h:∀ en co,Zu1 en→ZvO co→StR f (sl,pe,ma,an,en.map Zd,Zb co)) :
  Ret (StR f) (ZsT Zw (Za l) (f.map Zd) y2 y3 y4 y5 y6 y7 sl pe ma an E0 E0 0):=by
 have hfl:=hf.len
 refine Yh (F:=fun k (s:LL×LL) z=>ZsT k (Za l) (f.map Zd) y2 y3 y4 y5 y6 y7 sl pe ma an s.1 s.2 z) 3
  (fun i s=>∃ cs,s=(List.map Zd (f.take i),Zb cs)∧i≤f.length∧cs.length≤i∧∀ c∈cs,ZbX c=true) (by omega) (fun k i s hi hj ih=>?_) (E0,E0) ⟨[],by simp [Zb],by omega,by simp,by simp⟩
 obtain ⟨cs,rfl,h1,h2,h3⟩:=hj
 have out:Ret (StR f) (some (sl,pe,ma,an,List.map Zd (f.take i),Zb cs)):=Zk (h _ _ ⟨by simp; omega,fun e he=>by have:=(Yb (hf.all e (List.mem_of_mem_take he)).ok).2.2.1; omega,fun e he=>Zs3 (hf.all e (List.mem_of_mem_take he)),Zpn hf.asc.take⟩ ⟨by omega,h3⟩)
 show Ret _ (ZsT (k+1) _ _ _ _ _ _ _ _ _ _ _ _ _ _ _)
 rw [ZqP]
 refine Zc (Zv l _) fun _ _=>Zc (place _ 3 (by omega) (by omega)) fun r16 h16=>?_
 refine Zq (fun h4=>?_) fun _=>out
 refine Zq (fun h5=>?_) fun _=>out
 simp only [CQ,List.length_map] at h4 h5
 have hif:i < f.length:=by omega
 refine Zp (Zy (by simp; omega) (by omega)) ?_
 refine Ze (Zu hif _) ?_
 simp only [Yf,d2,d4,d8,d16]
 refine Zp (Zy (by simp; omega) (by omega)) (Zp (Zy (by rw [Z1]; simp; omega) (by omega)) ?_)
 refine Zc (Zv l _) fun _ _=>Zc (s22 _) fun r ⟨c,hc,hco⟩=>?_
 subst hc
 refine Zp (Zy (by rw [Z1]; simp; omega) (by omega)) ?_
 rw [Zd3 hi (by omega)]
 refine ih (by omega) (List.map Zd (f.take i)++(E0++[Zd f[i]]),Zb cs++(E0++[idc c])) ⟨cs++[c],?_,by omega,by simp; omega,YC h3 hco.ok⟩
 have e1:f.take (i+1)=f.take i++[f[i]]:=by rw [List.take_add_one,List.getElem?_eq_getElem hif]; rfl
 rw [e1,Kh]
 simp [Zb]
theorem Zyr (l:List Int) (f:List ZJ) (n:Nat) (hf:FOk f n) (hn:n≤60) (y2 y3 y4 y5 y6 y7 sl pe ma:LL) (h:∀ an en co,ZwM an→Zu1 en→ZvO co→StR f (sl,pe,ma,an.map ZF,en.map Zd,Zb co)) :
  Ret (StR f) (ZsG Zw (Za l) (f.map Zd) y2 y3 y4 y5 y6 y7 sl pe ma E0 E0 E0 0):=by
 refine Yh (F:=fun k (s:LL) z=>ZsG k (Za l) (f.map Zd) y2 y3 y4 y5 y6 y7 sl pe ma s E0 E0 z) 3
  (fun i s=>∃ es:List Ans,s=List.map ZF es∧es.length=i∧(∀ j (h:j < es.length),es[j].op=((j+1:Nat):Int))∧∀ x∈es,VL x=true) (by omega) (fun k i s hi hj ih=>?_) _ ⟨[],rfl,by simp,by simp,by simp⟩
 obtain ⟨es,rfl,h1,h2,h3⟩:=hj
 show Ret _ (ZsG (k+1) _ _ _ _ _ _ _ _ _ _ _ _ _ _ _)
 rw [ZqH]
 refine Zc (Zv l _) fun _ _=>Zc (place _ 3 (by omega) (by omega)) fun r16 h16=>?_
 refine Zq (fun h4=>?_) fun _=>Zxy l f n hf hn _ _ _ _ _ _ _ _ _ _ fun en co he hc=>h es en co ⟨by omega,h3,(Zfr ..).2 fun j hj=>by rw [lta,h2,h2,decide_eq_true_eq]; omega⟩ he hc
 simp only [CQ] at h4
 refine Zp (Zy (by simp; omega) (by omega)) ?_
 refine Zc (Zv l _) fun _ _=>Zc (place _ 20 (by omega) (by omega)) fun v hv=>?_
 refine Zp (Zy (by simp; omega) (by omega)) ?_
 rw [Zd3 hi (by omega)]
 refine ih (by omega) _ ⟨es++[⟨((i+1:Nat):Int),v⟩],by rw [← Kh]; rfl,by simp; omega,fun j hj=>?_,YC h3 (by simp only [VL,Zc6,Bool.and_eq_true,decide_eq_true_eq]; omega)⟩
 by_cases hjl:j < es.length
 ·rw [List.getElem_append_left hjl]; exact h2 j hjl
 ·rw [List.getElem_append_right (by omega)]
  rw [List.length_append,List.length_cons,List.length_nil] at hj
  have:j=i:=by omega
  subst this
  simp
theorem ZyZ (l:List Int) (f:List ZJ) (n:Nat) (hf:FOk f n) (hn:n≤60) (y2 y3 y4 y5 y6 y7 sl pe:LL) (h:∀ ma an en co,ZxC ma→ZwM an→Zu1 en→ZvO co→StR f (sl,pe,ma.map Zj,an.map ZF,en.map Zd,Zb co)) :
  Ret (StR f) (ZrU Zw (Za l) (f.map Zd) y2 y3 y4 y5 y6 y7 sl pe E0 E0 E0 E0 0):=by
 refine Yh (F:=fun k (s:LL) z=>ZrU k (Za l) (f.map Zd) y2 y3 y4 y5 y6 y7 sl pe s E0 E0 E0 z) 3
  (fun i s=>∃ es:List ZdR,s=List.map Zj es∧es.length=i∧(∀ j (h:j < es.length),es[j].region=(j:Int))∧∀ x∈es,Y1 x=true) (by omega) (fun k i s hi hj ih=>?_) _ ⟨[],rfl,by simp,by simp,by simp⟩
 obtain ⟨es,rfl,h1,h2,h3⟩:=hj
 show Ret _ (ZrU (k+1) _ _ _ _ _ _ _ _ _ _ _ _ _ _ _)
 rw [ZrL]
 refine Zc (Zv l _) fun _ _=>Zc (place _ 3 (by omega) (by omega)) fun r16 h16=>?_
 refine Zq (fun h4=>?_) fun _=>Zyr l f n hf hn _ _ _ _ _ _ _ _ _ fun an en co ha he hc=>h es an en co ⟨by omega,h3,(Zfr ..).2 fun j hj=>by rw [ltm,h2,h2,decide_eq_true_eq]; omega⟩ ha he hc
 simp only [CQ] at h4
 refine Zp (Zy (by simp; omega) (by omega)) ?_
 refine Zc (Zv l _) fun _ _=>Zc (s22 _) fun r ⟨c,hc,hco⟩=>?_
 subst hc
 refine Zp (Zy (by simp; omega) (by omega)) ?_
 rw [Zd3 hi (by omega)]
 refine ih (by omega) _ ⟨es++[⟨(i:Int),c⟩],by rw [← Kh]; rfl,by simp; omega,fun j hj=>?_,YC h3 (by simp only [Y1,Z5,hco.ok,Bool.and_eq_true,decide_eq_true_eq,and_true]; omega)⟩
 by_cases hjl:j < es.length
 ·rw [List.getElem_append_left hjl]; exact h2 j hjl
 ·rw [List.getElem_append_right (by omega)]
  rw [List.length_append,List.length_cons,List.length_nil] at hj
  have:j=i:=by omega
  subst this
  simp
theorem ZyL (l:List Int) (f:List ZJ) (n:Nat) (hf:FOk f n) (hn:n≤60) (y2 y3 y4 y5 y6 y7 sl:LL) (h:∀ pe ma an en co,ZzN pe→ZxC ma→ZwM an→Zu1 en→ZvO co→StR f (sl,pe.map Zt,ma.map Zj,an.map ZF,en.map Zd,Zb co)) :
  Ret (StR f) (Zpl Zw (Za l) (f.map Zd) y2 y3 y4 y5 y6 y7 sl E0 E0 E0 E0 E0 0):=by
 have hfl:=hf.len
 refine Yh (F:=fun k (s:LL) z=>Zpl k (Za l) (f.map Zd) y2 y3 y4 y5 y6 y7 sl s E0 E0 E0 E0 z) 3
  (fun i s=>∃ es,s=List.map Zt es∧es.length≤i∧(∀ q∈es,q.src.path.length≤20∧q.call.dest < 8)∧(∀ q∈es,KK q=true)∧KC ltp es=true) (by omega) (fun k i s hi hj ih=>?_) _ ⟨[],rfl,by simp,by simp,by simp,rfl⟩
 obtain ⟨es,rfl,h1,h3,h7,h8⟩:=hj
 have out:=ZyZ l f n hf hn y2 y3 y4 y5 y6 y7 sl (List.map Zt es) fun ma an en co hm ha he hc=>h es ma an en co ⟨by omega,h3,h7,h8⟩ hm ha he hc
 show Ret _ (Zpl (k+1) _ _ _ _ _ _ _ _ _ _ _ _ _ _ _)
 rw [Zr5]
 refine Zc (Zv l _) fun _ _=>Zc (place _ 3 (by omega) (by omega)) fun r16 h16=>?_
 refine Zq (fun h4=>?_) fun _=>out
 refine Zq (fun h5=>?_) fun _=>out
 simp only [CQ,List.length_map] at h4 h5
 have e13:iop .add .i64 13 (i:Int)=13+i:=Y8 (by omega) (by omega)
 rw [e13]
 refine Zc (s24 l _ (by omega)) fun r ⟨m,hr,_⟩=>?_
 subst hr
 rw [List.length_map]
 refine Zc (Zv l _) fun _ _=>Zc (place _ _ (by omega) (by omega)) fun r19 h19=>?_
 have hil:r19.toNat < f.length:=by omega
 refine KG h19.1 hil ?_
 simp only [Yf,d2,d4,d8,d16]
 have hno:=(hf.all _ (List.getElem_mem hil)).ok
 have hp:=(Yb hno).2.2.1
 refine Zc (s23 m f[r19.toNat].node hno (by omega)) fun r ⟨q,hq,hqp,hqo⟩=>?_
 subst hq
 rw [Zd3 hi (by omega)]
 have room1:Jy E0 (List.map Zt es) 240:=Zy (by simp; omega) (by omega)
 have room2:Jy (List.map Zt es) (E0++[Zt q]) 240:=Zy (by simp; omega) (by omega)
 have nxt:i < 3→(∀ h:0 < es.length,ltp (es[es.length - 1]'(by omega)) q=true)→Ret (StR f) (Zpl k (Za l) (f.map Zd) y2 y3 y4 y5 y6 y7 sl (List.map Zt es++(E0++[Zt q])) E0 E0 E0 E0 ((i+1:Nat):Int)):=fun hi3 hlt=>ih hi3 _ ⟨es++[q],(Kh ..),by simp; omega,YC h3 hqp,YC h7 hqo,Zjb h8 hlt⟩
 refine Zq (fun h6=>Zp room1 (Zp room2 (nxt (by omega) fun h=>?_))) fun h6=>?_
 ·simp only [CQ,List.length_map] at h6
  omega
 simp only [CQ,List.length_map] at h6
 have e1:iop .sub .i64 (List.length (List.map Zt es):Int) 1=((es.length - 1:Nat):Int):=by rw [List.length_map,ZkY (by omega) (by omega)]; omega
 rw [e1]
 refine Ze (Jc (show es.length - 1 < es.length by omega) _) ?_
 refine Ze (congrArg (fun o=>Option.bind o _) (s25 _ _ _ _ _ _)) ?_
 refine Zq (fun hlt=>Zp room1 (Zp room2 (nxt (by omega) fun _=>hlt))) fun _=>ih (by omega) _ ⟨es,rfl,by omega,h3,h7,h8⟩
def ZoK (b:Id) (s:Jh):Jh:={ s with lock:=b }
theorem Zv6 (acc:List Jh) (i:Nat) (b:Id):ZE (acc.map Zf) i 12 [I b.core,I b.op,I b.part]=(acc.modify i (ZoK b)).map Zf:=K5 Zf (ZoK b) acc i 12 _ fun _ _=>rfl
theorem ZkK.lockS {f:List ZJ} {ss:List Jh} (h:ZkK f ss) (i:Nat) (hi:i < ss.length) (b:Id) (hb:ZbX b=true) (he:Y2 ss[i]=false):ZkK f (ss.modify i (ZoK b)):=by
 refine ⟨by rw [List.length_modify]; exact h.len,fun t ht=>?_⟩
 rw [List.length_modify] at ht
 rw [List.getElem_modify]
 obtain ⟨ho,hn⟩:=h.spot t ht
 split
 ·rename_i heq
  subst heq
  refine ⟨ho,?_⟩
  rcases hn with ⟨e1,_⟩ | ⟨e,he',hs,e1,_⟩
  ·rw [Y2,e1] at he
   exact absurd he (by decide)
  ·exact .inr ⟨e,he',hs,e1,.inr hb⟩
 ·exact ⟨ho,hn⟩
theorem ZkK.opS {f:List ZJ} {ss:List Jh} (h:ZkK f ss) (i:Nat) (g:Jh→Jh) (hg:∀ x,(g x).node=x.node∧(g x).lock=x.lock∧0≤(g x).op∧(g x).op≤20):ZkK f (ss.modify i g):=by
 refine ⟨by rw [List.length_modify]; exact h.len,fun t ht=>?_⟩
 rw [List.length_modify] at ht
 rw [List.getElem_modify]
 obtain ⟨ho,hn⟩:=h.spot t ht
 split
 ·rw [(hg _).1,(hg _).2.1]
  exact ⟨(hg _).2.2,hn⟩
 ·exact ⟨ho,hn⟩
theorem ZxU (l:List Int) (f:List ZJ) (n:Nat) (hf:FOk f n) (hn:n≤60) (y2 y3 y4 y5 y6 y7:LL) (ss:List Jh) (hss:ZkK f ss) :
  Ret (StR f) (ZkL Zw (Za l) (f.map Zd) y2 y3 y4 y5 y6 y7 (ss.map Zf) E0 E0 E0 E0 E0 0):=by
 refine Yh (F:=fun k (s:LL) z=>ZkL k (Za l) (f.map Zd) y2 y3 y4 y5 y6 y7 s E0 E0 E0 E0 E0 z) 12
  (fun i s=>∃ es,s=List.map Zf es∧ZkK f es) (by omega) (fun k i s hi hj ih=>?_) _ ⟨ss,rfl,hss⟩
 obtain ⟨es,rfl,h1⟩:=hj
 have hl:=h1.len
 show Ret _ (ZkL (k+1) _ _ _ _ _ _ _ _ _ _ _ _ _ _ _)
 rw [Zsv,List.length_map]
 refine Zq (fun h4=>?_) fun _=>ZyL l f n hf hn _ _ _ _ _ _ _ fun pe ma an en co hp hm ha he hc=>Zos hf h1 hp hm ha he hc
 simp only [CQ] at h4
 have hi12:i < 12:=by omega
 have hie:i < es.length:=by omega
 rw [Zd3 hi (by omega)]
 have h0:(0:Int)≤(i:Int):=by omega
 have hlt:(i:Int) < (es.length:Int):=by omega
 -- what becomes of the reservation
 have part2:∀ es':List Jh,ZkK f es'→Ret (StR f) ((g21 (Za l) (i:Int)).bind fun (r17:Int)=>(g8 r17 7).bind fun (r18:Int)=>if (cop .eql r18 6)=true then (g21 (Za l) (i:Int)).bind fun (r19:Int)=>ZA ((7:Int)≠0)<|(g8 (iop .quo .i64 r19 7) 20).bind fun (r20:Int)=>ZA ((0:Int)≤(i:Int))<|ZA ((i:Int) < (List.length (es'.map Zf):Int))<|ZA ((0:Int)≤(i:Int))<|ZA ((i:Int) < (List.length (es'.map Zf):Int))<|
   ZkL k (Za l) (f.map Zd) y2 y3 y4 y5 y6 y7 (ZE (es'.map Zf) (Int.toNat (i:Int)) 11 [AV.val (.int .i64 (iop .add .i64 1 r20))]) E0 E0 E0 E0 E0 ((i+1:Nat):Int)
   else ZkL k (Za l) (f.map Zd) y2 y3 y4 y5 y6 y7 (es'.map Zf) E0 E0 E0 E0 E0 ((i+1:Nat):Int)):=by
  intro es' he'
  have hl':=he'.len
  refine Zc (Zv l _) fun _ _=>Zc (place _ 7 (by omega) (by omega)) fun r18 _=>?_
  refine Zq (fun _=>?_) fun _=>ih hi12 _ ⟨es',rfl,he'⟩
  refine Zc (Zv l _) fun _ _=>Zp (by omega) (Zc (place _ 20 (by omega) (by omega)) fun r20 h20=>?_)
  rw [List.length_map]
  refine Zp h0 (Zp (by omega) (Zp h0 (Zp (by omega) ?_)))
  have e20:iop .add .i64 1 r20=1+r20:=Y8 (by omega) (by omega)
  rw [Int.toNat_natCast,e20,Zuv]
  exact ih hi12 _ ⟨_,rfl,he'.opS _ _ fun x=>⟨rfl,rfl,by show 0≤1+r20; omega,by show 1+r20≤20; omega⟩⟩
 refine Zc (Zv l _) fun _ _=>Zc (place _ 5 (by omega) (by omega)) fun r16 _=>?_
 refine Zq (fun _=>?_) fun _=>?_
 ·refine Zp h0 (Zp hlt ?_)
  refine Ze (ZW hie _) ?_
  simp only [KV,d2,d4,d8,d16]
  rw [s13,Option.bind_some]
  refine Zq (fun hne=>?_) fun _=>?_
  ·rw [Bool.not_eq_true'] at hne
   refine Zc (Zv l _) fun _ _=>Zp (by omega) (Zc (s22 _) fun r ⟨b,hb,hbo⟩=>?_)
   subst hb
   refine Zp h0 (Zp hlt (Zp h0 (Zp hlt ?_)))
   have:=part2 (es.modify i (ZoK b)) (h1.lockS i hie b hbo.ok hne)
   rw [← Zv6,← Int.toNat_natCast i] at this
   exact this
  ·have:=part2 es h1
   rw [List.length_map] at this
   exact this
 ·have:=part2 es h1
  rw [List.length_map] at this
  exact this
theorem s9 (l:List Int) (f:List ZJ) (n:Nat) (hf:FOk f n) (hn:n≤60) (c:Int):Ret (StR f) (g9 (Za l) (f.map Zd) c):=by
 rw [Zyf]
 refine Zc (s12 f n hn hf c) fun r ⟨s,hs,hr⟩=>?_
 subst hr
 exact ZxU l f n hf hn _ _ _ _ _ _ s hs.slIn
theorem StG.few {f:List ZJ} {n:Nat} (hf:FOk f n) {s:Kg} (h:StG f s):VI s.slots:=by
 refine ⟨by have:=h.slots.len; omega,fun x hx=>?_⟩
 obtain ⟨t,ht,rfl⟩:=List.getElem_of_mem hx
 rcases (h.slots.spot t ht).2 with ⟨e,_⟩ | ⟨e,he,_,e1,_⟩
 ·rw [e]; simp [ZU]
 ·rw [e1]
  have:=(Yb (hf.all e he).ok).2.2.1
  omega
end Go.Proofs.YthdihcchfjlgkaaGreat
end

section
namespace Go.Proofs.YthdihcchfjlgkaaGreat
open Go Go.AM
set_option linter.unusedSimpArgs false
set_option linter.unusedVariables false
set_option maxRecDepth 100000
theorem Jf {b:Bool} (h:b=false):¬ b=true:=by simp [h]
structure VwG (v:ZdT):Prop where
 ok:K3 v=true
 members:v.members.length≤4
 owners:v.owners.length≤4
theorem V3 {z:Int} (h:0≤z∧z < 4):Zs z=true:=by simp only [Zs,decide_eq_true_eq]; omega
theorem s30 (l:List Int):Ret (fun r=>∃ v:ZdT,r=(v.number,Za v.members,Za v.owners)∧VwG v) (g30 (Za l)):=by
 rw [ZuE]
 refine Zc (Zv l _) fun _ _=>Zc (place _ 200 (by omega) (by omega)) fun num hnum=>?_
 have part0:∀ mem:List Int,mem.length≤4→(∀ x∈mem,Zs x=true)→(∀ i (h:i < mem.length),ZdY mem i=true)→Ret (fun r=>∃ v:ZdT,r=(v.number,Za v.members,Za v.owners)∧VwG v) (ZkD Zw (Za l) 0 E0 E0 num (Za mem) E0 0):=by
  intro mem hm1 hm2 hm3
  refine Yh (F:=fun k (s:LL) z=>ZkD k (Za l) 0 E0 E0 num (Za mem) s z) 3 (fun i s=>∃ es:List Int,s=Za es∧es.length≤i∧∀ x∈es,Zs x=true) (by omega) (fun k i s hi hj ih=>?_) _ ⟨[],rfl,by simp,by simp⟩
  obtain ⟨es,rfl,h1,h2⟩:=hj
  show Ret _ (ZkD (k+1) _ _ _ _ _ _ _ _)
  rw [ZnI]
  refine Zc (Zv l _) fun _ _=>Zc (place _ 3 (by omega) (by omega)) fun r9 h9=>?_
  refine Zq (fun h4=>?_) fun _=>Zk ⟨⟨num,mem,es⟩,rfl,⟨?_,hm1,by show es.length≤4; omega⟩⟩
  ·simp only [CQ] at h4
   refine Zp (Zy (by simp [ZN]; omega) (by omega)) ?_
   refine Zc (Zv l _) fun _ _=>Zc (place _ 4 (by omega) (by omega)) fun r11 h11=>?_
   refine Zp (Zy (by simp [Za]; omega) (by omega)) ?_
   rw [Zd3 hi (by omega)]
   exact ih (by omega) _ ⟨es++[r11],(Kh ZhF es _),by simp; omega,YC h2 (V3 h11)⟩
  ·have a1:((List.range' 0 mem.length).all fun i=>atB Zs mem i&&ZdY mem i)=true:=by
    rw [List.all_eq_true]
    intro i hi
    rw [List.mem_range'_1] at hi
    have hil:i < mem.length:=by omega
    rw [Je _ hil,hm2 _ (List.getElem_mem hil),hm3 i hil]; rfl
   have a2:Ju num=true:=by simp only [Ju,decide_eq_true_eq]; omega
   simp only [K3,a1,a2,List.all_eq_true.2 h2,Bool.and_true,Bool.true_and,Bool.and_eq_true,decide_eq_true_eq]
   omega
 refine Yh (F:=fun k (s:LL) z=>Zla k (Za l) 0 E0 E0 num s E0 z) 4 (fun i s=>∃ es:List Int,s=Za es∧es.length≤i∧(∀ x∈es,Zs x=true)∧∀ i (h:i < es.length),ZdY es i=true) (by omega) (fun k i s hi hj ih=>?_) _ ⟨[],rfl,by simp,by simp,by simp⟩
 obtain ⟨es,rfl,h1,h2,h3⟩:=hj
 show Ret _ (Zla (k+1) _ _ _ _ _ _ _ _)
 rw [ZnS]
 refine Zc (Zv l _) fun _ _=>Zc (place _ 4 (by omega) (by omega)) fun r9 h9=>?_
 refine Zq (fun h4=>?_) fun _=>part0 es (by omega) h2 h3
 simp only [CQ] at h4
 refine Zc (Zv l _) fun _ _=>Zc (place _ 4 (by omega) (by omega)) fun r11 h11=>?_
 rw [s59 es (by omega),Option.bind_some,Zd3 hi (by omega)]
 refine Zq (fun h5=>?_) fun _=>ih (by omega) _ ⟨es,rfl,by omega,h2,h3⟩
 refine Zp (Zy (by simp [ZN]; omega) (by omega)) ?_
 refine Zp (Zy (by simp [Za]; omega) (by omega)) ?_
 refine ih (by omega) _ ⟨es++[r11],(Kh ZhF es _),by simp; omega,YC h2 (V3 h11),fun j hj=>?_⟩
 rw [List.length_append,List.length_cons,List.length_nil] at hj
 rw [ZjC (by simpa using hj)]
 by_cases hjl:j < es.length
 ·have:=h3 j hjl
  rw [ZjC hjl] at this
  rw [List.getElem_append_left hjl,List.take_append_of_le_length (by omega)]
  exact this
 ·have e:j=es.length:=by omega
  subst e
  rw [List.getElem_append_right (Nat.le_refl _),List.take_left]
  simpa using h5
theorem s28 (z:Int):Ret (fun r=>∃ cs:List Int,r=Za cs∧cs.length≤4∧ZcX cs=true) (g28 z):=by
 rw [Zu0]
 refine Yh (F:=fun k (s:LL) i=>Zk3 k z s i) 4 (fun i s=>∃ es:List Int,s=Za es∧es.length≤i∧(∀ x∈es,0≤x∧x < (i:Int))∧KC ltI es=true) (by omega) (fun k i s hi hj ih=>?_) _ ⟨[],rfl,by simp,by simp,rfl⟩
 obtain ⟨es,rfl,h1,h2,h3⟩:=hj
 show Ret _ (Zk3 (k+1) _ _ _)
 rw [Zn3]
 refine Zq (fun h4=>?_) fun h4=>Zk ⟨es,rfl,by omega,?_⟩
 ·simp only [CQ] at h4
  have hw:IntKind.wrap .u64 (i:Int)=i:=KP (by omega) (by omega)
  rw [hw]
  refine Zp (by omega) (Zc (place _ 2 (by omega) (by omega)) fun r3 _=>?_)
  rw [Zd3 hi (by omega)]
  refine Zq (fun _=>?_) fun _=>ih (by omega) _ ⟨es,rfl,by omega,fun x hx=>by have:=h2 x hx; omega,h3⟩
  refine Zp (Zy (by simp [Za]; omega) (by omega)) (ih (by omega) _ ⟨es++[(i:Int)],(Kh ZhF es _),by simp; omega,fun x hx=>?_,Zjb h3 fun h=>?_⟩)
  ·rw [List.mem_append,List.mem_singleton] at hx
   rcases hx with hx | rfl
   ·have:=h2 x hx; omega
   ·omega
  ·have:=h2 _ (List.getElem_mem (show es.length - 1 < es.length by omega))
   rw [ltI,decide_eq_true_eq]; omega
 ·rw [ZcX,h3,Bool.and_true,List.all_eq_true]
  intro x hx
  have:=h2 x hx
  exact V3 ⟨by omega,by omega⟩
theorem s57 (a b c:Int):Ret (fun r=>∃ i:Id,r=(i.core,i.op,i.part)∧WM i=true) (g57 a b c):=by
 rw [ZvY]
 refine Zc (place a 4 (by omega) (by omega)) fun x hx=>Zc (place b 12 (by omega) (by omega)) fun y hy=>Zc (place c 3 (by omega) (by omega)) fun z hz=>?_
 have e:iop .add .i64 1 y=1+y:=Y8 (by omega) (by omega)
 rw [e]
 exact Zk ⟨⟨x,1+y,z⟩,rfl,by simp only [WM,decide_eq_true_eq]; omega⟩
theorem s27 (l:List Int) (hn:l.length < 2 ^ 63):Ret (fun r=>∃ is:List Id,r=Zb is∧is.length≤8∧∀ i∈is,WM i=true) (g27 (Za l)):=by
 rw [Zua]
 refine Vj (F:=fun k (s:LL) i=>ZhP k (Za l) s i) (n:=l.length) (fun i s=>∃ es:List Id,s=Zb es∧es.length≤8∧∀ i∈es,WM i=true) hn (fun k i s hi hj ih=>?_) (fun k s hj=>?_) _ ⟨[],rfl,by simp,by simp⟩
 ·obtain ⟨es,rfl,h1,h2⟩:=hj
  show Ret _ (ZhP (k+1) _ _ _)
  rw [Zi5,ZN,Z1,if_pos (Z2 hi)]
  refine Zq (fun h4=>?_) fun _=>Zk ⟨es,rfl,h1,h2⟩
  simp only [CQ] at h4
  refine Ze (Z0 hi _) (Ze (Z0 hi _) (Zp (by omega) (Ze (Z0 hi _) (Zp (by omega) ?_))))
  refine Zc (s57 _ _ _) fun r ⟨x,hx,hxo⟩=>?_
  subst hx
  rw [s58 es (by omega),Option.bind_some,ZR hi hn]
  refine Zq (fun _=>?_) fun _=>ih _ ⟨es,rfl,h1,h2⟩
  exact Zp (Zy (by rw [Z1]; simp; omega) (by omega)) (ih _ ⟨es++[x],by simp [Zb,idc],by simp; omega,YC h2 hxo⟩)
 ·obtain ⟨es,rfl,h1,h2⟩:=hj
  show Ret _ (ZhP (k+1) _ _ _)
  rw [Zi5,ZN,if_neg (ZZ (Nat.le_refl _))]
  exact Zk ⟨es,rfl,h1,h2⟩
structure StS (s:Kg):Prop where
 ok:YI s=true
 slots:s.slots.length≤12
 spath:∀ x∈s.slots,x.node.path.length≤20
 pend:s.pending.length≤3
 psrc:∀ q∈s.pending,q.src.path.length≤20
 marks:s.marks.length≤3
 answers:s.answers.length≤3
 entries:s.entries.length≤3
 epath:∀ e∈s.entries,e.node.path.length≤20
 commits:s.commits.length≤3
theorem StG.short {f:List ZJ} {n:Nat} (hf:FOk f n) {s:Kg} (h:StG f s):StS s:=⟨h.ok,by have:=h.slots.len; omega,(h.few hf).path,h.pend,fun q hq=>(h.psrc q hq).1,h.marks,h.answers,h.entries,h.epath,h.commits⟩
theorem StS.fits {s:Kg} (h:StS s):s.Fits:=by
 have h1:=h.slots; have h2:=h.pend; have h3:=h.marks; have h4:=h.answers; have h5:=h.entries; have h6:=h.commits
 exact ⟨by omega,by omega,by omega,by omega,by omega,by omega,fun x hx=>by have:=h.spath x hx; omega,fun x hx=>by have:=h.psrc x hx; omega,fun x hx=>by have:=h.epath x hx; omega⟩
theorem Va:StS Zi:=⟨by kernel_rfl,by simp [Zi],by simp [Zi],by simp [Zi],by simp [Zi],by simp [Zi],by simp [Zi],by simp [Zi],by simp [Zi],by simp [Zi]⟩
theorem K6:VwG ZH:=⟨by kernel_rfl,by simp [ZH],by simp [ZH]⟩
theorem VwG.fits {v:ZdT} (h:VwG v):v.Fits:=⟨by have:=h.members; omega,by have:=h.owners; omega⟩
structure RpS (r:Yv):Prop where
 core:Zs r.core=true
 view:VwG r.view
 state:StS r.state
 next:VwG r.next
 proposal:StS r.proposal
theorem RpS.ok {r:Yv} (h:RpS r):ZhK r=true:=by simp only [ZhK,h.core,h.view.ok,h.state.ok,h.next.ok,h.proposal.ok,Bool.and_self]
theorem Wc:RpS Zm:=⟨by kernel_rfl,K6,Va,K6,Va⟩
abbrev RpT:=Int×Int×LL×LL×LL×LL×LL×LL×LL×LL×Bool×Int×LL×LL×LL×LL×LL×LL×LL×LL
def rpV (r:Yv):RpT:=(r.core,r.view.number,Za r.view.members,Za r.view.owners,r.state.slots.map Zf,r.state.pending.map Zt,r.state.marks.map Zj,r.state.answers.map ZF,r.state.entries.map Zd,Zb r.state.commits,r.ready,r.next.number,Za r.next.members,Za r.next.owners,r.proposal.slots.map Zf,r.proposal.pending.map Zt,r.proposal.marks.map Zj,r.proposal.answers.map ZF,r.proposal.entries.map Zd,Zb r.proposal.commits)
theorem s29 (l:List Int) (f:List ZJ) (n:Nat) (hf:FOk f n) (hn:n≤60):Ret (fun r=>∃ p:Yv,r=rpV p∧RpS p) (g29 (Za l) (f.map Zd)):=by
 rw [ZtI]
 refine Zc (Zv l _) fun _ _=>Zc (place _ 4 (by omega) (by omega)) fun c hc=>?_
 refine Zc (s24 l 1 (by omega)) fun r ⟨l1,hr,_⟩=>?_
 subst hr
 refine Zc (s30 l1) fun r ⟨v,hr,hv⟩=>?_
 subst hr
 refine Zc (s24 l 2 (by omega)) fun r ⟨l2,hr,_⟩=>?_
 subst hr
 refine Zc (s9 l2 f n hf hn c) fun r ⟨s,hr,hs⟩=>?_
 subst hr
 refine Zc (Zv l _) fun _ _=>Zc (place _ 2 (by omega) (by omega)) fun _ _=>?_
 refine Zq (fun _=>?_) fun _=>Zk ⟨⟨c,v,s,false,ZH,Zi⟩,rfl,⟨V3 hc,hv,hs.short hf,K6,Va⟩⟩
 refine Zc (s24 l 4 (by omega)) fun r ⟨l1,hr,_⟩=>?_
 subst hr
 refine Zc (s30 l1) fun r ⟨v2,hr,hv2⟩=>?_
 subst hr
 refine Zc (s24 l 5 (by omega)) fun r ⟨l2,hr,_⟩=>?_
 subst hr
 refine Zc (s9 l2 f n hf hn c) fun r ⟨s2,hr,hs2⟩=>?_
 subst hr
 exact Zk ⟨⟨c,v,s,true,v2,s2⟩,rfl,⟨V3 hc,hv,hs.short hf,hv2,hs2.short hf⟩⟩
structure MsS (m:Msg):Prop where
 req:m.req.src.path.length≤20
 ids:m.ids.length≤8
 nodes:m.nodes.length≤3
 node:∀ x∈m.nodes,x.path.length≤20
 cores:m.cores.length≤4
 moves:m.moves.length≤3
 next:VwG m.next
 state:StS m.state
 report:RpS m.report
theorem RpS.fits {r:Yv} (h:RpS r):r.Fits:=⟨h.view.fits,h.state.fits,h.next.fits,h.proposal.fits⟩
theorem MsS.fits {m:Msg} (h:MsS m):m.Fits:=⟨by have:=h.req; omega,by have:=h.ids; omega,by have:=h.nodes; omega,fun x hx=>by have:=h.node x hx; omega,by have:=h.cores; omega,by have:=h.moves; omega,h.next.fits,h.state.fits,h.report.fits⟩
theorem JC (m:Msg) (k:Nat) (hk:m.kind=(k:Int)) (h1:1≤k) (h2:k≤17) (hv:0≤m.view∧m.view < 70) (hf:0≤m.frm∧m.frm < 4) (ht:0≤m.to∧m.to < 4) (hfs:(kf k).all (Zg m)=true) (hr:rest k m=true):K0 m=true:=by
 have e1:kindOk m.kind=true:=by simp only [kindOk,decide_eq_true_eq]; omega
 have e2:Ju m.view=true:=by simp only [Ju,decide_eq_true_eq]; omega
 have e3:m.kind.toNat=k:=by omega
 simp only [K0,headOk,e1,e2,V3 hf,V3 ht,e3,hfs,hr,Bool.and_self]
theorem ZxB (l:List Int) (f:List ZJ) (n:Nat) (hf:FOk f n) (hn:n≤60) (m:Msg) :
  Ret (fun r=>∃ ns:List Yr,r=ZlB { m with nodes:=ns }∧ns.length≤3∧(∀ x∈ns,ZK x=true)∧∀ x∈ns,x.path.length≤20) (ZbI Zw (Za l) (f.map Zd) 0 0 0 0 0 0 0 0 0 0 0 false 0 0 0 0 0 0 0 0 0 0 0 0 0 0 0 0 0 0 0 0 E0 0 0 0 0 0 0 false E0 E0 E0 E0 0 0 E0 E0 E0 E0 E0 E0 E0 E0 0 0 E0 E0 E0 E0 E0 E0 E0 E0 false 0 E0 E0 E0 E0 E0 E0 E0 E0 m.kind m.view m.frm m.to m.round m.region m.slot m.op.core m.op.op m.op.part m.err m.settled m.req.id.core m.req.id.op m.req.id.part m.req.call.kind m.req.call.slot m.req.call.dest m.req.call.core m.req.call.mask m.req.call.object m.req.call.bits m.req.call.level m.req.call.offset m.req.call.count m.req.call.index m.req.call.addr m.req.region m.req.width m.req.src.id.core m.req.src.id.op m.req.src.id.part (Zb m.req.src.path) m.req.src.cap.kind m.req.src.cap.base m.req.src.cap.bits m.req.src.cap.rights m.req.src.cap.width m.req.src.cap.level m.req.src.cap.device (Zb m.ids) E0 (Za m.cores) (m.moves.map Z4) m.base m.next.number (Za m.next.members) (Za m.next.owners) (m.state.slots.map Zf) (m.state.pending.map Zt) (m.state.marks.map Zj) (m.state.answers.map ZF) (m.state.entries.map Zd) (Zb m.state.commits) m.report.core m.report.view.number (Za m.report.view.members) (Za m.report.view.owners) (m.report.state.slots.map Zf) (m.report.state.pending.map Zt) (m.report.state.marks.map Zj) (m.report.state.answers.map ZF) (m.report.state.entries.map Zd) (Zb m.report.state.commits) m.report.ready m.report.next.number (Za m.report.next.members) (Za m.report.next.owners) (m.report.proposal.slots.map Zf) (m.report.proposal.pending.map Zt) (m.report.proposal.marks.map Zj) (m.report.proposal.answers.map ZF) (m.report.proposal.entries.map Zd) (Zb m.report.proposal.commits) 0):=by
 have hfl:=hf.len
 refine Yh (F:=fun k (s:LL) z=>ZbI k (Za l) (f.map Zd) 0 0 0 0 0 0 0 0 0 0 0 false 0 0 0 0 0 0 0 0 0 0 0 0 0 0 0 0 0 0 0 0 E0 0 0 0 0 0 0 false E0 E0 E0 E0 0 0 E0 E0 E0 E0 E0 E0 E0 E0 0 0 E0 E0 E0 E0 E0 E0 E0 E0 false 0 E0 E0 E0 E0 E0 E0 E0 E0 m.kind m.view m.frm m.to m.round m.region m.slot m.op.core m.op.op m.op.part m.err m.settled m.req.id.core m.req.id.op m.req.id.part m.req.call.kind m.req.call.slot m.req.call.dest m.req.call.core m.req.call.mask m.req.call.object m.req.call.bits m.req.call.level m.req.call.offset m.req.call.count m.req.call.index m.req.call.addr m.req.region m.req.width m.req.src.id.core m.req.src.id.op m.req.src.id.part (Zb m.req.src.path) m.req.src.cap.kind m.req.src.cap.base m.req.src.cap.bits m.req.src.cap.rights m.req.src.cap.width m.req.src.cap.level m.req.src.cap.device (Zb m.ids) s (Za m.cores) (m.moves.map Z4) m.base m.next.number (Za m.next.members) (Za m.next.owners) (m.state.slots.map Zf) (m.state.pending.map Zt) (m.state.marks.map Zj) (m.state.answers.map ZF) (m.state.entries.map Zd) (Zb m.state.commits) m.report.core m.report.view.number (Za m.report.view.members) (Za m.report.view.owners) (m.report.state.slots.map Zf) (m.report.state.pending.map Zt) (m.report.state.marks.map Zj) (m.report.state.answers.map ZF) (m.report.state.entries.map Zd) (Zb m.report.state.commits) m.report.ready m.report.next.number (Za m.report.next.members) (Za m.report.next.owners) (m.report.proposal.slots.map Zf) (m.report.proposal.pending.map Zt) (m.report.proposal.marks.map Zj) (m.report.proposal.answers.map ZF) (m.report.proposal.entries.map Zd) (Zb m.report.proposal.commits) z) 3 (fun i s=>∃ es:List Yr,s=es.map ZP∧es.length≤i∧(∀ x∈es,ZK x=true)∧∀ x∈es,x.path.length≤20) (by omega) (fun k i s hi hj ih=>?_) _ ⟨[],rfl,by simp,by simp,by simp⟩
 obtain ⟨es,rfl,h1,h2,h3⟩:=hj
 refine Ze (ZnV ..) ?_
 refine Zc (Zv l _) fun _ _=>Zc (place _ 3 (by omega) (by omega)) fun r16 h16=>?_
 refine Zq (fun h4=>?_) fun _=>Zk ⟨es,rfl,by omega,h2,h3⟩
 refine Zq (fun h5=>?_) fun _=>Zk ⟨es,rfl,by omega,h2,h3⟩
 simp only [CQ,List.length_map] at h4 h5
 have hif:i < f.length:=by omega
 refine Zp (Zy (by simp; omega) (by omega)) ?_
 refine Ze (Zu hif _) ?_
 have hno:=(hf.all _ (List.getElem_mem hif)).ok
 have hp:=(Yb hno).2.2.1
 refine Jx (s26 f[i].node (by omega)) ?_
 refine Zp (Zy (by simp; omega) (by omega)) ?_
 refine Ze (congrArg (fun z=>ZbI k (Za l) (f.map Zd) 0 0 0 0 0 0 0 0 0 0 0 false 0 0 0 0 0 0 0 0 0 0 0 0 0 0 0 0 0 0 0 0 E0 0 0 0 0 0 0 false E0 E0 E0 E0 0 0 E0 E0 E0 E0 E0 E0 E0 E0 0 0 E0 E0 E0 E0 E0 E0 E0 E0 false 0 E0 E0 E0 E0 E0 E0 E0 E0 m.kind m.view m.frm m.to m.round m.region m.slot m.op.core m.op.op m.op.part m.err m.settled m.req.id.core m.req.id.op m.req.id.part m.req.call.kind m.req.call.slot m.req.call.dest m.req.call.core m.req.call.mask m.req.call.object m.req.call.bits m.req.call.level m.req.call.offset m.req.call.count m.req.call.index m.req.call.addr m.req.region m.req.width m.req.src.id.core m.req.src.id.op m.req.src.id.part (Zb m.req.src.path) m.req.src.cap.kind m.req.src.cap.base m.req.src.cap.bits m.req.src.cap.rights m.req.src.cap.width m.req.src.cap.level m.req.src.cap.device (Zb m.ids) (es.map ZP++(E0++[ZP f[i].node])) (Za m.cores) (m.moves.map Z4) m.base m.next.number (Za m.next.members) (Za m.next.owners) (m.state.slots.map Zf) (m.state.pending.map Zt) (m.state.marks.map Zj) (m.state.answers.map ZF) (m.state.entries.map Zd) (Zb m.state.commits) m.report.core m.report.view.number (Za m.report.view.members) (Za m.report.view.owners) (m.report.state.slots.map Zf) (m.report.state.pending.map Zt) (m.report.state.marks.map Zj) (m.report.state.answers.map ZF) (m.report.state.entries.map Zd) (Zb m.report.state.commits) m.report.ready m.report.next.number (Za m.report.next.members) (Za m.report.next.owners) (m.report.proposal.slots.map Zf) (m.report.proposal.pending.map Zt) (m.report.proposal.marks.map Zj) (m.report.proposal.answers.map ZF) (m.report.proposal.entries.map Zd) (Zb m.report.proposal.commits) z) (Zd3 hi (by omega))) ?_
 exact ih (by omega) _ ⟨es++[f[i].node],(Kh ZP es f[i].node),by simp; omega,YC h2 hno,YC h3 (by omega)⟩
theorem Zx9 (l:List Int) (m:Msg) :
  Ret (fun r=>∃ ns:List ZhG,r=ZlB { m with moves:=ns }∧ns.length≤3∧(∀ x∈ns,K2 x=true)) (Zby Zw (Za l) 0 0 0 0 0 0 0 0 0 0 0 false 0 0 0 0 0 0 0 0 0 0 0 0 0 0 0 0 0 0 0 0 E0 0 0 0 0 0 0 false E0 E0 E0 E0 0 0 E0 E0 E0 E0 E0 E0 E0 E0 0 0 E0 E0 E0 E0 E0 E0 E0 E0 false 0 E0 E0 E0 E0 E0 E0 E0 E0 m.kind m.view m.frm m.to m.round m.region m.slot m.op.core m.op.op m.op.part m.err m.settled m.req.id.core m.req.id.op m.req.id.part m.req.call.kind m.req.call.slot m.req.call.dest m.req.call.core m.req.call.mask m.req.call.object m.req.call.bits m.req.call.level m.req.call.offset m.req.call.count m.req.call.index m.req.call.addr m.req.region m.req.width m.req.src.id.core m.req.src.id.op m.req.src.id.part (Zb m.req.src.path) m.req.src.cap.kind m.req.src.cap.base m.req.src.cap.bits m.req.src.cap.rights m.req.src.cap.width m.req.src.cap.level m.req.src.cap.device (Zb m.ids) (m.nodes.map ZP) (Za m.cores) E0 m.base m.next.number (Za m.next.members) (Za m.next.owners) (m.state.slots.map Zf) (m.state.pending.map Zt) (m.state.marks.map Zj) (m.state.answers.map ZF) (m.state.entries.map Zd) (Zb m.state.commits) m.report.core m.report.view.number (Za m.report.view.members) (Za m.report.view.owners) (m.report.state.slots.map Zf) (m.report.state.pending.map Zt) (m.report.state.marks.map Zj) (m.report.state.answers.map ZF) (m.report.state.entries.map Zd) (Zb m.report.state.commits) m.report.ready m.report.next.number (Za m.report.next.members) (Za m.report.next.owners) (m.report.proposal.slots.map Zf) (m.report.proposal.pending.map Zt) (m.report.proposal.marks.map Zj) (m.report.proposal.answers.map ZF) (m.report.proposal.entries.map Zd) (Zb m.report.proposal.commits) 0):=by
 refine Yh (F:=fun k (s:LL) z=>Zby k (Za l) 0 0 0 0 0 0 0 0 0 0 0 false 0 0 0 0 0 0 0 0 0 0 0 0 0 0 0 0 0 0 0 0 E0 0 0 0 0 0 0 false E0 E0 E0 E0 0 0 E0 E0 E0 E0 E0 E0 E0 E0 0 0 E0 E0 E0 E0 E0 E0 E0 E0 false 0 E0 E0 E0 E0 E0 E0 E0 E0 m.kind m.view m.frm m.to m.round m.region m.slot m.op.core m.op.op m.op.part m.err m.settled m.req.id.core m.req.id.op m.req.id.part m.req.call.kind m.req.call.slot m.req.call.dest m.req.call.core m.req.call.mask m.req.call.object m.req.call.bits m.req.call.level m.req.call.offset m.req.call.count m.req.call.index m.req.call.addr m.req.region m.req.width m.req.src.id.core m.req.src.id.op m.req.src.id.part (Zb m.req.src.path) m.req.src.cap.kind m.req.src.cap.base m.req.src.cap.bits m.req.src.cap.rights m.req.src.cap.width m.req.src.cap.level m.req.src.cap.device (Zb m.ids) (m.nodes.map ZP) (Za m.cores) s m.base m.next.number (Za m.next.members) (Za m.next.owners) (m.state.slots.map Zf) (m.state.pending.map Zt) (m.state.marks.map Zj) (m.state.answers.map ZF) (m.state.entries.map Zd) (Zb m.state.commits) m.report.core m.report.view.number (Za m.report.view.members) (Za m.report.view.owners) (m.report.state.slots.map Zf) (m.report.state.pending.map Zt) (m.report.state.marks.map Zj) (m.report.state.answers.map ZF) (m.report.state.entries.map Zd) (Zb m.report.state.commits) m.report.ready m.report.next.number (Za m.report.next.members) (Za m.report.next.owners) (m.report.proposal.slots.map Zf) (m.report.proposal.pending.map Zt) (m.report.proposal.marks.map Zj) (m.report.proposal.answers.map ZF) (m.report.proposal.entries.map Zd) (Zb m.report.proposal.commits) z) 3 (fun i s=>∃ es:List ZhG,s=es.map Z4∧es.length≤i∧(∀ x∈es,K2 x=true)) (by omega) (fun k i s hi hj ih=>?_) _ ⟨[],rfl,by simp,by simp⟩
 obtain ⟨es,rfl,h1,h2⟩:=hj
 refine Ze (Zoo ..) ?_
 refine Zc (Zv l _) fun _ _=>Zc (place _ 3 (by omega) (by omega)) fun r16 h16=>?_
 refine Zq (fun h4=>?_) fun _=>Zk ⟨es,rfl,by omega,h2⟩
 simp only [CQ] at h4
 refine Zp (Zy (by simp; omega) (by omega)) ?_
 refine Zc (Zv l _) fun _ _=>Zc (place _ 3 (by omega) (by omega)) fun a ha=>?_
 refine Zc (Zv l _) fun _ _=>Zc (place _ 4 (by omega) (by omega)) fun b hb=>?_
 refine Zp (Zy (by simp; omega) (by omega)) ?_
 refine Ze (congrArg (fun z=>Zby k (Za l) 0 0 0 0 0 0 0 0 0 0 0 false 0 0 0 0 0 0 0 0 0 0 0 0 0 0 0 0 0 0 0 0 E0 0 0 0 0 0 0 false E0 E0 E0 E0 0 0 E0 E0 E0 E0 E0 E0 E0 E0 0 0 E0 E0 E0 E0 E0 E0 E0 E0 false 0 E0 E0 E0 E0 E0 E0 E0 E0 m.kind m.view m.frm m.to m.round m.region m.slot m.op.core m.op.op m.op.part m.err m.settled m.req.id.core m.req.id.op m.req.id.part m.req.call.kind m.req.call.slot m.req.call.dest m.req.call.core m.req.call.mask m.req.call.object m.req.call.bits m.req.call.level m.req.call.offset m.req.call.count m.req.call.index m.req.call.addr m.req.region m.req.width m.req.src.id.core m.req.src.id.op m.req.src.id.part (Zb m.req.src.path) m.req.src.cap.kind m.req.src.cap.base m.req.src.cap.bits m.req.src.cap.rights m.req.src.cap.width m.req.src.cap.level m.req.src.cap.device (Zb m.ids) (m.nodes.map ZP) (Za m.cores) (es.map Z4++(E0++[Z4 ⟨a,b⟩])) m.base m.next.number (Za m.next.members) (Za m.next.owners) (m.state.slots.map Zf) (m.state.pending.map Zt) (m.state.marks.map Zj) (m.state.answers.map ZF) (m.state.entries.map Zd) (Zb m.state.commits) m.report.core m.report.view.number (Za m.report.view.members) (Za m.report.view.owners) (m.report.state.slots.map Zf) (m.report.state.pending.map Zt) (m.report.state.marks.map Zj) (m.report.state.answers.map ZF) (m.report.state.entries.map Zd) (Zb m.report.state.commits) m.report.ready m.report.next.number (Za m.report.next.members) (Za m.report.next.owners) (m.report.proposal.slots.map Zf) (m.report.proposal.pending.map Zt) (m.report.proposal.marks.map Zj) (m.report.proposal.answers.map ZF) (m.report.proposal.entries.map Zd) (Zb m.report.proposal.commits) z) (Zd3 hi (by omega))) ?_
 refine ih (by omega) _ ⟨es++[⟨a,b⟩],(Kh Z4 es ⟨a,b⟩),by simp; omega,YC h2 ?_⟩
 simp only [K2,V3 hb,Z5,Bool.and_true,decide_eq_true_eq]
 omega
theorem s10 (kind:Int) (l:List Int) (hl:l.length < 2 ^ 63) (f:List ZJ) (n:Nat) (hf:FOk f n) (hn:n≤60):Ret (fun r=>∃ m:Msg,r=ZlB m∧K0 m=true∧MsS m) (g10 kind (Za l) (f.map Zd)):=by
 rw [Ztd]
 refine Zc (place _ 17 (by omega) (by omega)) fun r3 h3=>?_
 obtain ⟨kd,hkd⟩:∃ kd,kd=1+r3:=⟨_,rfl⟩
 have ek:iop .add .i64 1 r3=kd:=by rw [Y8 (by omega) (by omega),hkd]
 rw [ek]
 refine Zc (Zv l _) fun _ _=>Zc (place _ 70 (by omega) (by omega)) fun v hv=>?_
 refine Zc (Zv l _) fun _ _=>Zc (place _ 4 (by omega) (by omega)) fun fr hfr=>?_
 refine Zc (Zv l _) fun _ _=>Zc (place _ 4 (by omega) (by omega)) fun to hto=>?_
 refine Zc (Zv l _) fun _ _=>Zc (s22 _) fun r ⟨i,hr,hio⟩=>?_
 subst hr
 have hfl:=hf.len
 refine Zq (fun h4=>?a) fun _=>?b
 case' a=>
  simp only [CQ,List.length_map] at h4
  rw [List.length_map]
  refine Zc (Zv l _) fun _ _=>Zc (place _ _ (by omega) (by omega)) fun z hz=>?_
  have hzl:z.toNat < f.length:=by omega
  refine KG hz.1 hzl ?_
  have hn0:=(hf.all _ (List.getElem_mem hzl)).ok
  generalize f[z.toNat]=e at hn0
  let nd:Yr:=e.node
  have hno:ZK nd=true:=hn0
 case' b=>
  let nd:Yr:=⟨i,[],⟨2,4096,12,3,0,0,false⟩⟩
  have hno:ZK nd=true:=Zmz _ _ (by have:=hio.ok; rw [ZbX,Bool.and_eq_true] at this; exact this.1) (by kernel_rfl)
 all_goals
  have hpa:nd.path.length≤20:=by have:=(Yb hno).2.2.1; omega
  have hk17:kd=1∨kd=2∨kd=3∨kd=4∨kd=5∨kd=6∨kd=7∨kd=8∨kd=9∨kd=10∨kd=11∨kd=12∨kd=13∨kd=14∨kd=15∨kd=16∨kd=17:=by omega
  rcases hk17 with rfl | rfl | rfl | rfl | rfl | rfl | rfl | rfl | rfl | rfl | rfl | rfl | rfl | rfl | rfl | rfl | rfl
  ·refine Ze (if_pos (by kernel_rfl)) (Zc (Zv l _) fun _ _=>Zc (place _ 3 (by omega) (by omega)) fun rg hrg=>?_)
   have hrg':Z5 rg=true:=by simp only [Z5,decide_eq_true_eq]; omega
   refine Ze (if_neg (Jf (by kernel_rfl))) ?_
   refine Ze (if_pos (by kernel_rfl)) ?_
   refine Zc (s24 l 5 (by omega)) fun r ⟨l1,hr,hl1⟩=>?_
   subst hr
   refine Zc (s23 l1 nd hno hpa) fun r ⟨q,hr,⟨hqp,_⟩,hqo⟩=>?_
   subst hr
   exact Zk ⟨⟨1,v,fr,to,0,rg,0,zid,0,false,q,[],[],[],[],0,ZH,Zi,Zm⟩,rfl,JC ⟨1,v,fr,to,0,rg,0,zid,0,false,q,[],[],[],[],0,ZH,Zi,Zm⟩ 1 rfl (by decide) (by decide) hv hfr hto (by simp only [kf,List.all_cons,List.all_nil,Zg,decide_true,Bool.and_true,Bool.true_and,Bool.or_true,Bool.true_or,List.length_cons,List.length_nil,ne_eq,not_true_eq_false,not_false_eq_true,hrg',hqo]) (by kernel_rfl),⟨hqp,by simp,by simp,by simp,by simp,by simp,K6,Va,Wc⟩⟩
  ·refine Ze (if_pos (by kernel_rfl)) (Zc (Zv l _) fun _ _=>Zc (place _ 3 (by omega) (by omega)) fun rg hrg=>?_)
   have hrg':Z5 rg=true:=by simp only [Z5,decide_eq_true_eq]; omega
   refine Ze (if_pos (by kernel_rfl)) (Zc (Zv l _) fun _ _=>Zc (s22 _) fun r ⟨op,hr,hop⟩=>?_)
   subst hr
   refine Ze (if_neg (Jf (by kernel_rfl))) ?_
   refine Ze (if_pos (by kernel_rfl)) ?_
   refine Zc (Zv l 6) fun _ _=>Zc (place _ 20 (by omega) (by omega)) fun er her=>?_
   have her':Zc6 er=true:=by simp only [Zc6,decide_eq_true_eq]; omega
   refine Zc (Zv l 7) fun _ _=>Zc (place _ 2 (by omega) (by omega)) fun st hst=>?_
   refine Zjk (ZxB l f n hf hn ⟨2,v,fr,to,0,rg,0,op,er,(cop .eql st 1),Z9,[],[],[],[],0,ZH,Zi,Zm⟩) fun r ⟨ns,hr,hn1,hn2,hn3⟩=>?_
   exact ⟨⟨2,v,fr,to,0,rg,0,op,er,(cop .eql st 1),Z9,[],ns,[],[],0,ZH,Zi,Zm⟩,hr,JC ⟨2,v,fr,to,0,rg,0,op,er,(cop .eql st 1),Z9,[],ns,[],[],0,ZH,Zi,Zm⟩ 2 rfl (by decide) (by decide) hv hfr hto (by simp only [kf,List.all_cons,List.all_nil,Zg,decide_true,Bool.and_true,Bool.true_and,Bool.or_true,Bool.true_or,List.length_cons,List.length_nil,ne_eq,not_true_eq_false,not_false_eq_true,hrg',hop.ok,her',List.all_eq_true.2 hn2,show ns.length≤8 by omega,show ¬ ((2:Int)=4) by decide]) (by kernel_rfl),⟨by simp [Z9,ZU],by simp,hn1,hn3,by simp,by simp,K6,Va,Wc⟩⟩
  ·refine Ze (if_pos (by kernel_rfl)) (Zc (Zv l _) fun _ _=>Zc (place _ 3 (by omega) (by omega)) fun rg hrg=>?_)
   have hrg':Z5 rg=true:=by simp only [Z5,decide_eq_true_eq]; omega
   refine Ze (if_pos (by kernel_rfl)) (Zc (Zv l _) fun _ _=>Zc (s22 _) fun r ⟨op,hr,hop⟩=>?_)
   subst hr
   refine Ze (if_neg (Jf (by kernel_rfl))) ?_
   refine Ze (if_neg (Jf (by kernel_rfl))) ?_
   refine Ze (if_neg (Jf (by kernel_rfl))) ?_
   refine Ze (if_neg (Jf (by kernel_rfl))) ?_
   refine Ze (if_neg (Jf (by kernel_rfl))) ?_
   refine Ze (if_neg (Jf (by kernel_rfl))) ?_
   refine Ze (if_neg (Jf (by kernel_rfl))) ?_
   refine Ze (if_neg (Jf (by kernel_rfl))) ?_
   refine Ze (if_neg (Jf (by kernel_rfl))) ?_
   exact Zk ⟨⟨3,v,fr,to,0,rg,0,op,0,false,Z9,[],[],[],[],0,ZH,Zi,Zm⟩,rfl,JC ⟨3,v,fr,to,0,rg,0,op,0,false,Z9,[],[],[],[],0,ZH,Zi,Zm⟩ 3 rfl (by decide) (by decide) hv hfr hto (by simp only [kf,List.all_cons,List.all_nil,Zg,decide_true,Bool.and_true,Bool.true_and,Bool.or_true,Bool.true_or,List.length_cons,List.length_nil,ne_eq,not_true_eq_false,not_false_eq_true,hrg',hop.ok]) (by kernel_rfl),⟨by simp [Z9,ZU],by simp,by simp,by simp,by simp,by simp,K6,Va,Wc⟩⟩
  ·refine Ze (if_pos (by kernel_rfl)) (Zc (Zv l _) fun _ _=>Zc (place _ 3 (by omega) (by omega)) fun rg hrg=>?_)
   have hrg':Z5 rg=true:=by simp only [Z5,decide_eq_true_eq]; omega
   refine Ze (if_pos (by kernel_rfl)) (Zc (Zv l _) fun _ _=>Zc (s22 _) fun r ⟨op,hr,hop⟩=>?_)
   subst hr
   refine Ze (if_neg (Jf (by kernel_rfl))) ?_
   refine Ze (if_neg (Jf (by kernel_rfl))) ?_
   refine Ze (if_pos (by kernel_rfl)) ?_
   refine Zc (Zv l 6) fun _ _=>Zc (place _ 12 (by omega) (by omega)) fun sl hsl=>?_
   have hsl':Jw sl=true:=by simp only [Jw,decide_eq_true_eq]; omega
   refine Jx (s26 nd (Nat.le_trans hpa (by decide))) ?_
   exact Zk ⟨⟨4,v,fr,to,0,rg,sl,op,0,false,Z9,[],[nd],[],[],0,ZH,Zi,Zm⟩,rfl,JC ⟨4,v,fr,to,0,rg,sl,op,0,false,Z9,[],[nd],[],[],0,ZH,Zi,Zm⟩ 4 rfl (by decide) (by decide) hv hfr hto (by simp only [kf,List.all_cons,List.all_nil,Zg,decide_true,Bool.and_true,Bool.true_and,Bool.or_true,Bool.true_or,List.length_cons,List.length_nil,ne_eq,not_true_eq_false,not_false_eq_true,hrg',hop.ok,hsl',hno]; rfl) (by kernel_rfl),⟨by simp [Z9,ZU],by simp,by simp,by intro x hx; rw [List.mem_singleton] at hx; subst hx; exact hpa,by simp,by simp,K6,Va,Wc⟩⟩
  ·refine Ze (if_pos (by kernel_rfl)) (Zc (Zv l _) fun _ _=>Zc (place _ 3 (by omega) (by omega)) fun rg hrg=>?_)
   have hrg':Z5 rg=true:=by simp only [Z5,decide_eq_true_eq]; omega
   refine Ze (if_pos (by kernel_rfl)) (Zc (Zv l _) fun _ _=>Zc (s22 _) fun r ⟨op,hr,hop⟩=>?_)
   subst hr
   refine Ze (if_neg (Jf (by kernel_rfl))) ?_
   refine Ze (if_neg (Jf (by kernel_rfl))) ?_
   refine Ze (if_neg (Jf (by kernel_rfl))) ?_
   refine Ze (if_pos (by kernel_rfl)) ?_
   refine Zc (Zv l 6) fun _ _=>Zc (place _ 20 (by omega) (by omega)) fun er her=>?_
   have her':Zc6 er=true:=by simp only [Zc6,decide_eq_true_eq]; omega
   exact Zk ⟨⟨5,v,fr,to,0,rg,0,op,er,false,Z9,[],[],[],[],0,ZH,Zi,Zm⟩,rfl,JC ⟨5,v,fr,to,0,rg,0,op,er,false,Z9,[],[],[],[],0,ZH,Zi,Zm⟩ 5 rfl (by decide) (by decide) hv hfr hto (by simp only [kf,List.all_cons,List.all_nil,Zg,decide_true,Bool.and_true,Bool.true_and,Bool.or_true,Bool.true_or,List.length_cons,List.length_nil,ne_eq,not_true_eq_false,not_false_eq_true,hrg',hop.ok,her']) (by kernel_rfl),⟨by simp [Z9,ZU],by simp,by simp,by simp,by simp,by simp,K6,Va,Wc⟩⟩
  ·refine Ze (if_pos (by kernel_rfl)) (Zc (Zv l _) fun _ _=>Zc (place _ 3 (by omega) (by omega)) fun rg hrg=>?_)
   have hrg':Z5 rg=true:=by simp only [Z5,decide_eq_true_eq]; omega
   refine Ze (if_pos (by kernel_rfl)) (Zc (Zv l _) fun _ _=>Zc (s22 _) fun r ⟨op,hr,hop⟩=>?_)
   subst hr
   refine Ze (if_neg (Jf (by kernel_rfl))) ?_
   refine Ze (if_neg (Jf (by kernel_rfl))) ?_
   refine Ze (if_neg (Jf (by kernel_rfl))) ?_
   refine Ze (if_neg (Jf (by kernel_rfl))) ?_
   refine Ze (if_pos (by kernel_rfl)) ?_
   refine Zc (s24 l 6 (by omega)) fun r ⟨l1,hr,hl1⟩=>?_
   subst hr
   refine Zc (s27 l1 (by omega)) fun r ⟨is,hr,hi1,hi2⟩=>?_
   subst hr
   exact Zk ⟨⟨6,v,fr,to,0,rg,0,op,0,false,Z9,is,[],[],[],0,ZH,Zi,Zm⟩,rfl,JC ⟨6,v,fr,to,0,rg,0,op,0,false,Z9,is,[],[],[],0,ZH,Zi,Zm⟩ 6 rfl (by decide) (by decide) hv hfr hto (by simp only [kf,List.all_cons,List.all_nil,Zg,decide_true,Bool.and_true,Bool.true_and,Bool.or_true,Bool.true_or,List.length_cons,List.length_nil,ne_eq,not_true_eq_false,not_false_eq_true,hrg',hop.ok,List.all_eq_true.2 hi2,show is.length≤64 by omega]) (by kernel_rfl),⟨by simp [Z9,ZU],hi1,by simp,by simp,by simp,by simp,K6,Va,Wc⟩⟩
  ·refine Ze (if_pos (by kernel_rfl)) (Zc (Zv l _) fun _ _=>Zc (place _ 3 (by omega) (by omega)) fun rg hrg=>?_)
   have hrg':Z5 rg=true:=by simp only [Z5,decide_eq_true_eq]; omega
   refine Ze (if_pos (by kernel_rfl)) (Zc (Zv l _) fun _ _=>Zc (s22 _) fun r ⟨op,hr,hop⟩=>?_)
   subst hr
   refine Ze (if_neg (Jf (by kernel_rfl))) ?_
   refine Ze (if_neg (Jf (by kernel_rfl))) ?_
   refine Ze (if_neg (Jf (by kernel_rfl))) ?_
   refine Ze (if_neg (Jf (by kernel_rfl))) ?_
   refine Ze (if_neg (Jf (by kernel_rfl))) ?_
   refine Ze (if_neg (Jf (by kernel_rfl))) ?_
   refine Ze (if_neg (Jf (by kernel_rfl))) ?_
   refine Ze (if_neg (Jf (by kernel_rfl))) ?_
   refine Ze (if_neg (Jf (by kernel_rfl))) ?_
   exact Zk ⟨⟨7,v,fr,to,0,rg,0,op,0,false,Z9,[],[],[],[],0,ZH,Zi,Zm⟩,rfl,JC ⟨7,v,fr,to,0,rg,0,op,0,false,Z9,[],[],[],[],0,ZH,Zi,Zm⟩ 7 rfl (by decide) (by decide) hv hfr hto (by simp only [kf,List.all_cons,List.all_nil,Zg,decide_true,Bool.and_true,Bool.true_and,Bool.or_true,Bool.true_or,List.length_cons,List.length_nil,ne_eq,not_true_eq_false,not_false_eq_true,hrg',hop.ok]) (by kernel_rfl),⟨by simp [Z9,ZU],by simp,by simp,by simp,by simp,by simp,K6,Va,Wc⟩⟩
  ·refine Ze (if_pos (by kernel_rfl)) (Zc (Zv l _) fun _ _=>Zc (place _ 3 (by omega) (by omega)) fun rg hrg=>?_)
   have hrg':Z5 rg=true:=by simp only [Z5,decide_eq_true_eq]; omega
   refine Ze (if_pos (by kernel_rfl)) (Zc (Zv l _) fun _ _=>Zc (s22 _) fun r ⟨op,hr,hop⟩=>?_)
   subst hr
   refine Ze (if_neg (Jf (by kernel_rfl))) ?_
   refine Ze (if_neg (Jf (by kernel_rfl))) ?_
   refine Ze (if_neg (Jf (by kernel_rfl))) ?_
   refine Ze (if_neg (Jf (by kernel_rfl))) ?_
   refine Ze (if_neg (Jf (by kernel_rfl))) ?_
   refine Ze (if_neg (Jf (by kernel_rfl))) ?_
   refine Ze (if_neg (Jf (by kernel_rfl))) ?_
   refine Ze (if_neg (Jf (by kernel_rfl))) ?_
   refine Ze (if_neg (Jf (by kernel_rfl))) ?_
   exact Zk ⟨⟨8,v,fr,to,0,rg,0,op,0,false,Z9,[],[],[],[],0,ZH,Zi,Zm⟩,rfl,JC ⟨8,v,fr,to,0,rg,0,op,0,false,Z9,[],[],[],[],0,ZH,Zi,Zm⟩ 8 rfl (by decide) (by decide) hv hfr hto (by simp only [kf,List.all_cons,List.all_nil,Zg,decide_true,Bool.and_true,Bool.true_and,Bool.or_true,Bool.true_or,List.length_cons,List.length_nil,ne_eq,not_true_eq_false,not_false_eq_true,hrg',hop.ok]) (by kernel_rfl),⟨by simp [Z9,ZU],by simp,by simp,by simp,by simp,by simp,K6,Va,Wc⟩⟩
  ·refine Ze (if_pos (by kernel_rfl)) (Zc (Zv l _) fun _ _=>Zc (place _ 3 (by omega) (by omega)) fun rg hrg=>?_)
   have hrg':Z5 rg=true:=by simp only [Z5,decide_eq_true_eq]; omega
   refine Ze (if_pos (by kernel_rfl)) (Zc (Zv l _) fun _ _=>Zc (s22 _) fun r ⟨op,hr,hop⟩=>?_)
   subst hr
   refine Ze (if_neg (Jf (by kernel_rfl))) ?_
   refine Ze (if_neg (Jf (by kernel_rfl))) ?_
   refine Ze (if_neg (Jf (by kernel_rfl))) ?_
   refine Ze (if_neg (Jf (by kernel_rfl))) ?_
   refine Ze (if_neg (Jf (by kernel_rfl))) ?_
   refine Ze (if_neg (Jf (by kernel_rfl))) ?_
   refine Ze (if_neg (Jf (by kernel_rfl))) ?_
   refine Ze (if_neg (Jf (by kernel_rfl))) ?_
   refine Ze (if_neg (Jf (by kernel_rfl))) ?_
   exact Zk ⟨⟨9,v,fr,to,0,rg,0,op,0,false,Z9,[],[],[],[],0,ZH,Zi,Zm⟩,rfl,JC ⟨9,v,fr,to,0,rg,0,op,0,false,Z9,[],[],[],[],0,ZH,Zi,Zm⟩ 9 rfl (by decide) (by decide) hv hfr hto (by simp only [kf,List.all_cons,List.all_nil,Zg,decide_true,Bool.and_true,Bool.true_and,Bool.or_true,Bool.true_or,List.length_cons,List.length_nil,ne_eq,not_true_eq_false,not_false_eq_true,hrg',hop.ok]) (by kernel_rfl),⟨by simp [Z9,ZU],by simp,by simp,by simp,by simp,by simp,K6,Va,Wc⟩⟩
  ·refine Ze (if_pos (by kernel_rfl)) (Zc (Zv l _) fun _ _=>Zc (place _ 3 (by omega) (by omega)) fun rg hrg=>?_)
   have hrg':Z5 rg=true:=by simp only [Z5,decide_eq_true_eq]; omega
   refine Ze (if_pos (by kernel_rfl)) (Zc (Zv l _) fun _ _=>Zc (s22 _) fun r ⟨op,hr,hop⟩=>?_)
   subst hr
   refine Ze (if_neg (Jf (by kernel_rfl))) ?_
   refine Ze (if_neg (Jf (by kernel_rfl))) ?_
   refine Ze (if_neg (Jf (by kernel_rfl))) ?_
   refine Ze (if_neg (Jf (by kernel_rfl))) ?_
   refine Ze (if_neg (Jf (by kernel_rfl))) ?_
   refine Ze (if_neg (Jf (by kernel_rfl))) ?_
   refine Ze (if_neg (Jf (by kernel_rfl))) ?_
   refine Ze (if_neg (Jf (by kernel_rfl))) ?_
   refine Ze (if_neg (Jf (by kernel_rfl))) ?_
   exact Zk ⟨⟨10,v,fr,to,0,rg,0,op,0,false,Z9,[],[],[],[],0,ZH,Zi,Zm⟩,rfl,JC ⟨10,v,fr,to,0,rg,0,op,0,false,Z9,[],[],[],[],0,ZH,Zi,Zm⟩ 10 rfl (by decide) (by decide) hv hfr hto (by simp only [kf,List.all_cons,List.all_nil,Zg,decide_true,Bool.and_true,Bool.true_and,Bool.or_true,Bool.true_or,List.length_cons,List.length_nil,ne_eq,not_true_eq_false,not_false_eq_true,hrg',hop.ok]) (by kernel_rfl),⟨by simp [Z9,ZU],by simp,by simp,by simp,by simp,by simp,K6,Va,Wc⟩⟩
  ·refine Ze (if_pos (by kernel_rfl)) (Zc (Zv l _) fun _ _=>Zc (place _ 3 (by omega) (by omega)) fun rg hrg=>?_)
   have hrg':Z5 rg=true:=by simp only [Z5,decide_eq_true_eq]; omega
   refine Ze (if_pos (by kernel_rfl)) (Zc (Zv l _) fun _ _=>Zc (s22 _) fun r ⟨op,hr,hop⟩=>?_)
   subst hr
   refine Ze (if_neg (Jf (by kernel_rfl))) ?_
   refine Ze (if_neg (Jf (by kernel_rfl))) ?_
   refine Ze (if_neg (Jf (by kernel_rfl))) ?_
   refine Ze (if_neg (Jf (by kernel_rfl))) ?_
   refine Ze (if_neg (Jf (by kernel_rfl))) ?_
   refine Ze (if_neg (Jf (by kernel_rfl))) ?_
   refine Ze (if_neg (Jf (by kernel_rfl))) ?_
   refine Ze (if_neg (Jf (by kernel_rfl))) ?_
   refine Ze (if_neg (Jf (by kernel_rfl))) ?_
   exact Zk ⟨⟨11,v,fr,to,0,rg,0,op,0,false,Z9,[],[],[],[],0,ZH,Zi,Zm⟩,rfl,JC ⟨11,v,fr,to,0,rg,0,op,0,false,Z9,[],[],[],[],0,ZH,Zi,Zm⟩ 11 rfl (by decide) (by decide) hv hfr hto (by simp only [kf,List.all_cons,List.all_nil,Zg,decide_true,Bool.and_true,Bool.true_and,Bool.or_true,Bool.true_or,List.length_cons,List.length_nil,ne_eq,not_true_eq_false,not_false_eq_true,hrg',hop.ok]) (by kernel_rfl),⟨by simp [Z9,ZU],by simp,by simp,by simp,by simp,by simp,K6,Va,Wc⟩⟩
  ·refine Ze (if_neg (Jf (by kernel_rfl))) (Ze (if_pos (by kernel_rfl)) (Zc (Zv l _) fun _ _=>Zc (place _ 5 (by omega) (by omega)) fun rnd hrnd=>?_))
   have hrnd':Ju rnd=true:=by simp only [Ju,decide_eq_true_eq]; omega
   refine Ze (if_neg (Jf (by kernel_rfl))) ?_
   refine Ze (if_neg (Jf (by kernel_rfl))) ?_
   refine Ze (if_neg (Jf (by kernel_rfl))) ?_
   refine Ze (if_neg (Jf (by kernel_rfl))) ?_
   refine Ze (if_neg (Jf (by kernel_rfl))) ?_
   refine Ze (if_pos (by kernel_rfl)) ?_
   refine Zc (Zv l 6) fun _ _=>Zc (s28 _) fun r ⟨cs,hr,hc1,hc2⟩=>?_
   subst hr
   exact Zk ⟨⟨12,v,fr,to,rnd,0,0,zid,0,false,Z9,[],[],cs,[],0,ZH,Zi,Zm⟩,rfl,JC ⟨12,v,fr,to,rnd,0,0,zid,0,false,Z9,[],[],cs,[],0,ZH,Zi,Zm⟩ 12 rfl (by decide) (by decide) hv hfr hto (by simp only [kf,List.all_cons,List.all_nil,Zg,decide_true,Bool.and_true,Bool.true_and,Bool.or_true,Bool.true_or,List.length_cons,List.length_nil,ne_eq,not_true_eq_false,not_false_eq_true,hrnd',hc2]) (by kernel_rfl),⟨by simp [Z9,ZU],by simp,by simp,by simp,hc1,by simp,K6,Va,Wc⟩⟩
  ·refine Ze (if_neg (Jf (by kernel_rfl))) (Ze (if_pos (by kernel_rfl)) (Zc (Zv l _) fun _ _=>Zc (place _ 5 (by omega) (by omega)) fun rnd hrnd=>?_))
   have hrnd':Ju rnd=true:=by simp only [Ju,decide_eq_true_eq]; omega
   refine Ze (if_neg (Jf (by kernel_rfl))) ?_
   refine Ze (if_neg (Jf (by kernel_rfl))) ?_
   refine Ze (if_neg (Jf (by kernel_rfl))) ?_
   refine Ze (if_neg (Jf (by kernel_rfl))) ?_
   refine Ze (if_neg (Jf (by kernel_rfl))) ?_
   refine Ze (if_neg (Jf (by kernel_rfl))) ?_
   refine Ze (if_pos (by kernel_rfl)) ?_
   refine Zc (s24 l 6 (by omega)) fun r ⟨l1,hr,hl1⟩=>?_
   subst hr
   refine Zc (s29 l1 f n hf hn) fun r ⟨p,hr,hp⟩=>?_
   subst hr
   exact Zk ⟨⟨13,v,fr,to,rnd,0,0,zid,0,false,Z9,[],[],[],[],0,ZH,Zi,p⟩,rfl,JC ⟨13,v,fr,to,rnd,0,0,zid,0,false,Z9,[],[],[],[],0,ZH,Zi,p⟩ 13 rfl (by decide) (by decide) hv hfr hto (by simp only [kf,List.all_cons,List.all_nil,Zg,decide_true,Bool.and_true,Bool.true_and,Bool.or_true,Bool.true_or,List.length_cons,List.length_nil,ne_eq,not_true_eq_false,not_false_eq_true,hrnd',hp.ok]) (by kernel_rfl),⟨by simp [Z9,ZU],by simp,by simp,by simp,by simp,by simp,K6,Va,hp⟩⟩
  ·refine Ze (if_neg (Jf (by kernel_rfl))) (Ze (if_pos (by kernel_rfl)) (Zc (Zv l _) fun _ _=>Zc (place _ 5 (by omega) (by omega)) fun rnd hrnd=>?_))
   have hrnd':Ju rnd=true:=by simp only [Ju,decide_eq_true_eq]; omega
   refine Ze (if_neg (Jf (by kernel_rfl))) ?_
   refine Ze (if_neg (Jf (by kernel_rfl))) ?_
   refine Ze (if_neg (Jf (by kernel_rfl))) ?_
   refine Ze (if_neg (Jf (by kernel_rfl))) ?_
   refine Ze (if_neg (Jf (by kernel_rfl))) ?_
   refine Ze (if_neg (Jf (by kernel_rfl))) ?_
   refine Ze (if_neg (Jf (by kernel_rfl))) ?_
   refine Ze (if_pos (by kernel_rfl)) ?_
   refine Zc (Zv l 5) fun _ _=>Zc (place _ 70 (by omega) (by omega)) fun bs hbs=>?_
   have hbs':Ju bs=true:=by simp only [Ju,decide_eq_true_eq]; omega
   refine Zc (Zv l 6) fun _ _=>Zc (s28 _) fun r ⟨cs,hr,hc1,hc2⟩=>?_
   subst hr
   refine Zc (s24 l 7 (by omega)) fun r ⟨l1,hr,hl1⟩=>?_
   subst hr
   refine Zc (s30 l1) fun r ⟨nv,hr,hnv⟩=>?_
   subst hr
   refine Zc (s24 l 8 (by omega)) fun r ⟨l2,hr,hl2⟩=>?_
   subst hr
   refine Zc (Zv l 9) fun _ _=>Zc (place _ 4 (by omega) (by omega)) fun c9 hc9=>?_
   refine Zc (s9 l2 f n hf hn c9) fun r ⟨ss,hr,hss⟩=>?_
   subst hr
   exact Zk ⟨⟨14,v,fr,to,rnd,0,0,zid,0,false,Z9,[],[],cs,[],bs,nv,ss,Zm⟩,rfl,JC ⟨14,v,fr,to,rnd,0,0,zid,0,false,Z9,[],[],cs,[],bs,nv,ss,Zm⟩ 14 rfl (by decide) (by decide) hv hfr hto (by simp only [kf,List.all_cons,List.all_nil,Zg,decide_true,Bool.and_true,Bool.true_and,Bool.or_true,Bool.true_or,List.length_cons,List.length_nil,ne_eq,not_true_eq_false,not_false_eq_true,hrnd',hbs',hc2,hnv.ok,hss.ok]) (by kernel_rfl),⟨by simp [Z9,ZU],by simp,by simp,by simp,hc1,by simp,hnv,hss.short hf,Wc⟩⟩
  ·refine Ze (if_neg (Jf (by kernel_rfl))) (Ze (if_pos (by kernel_rfl)) (Zc (Zv l _) fun _ _=>Zc (place _ 5 (by omega) (by omega)) fun rnd hrnd=>?_))
   have hrnd':Ju rnd=true:=by simp only [Ju,decide_eq_true_eq]; omega
   refine Ze (if_neg (Jf (by kernel_rfl))) ?_
   refine Ze (if_neg (Jf (by kernel_rfl))) ?_
   refine Ze (if_neg (Jf (by kernel_rfl))) ?_
   refine Ze (if_neg (Jf (by kernel_rfl))) ?_
   refine Ze (if_neg (Jf (by kernel_rfl))) ?_
   refine Ze (if_neg (Jf (by kernel_rfl))) ?_
   refine Ze (if_neg (Jf (by kernel_rfl))) ?_
   refine Ze (if_neg (Jf (by kernel_rfl))) ?_
   refine Ze (if_neg (Jf (by kernel_rfl))) ?_
   exact Zk ⟨⟨15,v,fr,to,rnd,0,0,zid,0,false,Z9,[],[],[],[],0,ZH,Zi,Zm⟩,rfl,JC ⟨15,v,fr,to,rnd,0,0,zid,0,false,Z9,[],[],[],[],0,ZH,Zi,Zm⟩ 15 rfl (by decide) (by decide) hv hfr hto (by simp only [kf,List.all_cons,List.all_nil,Zg,decide_true,Bool.and_true,Bool.true_and,Bool.or_true,Bool.true_or,List.length_cons,List.length_nil,ne_eq,not_true_eq_false,not_false_eq_true,hrnd']) (by kernel_rfl),⟨by simp [Z9,ZU],by simp,by simp,by simp,by simp,by simp,K6,Va,Wc⟩⟩
  ·refine Ze (if_neg (Jf (by kernel_rfl))) (Ze (if_pos (by kernel_rfl)) (Zc (Zv l _) fun _ _=>Zc (place _ 5 (by omega) (by omega)) fun rnd hrnd=>?_))
   have hrnd':Ju rnd=true:=by simp only [Ju,decide_eq_true_eq]; omega
   refine Ze (if_neg (Jf (by kernel_rfl))) ?_
   refine Ze (if_neg (Jf (by kernel_rfl))) ?_
   refine Ze (if_neg (Jf (by kernel_rfl))) ?_
   refine Ze (if_neg (Jf (by kernel_rfl))) ?_
   refine Ze (if_neg (Jf (by kernel_rfl))) ?_
   refine Ze (if_neg (Jf (by kernel_rfl))) ?_
   refine Ze (if_neg (Jf (by kernel_rfl))) ?_
   refine Ze (if_neg (Jf (by kernel_rfl))) ?_
   refine Ze (if_neg (Jf (by kernel_rfl))) ?_
   exact Zk ⟨⟨16,v,fr,to,rnd,0,0,zid,0,false,Z9,[],[],[],[],0,ZH,Zi,Zm⟩,rfl,JC ⟨16,v,fr,to,rnd,0,0,zid,0,false,Z9,[],[],[],[],0,ZH,Zi,Zm⟩ 16 rfl (by decide) (by decide) hv hfr hto (by simp only [kf,List.all_cons,List.all_nil,Zg,decide_true,Bool.and_true,Bool.true_and,Bool.or_true,Bool.true_or,List.length_cons,List.length_nil,ne_eq,not_true_eq_false,not_false_eq_true,hrnd']) (by kernel_rfl),⟨by simp [Z9,ZU],by simp,by simp,by simp,by simp,by simp,K6,Va,Wc⟩⟩
  ·refine Ze (if_neg (Jf (by kernel_rfl))) (Ze (if_neg (Jf (by kernel_rfl))) ?_)
   refine Ze (if_neg (Jf (by kernel_rfl))) ?_
   refine Ze (if_neg (Jf (by kernel_rfl))) ?_
   refine Ze (if_neg (Jf (by kernel_rfl))) ?_
   refine Ze (if_neg (Jf (by kernel_rfl))) ?_
   refine Ze (if_neg (Jf (by kernel_rfl))) ?_
   refine Ze (if_neg (Jf (by kernel_rfl))) ?_
   refine Ze (if_neg (Jf (by kernel_rfl))) ?_
   refine Ze (if_neg (Jf (by kernel_rfl))) ?_
   refine Ze (if_pos (by kernel_rfl)) ?_
   refine Zc (Zv l 6) fun _ _=>Zc (s28 _) fun r ⟨cs,hr,hc1,hc2⟩=>?_
   subst hr
   refine Zjk (Zx9 l ⟨17,v,fr,to,0,0,0,zid,0,false,Z9,[],[],cs,[],0,ZH,Zi,Zm⟩) fun r ⟨ns,hr,hn1,hn2⟩=>?_
   exact ⟨⟨17,v,fr,to,0,0,0,zid,0,false,Z9,[],[],cs,ns,0,ZH,Zi,Zm⟩,hr,JC ⟨17,v,fr,to,0,0,0,zid,0,false,Z9,[],[],cs,ns,0,ZH,Zi,Zm⟩ 17 rfl (by decide) (by decide) hv hfr hto (by simp only [kf,List.all_cons,List.all_nil,Zg,decide_true,Bool.and_true,Bool.true_and,Bool.or_true,Bool.true_or,List.length_cons,List.length_nil,ne_eq,not_true_eq_false,not_false_eq_true,hc2,List.all_eq_true.2 hn2,show ns.length≤16 by omega]) (by kernel_rfl),⟨by simp [Z9,ZU],by simp,by simp,by simp,hc1,hn1,K6,Va,Wc⟩⟩
end Go.Proofs.YthdihcchfjlgkaaGreat
end

section
namespace Go.Proofs.YthdihcchfjlgkaaGreat
open Go Go.AM
set_option linter.unusedSimpArgs false
set_option linter.unusedVariables false
set_option maxRecDepth 100000
theorem s48 (r:Req) (h:r.src.path.length≤64):g48 r.id.core r.id.op r.id.part r.call.kind r.call.slot r.call.dest r.call.core r.call.mask r.call.object r.call.bits r.call.level r.call.offset r.call.count r.call.index r.call.addr r.region r.width r.src.id.core r.src.id.op r.src.id.part (Zb r.src.path) r.src.cap.kind r.src.cap.base r.src.cap.bits r.src.cap.rights r.src.cap.width r.src.cap.level r.src.cap.device=some (Zje r):=by
 rw [ZvP,s26 _ h]; rfl
theorem s17 (p:List Req) (h:Few p):g17 (p.map Zt)=some (p.map Zt):=by
 rw [Zvn]
 have hn:p.length < 2 ^ 63:=by have:=h.len; omega
 refine (ZiE (F:=fun k acc i=>Zku k (p.map Zt) acc i) p (fun r=>[Zt r]) hn (fun k i hi=>?_) (fun k acc i hi=>?_)).trans (by rw [Wq])
 ·show Zku (k+1) _ _ _=_
  rw [ZjX,List.length_map,if_pos (Z2 hi)]
  refine (Jc hi _).trans ?_
  simp only [Zje,d2,d4,d8,d16]
  have hp:=h.path p[i] (List.getElem_mem hi)
  rw [s48 p[i] (by omega),Option.bind_some]
  refine (Zn (Zy ?_ (by omega)) _).trans ?_
  ·rw [Wq]
   have:=h.len
   simp only [List.length_map,List.length_take,List.length_append,List.length_cons,List.length_nil]
   omega
  ·rw [ZR hi hn]
   rfl
 ·show Zku (k+1) _ _ _=_
  rw [ZjX,List.length_map,if_neg (ZZ hi)]
theorem l5a (l:List Jh) (p:List Req) (hn:p.length < 2 ^ 63):∃ b,Zo6 Zw (l.map Zf) (p.map Zt) 0=some b∧(b=true→l.length≤70∧Few p):=by
 have key:∀ (j i fuel:Nat),p.length≤i+j→j < fuel→(∀ m (hm:m < p.length),m < i→p[m].src.path.length≤20)→∃ b,Zo6 fuel (l.map Zf) (p.map Zt) (i:Int)=some b∧(b=true→l.length≤70∧Few p):=by
  have out:∀ i:Nat,(p.length≤i∨40≤i)→(∀ m (hm:m < p.length),m < i→p[m].src.path.length≤20)→
    ∃ b,(if (cop .leq (List.length (l.map Zf):Int) 70)=true then some (cop .leq (List.length (p.map Zt):Int) 30) else some false)=some b∧(b=true→l.length≤70∧Few p):=by
   intro i hi hpre
   split
   ·rename_i h1
    refine ⟨_,rfl,fun h2=>?_⟩
    simp only [CQ,List.length_map] at h1 h2
    refine ⟨by omega,by omega,fun r hr=>?_⟩
    obtain ⟨m,hm,rfl⟩:=List.getElem_of_mem hr
    exact hpre m hm (by omega)
   ·exact ⟨_,rfl,fun h=>by cases h⟩
  intro j
  induction j with
  | zero =>
   intro i fuel h hf hpre
   obtain ⟨q,rfl⟩:∃ q,fuel=q+1:=⟨fuel - 1,by omega⟩
   rw [Zmg,if_neg (by rw [List.length_map]; exact ZZ (by omega))]
   exact out i (.inl (by omega)) hpre
  | succ j ih =>
   intro i fuel h hf hpre
   obtain ⟨q,rfl⟩:∃ q,fuel=q+1:=⟨fuel - 1,by omega⟩
   rw [Zmg]
   by_cases hi:i < p.length
   ·rw [if_pos (by rw [List.length_map]; exact Z2 hi)]
    by_cases h40:i < 40
    ·rw [if_pos (by simp only [CQ]; omega)]
     have e:=Jc hi (γ:=Bool) fun r3=>if (cop .gtr (List.length (d4 (d16 r3)).1:Int) 20)=true then some (false) else Zo6 q (l.map Zf) (p.map Zt) (iop .add .i64 (i:Int) 1)
     rw [show (Zl (p.map Zt) (i:Int) hs3 fun (r3:Qt7)=>if (cop .gtr (List.length (d4 (d16 r3)).1:Int) 20)=true then some (false) else Zo6 q (l.map Zf) (p.map Zt) (iop .add .i64 (i:Int) 1))=_ from e]
     simp only [Zje,d4,d16,ZR hi hn,Z1]
     split
     ·exact ⟨_,rfl,fun h=>by cases h⟩
     ·rename_i h2
      simp only [CQ] at h2
      exact ih (i+1) q (by omega) (by omega) fun m hm hmi=>by
       by_cases hmi':m=i
       ·subst hmi'; omega
       ·exact hpre m hm (by omega)
    ·rw [if_neg (by simp only [CQ]; omega)]
     exact out i (.inr (by omega)) hpre
   ·rw [if_neg (by rw [List.length_map]; exact ZZ (by omega))]
    exact out i (.inl (by omega)) hpre
 exact key p.length 0 Zw (by omega) (by have:=JA hn; omega) (fun m _ h=>by omega)
theorem s5 (l:List Jh) (p:List Req) (hl:l.length < 2 ^ 63) (hn:p.length < 2 ^ 63):∃ b,g5 (l.map Zf) (p.map Zt)=some b∧(b=true→VI l∧Few p):=by
 rw [Zy8]
 have key:∀ (j i fuel:Nat),l.length≤i+j→j < fuel→(∀ m (hm:m < l.length),m < i→l[m].node.path.length≤20)→∃ b,ZsZ fuel (l.map Zf) (p.map Zt) (i:Int)=some b∧(b=true→VI l∧Few p):=by
  have out:∀ i:Nat,(l.length≤i∨80≤i)→(∀ m (hm:m < l.length),m < i→l[m].node.path.length≤20)→
    ∃ b,Zo6 Zw (l.map Zf) (p.map Zt) 0=some b∧(b=true→VI l∧Few p):=by
   intro i hi hpre
   obtain ⟨b,h1,h2⟩:=l5a l p hn
   refine ⟨b,h1,fun hb=>⟨⟨(h2 hb).1,fun r hr=>?_⟩,(h2 hb).2⟩⟩
   obtain ⟨m,hm,rfl⟩:=List.getElem_of_mem hr
   exact hpre m hm (by have:=(h2 hb).1; omega)
  intro j
  induction j with
  | zero =>
   intro i fuel h hf hpre
   obtain ⟨q,rfl⟩:∃ q,fuel=q+1:=⟨fuel - 1,by omega⟩
   rw [ZmY,if_neg (by rw [List.length_map]; exact ZZ (by omega))]
   exact out i (.inl (by omega)) hpre
  | succ j ih =>
   intro i fuel h hf hpre
   obtain ⟨q,rfl⟩:∃ q,fuel=q+1:=⟨fuel - 1,by omega⟩
   rw [ZmY]
   by_cases hi:i < l.length
   ·rw [if_pos (by rw [List.length_map]; exact Z2 hi)]
    by_cases h40:i < 80
    ·rw [if_pos (by simp only [CQ]; omega)]
     have e:=ZW hi (γ:=Bool) fun r3=>if (cop .gtr (List.length r3.2.2.2.1:Int) 20)=true then some (false) else ZsZ q (l.map Zf) (p.map Zt) (iop .add .i64 (i:Int) 1)
     rw [show (Zl (l.map Zf) (i:Int) hs8 fun (r3:Qt13)=>if (cop .gtr (List.length r3.2.2.2.1:Int) 20)=true then some (false) else ZsZ q (l.map Zf) (p.map Zt) (iop .add .i64 (i:Int) 1))=_ from e]
     simp only [KV,ZR hi hl,Z1]
     split
     ·exact ⟨_,rfl,fun h=>by cases h⟩
     ·rename_i h2
      simp only [CQ] at h2
      exact ih (i+1) q (by omega) (by omega) fun m hm hmi=>by
       by_cases hmi':m=i
       ·subst hmi'; omega
       ·exact hpre m hm (by omega)
    ·rw [if_neg (by simp only [CQ]; omega)]
     exact out i (.inr (by omega)) hpre
   ·rw [if_neg (by rw [List.length_map]; exact ZZ (by omega))]
    exact out i (.inl (by omega)) hpre
 exact key l.length 0 Zw (by omega) (by have:=JA hl; omega) (fun m _ h=>by omega)
end Go.Proofs.YthdihcchfjlgkaaGreat
end

section
namespace Go.Proofs.YthdihcchfjlgkaaGreat
open Go Go.AM
set_option linter.unusedSimpArgs false
set_option linter.unusedVariables false
set_option maxRecDepth 100000
theorem s73 (p:List Req) (h:Few p):g73 (p.map Zt)=some (p.map Zt):=by
 rw [Zvt]
 refine Ziw (fun hn=>?_) ?_
 ·rw [if_pos rfl,hn]
 ·rw [if_neg Bool.false_ne_true]
  refine Zn (Zy (by have:=h.len; simp; omega) (by omega)) _
theorem s42 (p:List Req) (h:Few p):g42 (p.map Zt)=some (p.map Zt):=by
 rw [Zts,s73 p h,Option.bind_some,List.length_map]
 have hn:p.length < 2 ^ 63:=by have:=h.len; omega
 have:=ZO (F:=fun k i=>ZiK k (p.map Zt) (p.length:Int) i) (n:=p.length) (fin:=some (p.map Zt)) (bad:=none) (fun _=>true) hn 0 (by omega)
  (fun k i _ hi=>by
   show ZiK (k+1) _ _ _=_
   rw [Zjo,if_pos (Z2 hi),List.length_map]
   have hin:=Zpz hi
   refine (Zn (by omega) _).trans ?_
   refine (Zn hin _).trans ?_
   refine (Jc hi _).trans ?_
   simp only [Zje,d2,d4,d8,d16]
   have hp:=h.path p[i] (List.getElem_mem hi)
   rw [s40 p[i].src (by omega),Option.bind_some]
   refine (Zn (by omega) _).trans ?_
   refine (Zn hin _).trans ?_
   refine (Zn (by omega) _).trans ?_
   refine (Zn hin _).trans ?_
   rw [ZR hi hn]
   refine Eq.trans ?_ (if_pos trivial).symm
   refine congrArg (fun x=>ZiK k x (p.length:Int) ((i+1:Nat):Int)) ?_
   refine Zjt Zt p _ 17 (ZP p[i].src) fun x hx=>?_
   have hx':p[i]=x:=by
    rw [Int.toNat_natCast,List.getElem?_eq_getElem hi] at hx
    exact Option.some.inj hx
   rw [hx']
   rfl)
  (fun k i hi=>by show ZiK (k+1) _ _ _=_; rw [Zjo,if_neg (ZZ hi)])
 refine this.trans ?_
 rw [if_pos (by simp)]
end Go.Proofs.YthdihcchfjlgkaaGreat
end

section
namespace Go.Proofs.YthdihcchfjlgkaaGreat
open Go Go.AM
set_option linter.unusedSimpArgs false
set_option linter.unusedVariables false
set_option maxRecDepth 100000
theorem s35 (p:List Req) (hn:p.length < 2 ^ 63) (i:Id):g35 (p.map Zt) i.core i.op i.part=some (ZdJ p.length (Zbi (Zfw i) p),Zyz i p):=by
 rw [Zti,ZlQ,List.length_map]
 have:=ZaP (F:=fun k z=>Vv k (p.map Zt) (p.length:Int) z i.core i.op i.part) (n:=p.length) (fun m=>(ZdJ p.length m,i.core,i.op,i.part)) (atR (Zfw i) p) hn
  (fun k j hj=>by
   show Vv (k+1) _ _ _ _ _ _=_
   rw [ZcM,if_pos (Z2 hj)]
   refine (Jc hj _).trans ?_
   simp only [Zje,d2,d4,d8,d16]
   rw [Ztk,Option.bind_some,Zmx,Zdv _ hj,ZR hj hn,V9 hj])
  (fun k=>by
   show Vv (k+1) _ _ _ _ _ _=_
   rw [ZcM,if_neg (ZZ (Nat.le_refl _)),ZdJ,if_neg (Nat.lt_irrefl _)]) (Zbi (Zfw i) p) (VZ _ p) (fun j hj=>by
    have hl:=VZ (Zfw i) p
    rw [Zdv _ (by omega)]; exact Zev _ p j (by omega) hj) (fun h=>by rw [Zdv _ h]; exact Zgd _ p h)
 have this':Vv Zw (p.map Zt) (p.length:Int) 0 i.core i.op i.part=_:=this
 rw [this',Option.bind_some,ZfI]
 try rfl
theorem s61 (p:List Req) (hn:p.length < 2 ^ 63) (i:Id):g61 (p.map Zt) i.core i.op i.part=some (ZdJ p.length (Zbi (Zfw i) p)):=by
 rw [ZuQ]
 exact ZaP (F:=fun k z=>Zkx k (p.map Zt) i.core i.op i.part z) (n:=p.length) (fun m=>ZdJ p.length m) (atR (Zfw i) p) hn
  (fun k j hj=>by
   show Zkx (k+1) _ _ _ _ _=_
   rw [ZjG,List.length_map,if_pos (Z2 hj)]
   refine (Jc hj _).trans ?_
   refine Zo (fun h=>?_) fun h=>?_
   ·have e:Zfw i p[j]=true:=by rw [← Zmx]; exact h
    rw [Zdv _ hj,if_pos e,V9 hj]
   ·have e:¬ Zfw i p[j]=true:=by rw [← Zmx]; exact h
    rw [Zdv _ hj,if_neg e,ZR hj hn])
  (fun k=>by
   show Zkx (k+1) _ _ _ _ _=_
   rw [ZjG,List.length_map,if_neg (ZZ (Nat.le_refl _)),ZdJ,if_neg (Nat.lt_irrefl _)]) (Zbi (Zfw i) p) (VZ _ p) (fun j hj=>by
    have hl:=VZ (Zfw i) p
    rw [Zdv _ (by omega)]; exact Zev _ p j (by omega) hj) (fun h=>by rw [Zdv _ h]; exact Zgd _ p h)
end Go.Proofs.YthdihcchfjlgkaaGreat
end

section
namespace Go.Proofs.YthdihcchfjlgkaaGreat
open Go Go.AM
set_option linter.unusedSimpArgs false
set_option linter.unusedVariables false
set_option maxRecDepth 100000
def Zfb (op:Int) (s:Jh):Jh:=if s.op=op then Zqo 0 s else s
theorem ZpV {op:Int} {s:Jh} (h:¬ s.op=op):Zfb op s=s:=if_neg h
theorem ZmZ (op:Int) (l:List Jh) {i:Nat} (hi:i < l.length) (h:l[i].op=op):ZE ((ZdI (Zfb op) l i).map Zf) i 11 [AV.val (.int .i64 0)]=(ZdI (Zfb op) l (i+1)).map Zf:=by
 rw [← ZoE]
 refine K5 Zf _ _ i 11 _ fun x hx=>?_
 rw [Wk,List.getElem?_eq_getElem hi] at hx
 simp at hx
 subst hx
 unfold Zfb
 rw [if_pos h]
 rfl
theorem l47 (op:Int) (l:List Jh) (hn:l.length < 2 ^ 63):ZgY Zw op (l.map Zf) (l.length:Int) 0=some ((l.map (Zfb op)).map Zf):=by
 have:=ZlJ (F:=fun k x i=>ZgY k op x (l.length:Int) i) (n:=l.length) (fun i=>(ZdI (Zfb op) l i).map Zf) (fin:=some ((l.map (Zfb op)).map Zf)) hn
  (fun k i hil=>by
   show ZgY (k+1) _ _ _ _=_
   have hul:((ZdI (Zfb op) l i).map Zf).length=l.length:=by rw [List.length_map,Wh]
   rw [Zi4,if_pos (Z2 hil),hul]
   refine (Zn (by omega) _).trans ?_
   refine (Zn (by omega) _).trans ?_
   refine (Zhz _ l hil _).trans ?_
   simp only [KV,d2,d4,d8,d16]
   rw [ZR hil hn]
   refine Zo (fun h1=>?_) fun h1=>?_
   ·simp only [CQ] at h1
    refine (Zn (by omega) _).trans ?_
    refine (Zn (by omega) _).trans ?_
    refine (Zn (by omega) _).trans ?_
    refine (Zn (by omega) _).trans ?_
    rw [Int.toNat_natCast,ZmZ op l hil h1]
   ·simp only [CQ] at h1
    rw [Zhb (Zfb op) l hil (ZpV h1)])
  (fun k=>by
   show ZgY (k+1) _ _ _ _=_
   rw [Zi4,if_neg (ZZ (Nat.le_refl _)),ZjW])
 simp only [Zgl] at this
 exact this
theorem s47 (l:List Jh) (h:VI l) (op:Int):g47 (l.map Zf) op=some ((l.map (Zfb op)).map Zf):=by
 have hn:l.length < 2 ^ 63:=by have:=h.len; omega
 rw [ZuJ,s43 l h,Option.bind_some,List.length_map]
 exact l47 op l hn
theorem s63 (l:List Jh) (h:VI l) (op:Int):g63 (l.map Zf) op=some ((l.map (Zfb op)).map Zf):=by
 have hn:l.length < 2 ^ 63:=by have:=h.len; omega
 rw [ZvK,s15 l h,Option.bind_some]
 have:=ZlJ (F:=fun k x i=>ZiI k op x i) (n:=l.length) (fun i=>(ZdI (Zfb op) l i).map Zf) (fin:=some ((l.map (Zfb op)).map Zf)) hn
  (fun k i hil=>by
   show ZiI (k+1) _ _ _=_
   have hul:((ZdI (Zfb op) l i).map Zf).length=l.length:=by rw [List.length_map,Wh]
   rw [Zkf,hul,if_pos (Z2 hil)]
   refine (Zn (by omega) _).trans ?_
   refine (Zn (by omega) _).trans ?_
   refine (Zhz _ l hil _).trans ?_
   simp only [KV,d2,d4,d8,d16]
   rw [ZR hil hn]
   refine Zo (fun h1=>?_) fun h1=>?_
   ·simp only [CQ] at h1
    refine (Zn (by omega) _).trans ?_
    refine (Zn (by omega) _).trans ?_
    refine (Zn (by omega) _).trans ?_
    refine (Zn (by omega) _).trans ?_
    rw [Int.toNat_natCast,ZmZ op l hil h1]
   ·simp only [CQ] at h1
    rw [Zhb (Zfb op) l hil (ZpV h1)])
  (fun k=>by
   show ZiI (k+1) _ _ _=_
   have hul:((ZdI (Zfb op) l l.length).map Zf).length=l.length:=by rw [List.length_map,Wh]
   rw [Zkf,hul,if_neg (ZZ (Nat.le_refl _)),ZjW])
 simp only [Zgl] at this
 exact this
theorem ZqE {l:List Jh} (h:VI l) (op:Int):VI (l.map (Zfb op)):=Zqi h _ fun s=>by unfold Zfb; split <;> exact Nat.le_refl _
def Zk1 (s:Jh):Jh:={ s with node:=ZU,lock:=zid }
theorem Zjz (l:List Jh) (i:Nat):ZE (ZE (l.map Zf) i 0 (ZP ZU)) i 12 [I 0,I 0,I 0]=(l.modify i Zk1).map Zf:=by
 rw [Wz,K5 Zf (fun s=>{ s with lock:=zid }) (l.modify i (ZsV ZU)) i 12 _ fun _ _=>rfl]
 congr 1
 refine List.ext_getElem? fun j=>?_
 rw [List.getElem?_modify,List.getElem?_modify,List.getElem?_modify]
 cases l[j]? with
 | none => rfl
 | some x => by_cases h : i = j <;> simp [h, Zk1, ZsV]
def Zwd (l:List Jh) (z:Int) (i:Id):List Jh:=if z < 0∨(l.length:Int)≤z then l else match l[z.toNat]? with | some s=>if Y2 s=false∧s.node.id=i then l.modify z.toNat Zk1 else l | none=>l
theorem s82 (l:List Jh) (h:VI l) (z:Int) (h0:0≤z) (hz:z.toNat < l.length) (he:Y2 l[z.toNat]=false):Ret (fun t=>t.1=(l.modify z.toNat Zk1).map Zf∧t.2.1=l[z.toNat].node.id.core∧t.2.2.1=l[z.toNat].node.id.op∧t.2.2.2.1=l[z.toNat].node.id.part∧d4 (d8 t)=true) (g82 (l.map Zf) z):=by
 have hlt:z < (List.length (l.map Zf):Int):=by rw [List.length_map]; omega
 have hs:(List.length (ZE (l.map Zf) z.toNat 0 (ZP ZU)):Int)=l.length:=by rw [Wz,List.length_map,List.length_modify]
 rw [ZpH]
 refine Ze (if_neg (by simp only [CQ]; omega)) (Ze (if_neg (by simp only [CQ,List.length_map]; omega)) ?_)
 refine Ze (JH h0 hz _) ?_
 refine Jx (Zyw l[z.toNat]) ?_
 refine Ze (if_neg (by simp [he])) (Jx (s43 l h) (Zp h0 (Zp hlt ?_)))
 refine Ze (JH h0 hz _) (Zp h0 (Zp hlt (Zp h0 (Zp hlt (Zp h0 (Zp ?_ (Zp h0 (Zp ?_ ?_))))))))
 ·show z < (List.length (ZE (l.map Zf) z.toNat 0 (ZP ZU)):Int)
  rw [hs]; omega
 ·show z < (List.length (ZE (l.map Zf) z.toNat 0 (ZP ZU)):Int)
  rw [hs]; omega
 ·exact Zk ⟨Zjz l z.toNat,rfl,rfl,rfl,rfl⟩
theorem ZzT (l:List Jh) (z:Int) (hz:z < 0∨(l.length:Int)≤z∨∃ s,l[z.toNat]? = some s∧Y2 s=true):Ret (fun t=>d4 (d8 t)=false) (g82 (l.map Zf) z):=by
 rw [ZpH]
 refine Zq (fun _=>Zk rfl) fun h1=>Zq (fun _=>Zk rfl) fun h2=>?_
 simp only [CQ,List.length_map] at h1 h2
 have hlt:z.toNat < l.length:=by omega
 have he:Y2 l[z.toNat]=true:=by
  rcases hz with h | h | ⟨s,hs,he⟩
  ·exact absurd h h1
  ·exact absurd h h2
  ·rw [List.getElem?_eq_getElem hlt] at hs; cases hs; exact he
 refine Ze (JH (by omega) hlt _) ?_
 refine Jx (Zyw l[z.toNat]) ?_
 exact Ze (if_pos he) (Zk rfl)
theorem ZAz (l:List Jh) (h:VI l) (z:Int) (h0:0≤z) (hz:z.toNat < l.length) (he:Y2 l[z.toNat]=false):Ret (fun t=>t.1=(l.modify z.toNat Zk1).map Zf) (Zyg (l.map Zf) z):=by
 have hlt:z < (List.length (l.map Zf):Int):=by rw [List.length_map]; omega
 have hs:(List.length (ZE (l.map Zf) z.toNat 0 (ZP ZU)):Int)=l.length:=by rw [Wz,List.length_map,List.length_modify]
 rw [Zsp]
 refine Ze (if_neg (by simp only [CQ]; omega)) (Ze (if_neg (by simp only [CQ,List.length_map]; omega)) ?_)
 refine Ze (JH h0 hz _) ?_
 refine Jx (s13 l[z.toNat]) ?_
 refine Ze (if_neg (by simp [he])) (Jx (s15 l h) (Zp h0 (Zp hlt ?_)))
 refine Ze (JH h0 hz _) (Zp h0 (Zp hlt (Zp h0 (Zp hlt (Zp h0 (Zp ?_ (Zp h0 (Zp ?_ ?_))))))))
 ·show z < (List.length (ZE (l.map Zf) z.toNat 0 (ZP ZU)):Int)
  rw [hs]; omega
 ·show z < (List.length (ZE (l.map Zf) z.toNat 0 (ZP ZU)):Int)
  rw [hs]; omega
 ·exact Zk (Zjz l z.toNat)
def W6 (d:Int) (l:List Jh) (i:Nat) (n:Yr):List Jh:=if Jz l (iop .add .i64 d i) n=0 then ZgN l (iop .add .i64 d i) n else l
def WJ (d:Int) (ns:List Yr) (l:List Jh) (i:Nat):List Jh:=match ns with
 | [] => l
 | n :: r => WJ d r (W6 d l i n) (i + 1)
def ZcW (l:List Jh) (r:Req) (ns:List Yr):List Jh:=if r.call.kind=1∨r.call.kind=2∨r.call.kind=3 then WJ r.call.dest ns l 0 else if r.call.kind=5 then Zwd l r.call.slot r.src.id else l
theorem ZnR {l:List Jh} (h:VI l) (d:Int) (i:Nat) (n:Yr):VI (W6 d l i n):=by
 unfold W6
 split
 ·exact ZiD h _ _
 ·exact h
theorem Zmn (d:Int):∀ (ns:List Yr) {l:List Jh} (h:VI l) (i:Nat),VI (WJ d ns l i)
 | [], _, h, _ => h
 | n :: r, _, h, i => Zmn d r (ZnR h d i n) (i + 1)
theorem Zh1 {l:List Jh} (h:VI l) (r:Req) (ns:List Yr):VI (ZcW l r ns):=by
 unfold ZcW
 split
 ·exact Zmn _ ns h 0
 split
 ·unfold Zwd
  split
  ·exact h
  split
  ·split
   ·refine ⟨by rw [List.length_modify]; exact h.len,fun s hs=>?_⟩
    obtain ⟨i,hi,rfl⟩:=List.getElem_of_mem hs
    rw [List.getElem_modify]
    split
    ·simp [Zk1,ZU]
    ·exact h.path _ (List.getElem_mem _)
   ·exact h
  ·exact h
 ·exact h
theorem Zlv {z:Int} (h1:(2 ^ 63:Int)≤z) (h2:z < 2 ^ 64):IntKind.i64.wrap z=z - 2 ^ 64:=by
 have e:(2:Int) ^ 63=9223372036854775808:=by decide
 have e2:(2:Int) ^ 64=18446744073709551616:=by decide
 rw [e] at h1
 rw [e2] at h2 ⊢
 simp only [IntKind.wrap]
 have:IntKind.i64.signed=true:=rfl
 simp [this,IntKind.bits]
 omega
theorem ZoU {a b:Int} (h1:(2 ^ 63:Int)≤a+b) (h2:a+b < 2 ^ 64):iop .add .i64 a b=a+b - 2 ^ 64:=Zlv h1 h2
theorem Zod {d:Int} {l:List Jh} (hl:l.length≤1000) (h1:(l.length:Int)≤d) (h2:d < 2 ^ 63) {i:Nat} (hi:i≤1000) (n:Yr):W6 d l i n=l:=by
 have e:iop .add .i64 d (i:Int) < 0∨(l.length:Int)≤iop .add .i64 d (i:Int):=by
  by_cases hb:d+i < 2 ^ 63
  ·right; rw [Y8 (by omega) (by omega)]; omega
  ·left
   have:iop .add .i64 d (i:Int)=d+i - 2 ^ 64:=ZoU (by omega) (by omega)
   omega
 unfold W6
 rw [if_neg]
 rw [Jz,if_pos (by rcases e with e | e <;> simp [e])]
 decide
theorem Zl2 {d:Int} : ∀ (ns:List Yr) {l:List Jh} (i:Nat) (hl:l.length≤1000) (h1:(l.length:Int)≤d) (h2:d < 2 ^ 63) (hi:i+ns.length≤1000),WJ d ns l i=l
 | [], _, _, _, _, _, _ => rfl
 | n :: r, l, i, hl, h1, h2, hi => by
  rw [WJ,Zod hl h1 h2 (by simp at hi; omega) n]
  exact Zl2 r (i+1) hl h1 h2 (by simp at hi; omega)
theorem l46 (r:Req) (ns:List Yr) (hn:ns.length < 2 ^ 62) (hp:∀ n∈ns,n.path.length < 2 ^ 63):∀ (j i fuel:Nat) (l:List Jh),i+j=ns.length→j < fuel→VI l→ZgC fuel (l.map Zf) r.id.core r.id.op r.id.part r.call.kind r.call.slot r.call.dest r.call.core r.call.mask r.call.object r.call.bits r.call.level r.call.offset r.call.count r.call.index r.call.addr r.region r.width r.src.id.core r.src.id.op r.src.id.part (Zb r.src.path) r.src.cap.kind r.src.cap.base r.src.cap.bits r.src.cap.rights r.src.cap.width r.src.cap.level r.src.cap.device (ns.map ZP) (ns.length:Int) (i:Int)=some ((WJ r.call.dest (ns.drop i) l i).map Zf):=by
 intro j
 induction j with
 | zero =>
  intro i fuel l h hf hl
  obtain ⟨q,rfl⟩:∃ q,fuel=q+1:=⟨fuel - 1,by omega⟩
  rw [Zjp,if_neg (ZZ (by omega)),List.drop_eq_nil_of_le (by omega)]
  rfl
 | succ j ih =>
  intro i fuel l h hf hl
  obtain ⟨q,rfl⟩:∃ q,fuel=q+1:=⟨fuel - 1,by omega⟩
  have hi:i < ns.length:=by omega
  rw [Zjp,if_pos (Z2 hi)]
  refine (Yu hi _).trans ?_
  simp only [Ze3,d2,d4,d8,d16]
  rw [s81 l hl _ ns[i] (hp _ (List.getElem_mem hi)),Option.bind_some,List.drop_eq_getElem_cons hi,WJ,W6]
  refine Zo (fun h1=>?_) fun h1=>?_
  ·simp only [CQ] at h1
   rw [if_pos h1,ZR hi (by omega)]
   exact ih (i+1) q _ (by omega) (by omega) (ZiD hl _ _)
  ·simp only [CQ] at h1
   rw [if_neg h1,ZR hi (by omega)]
   exact ih (i+1) q _ (by omega) (by omega) hl
theorem s46 (l:List Jh) (hl:VI l) (r:Req) (ns:List Yr) (hn:ns.length < 2 ^ 62) (hp:∀ n∈ns,n.path.length < 2 ^ 63):g46 (l.map Zf) r.id.core r.id.op r.id.part r.call.kind r.call.slot r.call.dest r.call.core r.call.mask r.call.object r.call.bits r.call.level r.call.offset r.call.count r.call.index r.call.addr r.region r.width r.src.id.core r.src.id.op r.src.id.part (Zb r.src.path) r.src.cap.kind r.src.cap.base r.src.cap.bits r.src.cap.rights r.src.cap.width r.src.cap.level r.src.cap.device (ns.map ZP)=some ((ZcW l r ns).map Zf):=by
 have key:ZgC Zw (l.map Zf) r.id.core r.id.op r.id.part r.call.kind r.call.slot r.call.dest r.call.core r.call.mask r.call.object r.call.bits r.call.level r.call.offset r.call.count r.call.index r.call.addr r.region r.width r.src.id.core r.src.id.op r.src.id.part (Zb r.src.path) r.src.cap.kind r.src.cap.base r.src.cap.bits r.src.cap.rights r.src.cap.width r.src.cap.level r.src.cap.device (ns.map ZP) (ns.length:Int) 0=some ((WJ r.call.dest ns l 0).map Zf):=l46 r ns hn hp ns.length 0 Zw l (by omega) (by have:=@JA ns.length (by omega); omega) hl
 rw [Zur,List.length_map,ZcW]
 refine Zo (fun h1=>?_) fun h1=>?_
 ·simp only [CQ] at h1
  rw [if_pos (.inl h1)]; exact key
 refine Zo (fun h2=>?_) fun h2=>?_
 ·simp only [CQ] at h2
  rw [if_pos (.inr (.inl h2))]; exact key
 refine Zo (fun h3=>?_) fun h3=>?_
 ·simp only [CQ] at h3
  rw [if_pos (.inr (.inr h3))]; exact key
 simp only [CQ] at h1 h2 h3
 rw [if_neg (show ¬ (r.call.kind=1∨r.call.kind=2∨r.call.kind=3) by simp [h1,h2,h3])]
 refine Zo (fun h4=>?_) fun h4=>?_
 ·simp only [CQ] at h4
  rw [if_pos h4,Zwd]
  by_cases hz:r.call.slot < 0∨(l.length:Int)≤r.call.slot
  ·obtain ⟨t,ht,hb⟩:=ZzT l r.call.slot (hz.imp id .inl)
   rw [ht,Option.bind_some,hb,if_neg (by simp),if_pos hz]
  ·have hlt:r.call.slot.toNat < l.length:=by omega
   rw [if_neg hz,List.getElem?_eq_getElem hlt]
   dsimp only
   by_cases he:Y2 l[r.call.slot.toNat]=true
   ·obtain ⟨t,ht,hb⟩:=ZzT l r.call.slot (.inr (.inr ⟨_,List.getElem?_eq_getElem hlt,he⟩))
    rw [ht,Option.bind_some,hb,if_neg (by simp),if_neg (by simp [he])]
   ·have he':Y2 l[r.call.slot.toNat]=false:=by simpa using he
    obtain ⟨t,ht,k1,k2,k3,k4,k5⟩:=s82 l hl r.call.slot (by omega) hlt he'
    rw [ht,Option.bind_some,k5,if_pos rfl,k1,k2,k3,k4]
    refine Zo (fun h5=>?_) fun h5=>?_
    ·rw [JO] at h5
     rw [if_pos ⟨he',h5⟩]
    ·rw [JO] at h5
     rw [if_neg (fun h=>h5 h.2)]
 ·simp only [CQ] at h4
  rw [if_neg h4]
theorem l62 (r:Req) (hd:r.call.dest < 2 ^ 63) (ns:List Yr) (hn:ns.length≤900) (hp:∀ n∈ns,n.path.length < 2 ^ 63):∀ (j i fuel:Nat) (l:List Jh),i+j=ns.length→j < fuel→VI l→ZiT fuel (l.map Zf) (ns.map ZP) r.call.kind r.call.slot r.call.dest r.call.core r.call.mask r.call.object r.call.bits r.call.level r.call.offset r.call.count r.call.index r.call.addr (i:Int)=some ((WJ r.call.dest (ns.drop i) l i).map Zf):=by
 intro j
 induction j with
 | zero =>
  intro i fuel l h hf hl
  obtain ⟨q,rfl⟩:∃ q,fuel=q+1:=⟨fuel - 1,by omega⟩
  rw [Zjj,List.length_map,List.length_map,if_neg (ZZ (by omega)),List.drop_eq_nil_of_le (by omega)]
  rfl
 | succ j ih =>
  intro i fuel l h hf hl
  obtain ⟨q,rfl⟩:∃ q,fuel=q+1:=⟨fuel - 1,by omega⟩
  have hi:i < ns.length:=by omega
  have hll:=hl.len
  rw [Zjj,List.length_map,List.length_map,if_pos (Z2 hi)]
  refine Zo (fun h0=>?_) fun h0=>?_
  ·refine (Yu hi _).trans ?_
   simp only [Ze3,d2,d4,d8,d16]
   rw [ZAP l hl _ ns[i] (hp _ (List.getElem_mem hi)),Option.bind_some,List.drop_eq_getElem_cons hi,WJ,W6]
   refine Zo (fun h1=>?_) fun h1=>?_
   ·simp only [CQ] at h1
    rw [if_pos h1,ZR hi (by omega)]
    exact ih (i+1) q _ (by omega) (by omega) (ZiD hl _ _)
   ·simp only [CQ] at h1
    rw [if_neg h1,ZR hi (by omega)]
    exact ih (i+1) q _ (by omega) (by omega) hl
  ·simp only [CQ] at h0
   rw [Zl2 _ i (by omega) (by omega) hd (by rw [List.length_drop]; omega)]
theorem s62 (l:List Jh) (hl:VI l) (r:Req) (hd:r.call.dest < 2 ^ 63) (ns:List Yr) (hn:ns.length≤900) (hp:∀ n∈ns,n.path.length < 2 ^ 63):g62 (l.map Zf) r.id.core r.id.op r.id.part r.call.kind r.call.slot r.call.dest r.call.core r.call.mask r.call.object r.call.bits r.call.level r.call.offset r.call.count r.call.index r.call.addr r.region r.width r.src.id.core r.src.id.op r.src.id.part (Zb r.src.path) r.src.cap.kind r.src.cap.base r.src.cap.bits r.src.cap.rights r.src.cap.width r.src.cap.level r.src.cap.device (ns.map ZP)=some ((ZcW l r ns).map Zf):=by
 have key:=l62 r hd ns hn hp ns.length 0 Zw l (by omega) (by have:=@JA ns.length (by omega); omega) hl
 rw [List.drop_zero] at key
 rw [ZtG,List.length_map,ZcW]
 refine Zo (fun h1=>?_) fun h1=>?_
 ·simp only [CQ] at h1
  rw [if_pos (.inl h1)]; exact key
 refine Zo (fun h2=>?_) fun h2=>?_
 ·simp only [CQ] at h2
  rw [if_pos (.inr (.inl h2))]; exact key
 refine Zo (fun h3=>?_) fun h3=>?_
 ·simp only [CQ] at h3
  rw [if_pos (.inr (.inr h3))]; exact key
 simp only [CQ] at h1 h2 h3
 rw [if_neg (show ¬ (r.call.kind=1∨r.call.kind=2∨r.call.kind=3) by simp [h1,h2,h3])]
 refine Zo (fun h4=>?_) fun h4=>?_
 ·simp only [CQ] at h4
  rw [if_pos h4,Zwd]
  refine Zo (fun h5=>?_) fun h5=>?_
  ·simp only [CQ] at h5
   refine Zo (fun h6=>?_) fun h6=>?_
   ·simp only [CQ] at h6
    have hlt:r.call.slot.toNat < l.length:=by omega
    rw [if_neg (by omega),List.getElem?_eq_getElem hlt]
    dsimp only
    refine (JH h5 hlt _).trans ?_
    simp only [KV,d2,d4,d8,d16]
    rw [s13,Option.bind_some]
    refine Zo (fun h7=>?_) fun h7=>?_
    ·have he':Y2 l[r.call.slot.toNat]=false:=by simpa using h7
     refine (JH h5 hlt _).trans ?_
     simp only [KV,d2,d4,d8,d16]
     refine Zo (fun h8=>?_) fun h8=>?_
     ·rw [JO] at h8
      obtain ⟨t,ht,k1⟩:=ZAz l hl r.call.slot h5 hlt he'
      rw [ht,Option.bind_some,k1,if_pos ⟨he',h8⟩]
     ·rw [JO] at h8
      rw [if_neg (fun h=>h8 h.2)]
    ·rw [if_neg (fun h=>h7 (by simp [h.1]))]
   ·simp only [CQ] at h6
    rw [if_pos (by omega)]
  ·simp only [CQ] at h5
   rw [if_pos (by omega)]
 ·simp only [CQ] at h4
  rw [if_neg h4]
structure ZAm where
 slots:List Jh
 left:List Req
 msgs:List Msg
 ans:List Ans
 coms:List (Id×Bool)
def Zxt (r:ZAm):LL×LL×LL×LL×LL:=(r.slots.map Zf,r.left.map Zt,r.msgs.map Zlh,r.ans.map ZF,r.coms.map ZvI)
def ZnX (m:Msg):Msg:=⟨3,0,0,m.frm,0,m.region,0,m.op,0,false,Z9,[],[],[],[],0,ZH,Zi,Zm⟩
def fin (core:Int) (l:List Jh) (p:List Req) (m:Msg):ZAm:=
 if K0 m=false∨m.kind≠2∨m.to≠core∨m.op.core≠core then ⟨l,p,[],[],[]⟩
 else match p[Zbi (Zfw m.op) p]? with
 | none => ⟨l, p, [ZnX m], [], []⟩
 | some r => ⟨(if m.err = 0 then ZcW l r m.nodes else l).map (Zfb m.op.op), p.eraseIdx (Zbi (Zfw m.op) p), [ZnX m], [⟨m.op.op, m.err⟩], if m.settled = false ∧ m.err ≠ 4 then [(m.op, true)] else []⟩
theorem Zhj {m:Msg} (hv:K0 m=true) (hk:m.kind=2):m.nodes.length≤8:=by
 simp only [K0,Bool.and_eq_true] at hv
 have h:=hv.2.1
 rw [hk] at h
 simp only [show (2:Int).toNat=2 from rfl,kf,List.all_cons,Zg,Bool.and_eq_true,decide_eq_true_eq] at h
 exact h.2.2.2.2.1.1.1
theorem Zma {p:List Req} (h:Few p) (i:Nat):Few (p.eraseIdx i):=⟨Nat.le_trans (List.length_eraseIdx_le ..) h.len,fun r hr=>h.path r (List.mem_of_mem_eraseIdx hr)⟩
theorem Zm8 (p:List Req) (i:Nat) (hi:i < p.length) (h:Few p):g45 (p.map Zt) (i:Int) (iop .add .i64 (i:Int) 1)=some ((p.eraseIdx i).map Zt):=by
 have hl:=h.len
 rw [ZR hi (by omega)]
 rw [Zum,ZxS]
 refine (Zn (by omega) _).trans ((Zn (by omega) _).trans ((Zn (by rw [List.length_map]; omega) _).trans ?_))
 rw [Zhx,Zgs,← List.map_append,← List.eraseIdx_eq_take_drop_succ]
theorem s16 (core:Int) (l:List Jh) (hl:VI l) (p:List Req) (hp:Few p) (m:Msg) (hm:m.Fits):g16 core (l.map Zf) (p.map Zt) m.kind m.view m.frm m.to m.round m.region m.slot m.op.core m.op.op m.op.part m.err m.settled m.req.id.core m.req.id.op m.req.id.part m.req.call.kind m.req.call.slot m.req.call.dest m.req.call.core m.req.call.mask m.req.call.object m.req.call.bits m.req.call.level m.req.call.offset m.req.call.count m.req.call.index m.req.call.addr m.req.region m.req.width m.req.src.id.core m.req.src.id.op m.req.src.id.part (Zb m.req.src.path) m.req.src.cap.kind m.req.src.cap.base m.req.src.cap.bits m.req.src.cap.rights m.req.src.cap.width m.req.src.cap.level m.req.src.cap.device (Zb m.ids) (m.nodes.map ZP) (Za m.cores) (m.moves.map Z4) m.base m.next.number (Za m.next.members) (Za m.next.owners) (m.state.slots.map Zf) (m.state.pending.map Zt) (m.state.marks.map Zj) (m.state.answers.map ZF) (m.state.entries.map Zd) (Zb m.state.commits) m.report.core m.report.view.number (Za m.report.view.members) (Za m.report.view.owners) (m.report.state.slots.map Zf) (m.report.state.pending.map Zt) (m.report.state.marks.map Zj) (m.report.state.answers.map ZF) (m.report.state.entries.map Zd) (Zb m.report.state.commits) m.report.ready m.report.next.number (Za m.report.next.members) (Za m.report.next.owners) (m.report.proposal.slots.map Zf) (m.report.proposal.pending.map Zt) (m.report.proposal.marks.map Zj) (m.report.proposal.answers.map ZF) (m.report.proposal.entries.map Zd) (Zb m.report.proposal.commits)=some (Zxt (fin core l p m)):=by
 have hpl:=hp.len
 rw [Zvl,s43 l hl,Option.bind_some,s42 p hp,Option.bind_some,s44 m hm,Option.bind_some,fin]
 refine Zo (fun h1=>?_) fun h1=>?_
 ·rw [if_pos (.inl (by simpa using h1))]; rfl
 have hv:K0 m=true:=by simpa using h1
 refine Zo (fun h2=>?_) fun h2=>?_
 ·simp only [CQ] at h2
  rw [if_pos (.inr (.inl h2))]; rfl
 refine Zo (fun h3=>?_) fun h3=>?_
 ·simp only [CQ] at h3
  rw [if_pos (.inr (.inr (.inl h3)))]; rfl
 refine Zo (fun h4=>?_) fun h4=>?_
 ·simp only [CQ] at h4
  rw [if_pos (.inr (.inr (.inr h4)))]; rfl
 simp only [CQ,Decidable.not_not] at h2 h3 h4
 rw [if_neg (by simp [hv,h2,h3,h4]),s35 p (by omega) m.op,Option.bind_some]
 dsimp only
 have hle:=VZ (Zfw m.op) p
 generalize hq:Zbi (Zfw m.op) p=q at hle
 refine Zo (fun h5=>?_) fun h5=>?_
 ·rw [Bool.not_eq_true',Zyz,hq,decide_eq_false_iff_not] at h5
  rw [List.getElem?_eq_none (by omega)]
  rfl
 rw [Bool.not_eq_true',Zyz,hq,Bool.not_eq_false,decide_eq_true_eq] at h5
 rw [List.getElem?_eq_getElem h5,V9 h5]
 refine (Zn (by omega) _).trans ((Zn (by rw [List.length_map]; omega) _).trans ?_)
 refine (Jc h5 _).trans ?_
 simp only [Zje,d2,d4,d8,d16]
 rw [Zm8 p q h5 hp,Option.bind_some]
 have hnl:=Zhj hv h2
 refine Zo (fun h6=>?_) fun h6=>?_
 ·simp only [CQ] at h6
  rw [s46 l hl p[q] m.nodes (by omega) hm.node,Option.bind_some,s47 _ (Zh1 hl p[q] m.nodes),Option.bind_some,if_pos h6]
  refine Zo (fun h7=>?_) fun h7=>?_
  ·refine Zo (fun h8=>?_) fun h8=>?_
   ·simp only [CQ] at h8
    rw [if_pos ⟨by simpa using h7,h8⟩]; rfl
   ·simp only [CQ] at h8
    rw [if_neg (fun h=>h8 h.2)]; rfl
  ·rw [if_neg (fun h=>h7 (by simp [h.1]))]; rfl
 ·simp only [CQ] at h6
  rw [s47 l hl,Option.bind_some,if_neg h6]
  refine Zo (fun h7=>?_) fun h7=>?_
  ·refine Zo (fun h8=>?_) fun h8=>?_
   ·simp only [CQ] at h8
    rw [if_pos ⟨by simpa using h7,h8⟩]; rfl
   ·simp only [CQ] at h8
    rw [if_neg (fun h=>h8 h.2)]; rfl
  ·rw [if_neg (fun h=>h7 (by simp [h.1]))]; rfl
theorem s31 (core:Int) (l:List Jh) (hl:VI l) (p:List Req) (hp:Few p) (hd:∀ r∈p,r.call.dest < 2 ^ 63) (m:Msg) (hm:m.Fits):g31 core (l.map Zf) (p.map Zt) m.kind m.view m.frm m.to m.round m.region m.slot m.op.core m.op.op m.op.part m.err m.settled m.req.id.core m.req.id.op m.req.id.part m.req.call.kind m.req.call.slot m.req.call.dest m.req.call.core m.req.call.mask m.req.call.object m.req.call.bits m.req.call.level m.req.call.offset m.req.call.count m.req.call.index m.req.call.addr m.req.region m.req.width m.req.src.id.core m.req.src.id.op m.req.src.id.part (Zb m.req.src.path) m.req.src.cap.kind m.req.src.cap.base m.req.src.cap.bits m.req.src.cap.rights m.req.src.cap.width m.req.src.cap.level m.req.src.cap.device (Zb m.ids) (m.nodes.map ZP) (Za m.cores) (m.moves.map Z4) m.base m.next.number (Za m.next.members) (Za m.next.owners) (m.state.slots.map Zf) (m.state.pending.map Zt) (m.state.marks.map Zj) (m.state.answers.map ZF) (m.state.entries.map Zd) (Zb m.state.commits) m.report.core m.report.view.number (Za m.report.view.members) (Za m.report.view.owners) (m.report.state.slots.map Zf) (m.report.state.pending.map Zt) (m.report.state.marks.map Zj) (m.report.state.answers.map ZF) (m.report.state.entries.map Zd) (Zb m.report.state.commits) m.report.ready m.report.next.number (Za m.report.next.members) (Za m.report.next.owners) (m.report.proposal.slots.map Zf) (m.report.proposal.pending.map Zt) (m.report.proposal.marks.map Zj) (m.report.proposal.answers.map ZF) (m.report.proposal.entries.map Zd) (Zb m.report.proposal.commits)=some (Zxt (fin core l p m)):=by
 have hpl:=hp.len
 rw [Zu4,s60 m hm,Option.bind_some,fin]
 refine Zo (fun h1=>?_) fun h1=>?_
 ·rw [if_pos (.inl (by simpa using h1))]; rfl
 have hv:K0 m=true:=by simpa using h1
 refine Zo (fun h2=>?_) fun h2=>?_
 ·simp only [CQ] at h2
  rw [if_pos (.inr (.inl h2))]; rfl
 refine Zo (fun h3=>?_) fun h3=>?_
 ·simp only [CQ] at h3
  rw [if_pos (.inr (.inr (.inl h3)))]; rfl
 refine Zo (fun h4=>?_) fun h4=>?_
 ·simp only [CQ] at h4
  rw [if_pos (.inr (.inr (.inr h4)))]; rfl
 simp only [CQ,Decidable.not_not] at h2 h3 h4
 rw [if_neg (by simp [hv,h2,h3,h4]),s61 p (by omega) m.op,Option.bind_some]
 have hle:=VZ (Zfw m.op) p
 generalize hq:Zbi (Zfw m.op) p=q at hle
 refine Zo (fun h5=>?_) fun h5=>?_
 ·have h5':¬ q < p.length:=fun h=>by rw [V9 h] at h5; simp only [CQ] at h5; omega
  rw [List.getElem?_eq_none (by omega)]
  rfl
 have h5':q < p.length:=by
  by_cases h:q < p.length
  ·exact h
  ·exfalso; apply h5; rw [ZdJ,if_neg h]; rfl
 rw [List.getElem?_eq_getElem h5',V9 h5']
 refine (Jc h5' _).trans ?_
 simp only [Zje,d2,d4,d8,d16]
 refine (Zn (by omega) _).trans ((Zn (by rw [List.length_map]; omega) _).trans ?_)
 rw [Zhx,s17 _ (Zox hp q),Option.bind_some,ZR h5' (by omega)]
 refine (Zn (by omega) _).trans ((Zn (by rw [List.length_map]; omega) _).trans ?_)
 rw [Zgs,s17 _ (ZnQ hp (q+1)),Option.bind_some]
 refine (Zn (Zy (by simp; omega) (by omega)) _).trans ?_
 have he:(p.take q).map Zt++(p.drop (q+1)).map Zt=(p.eraseIdx q).map Zt:=by rw [← List.map_append,← List.eraseIdx_eq_take_drop_succ]
 rw [he]
 have hnl:=Zhj hv h2
 refine Zo (fun h6=>?_) fun h6=>?_
 ·simp only [CQ] at h6
  rw [s62 l hl p[q] (hd _ (List.getElem_mem h5')) m.nodes (by omega) hm.node,Option.bind_some,s63 _ (Zh1 hl p[q] m.nodes),Option.bind_some,if_pos h6]
  refine Zo (fun h7=>?_) fun h7=>?_
  ·refine Zo (fun h8=>?_) fun h8=>?_
   ·simp only [CQ] at h8
    rw [if_pos ⟨by simpa using h7,h8⟩]; rfl
   ·simp only [CQ] at h8
    rw [if_neg (fun h=>h8 h.2)]; rfl
  ·rw [if_neg (fun h=>h7 (by simp [h.1]))]; rfl
 ·simp only [CQ] at h6
  rw [s63 l hl,Option.bind_some,if_neg h6]
  refine Zo (fun h7=>?_) fun h7=>?_
  ·refine Zo (fun h8=>?_) fun h8=>?_
   ·simp only [CQ] at h8
    rw [if_pos ⟨by simpa using h7,h8⟩]; rfl
   ·simp only [CQ] at h8
    rw [if_neg (fun h=>h8 h.2)]; rfl
  ·rw [if_neg (fun h=>h7 (by simp [h.1]))]; rfl
end Go.Proofs.YthdihcchfjlgkaaGreat
end

section
namespace Go.Proofs.YthdihcchfjlgkaaGreat
open Go Go.AM
set_option linter.unusedSimpArgs false
set_option linter.unusedVariables false
set_option maxRecDepth 100000
theorem s6:g6=some true:=by kernel_rfl
theorem Ziy:Ret (fun r=>r=true) ((g6).bind fun (r:Bool)=>some (r)):=Jx s6 (Zk rfl)
theorem Zk7 (l:List Jh) (h:VI l):g18 (l.map Zf) (l.map Zf)=some true:=by
 have h1:=h.len
 rw [s18 l l (by omega) (fun x hx=>by have:=h.path x hx; omega) (fun x hx=>by have:=h.path x hx; omega),Jl Ze5 (fun a=>by simp [Ze5,Ko])]
theorem Zkh (m:Msg):(ZnX m).Fits:=⟨by simp [ZnX,Z9,ZU],by simp [ZnX],by simp [ZnX],by simp [ZnX],by simp [ZnX],by simp [ZnX],K6.fits,Va.fits,Wc.fits⟩
theorem ZrB (core:Int) {l:List Jh} (hl:VI l) {p:List Req} (hp:Few p) (m:Msg):VI (fin core l p m).slots∧Few (fin core l p m).left∧(∀ x∈(fin core l p m).msgs,x.Fits)∧(fin core l p m).msgs.length≤1∧(fin core l p m).ans.length≤1∧(fin core l p m).coms.length≤1:=by
 unfold fin
 split
 ·exact ⟨hl,hp,by simp,by simp,by simp,by simp⟩
 split
 ·exact ⟨hl,hp,fun x hx=>by rw [List.mem_singleton] at hx; subst hx; exact Zkh m,by simp,by simp,by simp⟩
 ·refine ⟨ZqE ?_ _,Zma hp _,fun x hx=>by rw [List.mem_singleton] at hx; subst hx; exact Zkh m,by simp,by simp,?_⟩
  ·split
   ·exact Zh1 hl _ _
   ·exact hl
  ·dsimp only; split <;> simp
theorem s11 (core:Int) (l:List Jh) (hl:VI l) (p:List Req) (hp:Few p) (hd:∀ r∈p,r.call.dest < 2 ^ 63) (m:Msg) (hm:m.Fits):g11 core (l.map Zf) (p.map Zt) m.kind m.view m.frm m.to m.round m.region m.slot m.op.core m.op.op m.op.part m.err m.settled m.req.id.core m.req.id.op m.req.id.part m.req.call.kind m.req.call.slot m.req.call.dest m.req.call.core m.req.call.mask m.req.call.object m.req.call.bits m.req.call.level m.req.call.offset m.req.call.count m.req.call.index m.req.call.addr m.req.region m.req.width m.req.src.id.core m.req.src.id.op m.req.src.id.part (Zb m.req.src.path) m.req.src.cap.kind m.req.src.cap.base m.req.src.cap.bits m.req.src.cap.rights m.req.src.cap.width m.req.src.cap.level m.req.src.cap.device (Zb m.ids) (m.nodes.map ZP) (Za m.cores) (m.moves.map Z4) m.base m.next.number (Za m.next.members) (Za m.next.owners) (m.state.slots.map Zf) (m.state.pending.map Zt) (m.state.marks.map Zj) (m.state.answers.map ZF) (m.state.entries.map Zd) (Zb m.state.commits) m.report.core m.report.view.number (Za m.report.view.members) (Za m.report.view.owners) (m.report.state.slots.map Zf) (m.report.state.pending.map Zt) (m.report.state.marks.map Zj) (m.report.state.answers.map ZF) (m.report.state.entries.map Zd) (Zb m.report.state.commits) m.report.ready m.report.next.number (Za m.report.next.members) (Za m.report.next.owners) (m.report.proposal.slots.map Zf) (m.report.proposal.pending.map Zt) (m.report.proposal.marks.map Zj) (m.report.proposal.answers.map ZF) (m.report.proposal.entries.map Zd) (Zb m.report.proposal.commits)=some true:=by
 rw [ZvL,s15 l hl,Option.bind_some,s17 p hp,Option.bind_some,s16 core l hl p hp m hm,Option.bind_some,s31 core l hl p hp hd m hm,Option.bind_some]
 obtain ⟨f1,f2,f3,f4,f5,f6⟩:=ZrB core hl hp m
 generalize fin core l p m=r at *
 simp only [Zxt]
 have hc:r.coms.length < 2 ^ 63:=by omega
 have h1:=f1.len
 have h2:=f2.len
 refine (if_neg (by simp [cop])).trans ?_
 have:=ZO (F:=fun k i=>Zkm k (r.slots.map Zf) (r.left.map Zt) (r.msgs.map Zlh) (r.ans.map ZF) (r.coms.map ZvI) (r.slots.map Zf) (r.left.map Zt) (r.msgs.map Zlh) (r.ans.map ZF) (r.coms.map ZvI) i) (n:=r.coms.length) (fin:=some true) (bad:=some false) (fun _=>true) hc 0 (by omega)
  (fun k i _ hi=>by
   show Zkm (k+1) _ _ _ _ _ _ _ _ _ _ _=_
   rw [Zj3,List.length_map,if_pos (Z2 hi)]
   refine (ZgG hi _).trans ?_
   refine (ZgG hi _).trans ?_
   refine (if_neg (by simp [cop])).trans ?_
   rw [ZR hi hc]; rfl)
  (fun k i hi=>by
   show Zkm (k+1) _ _ _ _ _ _ _ _ _ _ _=_
   rw [Zj3,List.length_map,if_neg (ZZ hi)]
   rw [Zk7 _ f1,Option.bind_some]
   refine (if_pos rfl).trans ?_
   have pq:∀ x∈r.left,x.src.path.length < 2 ^ 63:=fun x hx=>by have:=f2.path x hx; omega
   rw [s32 _ _ (by omega) pq pq,Option.bind_some,Jl _ Wu]
   refine (if_pos rfl).trans ?_
   rw [s33 _ (by omega) f3,Option.bind_some]
   refine (if_pos rfl).trans ?_
   rw [s34 _ _ (by omega),Option.bind_some,Jl Zfd (fun a=>by simp [Zfd])])
 refine this.trans ?_
 rw [if_pos (by simp)]
theorem s3 (core:Int) (l:List Jh) (hl:l.length < 2 ^ 63) (hlp:∀ s∈l,s.node.path.length < 2 ^ 63) (p:List Req) (hn:p.length < 2 ^ 63) (hp:∀ r∈p,r.src.path.length < 2 ^ 63) (hd:∀ r∈p,r.call.dest < 2 ^ 63) (m:Msg) (hm:m.Fits) (z:List Int) (sts:List ZpC) (hs:sts.length < 2 ^ 63) (kind:Int) :
  g3 core (l.map Zf) (p.map Zt) m.kind m.view m.frm m.to m.round m.region m.slot m.op.core m.op.op m.op.part m.err m.settled m.req.id.core m.req.id.op m.req.id.part m.req.call.kind m.req.call.slot m.req.call.dest m.req.call.core m.req.call.mask m.req.call.object m.req.call.bits m.req.call.level m.req.call.offset m.req.call.count m.req.call.index m.req.call.addr m.req.region m.req.width m.req.src.id.core m.req.src.id.op m.req.src.id.part (Zb m.req.src.path) m.req.src.cap.kind m.req.src.cap.base m.req.src.cap.bits m.req.src.cap.rights m.req.src.cap.width m.req.src.cap.level m.req.src.cap.device (Zb m.ids) (m.nodes.map ZP) (Za m.cores) (m.moves.map Z4) m.base m.next.number (Za m.next.members) (Za m.next.owners) (m.state.slots.map Zf) (m.state.pending.map Zt) (m.state.marks.map Zj) (m.state.answers.map ZF) (m.state.entries.map Zd) (Zb m.state.commits) m.report.core m.report.view.number (Za m.report.view.members) (Za m.report.view.owners) (m.report.state.slots.map Zf) (m.report.state.pending.map Zt) (m.report.state.marks.map Zj) (m.report.state.answers.map ZF) (m.report.state.entries.map Zd) (Zb m.report.state.commits) m.report.ready m.report.next.number (Za m.report.next.members) (Za m.report.next.owners) (m.report.proposal.slots.map Zf) (m.report.proposal.pending.map Zt) (m.report.proposal.marks.map Zj) (m.report.proposal.answers.map ZF) (m.report.proposal.entries.map Zd) (Zb m.report.proposal.commits) (Za z) (sts.map Zao) kind=some true:=by
 have key:Ret (fun r=>r=true) (g3 core (l.map Zf) (p.map Zt) m.kind m.view m.frm m.to m.round m.region m.slot m.op.core m.op.op m.op.part m.err m.settled m.req.id.core m.req.id.op m.req.id.part m.req.call.kind m.req.call.slot m.req.call.dest m.req.call.core m.req.call.mask m.req.call.object m.req.call.bits m.req.call.level m.req.call.offset m.req.call.count m.req.call.index m.req.call.addr m.req.region m.req.width m.req.src.id.core m.req.src.id.op m.req.src.id.part (Zb m.req.src.path) m.req.src.cap.kind m.req.src.cap.base m.req.src.cap.bits m.req.src.cap.rights m.req.src.cap.width m.req.src.cap.level m.req.src.cap.device (Zb m.ids) (m.nodes.map ZP) (Za m.cores) (m.moves.map Z4) m.base m.next.number (Za m.next.members) (Za m.next.owners) (m.state.slots.map Zf) (m.state.pending.map Zt) (m.state.marks.map Zj) (m.state.answers.map ZF) (m.state.entries.map Zd) (Zb m.state.commits) m.report.core m.report.view.number (Za m.report.view.members) (Za m.report.view.owners) (m.report.state.slots.map Zf) (m.report.state.pending.map Zt) (m.report.state.marks.map Zj) (m.report.state.answers.map ZF) (m.report.state.entries.map Zd) (Zb m.report.state.commits) m.report.ready m.report.next.number (Za m.report.next.members) (Za m.report.next.owners) (m.report.proposal.slots.map Zf) (m.report.proposal.pending.map Zt) (m.report.proposal.marks.map Zj) (m.report.proposal.answers.map ZF) (m.report.proposal.entries.map Zd) (Zb m.report.proposal.commits) (Za z) (sts.map Zao) kind):=by
  rw [ZzG]
  obtain ⟨b,hb,hfew⟩:=s5 l p hl hn
  refine Jx hb ?_
  refine Zq (fun _=>Ziy) fun hb2=>?_
  have hb3:b=true:=by simpa using hb2
  obtain ⟨fl,fp⟩:=hfew hb3
  refine Zq (fun _=>Ziy) fun _=>Zq (fun _=>Ziy) fun _=>Zq (fun _=>Ziy) fun _=>Zq (fun _=>Ziy) fun _=>Zq (fun _=>Ziy) fun hz=>?_
  have hz':z.length < 2 ^ 63:=by simp only [CQ,ZN] at hz; omega
  refine Zc (s7 sts hs) fun r ⟨f,hf,hr⟩=>?_
  subst hr
  refine Zc (place core 4 (by omega) (by omega)) fun c hc=>?_
  refine Zc (s9 z f 30 hf (by omega) c) fun r ⟨s,hr,hs⟩=>?_
  subst hr
  refine Zc (s10 1 z hz' f 30 hf (by omega)) fun r ⟨n1,hr,_,hn1⟩=>?_
  subst hr
  refine Zc (place kind 6 (by omega) (by omega)) fun _ _=>?_
  have fs:=hs.few hf
  have hpl:=hs.pend
  have fq:Few s.pending:=⟨by omega,fun r hr=>(hs.psrc r hr).1⟩
  have dq:∀ r∈s.pending,r.call.dest < 2 ^ 63:=fun r hr=>by have:=(hs.psrc r hr).2; omega
  have first:=s11 core l fl p fp hd m hm
  have fin':∀ (c':Int) (m':Msg),m'.Fits→Ret (fun r=>r=true) ((g11 core (l.map Zf) (p.map Zt) m.kind m.view m.frm m.to m.round m.region m.slot m.op.core m.op.op m.op.part m.err m.settled m.req.id.core m.req.id.op m.req.id.part m.req.call.kind m.req.call.slot m.req.call.dest m.req.call.core m.req.call.mask m.req.call.object m.req.call.bits m.req.call.level m.req.call.offset m.req.call.count m.req.call.index m.req.call.addr m.req.region m.req.width m.req.src.id.core m.req.src.id.op m.req.src.id.part (Zb m.req.src.path) m.req.src.cap.kind m.req.src.cap.base m.req.src.cap.bits m.req.src.cap.rights m.req.src.cap.width m.req.src.cap.level m.req.src.cap.device (Zb m.ids) (m.nodes.map ZP) (Za m.cores) (m.moves.map Z4) m.base m.next.number (Za m.next.members) (Za m.next.owners) (m.state.slots.map Zf) (m.state.pending.map Zt) (m.state.marks.map Zj) (m.state.answers.map ZF) (m.state.entries.map Zd) (Zb m.state.commits) m.report.core m.report.view.number (Za m.report.view.members) (Za m.report.view.owners) (m.report.state.slots.map Zf) (m.report.state.pending.map Zt) (m.report.state.marks.map Zj) (m.report.state.answers.map ZF) (m.report.state.entries.map Zd) (Zb m.report.state.commits) m.report.ready m.report.next.number (Za m.report.next.members) (Za m.report.next.owners) (m.report.proposal.slots.map Zf) (m.report.proposal.pending.map Zt) (m.report.proposal.marks.map Zj) (m.report.proposal.answers.map ZF) (m.report.proposal.entries.map Zd) (Zb m.report.proposal.commits)).bind fun (r1:Bool)=>if r1=true then (g11 c' (s.slots.map Zf) (s.pending.map Zt) m'.kind m'.view m'.frm m'.to m'.round m'.region m'.slot m'.op.core m'.op.op m'.op.part m'.err m'.settled m'.req.id.core m'.req.id.op m'.req.id.part m'.req.call.kind m'.req.call.slot m'.req.call.dest m'.req.call.core m'.req.call.mask m'.req.call.object m'.req.call.bits m'.req.call.level m'.req.call.offset m'.req.call.count m'.req.call.index m'.req.call.addr m'.req.region m'.req.width m'.req.src.id.core m'.req.src.id.op m'.req.src.id.part (Zb m'.req.src.path) m'.req.src.cap.kind m'.req.src.cap.base m'.req.src.cap.bits m'.req.src.cap.rights m'.req.src.cap.width m'.req.src.cap.level m'.req.src.cap.device (Zb m'.ids) (m'.nodes.map ZP) (Za m'.cores) (m'.moves.map Z4) m'.base m'.next.number (Za m'.next.members) (Za m'.next.owners) (m'.state.slots.map Zf) (m'.state.pending.map Zt) (m'.state.marks.map Zj) (m'.state.answers.map ZF) (m'.state.entries.map Zd) (Zb m'.state.commits) m'.report.core m'.report.view.number (Za m'.report.view.members) (Za m'.report.view.owners) (m'.report.state.slots.map Zf) (m'.report.state.pending.map Zt) (m'.report.state.marks.map Zj) (m'.report.state.answers.map ZF) (m'.report.state.entries.map Zd) (Zb m'.report.state.commits) m'.report.ready m'.report.next.number (Za m'.report.next.members) (Za m'.report.next.owners) (m'.report.proposal.slots.map Zf) (m'.report.proposal.pending.map Zt) (m'.report.proposal.marks.map Zj) (m'.report.proposal.answers.map ZF) (m'.report.proposal.entries.map Zd) (Zb m'.report.proposal.commits)).bind fun (r2:Bool)=>if r2=true then (g6).bind fun (r:Bool)=>some (r) else some (false) else some (false)):=fun c' m' hm'=>
   Jx first (Ze (if_pos rfl) (Jx (s11 c' s.slots fs s.pending fq dq m' hm') (Ze (if_pos rfl) Ziy)))
  have tail:∀ n:Msg,n.Fits→Ret (fun r=>r=true) (if (cop .gtr (List.length (s.pending.map Zt):Int) 0)=true then if (cop .eql n.kind 2)=true then Zl (s.pending.map Zt) 0 hs3 fun (rq:Qt7)=>(g11 core (l.map Zf) (p.map Zt) m.kind m.view m.frm m.to m.round m.region m.slot m.op.core m.op.op m.op.part m.err m.settled m.req.id.core m.req.id.op m.req.id.part m.req.call.kind m.req.call.slot m.req.call.dest m.req.call.core m.req.call.mask m.req.call.object m.req.call.bits m.req.call.level m.req.call.offset m.req.call.count m.req.call.index m.req.call.addr m.req.region m.req.width m.req.src.id.core m.req.src.id.op m.req.src.id.part (Zb m.req.src.path) m.req.src.cap.kind m.req.src.cap.base m.req.src.cap.bits m.req.src.cap.rights m.req.src.cap.width m.req.src.cap.level m.req.src.cap.device (Zb m.ids) (m.nodes.map ZP) (Za m.cores) (m.moves.map Z4) m.base m.next.number (Za m.next.members) (Za m.next.owners) (m.state.slots.map Zf) (m.state.pending.map Zt) (m.state.marks.map Zj) (m.state.answers.map ZF) (m.state.entries.map Zd) (Zb m.state.commits) m.report.core m.report.view.number (Za m.report.view.members) (Za m.report.view.owners) (m.report.state.slots.map Zf) (m.report.state.pending.map Zt) (m.report.state.marks.map Zj) (m.report.state.answers.map ZF) (m.report.state.entries.map Zd) (Zb m.report.state.commits) m.report.ready m.report.next.number (Za m.report.next.members) (Za m.report.next.owners) (m.report.proposal.slots.map Zf) (m.report.proposal.pending.map Zt) (m.report.proposal.marks.map Zj) (m.report.proposal.answers.map ZF) (m.report.proposal.entries.map Zd) (Zb m.report.proposal.commits)).bind fun (r1:Bool)=>if r1=true then (g11 rq.1 (s.slots.map Zf) (s.pending.map Zt) n.kind n.view n.frm rq.1 n.round n.region n.slot rq.1 rq.2.1 rq.2.2.1 n.err n.settled n.req.id.core n.req.id.op n.req.id.part n.req.call.kind n.req.call.slot n.req.call.dest n.req.call.core n.req.call.mask n.req.call.object n.req.call.bits n.req.call.level n.req.call.offset n.req.call.count n.req.call.index n.req.call.addr n.req.region n.req.width n.req.src.id.core n.req.src.id.op n.req.src.id.part (Zb n.req.src.path) n.req.src.cap.kind n.req.src.cap.base n.req.src.cap.bits n.req.src.cap.rights n.req.src.cap.width n.req.src.cap.level n.req.src.cap.device (Zb n.ids) (n.nodes.map ZP) (Za n.cores) (n.moves.map Z4) n.base n.next.number (Za n.next.members) (Za n.next.owners) (n.state.slots.map Zf) (n.state.pending.map Zt) (n.state.marks.map Zj) (n.state.answers.map ZF) (n.state.entries.map Zd) (Zb n.state.commits) n.report.core n.report.view.number (Za n.report.view.members) (Za n.report.view.owners) (n.report.state.slots.map Zf) (n.report.state.pending.map Zt) (n.report.state.marks.map Zj) (n.report.state.answers.map ZF) (n.report.state.entries.map Zd) (Zb n.report.state.commits) n.report.ready n.report.next.number (Za n.report.next.members) (Za n.report.next.owners) (n.report.proposal.slots.map Zf) (n.report.proposal.pending.map Zt) (n.report.proposal.marks.map Zj) (n.report.proposal.answers.map ZF) (n.report.proposal.entries.map Zd) (Zb n.report.proposal.commits)).bind fun (r2:Bool)=>if r2=true then (g6).bind fun (r:Bool)=>some (r) else some (false) else some (false) else (g11 core (l.map Zf) (p.map Zt) m.kind m.view m.frm m.to m.round m.region m.slot m.op.core m.op.op m.op.part m.err m.settled m.req.id.core m.req.id.op m.req.id.part m.req.call.kind m.req.call.slot m.req.call.dest m.req.call.core m.req.call.mask m.req.call.object m.req.call.bits m.req.call.level m.req.call.offset m.req.call.count m.req.call.index m.req.call.addr m.req.region m.req.width m.req.src.id.core m.req.src.id.op m.req.src.id.part (Zb m.req.src.path) m.req.src.cap.kind m.req.src.cap.base m.req.src.cap.bits m.req.src.cap.rights m.req.src.cap.width m.req.src.cap.level m.req.src.cap.device (Zb m.ids) (m.nodes.map ZP) (Za m.cores) (m.moves.map Z4) m.base m.next.number (Za m.next.members) (Za m.next.owners) (m.state.slots.map Zf) (m.state.pending.map Zt) (m.state.marks.map Zj) (m.state.answers.map ZF) (m.state.entries.map Zd) (Zb m.state.commits) m.report.core m.report.view.number (Za m.report.view.members) (Za m.report.view.owners) (m.report.state.slots.map Zf) (m.report.state.pending.map Zt) (m.report.state.marks.map Zj) (m.report.state.answers.map ZF) (m.report.state.entries.map Zd) (Zb m.report.state.commits) m.report.ready m.report.next.number (Za m.report.next.members) (Za m.report.next.owners) (m.report.proposal.slots.map Zf) (m.report.proposal.pending.map Zt) (m.report.proposal.marks.map Zj) (m.report.proposal.answers.map ZF) (m.report.proposal.entries.map Zd) (Zb m.report.proposal.commits)).bind fun (r1:Bool)=>if r1=true then (g11 c (s.slots.map Zf) (s.pending.map Zt) n.kind n.view n.frm n.to n.round n.region n.slot n.op.core n.op.op n.op.part n.err n.settled n.req.id.core n.req.id.op n.req.id.part n.req.call.kind n.req.call.slot n.req.call.dest n.req.call.core n.req.call.mask n.req.call.object n.req.call.bits n.req.call.level n.req.call.offset n.req.call.count n.req.call.index n.req.call.addr n.req.region n.req.width n.req.src.id.core n.req.src.id.op n.req.src.id.part (Zb n.req.src.path) n.req.src.cap.kind n.req.src.cap.base n.req.src.cap.bits n.req.src.cap.rights n.req.src.cap.width n.req.src.cap.level n.req.src.cap.device (Zb n.ids) (n.nodes.map ZP) (Za n.cores) (n.moves.map Z4) n.base n.next.number (Za n.next.members) (Za n.next.owners) (n.state.slots.map Zf) (n.state.pending.map Zt) (n.state.marks.map Zj) (n.state.answers.map ZF) (n.state.entries.map Zd) (Zb n.state.commits) n.report.core n.report.view.number (Za n.report.view.members) (Za n.report.view.owners) (n.report.state.slots.map Zf) (n.report.state.pending.map Zt) (n.report.state.marks.map Zj) (n.report.state.answers.map ZF) (n.report.state.entries.map Zd) (Zb n.report.state.commits) n.report.ready n.report.next.number (Za n.report.next.members) (Za n.report.next.owners) (n.report.proposal.slots.map Zf) (n.report.proposal.pending.map Zt) (n.report.proposal.marks.map Zj) (n.report.proposal.answers.map ZF) (n.report.proposal.entries.map Zd) (Zb n.report.proposal.commits)).bind fun (r2:Bool)=>if r2=true then (g6).bind fun (r:Bool)=>some (r) else some (false) else some (false) else (g11 core (l.map Zf) (p.map Zt) m.kind m.view m.frm m.to m.round m.region m.slot m.op.core m.op.op m.op.part m.err m.settled m.req.id.core m.req.id.op m.req.id.part m.req.call.kind m.req.call.slot m.req.call.dest m.req.call.core m.req.call.mask m.req.call.object m.req.call.bits m.req.call.level m.req.call.offset m.req.call.count m.req.call.index m.req.call.addr m.req.region m.req.width m.req.src.id.core m.req.src.id.op m.req.src.id.part (Zb m.req.src.path) m.req.src.cap.kind m.req.src.cap.base m.req.src.cap.bits m.req.src.cap.rights m.req.src.cap.width m.req.src.cap.level m.req.src.cap.device (Zb m.ids) (m.nodes.map ZP) (Za m.cores) (m.moves.map Z4) m.base m.next.number (Za m.next.members) (Za m.next.owners) (m.state.slots.map Zf) (m.state.pending.map Zt) (m.state.marks.map Zj) (m.state.answers.map ZF) (m.state.entries.map Zd) (Zb m.state.commits) m.report.core m.report.view.number (Za m.report.view.members) (Za m.report.view.owners) (m.report.state.slots.map Zf) (m.report.state.pending.map Zt) (m.report.state.marks.map Zj) (m.report.state.answers.map ZF) (m.report.state.entries.map Zd) (Zb m.report.state.commits) m.report.ready m.report.next.number (Za m.report.next.members) (Za m.report.next.owners) (m.report.proposal.slots.map Zf) (m.report.proposal.pending.map Zt) (m.report.proposal.marks.map Zj) (m.report.proposal.answers.map ZF) (m.report.proposal.entries.map Zd) (Zb m.report.proposal.commits)).bind fun (r1:Bool)=>if r1=true then (g11 c (s.slots.map Zf) (s.pending.map Zt) n.kind n.view n.frm n.to n.round n.region n.slot n.op.core n.op.op n.op.part n.err n.settled n.req.id.core n.req.id.op n.req.id.part n.req.call.kind n.req.call.slot n.req.call.dest n.req.call.core n.req.call.mask n.req.call.object n.req.call.bits n.req.call.level n.req.call.offset n.req.call.count n.req.call.index n.req.call.addr n.req.region n.req.width n.req.src.id.core n.req.src.id.op n.req.src.id.part (Zb n.req.src.path) n.req.src.cap.kind n.req.src.cap.base n.req.src.cap.bits n.req.src.cap.rights n.req.src.cap.width n.req.src.cap.level n.req.src.cap.device (Zb n.ids) (n.nodes.map ZP) (Za n.cores) (n.moves.map Z4) n.base n.next.number (Za n.next.members) (Za n.next.owners) (n.state.slots.map Zf) (n.state.pending.map Zt) (n.state.marks.map Zj) (n.state.answers.map ZF) (n.state.entries.map Zd) (Zb n.state.commits) n.report.core n.report.view.number (Za n.report.view.members) (Za n.report.view.owners) (n.report.state.slots.map Zf) (n.report.state.pending.map Zt) (n.report.state.marks.map Zj) (n.report.state.answers.map ZF) (n.report.state.entries.map Zd) (Zb n.report.state.commits) n.report.ready n.report.next.number (Za n.report.next.members) (Za n.report.next.owners) (n.report.proposal.slots.map Zf) (n.report.proposal.pending.map Zt) (n.report.proposal.marks.map Zj) (n.report.proposal.answers.map ZF) (n.report.proposal.entries.map Zd) (Zb n.report.proposal.commits)).bind fun (r2:Bool)=>if r2=true then (g6).bind fun (r:Bool)=>some (r) else some (false) else some (false)):=by
   intro n h
   refine Zq (fun h1=>?_) fun _=>fin' c n h
   refine Zq (fun _=>?_) fun _=>fin' c n h
   have hp0:0 < s.pending.length:=by simpa [stV,cop] using h1
   refine Ze (Jc (i:=0) hp0 _) ?_
   exact fin' s.pending[0].id.core { n with op:=s.pending[0].id,to:=s.pending[0].id.core } ⟨h.req,h.ids,h.nodes,h.node,h.cores,h.moves,h.next,h.state,h.report⟩
  refine Zq (fun _=>?_) fun _=>tail n1 hn1.fits
  refine Zc (s10 kind z hz' f 30 hf (by omega)) fun r ⟨n2,hr,_,hn2⟩=>?_
  subst hr
  exact tail n2 hn2.fits
 obtain ⟨r,e,rfl⟩:=key
 exact e
def U (g:Nat→Jh→Jh) (d:Nat):Nat→List Jh→List Jh
 | 0, l => l
 | i + 1, l => (U g d i l).modify (d + i) (g i)
end Go.Proofs.YthdihcchfjlgkaaGreat
end
