/- H24d, L23a, L23b, L23c, L23d, J11a, J11b, L23f, L23g, L23h, L23i, L23j, L23k: texts of the proof, put together. -/
import Derived.Test.YtljejgmcgddppaaGreatM5
import Derived.Test.YtljejgmcgddppaaGreatF23e

section
namespace Go.Proofs.YtljejgmcgddppaaGreat
open Go Go.AM
set_option linter.unusedSimpArgs false
set_option linter.unusedVariables false
set_option maxRecDepth 100000
theorem V6 {γ:Type} {F:Nat→Int→Option γ} {n:Nat} (hit:Nat→γ) (p:Nat→Bool) (hn:n < 2 ^ 63)
  (step:∀ k i:Nat,i < n→F (k+1) (i:Int)=if p i=true then some (hit i) else F k ((i+1:Nat):Int))
  (last:∀ k:Nat,F (k+1) (n:Int)=some (hit n)) (m:Nat) (hm:m≤n) (h1:∀ j,j < m→p j=false) (h2:m < n→p m=true):F Zx 0=some (hit m):=by
 have key:∀ (j i fuel:Nat),i+j=m→n - i < fuel→F fuel (i:Int)=some (hit m):=by
  intro j
  induction j with
  | zero =>
   intro i fuel h hf
   obtain ⟨q,rfl⟩:∃ q,fuel=q+1:=⟨fuel - 1,by omega⟩
   have:i=m:=by omega
   subst this
   by_cases hi:i < n
   ·rw [step q i hi,if_pos (h2 hi)]
   ·have:i=n:=by omega
    subst this
    exact last q
  | succ j ih =>
   intro i fuel h hf
   obtain ⟨q,rfl⟩:∃ q,fuel=q+1:=⟨fuel - 1,by omega⟩
   rw [step q i (by omega),if_neg (by rw [h1 i (by omega)]; exact Bool.false_ne_true)]
   exact ih (i+1) q (by omega) (by omega)
 exact key m 0 Zx (by omega) (by have:=JL hn; omega)
def Wg {α:Type} (q:α→Bool):List α→Nat
 | [] => 0
 | a :: r => match q a with | true => 0 | false => Wg q r + 1
theorem Vf {α:Type} (q:α→Bool):∀ (l:List α),Wg q l≤l.length
 | [] => Nat.le_refl _
 | a :: r => by
  unfold Wg
  have:=Vf q r
  split <;> simp only [List.length_cons] <;> omega
theorem ZbX {α:Type} (q:α→Bool):∀ (l:List α) (j:Nat) (hj:j < l.length),j < Wg q l→q l[j]=false
 | [], j, hj, _ => by simp at hj
 | a :: r, j, hj, h => by
  unfold Wg at h
  split at h
  ·omega
  ·rename_i ha
   cases j with
   | zero => exact ha
   | succ j => exact ZbX q r j (by simpa using hj) (by omega)
theorem ZdF {α:Type} (q:α→Bool):∀ (l:List α) (h:Wg q l < l.length),q l[Wg q l]=true
 | [], h => by simp at h
 | a :: r, h => by
  cases ha:q a with
  | true =>
   have e:Wg q (a :: r)=0:=by unfold Wg; rw [ha]
   simp only [e]
   exact ha
  | false =>
   have e:Wg q (a :: r)=Wg q r+1:=by rw [Wg]; rw [ha]
   have h':Wg q r < r.length:=by rw [e] at h; simpa using h
   have:=ZdF q r h'
   simp only [e]
   exact this
def Zfb (n m:Nat):Int:=if m < n then (m:Int) else -1
theorem Zjg (n m:Nat):cop .geq (Zfb n m) 0=decide (m < n):=by
 unfold Zfb
 rw [Zj]
 split <;> simp only [CQ] <;> constructor <;> intro <;> first | omega | simp_all
theorem Zc3 {n m:Nat} (h:m < n):Zfb n m=(m:Int):=if_pos h
def before (r q:Req):Bool:=Zr7 r.id q.id
theorem Zkz (a:Jq):Zdu a a=true:=by simp [Zdu,YW]
end Go.Proofs.YtljejgmcgddppaaGreat
end

section
namespace Go.Proofs.YtljejgmcgddppaaGreat
open Go Go.AM
set_option linter.unusedSimpArgs false
set_option linter.unusedVariables false
set_option maxRecDepth 100000
theorem ZdR {σ γ:Type} {F:Nat→σ→Int→Option γ} {n:Nat} (S:Nat→σ) {fin:Option γ} (hn:n < 2 ^ 63)
  (step:∀ k i:Nat,i < n→F (k+1) (S i) (i:Int)=F k (S (i+1)) ((i+1:Nat):Int)) (last:∀ k:Nat,F (k+1) (S n) (n:Int)=fin):F Zx (S 0) 0=fin:=by
 have key:∀ (j i fuel:Nat),i+j=n→j < fuel→F fuel (S i) (i:Int)=fin:=by
  intro j
  induction j with
  | zero =>
   intro i fuel h hf
   obtain ⟨q,rfl⟩:∃ q,fuel=q+1:=⟨fuel - 1,by omega⟩
   have:i=n:=by omega
   subst this
   exact last q
  | succ j ih =>
   intro i fuel h hf
   obtain ⟨q,rfl⟩:∃ q,fuel=q+1:=⟨fuel - 1,by omega⟩
   rw [step q i (by omega)]
   exact ih (i+1) q (by omega) (by omega)
 exact key n 0 Zx (by omega) (by have:=JL hn; omega)
def K3 {α:Type} (f:α→α) (l:List α) (i:Nat):List α:=(l.take i).map f++l.drop i
theorem YC {α:Type} (f:α→α) (l:List α) (i:Nat):(K3 f l i).length=l.length:=by simp [K3]; omega
theorem Zay {α:Type} (f:α→α) (l:List α):K3 f l 0=l:=by simp [K3]
theorem Zb6 {α:Type} (f:α→α) (l:List α):K3 f l l.length=l.map f:=by simp [K3]
theorem Vh {α:Type} (f:α→α) (l:List α) (i j:Nat):(K3 f l i)[j]? = (l[j]?).map (if j < i then f else id):=by
 unfold K3
 by_cases h:j < i
 ·by_cases hj:j < l.length
  ·rw [List.getElem?_append_left (by simp; omega),if_pos h]
   simp [List.getElem?_take,h]
  ·rw [List.getElem?_eq_none (by simp; omega),List.getElem?_eq_none (by omega)]; rfl
 ·rw [if_neg h]
  by_cases hi:i≤l.length
  ·rw [List.getElem?_append_right (by simp; omega),List.getElem?_drop]
   simp
   congr 1; omega
  ·rw [List.getElem?_eq_none (by simp; omega),List.getElem?_eq_none (by omega)]; rfl
theorem Zi7 {α:Type} (f:α→α) (l:List α) (i:Nat):(K3 f l i).modify i f=K3 f l (i+1):=by
 refine List.ext_getElem? fun j=>?_
 rw [List.getElem?_modify,Vh,Vh]
 cases l[j]? with
 | none => rfl
 | some x =>
  by_cases hij:i=j
  ·subst hij; simp
  ·have:(j < i+1)↔(j < i):=by omega
   simp [hij,this]
theorem Zqm {α:Type} (f:α→α) (l:List α) {i:Nat} (hi:i < l.length):(K3 f l i)[i]'(by rw [YC]; exact hi)=l[i]:=by
 have h:=Vh f l i i
 rw [List.getElem?_eq_getElem (by rw [YC]; exact hi),List.getElem?_eq_getElem hi] at h
 simpa using h
theorem Y8 {α:Type} (f:α→α) (l:List α) {i:Nat} (hi:i < l.length) (h:f l[i]=l[i]):K3 f l (i+1)=K3 f l i:=by
 refine List.ext_getElem? fun j=>?_
 rw [Vh,Vh]
 by_cases hij:j=i
 ·subst hij
  rw [List.getElem?_eq_getElem hi]; simp [h]
 ·have:(j < i+1)↔(j < i):=by omega
  simp only [this]
theorem Ys {γ:Type} (f:Jq→Jq) (l:List Jq) {i:Nat} (hi:i < l.length) (k:ShsT Zde→Option γ):Zi ((K3 f l i).map Zg) (i:Int) Zde k=k (Yd l[i]):=by
 have h:i < (K3 f l i).length:=by rw [YC]; exact hi
 rw [ZN h,Zqm f l hi]
def J5 (s:Jq):Bool:=decide (s.node.id=zid)
theorem Zhm (s:Jq):((cop .eql s.node.id.core 0)&&((cop .eql s.node.id.op 0)&&((cop .eql s.node.id.part 0)&&true)))=J5 s:=by
 rw [Zj,Ya]
 unfold J5
 rw [decide_eq_true_eq]
theorem s72 (s:Jq):g72 s.node.id.core s.node.id.op s.node.id.part (Zb s.node.path) s.node.cap.kind s.node.cap.base s.node.cap.bits s.node.cap.rights s.node.cap.width s.node.cap.level s.node.cap.device s.op s.lock.core s.lock.op s.lock.part=some (J5 s):=by rw [ZlJ,Zhm]
theorem s21 (s:Jq):g21 s.node.id.core s.node.id.op s.node.id.part (Zb s.node.path) s.node.cap.kind s.node.cap.base s.node.cap.bits s.node.cap.rights s.node.cap.width s.node.cap.level s.node.cap.device s.op s.lock.core s.lock.op s.lock.part=some (J5 s):=by rw [ZlL,Zhm]
def lockS (ids:List Id) (by_:Id) (s:Jq):Jq:=if J5 s=false∧ids.contains s.node.id=true then { s with lock:=by_ } else s
theorem Ze4 {ids:List Id} {b:Id} {s:Jq} (h:¬ (J5 s=false∧ids.contains s.node.id=true)):lockS ids b s=s:=if_neg h
theorem Zjw (ids:List Id) (b:Id) (l:List Jq) {i:Nat} (hi:i < l.length) (h:J5 l[i]=false∧ids.contains l[i].node.id=true):Zy ((K3 (lockS ids b) l i).map Zg) i 12 [I b.core,I b.op,I b.part]=(K3 (lockS ids b) l (i+1)).map Zg:=by
 rw [← Zi7]
 refine Yt Zg _ _ i 12 _ fun x hx=>?_
 rw [Vh,List.getElem?_eq_getElem hi] at hx
 simp at hx
 subst hx
 unfold lockS
 rw [if_pos h]
 rfl
theorem l43 (ids:List Id) (hi:ids.length < 2 ^ 63) (b:Id) (l:List Jq) (hn:l.length < 2 ^ 63):ZfS Zx (Zb ids) b.core b.op b.part (l.map Zg) (l.length:Int) 0=some ((l.map (lockS ids b)).map Zg):=by
 have:=ZdR (F:=fun k x i=>ZfS k (Zb ids) b.core b.op b.part x (l.length:Int) i) (n:=l.length) (fun i=>(K3 (lockS ids b) l i).map Zg) (fin:=some ((l.map (lockS ids b)).map Zg)) hn
  (fun k i hil=>by
   show ZfS (k+1) _ _ _ _ _ _ _=_
   have hul:((K3 (lockS ids b) l i).map Zg).length=l.length:=by rw [List.length_map,YC]
   rw [Zjo,if_pos (ZZ hil),hul]
   refine (Zf (by omega) _).trans ?_
   refine (Zf (by omega) _).trans ?_
   refine (Ys _ l hil _).trans ?_
   simp only [Yd,d2,d4,d8,d16]
   rw [s72,Option.bind_some,ZR hil hn]
   refine Zo (fun h1=>?_) fun h1=>?_
   ·refine (Zf (by omega) _).trans ?_
    refine (Zf (by omega) _).trans ?_
    refine (Ys _ l hil _).trans ?_
    simp only [Yd,d2,d4,d8,d16]
    rw [s76 ids hi,Option.bind_some]
    refine Zo (fun h2=>?_) fun h2=>?_
    ·refine (Zf (by omega) _).trans ?_
     refine (Zf (by omega) _).trans ?_
     refine (Zf (by omega) _).trans ?_
     refine (Zf (by omega) _).trans ?_
     rw [Int.toNat_natCast,Zjw ids b l hil ⟨by simpa using h1,h2⟩]
    ·rw [Y8 (lockS ids b) l hil (Ze4 fun h=>h2 h.2)]
   ·rw [Y8 (lockS ids b) l hil (Ze4 fun h=>h1 (by simp [h.1]))])
  (fun k=>by
   show ZfS (k+1) _ _ _ _ _ _ _=_
   rw [Zjo,if_neg (ZY (Nat.le_refl _)),Zb6])
 simp only [Zay] at this
 exact this
theorem s43 (l:List Jq) (h:W4 l) (ids:List Id) (hi:ids.length < 2 ^ 63) (b:Id):g43 (l.map Zg) (Zb ids) b.core b.op b.part=some ((l.map (lockS ids b)).map Zg):=by
 have hn:l.length < 2 ^ 63:=by have:=h.len; omega
 rw [Zuj,s38 l h,Option.bind_some,List.length_map]
 exact l43 ids hi b l hn
theorem s58 (l:List Jq) (h:W4 l) (ids:List Id) (hi:ids.length < 2 ^ 63) (b:Id):g58 (l.map Zg) (Zb ids) b.core b.op b.part=some ((l.map (lockS ids b)).map Zg):=by
 have hn:l.length < 2 ^ 63:=by have:=h.len; omega
 rw [ZsR,s16 l h,Option.bind_some]
 have:=ZdR (F:=fun k x i=>ZgC k (Zb ids) b.core b.op b.part x i) (n:=l.length) (fun i=>(K3 (lockS ids b) l i).map Zg) (fin:=some ((l.map (lockS ids b)).map Zg)) hn
  (fun k i hil=>by
   show ZgC (k+1) _ _ _ _ _ _=_
   have hul:((K3 (lockS ids b) l i).map Zg).length=l.length:=by rw [List.length_map,YC]
   rw [Zja,hul,if_pos (ZZ hil)]
   refine (Zf (by omega) _).trans ?_
   refine (Zf (by omega) _).trans ?_
   refine (Ys _ l hil _).trans ?_
   simp only [Yd,d2,d4,d8,d16]
   rw [s21,Option.bind_some,ZR hil hn]
   refine Zo (fun h1=>?_) fun h1=>?_
   ·refine (Zf (by omega) _).trans ?_
    refine (Zf (by omega) _).trans ?_
    refine (Ys _ l hil _).trans ?_
    simp only [Yd,d2,d4,d8,d16]
    rw [s18 ids hi,Option.bind_some]
    refine Zo (fun h2=>?_) fun h2=>?_
    ·refine (Zf (by omega) _).trans ?_
     refine (Zf (by omega) _).trans ?_
     refine (Zf (by omega) _).trans ?_
     refine (Zf (by omega) _).trans ?_
     rw [Int.toNat_natCast,Zjw ids b l hil ⟨by simpa using h1,h2⟩]
    ·rw [Y8 (lockS ids b) l hil (Ze4 fun h=>h2 h.2)]
   ·rw [Y8 (lockS ids b) l hil (Ze4 fun h=>h1 (by simp [h.1]))])
  (fun k=>by
   show ZgC (k+1) _ _ _ _ _ _=_
   rw [Zja,List.length_map,YC,if_neg (ZY (Nat.le_refl _)),Zb6])
 simp only [Zay] at this
 exact this
def Kb (b:Id) (s:Jq):Bool:=!J5 s&&decide (s.lock=b)
def Jr (b:Id) (s:Jq):Jq:=if Kb b s=true then { s with node:=ZX,lock:=zid } else s
def Zc0 (b:Id) (l:List Jq):List Jq:=if b=zid then l else l.map (Jr b)
def Zkj (b:Id) (l:List Jq):List Id:=if b=zid then [] else (l.filter (Kb b)).map (·.node.id)
def Zd3:List AV:=[I 0,I 0,I 0,AV.slice false 3 E0,I 0,I 0,I 0,I 0,I 0,I 0,AV.val (.bool false)]
theorem Zco (s:Jq) (b:Id):((cop .eql s.lock.core b.core)&&((cop .eql s.lock.op b.op)&&((cop .eql s.lock.part b.part)&&true)))=decide (s.lock=b):=by
 rw [Zj,Ye,decide_eq_true_eq]
theorem Zgl (b:Id) (l:List Jq) {i:Nat} (hi:i < l.length) (h:Kb b l[i]=true):Zy (Zy ((K3 (Jr b) l i).map Zg) i 0 Zd3) i 12 [I 0,I 0,I 0]=(K3 (Jr b) l (i+1)).map Zg:=by
 have e1:Zy ((K3 (Jr b) l i).map Zg) i 0 Zd3=((K3 (Jr b) l i).modify i fun s=>{ s with node:=ZX }).map Zg:=Yt Zg _ _ i 0 _ fun x _=>rfl
 have e2:Zy (((K3 (Jr b) l i).modify i fun s=>{ s with node:=ZX }).map Zg) i 12 [I 0,I 0,I 0]=(((K3 (Jr b) l i).modify i fun s=>{ s with node:=ZX }).modify i fun s=>{ s with lock:=zid }).map Zg:=Yt Zg _ _ i 12 _ fun x _=>rfl
 rw [e1,e2,← Zi7]
 congr 1
 refine List.ext_getElem? fun j=>?_
 rw [List.getElem?_modify,List.getElem?_modify,List.getElem?_modify]
 by_cases hij:i=j
 ·subst hij
  rw [Vh,List.getElem?_eq_getElem hi]
  simp [Jr,h]
 ·cases (K3 (Jr b) l i)[j]? <;> simp [hij]
theorem ZgW (l:List Id) (x:Id):Zb l++(E0++[[I x.core,I x.op,I x.part]])=Zb (l++[x]):=by
 simp [Zb,idc]
theorem ZhA (b:Id) (l:List Jq) {i:Nat} (hi:i < l.length):((l.take (i+1)).filter (Kb b)).map (·.node.id)=((l.take i).filter (Kb b)).map (·.node.id)++(if Kb b l[i]=true then [l[i].node.id] else []):=by
 rw [List.take_add_one,List.getElem?_eq_getElem hi,Option.toList_some,List.filter_append,List.map_append]
 by_cases h:Kb b l[i]=true
 ·simp [h]
 ·simp [h]
theorem Zeh (b:Id) (l:List Jq) (h:W4 l) (i:Nat) (x:LL) (hx:x.length=1):Ja (Zb (((l.take i).filter (Kb b)).map (·.node.id))) x 24:=by
 have h1:=h.len
 have h2:((l.take i).filter (Kb b)).length≤70:=by
  refine Nat.le_trans (List.length_filter_le _ _) ?_
  rw [List.length_take]; omega
 exact Zq (by rw [Z0,List.length_map,hx]; omega) (by omega)
theorem s45 (l:List Jq) (h:W4 l) (b:Id):g45 (l.map Zg) b.core b.op b.part=some ((Zc0 b l).map Zg,Zb (Zkj b l)):=by
 have hn:l.length < 2 ^ 63:=by have:=h.len; omega
 rw [Ztc,s38 l h,Option.bind_some,List.length_map,Zc0,Zkj]
 refine Zo (fun hz=>?_) fun hz=>?_
 ·have hz':b=zid:=by have:=(Ya b.core b.op b.part).1 hz; exact this
  rw [if_pos hz',if_pos hz']; rfl
 ·have hz':¬ b=zid:=fun e=>hz ((Ya b.core b.op b.part).2 e)
  rw [if_neg hz',if_neg hz']
  have:=ZdR (F:=fun k (x:LL×LL) i=>Ze2 k b.core b.op b.part x.1 x.2 (l.length:Int) i) (n:=l.length) (fun i=>((K3 (Jr b) l i).map Zg,Zb (((l.take i).filter (Kb b)).map (·.node.id)))) (fin:=some ((l.map (Jr b)).map Zg,Zb ((l.filter (Kb b)).map (·.node.id)))) hn
   (fun k i hil=>by
    show Ze2 (k+1) _ _ _ _ _ _ _=_
    have hul:((K3 (Jr b) l i).map Zg).length=l.length:=by rw [List.length_map,YC]
    rw [Zjc,if_pos (ZZ hil),hul]
    refine (Zf (by omega) _).trans ?_
    refine (Zf (by omega) _).trans ?_
    refine (Ys _ l hil _).trans ?_
    simp only [Yd,d2,d4,d8,d16]
    rw [s72,Option.bind_some,ZR hil hn,ZhA b l hil]
    refine Zo (fun h1=>?_) fun h1=>?_
    ·refine (Zf (by omega) _).trans ?_
     refine (Zf (by omega) _).trans ?_
     refine (Ys _ l hil _).trans ?_
     simp only [Yd,d2,d4,d8,d16]
     refine Zo (fun h2=>?_) fun h2=>?_
     ·rw [Zco] at h2
      have hs:Kb b l[i]=true:=by simp only [Bool.not_eq_true'] at h1; simp [Kb,h1]; simpa using h2
      refine (Zf (by omega) _).trans ?_
      refine (Zf (by omega) _).trans ?_
      refine (Ys _ l hil _).trans ?_
      simp only [Yd,d2,d4,d8,d16]
      refine (Zf (Zeh b l h i _ rfl) _).trans ?_
      refine (Zf (by omega) _).trans ?_
      refine (Zf (by omega) _).trans ?_
      refine (Zf (by omega) _).trans ?_
      refine (Zf (by omega) _).trans ?_
      have hsl:(Zy ((K3 (Jr b) l i).map Zg) i 0 Zd3).length=l.length:=by
       have e1:Zy ((K3 (Jr b) l i).map Zg) i 0 Zd3=((K3 (Jr b) l i).modify i fun s=>{ s with node:=ZX }).map Zg:=Yt Zg _ _ i 0 _ fun x _=>rfl
       rw [e1,List.length_map,List.length_modify,YC]
      rw [Int.toNat_natCast]
      refine (Zf (by omega) _).trans ?_
      refine (Zf (by show (i:Int) < ((Zy ((K3 (Jr b) l i).map Zg) i 0 Zd3).length:Int); rw [hsl]; omega) _).trans ?_
      refine (Zf (by omega) _).trans ?_
      refine (Zf (by show (i:Int) < ((Zy ((K3 (Jr b) l i).map Zg) i 0 Zd3).length:Int); rw [hsl]; omega) _).trans ?_
      have hst:=Zgl b l hil hs
      simp only [hs,if_true]
      rw [ZgW]
      exact congrArg (fun x=>Ze2 k b.core b.op b.part x _ _ _) hst
     ·rw [Zco] at h2
      have hs:Kb b l[i]=false:=by simp only [Bool.not_eq_true',decide_eq_true_eq] at h1 h2; simp [Kb,h1,h2]
      rw [hs,if_neg Bool.false_ne_true,List.append_nil,Y8 (Jr b) l hil (by simp [Jr,hs])]
    ·have hs:Kb b l[i]=false:=by simp only [Bool.not_eq_true',Bool.not_eq_false] at h1; simp [Kb,h1]
     rw [hs,if_neg Bool.false_ne_true,List.append_nil,Y8 (Jr b) l hil (by simp [Jr,hs])])
   (fun k=>by
    show Ze2 (k+1) _ _ _ _ _ _ _=_
    rw [Zjc,if_neg (ZY (Nat.le_refl _)),Zb6,List.take_length])
  simp only [Zay,List.take_zero,List.filter_nil,List.map_nil] at this
  exact this
theorem s61 (l:List Jq) (h:W4 l) (b:Id):g61 (l.map Zg) b.core b.op b.part=some ((Zc0 b l).map Zg,Zb (Zkj b l)):=by
 have hn:l.length < 2 ^ 63:=by have:=h.len; omega
 rw [Zsy,s16 l h,Option.bind_some,Zc0,Zkj]
 by_cases hz:b=zid
 ·rw [if_pos hz,if_pos hz]
  have:=ZdR (F:=fun k (x:LL×LL) i=>ZbL k b.core b.op b.part x.1 x.2 i) (n:=l.length) (fun _=>(l.map Zg,[])) (fin:=some (l.map Zg,[])) hn
   (fun k i hil=>by
    show ZbL (k+1) _ _ _ _ _ _=_
    have hul:(l.map Zg).length=l.length:=List.length_map _
    rw [Zcj,hul,if_pos (ZZ hil)]
    refine (Zf (by omega) _).trans ?_
    refine (Zf (by omega) _).trans ?_
    refine (ZN hil _).trans ?_
    simp only [Yd,d2,d4,d8,d16]
    rw [s21,Option.bind_some,ZR hil hn]
    refine Zo (fun h1=>?_) fun h1=>rfl
    refine (Zf (by omega) _).trans ?_
    refine (Zf (by omega) _).trans ?_
    refine (ZN hil _).trans ?_
    simp only [Yd,d2,d4,d8,d16]
    refine Zo (fun h2=>?_) fun h2=>rfl
    refine Zo (fun h3=>?_) fun h3=>rfl
    rw [Bool.not_eq_true',← Bool.not_eq_true,Ya] at h3
    exact (h3 hz).elim)
   (fun k=>by
    show ZbL (k+1) _ _ _ _ _ _=_
    rw [Zcj,List.length_map,if_neg (ZY (Nat.le_refl _))])
  exact this
 ·rw [if_neg hz,if_neg hz]
  have:=ZdR (F:=fun k (x:LL×LL) i=>ZbL k b.core b.op b.part x.1 x.2 i) (n:=l.length) (fun i=>((K3 (Jr b) l i).map Zg,Zb (((l.take i).filter (Kb b)).map (·.node.id)))) (fin:=some ((l.map (Jr b)).map Zg,Zb ((l.filter (Kb b)).map (·.node.id)))) hn
   (fun k i hil=>by
    show ZbL (k+1) _ _ _ _ _ _=_
    have hul:((K3 (Jr b) l i).map Zg).length=l.length:=by rw [List.length_map,YC]
    rw [Zcj,hul,if_pos (ZZ hil)]
    refine (Zf (by omega) _).trans ?_
    refine (Zf (by omega) _).trans ?_
    refine (Ys _ l hil _).trans ?_
    simp only [Yd,d2,d4,d8,d16]
    rw [s21,Option.bind_some,ZR hil hn,ZhA b l hil]
    refine Zo (fun h1=>?_) fun h1=>?_
    ·refine (Zf (by omega) _).trans ?_
     refine (Zf (by omega) _).trans ?_
     refine (Ys _ l hil _).trans ?_
     simp only [Yd,d2,d4,d8,d16]
     refine Zo (fun h2=>?_) fun h2=>?_
     ·rw [Zco] at h2
      have hs:Kb b l[i]=true:=by simp only [Bool.not_eq_true'] at h1; simp [Kb,h1]; simpa using h2
      refine (if_pos (by rw [Bool.not_eq_true',← Bool.not_eq_true,Ya]; exact hz)).trans ?_
      refine (Zf (by omega) _).trans ?_
      refine (Zf (by omega) _).trans ?_
      refine (Ys _ l hil _).trans ?_
      simp only [Yd,d2,d4,d8,d16]
      refine (Zf (Zeh b l h i _ rfl) _).trans ?_
      refine (Zf (by omega) _).trans ?_
      refine (Zf (by omega) _).trans ?_
      refine (Zf (by omega) _).trans ?_
      refine (Zf (by omega) _).trans ?_
      have hsl:(Zy ((K3 (Jr b) l i).map Zg) i 0 Zd3).length=l.length:=by
       have e1:Zy ((K3 (Jr b) l i).map Zg) i 0 Zd3=((K3 (Jr b) l i).modify i fun s=>{ s with node:=ZX }).map Zg:=Yt Zg _ _ i 0 _ fun x _=>rfl
       rw [e1,List.length_map,List.length_modify,YC]
      rw [Int.toNat_natCast]
      refine (Zf (by omega) _).trans ?_
      refine (Zf (by show (i:Int) < ((Zy ((K3 (Jr b) l i).map Zg) i 0 Zd3).length:Int); rw [hsl]; omega) _).trans ?_
      refine (Zf (by omega) _).trans ?_
      refine (Zf (by show (i:Int) < ((Zy ((K3 (Jr b) l i).map Zg) i 0 Zd3).length:Int); rw [hsl]; omega) _).trans ?_
      have hst:=Zgl b l hil hs
      simp only [hs,if_true]
      rw [ZgW]
      exact congrArg (fun x=>ZbL k b.core b.op b.part x _ _) hst
     ·rw [Zco] at h2
      have hs:Kb b l[i]=false:=by simp only [Bool.not_eq_true',decide_eq_true_eq] at h1 h2; simp [Kb,h1,h2]
      rw [hs,if_neg Bool.false_ne_true,List.append_nil,Y8 (Jr b) l hil (by simp [Jr,hs])]
    ·have hs:Kb b l[i]=false:=by simp only [Bool.not_eq_true',Bool.not_eq_false] at h1; simp [Kb,h1]
     rw [hs,if_neg Bool.false_ne_true,List.append_nil,Y8 (Jr b) l hil (by simp [Jr,hs])])
   (fun k=>by
    show ZbL (k+1) _ _ _ _ _ _=_
    rw [Zcj,List.length_map,YC,if_neg (ZY (Nat.le_refl _)),Zb6,List.take_length])
  simp only [Zay,List.take_zero,List.filter_nil,List.map_nil] at this
  exact this
end Go.Proofs.YtljejgmcgddppaaGreat
end

section
namespace Go.Proofs.YtljejgmcgddppaaGreat
open Go Go.AM
set_option linter.unusedSimpArgs false
set_option linter.unusedVariables false
set_option maxRecDepth 100000
theorem ZtA (s:Jq) (i:Id):Zad i s=(!J5 s&&decide (s.node.id=i)):=rfl
theorem Zl6 (s:Jq) (i:Id):((cop .eql s.node.id.core i.core)&&((cop .eql s.node.id.op i.op)&&((cop .eql s.node.id.part i.part)&&true)))=decide (s.node.id=i):=by
 rw [Zj,Ye,decide_eq_true_eq]
theorem ZAg (l:List Jq) (hl:l.length < 2 ^ 63) (i:Id):∃ r,g23 (l.map Zg) i.core i.op i.part=some r∧cop .geq r 0=l.any (Zad i):=by
 rw [ZpB]
 have:=ZfN (F:=fun k j=>Zd7 k (l.map Zg) i.core i.op i.part j) (n:=l.length) (miss:=(-1:Int)) (fun j=>(j:Int)) (atB (Zad i) l) hl
  (fun k j hj=>by
   show Zd7 (k+1) _ _ _ _ _=_
   rw [ZcA,Yn,if_pos (ZZ hj)]
   refine (ZN hj _).trans ?_
   simp only [Yd,d2,d4,d8,d16]
   rw [s21,Option.bind_some,ZR hj hl,Jb _ hj,ZtA]
   refine Zo (fun h1=>?_) fun h1=>?_
   ·refine (ZN hj _).trans ?_
    simp only [Yd,d2,d4,d8,d16]
    refine Zo (fun h2=>?_) fun h2=>?_
    ·rw [Zl6] at h2
     rw [if_pos (by rw [h1,h2]; rfl)]
    ·rw [Zl6] at h2
     rw [if_neg (by simp only [Bool.not_eq_true] at h2; rw [h2]; simp)]
   ·rw [if_neg (by simp only [Bool.not_eq_true] at h1; rw [h1]; simp)])
  (fun k j hj=>by show Zd7 (k+1) _ _ _ _ _=_; rw [ZcA,Yn,if_neg (ZY hj)])
 rcases this with ⟨j,h1,h2,h3,h4⟩ | ⟨h1,h2⟩
 ·refine ⟨_,h4,?_⟩
  have e:l.any (Zad i)=true:=by
   rw [Jb _ h1] at h2
   exact List.any_eq_true.2 ⟨l[j],List.getElem_mem h1,h2⟩
  rw [e]; simp only [cop]; simp
 ·refine ⟨_,h2,?_⟩
  have e:l.any (Zad i)=false:=by
   rw [List.any_eq_false]
   intro x hx
   obtain ⟨j,hj,rfl⟩:=List.getElem_of_mem hx
   have:=h1 j hj
   rw [Jb _ hj] at this
   rw [this]; exact Bool.false_ne_true
  rw [e]; rfl
def ZpM (n:Y4) (s:Jq):Jq:={ s with node:=n }
def Z9 (l:List Jq) (z:Int) (n:Y4):Int:=
 if z < 0∨(l.length:Int)≤z∨ZF n=false∨l.any (Zad n.id)=true then 1 else if (l[z.toNat]?).any (fun s=>!J5 s)=true then 3 else 0
def Zeo (l:List Jq) (z:Int) (n:Y4):List Jq:=if Z9 l z n=0 then l.modify z.toNat (ZpM n) else []
theorem YX {n:Y4} (h:ZF n=true):n.path.length≤8:=by
 simp only [ZF,Bool.and_eq_true,decide_eq_true_eq] at h
 exact h.1.2
theorem Zfe (l:List Jq) (i:Nat) (n:Y4):Zy (l.map Zg) i 0 (Ju n)=(l.modify i (ZpM n)).map Zg:=Yt Zg (ZpM n) l i 0 _ fun _ _=>rfl
theorem s73 (l:List Jq) (h:W4 l) (z:Int) (n:Y4) (hn:n.path.length < 2 ^ 63):g73 (l.map Zg) z n.id.core n.id.op n.id.part (Zb n.path) n.cap.kind n.cap.base n.cap.bits n.cap.rights n.cap.width n.cap.level n.cap.device=some ((Zeo l z n).map Zg,Z9 l z n):=by
 have hl:l.length < 2 ^ 63:=by have:=h.len; omega
 obtain ⟨r,hf⟩:=ZyF l hl n.id.core n.id.op n.id.part
 rw [ZtX,hf,Option.bind_some]
 refine Zo (fun h1=>?_) fun h1=>Zo (fun h2=>?_) fun h2=>?_
 ·simp only [CQ] at h1
  have he:Z9 l z n=1:=by rw [Z9,if_pos (.inl h1)]
  rw [Zeo,he]; rfl
 ·simp only [CQ,List.length_map] at h2
  have he:Z9 l z n=1:=by rw [Z9,if_pos (.inr (.inl h2))]
  rw [Zeo,he]; rfl
 simp only [CQ,List.length_map] at h1 h2
 rw [Zua n hn,Option.bind_some]
 refine Zo (fun h3=>?_) fun h3=>Zo (fun h4=>?_) fun h4=>?_
 ·have he:Z9 l z n=1:=by rw [Z9,if_pos (.inr (.inr (.inl (by simpa using h3))))]
  rw [Zeo,he]; rfl
 ·have he:Z9 l z n=1:=by rw [Z9,if_pos (.inr (.inr (.inr h4)))]
  rw [Zeo,he]; rfl
 ·simp only [Bool.not_eq_true',Bool.not_eq_false] at h3
  have hno:¬ (z < 0∨(l.length:Int)≤z∨ZF n=false∨l.any (Zad n.id)=true):=by
   rintro (h | h | h | h)
   ·omega
   ·omega
   ·rw [h3] at h; cases h
   ·exact h4 h
  have hz:z=((z.toNat:Nat):Int):=by omega
  have hlt:z.toNat < l.length:=by omega
  refine (Jp (by omega) hlt _).trans ?_
  simp only [Yd,d2,d4,d8,d16]
  rw [s72,Option.bind_some]
  have hat:l[z.toNat]? = some l[z.toNat]:=List.getElem?_eq_getElem hlt
  refine Zo (fun h5=>?_) fun h5=>?_
  ·have he:Z9 l z n=3:=by rw [Z9,if_neg hno,if_pos (by rw [hat]; exact h5)]
   rw [Zeo,he]; rfl
  ·have he:Z9 l z n=0:=by rw [Z9,if_neg hno,if_neg (by rw [hat]; exact h5)]
   have hp:=YX h3
   rw [Zeo,he,s38 l h,Option.bind_some,s64 n (by omega),Option.bind_some,List.length_map]
   refine (Zf (by omega) _).trans ?_
   refine (Zf (by omega) _).trans ?_
   refine (Zf (by omega) _).trans ?_
   refine (Zf (by omega) _).trans ?_
   rw [if_pos rfl]
   exact congrArg (fun x=>some (x,(0:Int))) (Zfe l z.toNat n)
theorem ZAh (l:List Jq) (h:W4 l) (z:Int) (n:Y4) (hn:n.path.length < 2 ^ 63):Zyl (l.map Zg) z n.id.core n.id.op n.id.part (Zb n.path) n.cap.kind n.cap.base n.cap.bits n.cap.rights n.cap.width n.cap.level n.cap.device=some ((Zeo l z n).map Zg,Z9 l z n):=by
 have hl:l.length < 2 ^ 63:=by have:=h.len; omega
 obtain ⟨r,hf,hr⟩:=ZAg l hl n.id
 rw [Zrg]
 refine Zo (fun h1=>?_) fun h1=>Zo (fun h2=>?_) fun h2=>?_
 ·simp only [CQ] at h1
  have he:Z9 l z n=1:=by rw [Z9,if_pos (.inl h1)]
  rw [Zeo,he]; rfl
 ·simp only [CQ,List.length_map] at h2
  have he:Z9 l z n=1:=by rw [Z9,if_pos (.inr (.inl h2))]
  rw [Zeo,he]; rfl
 simp only [CQ,List.length_map] at h1 h2
 rw [s87 n hn,Option.bind_some]
 refine Zo (fun h3=>?_) fun h3=>?_
 ·have he:Z9 l z n=1:=by rw [Z9,if_pos (.inr (.inr (.inl (by simpa using h3))))]
  rw [Zeo,he]; rfl
 rw [hf,Option.bind_some]
 refine Zo (fun h4=>?_) fun h4=>?_
 ·rw [hr] at h4
  have he:Z9 l z n=1:=by rw [Z9,if_pos (.inr (.inr (.inr h4)))]
  rw [Zeo,he]; rfl
 ·rw [hr] at h4
  simp only [Bool.not_eq_true',Bool.not_eq_false] at h3
  have hno:¬ (z < 0∨(l.length:Int)≤z∨ZF n=false∨l.any (Zad n.id)=true):=by
   rintro (h | h | h | h)
   ·omega
   ·omega
   ·rw [h3] at h; cases h
   ·exact h4 h
  have hz:z=((z.toNat:Nat):Int):=by omega
  have hlt:z.toNat < l.length:=by omega
  refine (Jp (by omega) hlt _).trans ?_
  simp only [Yd,d2,d4,d8,d16]
  rw [s21,Option.bind_some]
  have hat:l[z.toNat]? = some l[z.toNat]:=List.getElem?_eq_getElem hlt
  refine Zo (fun h5=>?_) fun h5=>?_
  ·have he:Z9 l z n=3:=by rw [Z9,if_neg hno,if_pos (by rw [hat]; exact h5)]
   rw [Zeo,he]; rfl
  ·have he:Z9 l z n=0:=by rw [Z9,if_neg hno,if_neg (by rw [hat]; exact h5)]
   have hp:=YX h3
   rw [Zeo,he,s16 l h,Option.bind_some,s30 n (by omega),Option.bind_some,List.length_map]
   refine (Zf (by omega) _).trans ?_
   refine (Zf (by omega) _).trans ?_
   refine (Zf (by omega) _).trans ?_
   refine (Zf (by omega) _).trans ?_
   rw [if_pos rfl]
   exact congrArg (fun x=>some (x,(0:Int))) (Zfe l z.toNat n)
def Zae (r:Int) (m:YA):Bool:=decide (m.region≠r)
def Vg (r:Int) (l:List YA):List YA:=l.filter (Zae r)
theorem s39 (l:List YA) (h:l.length≤1000):g39 (l.map Zk)=some (l.map Zk):=by
 rw [Zus]
 refine ZiO (fun hn=>?_) ?_
 ·rw [if_pos rfl,hn]
 ·rw [if_neg Bool.false_ne_true]
  refine Zf (Zq (by simp; omega) (by omega)) _
theorem Zmu (a b:Int):cop .eql a b=decide (a=b):=by rw [Zj]; simp only [CQ]
theorem s59 (l:List YA) (h:l.length≤1000) (r:Int):g59 (l.map Zk) r=some ((Vg r l).map Zk):=by
 rw [ZsB]
 have hn:l.length < 2 ^ 63:=by omega
 have e:(Vg r l).map Zk=l.flatMap (fun m=>if Zae r m=true then [Zk m] else []):=by
  unfold Vg
  induction l with
  | nil => rfl
  | cons a l ih =>
   rw [List.flatMap_cons,List.filter_cons]
   by_cases ha:Zae r a=true
   ·rw [if_pos ha,if_pos ha,List.map_cons,ih (by simp at h; omega) (by simp at hn; omega)]; rfl
   ·rw [if_neg ha,if_neg ha,ih (by simp at h; omega) (by simp at hn; omega)]; rfl
 rw [e]
 have hle:∀ m:YA,(if Zae r m=true then [Zk m] else []).length≤1:=fun m=>by split <;> simp
 refine ZiS (F:=fun k acc i=>Zil k (l.map Zk) r acc i) l (fun m=>if Zae r m=true then [Zk m] else []) hn (fun k i hi=>?_) (fun k acc i hi=>?_)
 ·show Zil (k+1) _ _ _ _=_
  rw [Zj8,List.length_map,if_pos (ZZ hi)]
  refine (Je hi _).trans ?_
  rw [ZR hi hn]
  refine Zo (fun h1=>?_) fun h1=>?_
  ·simp only [CQ] at h1
   rw [if_pos (by simp [Zae,h1])]
   refine (Je hi _).trans ?_
   refine (Zf (Zq ?_ (by omega)) _).trans rfl
   have:=Zmm (fun m:YA=>if Zae r m=true then [Zk m] else []) (l.take i).length hle (l.take i) (Nat.le_refl _)
   simp only [List.length_take,List.length_append,List.length_cons,List.length_nil] at this ⊢
   omega
  ·simp only [CQ] at h1
   rw [if_neg (by simp [Zae,h1]),List.append_nil]
 ·show Zil (k+1) _ _ _ _=_
  rw [Zj8,List.length_map,if_neg (ZY hi)]
def isR (r:Int) (m:YA):Bool:=decide (m.region=r)
def atM (q:YA→Bool) (p:List YA) (i:Nat):Bool:=match p[i]? with | some x=>q x | none=>false
theorem Zbi (q:YA→Bool) {p:List YA} {i:Nat} (h:i < p.length):atM q p i=q p[i]:=by unfold atM; rw [List.getElem?_eq_getElem h]
theorem ZrY (l:List YA) (hn:l.length < 2 ^ 63) (r:Int):ZiA (l.map Zk) r=some (Zfb l.length (Wg (isR r) l),r):=by
 rw [ZkD,List.length_map]
 exact V6 (F:=fun k z=>K5 k (l.map Zk) (l.length:Int) z r) (n:=l.length) (fun m=>(Zfb l.length m,r)) (atM (isR r) l) hn
  (fun k j hj=>by
   show K5 (k+1) _ _ _ _=_
   rw [ZbQ,if_pos (ZZ hj)]
   refine (Je hj _).trans ?_
   rw [ZpJ,Option.bind_some,ZR hj hn,Zbi _ hj,Zc3 hj]
   dsimp only
   rw [Zmu]
   rfl)
  (fun k=>by
   show K5 (k+1) _ _ _ _=_
   rw [ZbQ,if_neg (ZY (Nat.le_refl _)),Zfb,if_neg (Nat.lt_irrefl _)]) (Wg (isR r) l) (Vf _ l) (fun j hj=>by
    have hl:=Vf (isR r) l
    rw [Zbi _ (by omega)]; exact ZbX _ l j (by omega) hj) (fun h=>by rw [Zbi _ h]; exact ZdF _ l h)
theorem Zpp (r:Int) (m:YA):Zae r m = !isR r m:=by simp [Zae,isR]
theorem Zn3 (arr:List YA) (w:Nat) (y:YA):Zy (arr.map Zk) w 0 [I y.region,I y.op.core,I y.op.op,I y.op.part]=(arr.modify w fun _=>y).map Zk:=Yt Zk (fun _=>y) arr w 0 _ fun _ _=>rfl
theorem ZpH {α:Type} (arr:List α) (w k:Nat) (f:α→α) (h:w≠k):(arr.modify w f)[k]? = arr[k]?:=by
 rw [List.getElem?_modify]
 cases arr[k]? <;> simp [h]
theorem ZoN {α:Type} (arr:List α) (w:Nat) (y:α) (h:w < arr.length):(arr.modify w fun _=>y).take (w+1)=arr.take w++[y]:=by
 refine List.ext_getElem? fun k=>?_
 rw [List.getElem?_take]
 by_cases hk:k < w
 ·rw [if_pos (by omega),List.getElem?_append_left (by simp; omega),List.getElem?_take,if_pos hk,ZpH _ _ _ _ (by omega)]
 ·by_cases hk2:k=w
  ·subst hk2
   rw [if_pos (by omega),List.getElem?_append_right (by rw [List.length_take]; omega),List.getElem?_modify,List.getElem?_eq_getElem h]
   have:k - (arr.take k).length=0:=by simp; omega
   rw [this]; simp
  ·rw [if_neg (by omega),List.getElem?_eq_none (by simp; omega)]
theorem l74 (l:List YA) (r:Int) (hn:l.length < 2 ^ 62):∀ (d j fuel:Nat) (arr:List YA),j+d=l.length→d < fuel→arr.length=l.length→(∀ k,j≤k→arr[k]? = l[k]?)→
  ((l.take j).filter (Zae r)).length < j→arr.take ((l.take j).filter (Zae r)).length=(l.take j).filter (Zae r)→
  Zaf fuel (arr.map Zk) (((l.take j).filter (Zae r)).length:Int) (j:Int) r=some ((Vg r l).map Zk,r):=by
 intro d
 induction d with
 | zero =>
  intro j fuel arr h hf ha hk hw ht
  obtain ⟨q,rfl⟩:∃ q,fuel=q+1:=⟨fuel - 1,by omega⟩
  have hj:j=l.length:=by omega
  subst hj
  rw [List.take_length] at hw ht
  rw [ZdK,List.length_map,ha,if_neg (ZY (Nat.le_refl _)),List.take_length]
  refine (Zf (by omega) _).trans ?_
  refine (Zf (by omega) _).trans ?_
  refine (Zf (by omega) _).trans ?_
  have hsub:iop .sub .i64 (l.length:Int) ((l.filter (Zae r)).length:Int)=(l.length:Int) - (l.filter (Zae r)).length:=by rw [ZhK (by omega) (by omega)]
  refine (Zf (by simp only [List.length_append,List.length_take,List.length_map,List.length_replicate,Int.toNat_natCast]; omega) _).trans ?_
  rw [Int.toNat_natCast,List.take_append_of_le_length (by simp; omega),List.take_take,Nat.min_self,← List.map_take,ht]
  rfl
 | succ d ih =>
  intro j fuel arr h hf ha hk hw ht
  obtain ⟨q,rfl⟩:∃ q,fuel=q+1:=⟨fuel - 1,by omega⟩
  have hj:j < l.length:=by omega
  have hja:j < arr.length:=by omega
  have haj:arr[j]=l[j]:=by
   have:=hk j (Nat.le_refl _)
   rw [List.getElem?_eq_getElem hja,List.getElem?_eq_getElem hj] at this
   exact Option.some.inj this
  have hft:(l.take (j+1)).filter (Zae r)=(l.take j).filter (Zae r)++(if Zae r l[j]=true then [l[j]] else []):=by
   rw [List.take_add_one,List.getElem?_eq_getElem hj,Option.toList_some,List.filter_append]
   by_cases hh:Zae r l[j]=true
   ·simp [hh]
   ·simp [hh]
  rw [ZdK,List.length_map,ha,if_pos (ZZ hj)]
  refine (Zf (by omega) _).trans ?_
  refine (Zf (by omega) _).trans ?_
  refine (Je hja _).trans ?_
  rw [haj,ZpJ,Option.bind_some]
  dsimp only
  rw [ZR hj (by omega),Zmu]
  generalize hwd:((l.take j).filter (Zae r)).length=w at *
  refine Zo (fun h1=>?_) fun h1=>?_
  ·have hoff:Zae r l[j]=true:=by simpa [Zae] using h1
   rw [if_pos hoff] at hft
   refine (Zf (by omega) _).trans ?_
   refine (Zf (by omega) _).trans ?_
   refine (Zf (by omega) _).trans ?_
   refine (Zf (by omega) _).trans ?_
   rw [Int.toNat_natCast,Zn3,ZR (show w < l.length by omega) (by omega)]
   have hwl:((l.take (j+1)).filter (Zae r)).length=w+1:=by rw [hft,List.length_append,hwd]; rfl
   have:=ih (j+1) q (arr.modify w fun _=>l[j]) (by omega) (by omega) (by rw [List.length_modify]; exact ha) (fun k hkk=>by rw [ZpH _ _ _ _ (by omega)]; exact hk k (by omega)) (by rw [hwl]; omega)
    (by rw [hwl,ZoN _ _ _ (by omega),ht,hft])
   rw [hwl] at this
   exact this
  ·have hoff:¬ Zae r l[j]=true:=by simpa [Zae] using h1
   rw [if_neg hoff,List.append_nil] at hft
   have:=ih (j+1) q arr (by omega) (by omega) ha (fun k hkk=>hk k (by omega)) (by rw [hft,hwd]; omega) (by rw [hft,hwd]; exact ht)
   rw [hft,hwd] at this
   exact this
theorem Zgh {α:Type} (q:α→Bool):∀ (l:List α) (j:Nat),(∀ (k:Nat) (hk:k < l.length),k < j→q l[k]=true)→(l.take j).filter q=l.take j:=by
 intro l j h
 rw [List.filter_eq_self]
 intro x hx
 obtain ⟨k,hk,rfl⟩:=List.getElem_of_mem hx
 rw [List.getElem_take]
 simp at hk
 exact h k (by omega) (by omega)
theorem s42 (l:List YA) (hn:l.length < 2 ^ 62) (r:Int):g42 (l.map Zk) r=some ((Vg r l).map Zk):=by
 rw [ZuZ,Zl5,ZrY l (by omega) r,Option.bind_some]
 dsimp only
 have hle:=Vf (isR r) l
 have hno:∀ (k:Nat) (hk:k < l.length),k < Wg (isR r) l→Zae r l[k]=true:=fun k hk h=>by rw [Zpp,ZbX _ l k hk h]; rfl
 by_cases hlt:Wg (isR r) l < l.length
 ·rw [Zc3 hlt,if_neg (by simp only [CQ]; omega),ZR hlt (by omega)]
  have hft0:=Zgh (Zae r) l (Wg (isR r) l) hno
  have hat:=ZdF (isR r) l hlt
  have hft:(l.take (Wg (isR r) l+1)).filter (Zae r)=l.take (Wg (isR r) l):=by
   rw [List.take_add_one,List.getElem?_eq_getElem hlt,Option.toList_some,List.filter_append,hft0]
   simp [Zpp,hat]
  have hl1:(l.take (Wg (isR r) l)).length=Wg (isR r) l:=by rw [List.length_take]; omega
  have:=l74 l r hn (l.length - (Wg (isR r) l+1)) (Wg (isR r) l+1) Zx l (by omega) (by have:=JL (n:=l.length) (by omega); omega) rfl (fun _ _=>rfl) (by rw [hft,hl1]; omega) (by rw [hft,hl1])
  rw [hft,hl1] at this
  rw [this]; rfl
 ·have he:Wg (isR r) l=l.length:=by omega
  rw [Zfb,if_neg hlt,if_pos (by rfl)]
  have:=Zgh (Zae r) l l.length fun k hk _=>hno k hk (by omega)
  rw [List.take_length] at this
  unfold Vg
  rw [this]; rfl
def geR (r:Int) (m:YA):Bool:=!decide (m.region < r)
def mkM (r:Int) (op:Id) (l:List YA):List YA:=(Vg r l).take (Wg (geR r) (Vg r l))++[⟨r,op⟩]++(Vg r l).drop (Wg (geR r) (Vg r l))
theorem Zcl (r:Int) (l:List YA):(Vg r l).length≤l.length:=List.length_filter_le _ _
theorem Zbt (p:List YA) (i:Nat):List.take (Int.toNat (i:Int)) (p.map Zk)=(p.take i).map Zk:=by rw [Int.toNat_natCast]; exact (List.map_take ..).symm
theorem Zbp (p:List YA) (i:Nat):List.drop (Int.toNat (i:Int)) (p.map Zk)=(p.drop i).map Zk:=by rw [Int.toNat_natCast]; exact (List.map_drop ..).symm
theorem Zj3 (p:List YA) (r:Int) (op:Id) (i:Nat) (hi:i≤p.length) (h:p.length≤1000):g77 (p.map Zk) (i:Int) (E0++[[I r,I op.core,I op.op,I op.part]])=some ((p.take i++[(⟨r,op⟩:YA)]++p.drop i).map Zk):=by
 rw [ZuF,Zx8]
 refine (Zf (by omega) _).trans ?_
 refine (Zf (by rw [List.length_map]; omega) _).trans ?_
 refine (Zf (by simp) _).trans ?_
 refine (Zf (Zq (by simp; omega) (by omega)) _).trans ?_
 rw [Zbt,Zbp,List.map_append,List.map_append]
 rfl
theorem s44 (l:List YA) (h:l.length≤1000) (r:Int) (op:Id):g44 (l.map Zk) r op.core op.op op.part=some ((mkM r op l).map Zk):=by
 rw [Zs8,s42 l (by omega),Option.bind_some]
 have hl:=Zcl r l
 have hn:(Vg r l).length < 2 ^ 63:=by omega
 refine V6 (F:=fun k z=>Zk1 k ((Vg r l).map Zk) r op.core op.op op.part z) (n:=(Vg r l).length) (fun i=>((Vg r l).take i++[(⟨r,op⟩:YA)]++(Vg r l).drop i).map Zk) (atM (geR r) (Vg r l)) hn
  (fun k j hj=>?_) (fun k=>?_) (Wg (geR r) (Vg r l)) (Vf _ _) (fun j hj=>by
    have hl:=Vf (geR r) (Vg r l)
    rw [Zbi _ (by omega)]; exact ZbX _ _ j (by omega) hj) (fun h=>by rw [Zbi _ h]; exact ZdF _ _ h)
 ·show Zk1 (k+1) _ _ _ _ _ _=_
  rw [Zka,List.length_map,if_pos (ZZ hj)]
  refine (Zf (by omega) _).trans ?_
  refine (Zf (by omega) _).trans ?_
  refine (Je hj _).trans ?_
  rw [ZR hj hn,Zbi _ hj,Zj3 _ r op j (by omega) (by omega)]
  refine Zo (fun h1=>?_) fun h1=>?_
  ·simp only [CQ] at h1
   rw [if_neg (by simp [geR,h1])]
  ·simp only [CQ] at h1
   rw [if_pos (by simp [geR]; omega)]; rfl
 ·show Zk1 (k+1) _ _ _ _ _ _=_
  rw [Zka,List.length_map,if_neg (ZY (Nat.le_refl _)),Zj3 _ r op _ (Nat.le_refl _) (by omega)]; rfl
theorem s60 (l:List YA) (h:l.length≤1000) (r:Int) (op:Id):g60 (l.map Zk) r op.core op.op op.part=some ((mkM r op l).map Zk):=by
 rw [ZuM,s59 l h,Option.bind_some]
 have hl:=Zcl r l
 have hn:(Vg r l).length < 2 ^ 63:=by omega
 have hr0:∀ i:Nat,i≤(Vg r l).length→Ja E0 (((Vg r l).take i).map Zk) 32:=fun i hi=>Zq (by simp; omega) (by omega)
 have hr1:∀ i:Nat,i≤(Vg r l).length→Ja (((Vg r l).take i).map Zk) (E0++[[I r,I op.core,I op.op,I op.part]]) 32:=fun i hi=>Zq (by simp; omega) (by omega)
 have hr2:∀ i:Nat,i≤(Vg r l).length→Ja ((((Vg r l).take i).map Zk)++(E0++[[I r,I op.core,I op.op,I op.part]])) (((Vg r l).drop i).map Zk) 32:=fun i hi=>Zq (by simp; omega) (by omega)
 have hres:∀ i:Nat,((((Vg r l).take i).map Zk)++(E0++[[I r,I op.core,I op.op,I op.part]]))++(((Vg r l).drop i).map Zk)=((Vg r l).take i++[(⟨r,op⟩:YA)]++(Vg r l).drop i).map Zk:=fun i=>by
  rw [List.map_append,List.map_append]; rfl
 refine V6 (F:=fun k z=>Zld k ((Vg r l).map Zk) r op.core op.op op.part z) (n:=(Vg r l).length) (fun i=>((Vg r l).take i++[(⟨r,op⟩:YA)]++(Vg r l).drop i).map Zk) (atM (geR r) (Vg r l)) hn
  (fun k j hj=>?_) (fun k=>?_) (Wg (geR r) (Vg r l)) (Vf _ _) (fun j hj=>by
    have hl:=Vf (geR r) (Vg r l)
    rw [Zbi _ (by omega)]; exact ZbX _ _ j (by omega) hj) (fun h=>by rw [Zbi _ h]; exact ZdF _ _ h)
 ·show Zld (k+1) _ _ _ _ _ _=_
  rw [Zi3,List.length_map,if_pos (ZZ hj)]
  refine (Je hj _).trans ?_
  rw [ZR hj hn,Zbi _ hj]
  refine Zo (fun h1=>?_) fun h1=>?_
  ·simp only [CQ] at h1
   rw [if_neg (by simp [geR,h1])]
  ·simp only [CQ] at h1
   rw [if_pos (by simp [geR]; omega),Zbt,Zbp]
   refine (Zf (by omega) _).trans ?_
   refine (Zf (by omega) _).trans ?_
   refine (Zf (hr0 j (by omega)) _).trans ?_
   refine (Zf (hr1 j (by omega)) _).trans ?_
   refine (Zf (by omega) _).trans ?_
   refine (Zf (by omega) _).trans ?_
   refine (Zf (hr2 j (by omega)) _).trans ?_
   rw [hres]
 ·show Zld (k+1) _ _ _ _ _ _=_
  rw [Zi3,List.length_map,if_neg (ZY (Nat.le_refl _)),Zbt,Zbp]
  refine (Zf (by omega) _).trans ?_
  refine (Zf (by omega) _).trans ?_
  refine (Zf (hr0 _ (by omega)) _).trans ?_
  refine (Zf (hr1 _ (by omega)) _).trans ?_
  refine (Zf (by omega) _).trans ?_
  refine (Zf (by omega) _).trans ?_
  refine (Zf (hr2 _ (by omega)) _).trans ?_
  rw [hres]
end Go.Proofs.YtljejgmcgddppaaGreat
end

section
namespace Go.Proofs.YtljejgmcgddppaaGreat
open Go Go.AM
set_option linter.unusedSimpArgs false
set_option linter.unusedVariables false
set_option maxRecDepth 100000
def rep (k e:Int) (m:Msg):Msg:=⟨k,0,0,m.frm,0,m.region,0,m.op,e,false,Z5,[],[],[],[],0,ZC,Zl,Zm⟩
def Zpr (c:Id×Bool):List AV:=[I c.1.core,I c.1.op,I c.1.part,B c.2]
def Zlp (m:Msg):Y4:=m.nodes.headD ZX
def KU (l:List Jq) (m:Msg):Int:=
 if (l.length:Int)≤m.slot then 1 else match l[m.slot.toNat]? with
  | some s => if ZcR s = true then 4 else if J5 s = false then 3 else if Z9 l m.slot (Zlp m) ≠ 0 then 1 else 0
  | none => 1
def KK (l:List Jq) (m:Msg):List Jq:=if KU l m=0 then Zeo l m.slot (Zlp m) else l
theorem Zp8 {l:List Jq} {z:Int} {n:Y4} (hz:z.toNat < l.length) (he:J5 (l[z.toNat])=true):Z9 l z n=1∨Z9 l z n=0:=by
 unfold Z9
 split
 ·exact .inl rfl
 ·rw [if_neg (by rw [List.getElem?_eq_getElem hz]; simp [he])]
  exact .inr rfl
theorem s41 (l:List Jq) (h:W4 l) (m:Msg) (n:Y4) (hm:m.nodes = [n]) (hs:0≤m.slot) (hn:n.path.length < 2 ^ 63):g41 (l.map Zg) m.kind m.view m.frm m.to m.round m.region m.slot m.op.core m.op.op m.op.part m.err m.settled m.req.id.core m.req.id.op m.req.id.part m.req.call.kind m.req.call.slot m.req.call.dest m.req.call.core m.req.call.mask m.req.call.object m.req.call.bits m.req.call.level m.req.call.offset m.req.call.count m.req.call.index m.req.call.addr m.req.region m.req.width m.req.src.id.core m.req.src.id.op m.req.src.id.part (Zb m.req.src.path) m.req.src.cap.kind m.req.src.cap.base m.req.src.cap.bits m.req.src.cap.rights m.req.src.cap.width m.req.src.cap.level m.req.src.cap.device (Zb m.ids) (m.nodes.map Ju) (Za m.cores) (m.moves.map Jw) m.base m.next.number (Za m.next.members) (Za m.next.owners) (m.state.slots.map Zg) (m.state.pending.map ZM) (m.state.marks.map Zk) (m.state.answers.map ZS) (m.state.entries.map Ze) (Zb m.state.commits) m.report.core m.report.view.number (Za m.report.view.members) (Za m.report.view.owners) (m.report.state.slots.map Zg) (m.report.state.pending.map ZM) (m.report.state.marks.map Zk) (m.report.state.answers.map ZS) (m.report.state.entries.map Ze) (Zb m.report.state.commits) m.report.ready m.report.next.number (Za m.report.next.members) (Za m.report.next.owners) (m.report.proposal.slots.map Zg) (m.report.proposal.pending.map ZM) (m.report.proposal.marks.map Zk) (m.report.proposal.answers.map ZS) (m.report.proposal.entries.map Ze) (Zb m.report.proposal.commits)=some ((KK l m).map Zg,KU l m):=by
 have h1n:Zlp m=n:=by rw [Zlp,hm]; rfl
 rw [Ztk]
 have hi:(0:Nat) < m.nodes.length:=by rw [hm]; exact Nat.zero_lt_one
 refine (Yx hi _).trans ?_
 have hg:m.nodes[0]=n:=by simp [hm]
 rw [hg]
 simp only [Zft,d2,d4,d8,d16]
 refine Zo (fun h1=>?_) fun h1=>?_
 ·simp only [CQ,List.length_map] at h1
  have he:KU l m=1:=if_pos h1
  rw [KK,he]; rfl
 simp only [CQ,List.length_map] at h1
 have hlt:m.slot.toNat < l.length:=by omega
 have hat:l[m.slot.toNat]? = some l[m.slot.toNat]:=List.getElem?_eq_getElem hlt
 have hinst:KU l m=if ZcR l[m.slot.toNat]=true then 4 else if J5 l[m.slot.toNat]=false then 3 else if Z9 l m.slot n≠0 then 1 else 0:=by
  rw [KU,if_neg h1,hat,h1n]
 refine (Jp hs hlt _).trans ?_
 simp only [Yd,d2,d4,d8,d16]
 rw [s71,Option.bind_some]
 refine Zo (fun h2=>?_) fun h2=>?_
 ·have he:KU l m=4:=by rw [hinst,if_pos h2]
  rw [KK,he]; rfl
 refine (Jp hs hlt _).trans ?_
 simp only [Yd,d2,d4,d8,d16]
 rw [s72,Option.bind_some]
 refine Zo (fun h3=>?_) fun h3=>?_
 ·have he:KU l m=3:=by rw [hinst,if_neg h2,if_pos (by simpa using h3)]
  rw [KK,he]; rfl
 have h3':J5 l[m.slot.toNat]=true:=by simpa using h3
 rw [s73 l h m.slot n hn,Option.bind_some]
 refine Zo (fun h4=>?_) fun h4=>?_
 ·simp only [CQ] at h4
  have h4':Z9 l m.slot n≠0:=h4
  have he:KU l m=1:=by rw [hinst,if_neg h2,if_neg (by simp [h3']),if_pos h4']
  rw [KK,he]; rfl
 ·simp only [CQ] at h4
  have h4':¬ Z9 l m.slot n≠0:=h4
  have he:KU l m=0:=by rw [hinst,if_neg h2,if_neg (by simp [h3']),if_neg h4']
  rw [KK,he,if_pos rfl,h1n]
theorem s57 (l:List Jq) (h:W4 l) (m:Msg) (n:Y4) (hm:m.nodes = [n]) (hs:0≤m.slot) (hn:n.path.length < 2 ^ 63):∃ r,g57 (l.map Zg) m.kind m.view m.frm m.to m.round m.region m.slot m.op.core m.op.op m.op.part m.err m.settled m.req.id.core m.req.id.op m.req.id.part m.req.call.kind m.req.call.slot m.req.call.dest m.req.call.core m.req.call.mask m.req.call.object m.req.call.bits m.req.call.level m.req.call.offset m.req.call.count m.req.call.index m.req.call.addr m.req.region m.req.width m.req.src.id.core m.req.src.id.op m.req.src.id.part (Zb m.req.src.path) m.req.src.cap.kind m.req.src.cap.base m.req.src.cap.bits m.req.src.cap.rights m.req.src.cap.width m.req.src.cap.level m.req.src.cap.device (Zb m.ids) (m.nodes.map Ju) (Za m.cores) (m.moves.map Jw) m.base m.next.number (Za m.next.members) (Za m.next.owners) (m.state.slots.map Zg) (m.state.pending.map ZM) (m.state.marks.map Zk) (m.state.answers.map ZS) (m.state.entries.map Ze) (Zb m.state.commits) m.report.core m.report.view.number (Za m.report.view.members) (Za m.report.view.owners) (m.report.state.slots.map Zg) (m.report.state.pending.map ZM) (m.report.state.marks.map Zk) (m.report.state.answers.map ZS) (m.report.state.entries.map Ze) (Zb m.report.state.commits) m.report.ready m.report.next.number (Za m.report.next.members) (Za m.report.next.owners) (m.report.proposal.slots.map Zg) (m.report.proposal.pending.map ZM) (m.report.proposal.marks.map Zk) (m.report.proposal.answers.map ZS) (m.report.proposal.entries.map Ze) (Zb m.report.proposal.commits)=some (r.map Zg,KU l m)∧(KU l m=0→r=KK l m):=by
 have h1n:Zlp m=n:=by rw [Zlp,hm]; rfl
 rw [ZuB]
 by_cases h1:(l.length:Int)≤m.slot
 ·have he:KU l m=1:=if_pos h1
  rw [if_pos (by simp only [CQ,List.length_map]; exact h1)]
  exact ⟨[],by rw [he]; rfl,fun h0=>by rw [he] at h0; cases h0⟩
 rw [if_neg (by simp only [CQ,List.length_map]; exact h1)]
 have hlt:m.slot.toNat < l.length:=by omega
 have hat:l[m.slot.toNat]? = some l[m.slot.toNat]:=List.getElem?_eq_getElem hlt
 have hinst:KU l m=if ZcR l[m.slot.toNat]=true then 4 else if J5 l[m.slot.toNat]=false then 3 else if Z9 l m.slot n≠0 then 1 else 0:=by
  rw [KU,if_neg h1,hat,h1n]
 have key:∀ r:List Jq,(∀ x:Option (LL×Int),x=some (r.map Zg,KU l m)→(KU l m=0→r=KK l m)→∃ r,x=some (r.map Zg,KU l m)∧(KU l m=0→r=KK l m)):=fun r x h1 h2=>⟨r,h1,h2⟩
 by_cases h2:ZcR l[m.slot.toNat]=true
 ·have he:KU l m=4:=by rw [hinst,if_pos h2]
  refine key [] _ ?_ (fun h0=>by rw [he] at h0; cases h0)
  refine (Jp hs hlt _).trans ?_
  simp only [Yd,d2,d4,d8,d16]
  rw [s20,Option.bind_some,if_pos h2,he]; rfl
 by_cases h3:J5 l[m.slot.toNat]=true
 ·have hp:=Zp8 (n:=n) hlt h3
  have he:KU l m=Z9 l m.slot n:=by
   rw [hinst,if_neg h2,if_neg (by simp [h3])]
   rcases hp with hp | hp <;> rw [hp] <;> rfl
  refine key (Zeo l m.slot n) _ ?_ (fun h0=>by rw [KK,if_pos h0,h1n])
  refine (Jp hs hlt _).trans ?_
  simp only [Yd,d2,d4,d8,d16]
  rw [s20,Option.bind_some,if_neg h2]
  refine (Jp hs hlt _).trans ?_
  simp only [Yd,d2,d4,d8,d16]
  rw [s21,Option.bind_some,if_neg (by simp [h3])]
  have hi:(0:Nat) < m.nodes.length:=by rw [hm]; exact Nat.zero_lt_one
  refine (Yx hi _).trans ?_
  have hg:m.nodes[0]=n:=by simp [hm]
  rw [hg]
  simp only [Zft,d2,d4,d8,d16]
  rw [ZAh l h m.slot n hn,Option.bind_some,he]
 ·have h3':J5 l[m.slot.toNat]=false:=by simpa using h3
  have he:KU l m=3:=by rw [hinst,if_neg h2,if_pos h3']
  refine key [] _ ?_ (fun h0=>by rw [he] at h0; cases h0)
  refine (Jp hs hlt _).trans ?_
  simp only [Yd,d2,d4,d8,d16]
  rw [s20,Option.bind_some,if_neg h2]
  refine (Jp hs hlt _).trans ?_
  simp only [Yd,d2,d4,d8,d16]
  rw [s21,Option.bind_some,if_pos (by simp [h3']),he]; rfl
structure ZtU where
 slots:List Jq
 marks:List YA
 msgs:List Msg
 coms:List (Id×Bool)
def ZqI (r:ZtU):LL×LL×LL×LL:=(r.slots.map Zg,r.marks.map Zk,r.msgs.map ZoQ,r.coms.map Zpr)
def VN (l:List Jq) (m:Msg):List (Id×Bool):=if KU l m=0 then [(m.op,true)] else if KU l m=3 then [(m.op,false)] else []
def hold (core:Int) (l:List Jq) (mk:List YA) (m:Msg):ZtU:=
 if Kk m=false∨m.to≠core then ⟨l,mk,[],[]⟩
 else if m.kind=4 then ⟨KK l m,mk,[rep 5 (KU l m) m],VN l m⟩
 else if m.kind=6 then ⟨l.map (lockS m.ids m.op),Vg m.region mk,[rep 7 0 m],[]⟩
 else if m.kind=8 then ⟨l,mkM m.region m.op mk,[rep 9 0 m],[]⟩
 else if m.kind=10 then ⟨Zc0 m.op l,mk,[rep 11 0 m],[]⟩
 else ⟨l,mk,[],[]⟩
theorem Zdv {m:Msg} (hv:Kk m=true) (hk:m.kind=4):∃ n,m.nodes = [n]∧0≤m.slot∧ZF n=true:=by
 simp only [Kk,Bool.and_eq_true] at hv
 obtain ⟨_,hf,_⟩:=hv
 have e:m.kind.toNat=4:=by rw [hk]; rfl
 rw [e] at hf
 simp only [kf,List.all_cons,List.all_nil,Bool.and_true,Bool.and_eq_true,Zh,decide_eq_true_eq,Bool.or_eq_true,Jl] at hf
 obtain ⟨_,_,hs,⟨hl,h1⟩,hn⟩:=hf
 have hl1:m.nodes.length=1:=by
  rcases h1 with h1 | h1
  ·exact (h1 hk).elim
  ·exact h1
 match hmn:m.nodes,hl1 with
 | [n], _ =>
  rw [hmn] at hn
  simp at hn
  exact ⟨n,rfl,by omega,hn⟩
theorem s15 (core:Int) (l:List Jq) (h:W4 l) (mk:List YA) (hk:mk.length≤1000) (m:Msg) (hm:m.Fits):g15 core (l.map Zg) (mk.map Zk) m.kind m.view m.frm m.to m.round m.region m.slot m.op.core m.op.op m.op.part m.err m.settled m.req.id.core m.req.id.op m.req.id.part m.req.call.kind m.req.call.slot m.req.call.dest m.req.call.core m.req.call.mask m.req.call.object m.req.call.bits m.req.call.level m.req.call.offset m.req.call.count m.req.call.index m.req.call.addr m.req.region m.req.width m.req.src.id.core m.req.src.id.op m.req.src.id.part (Zb m.req.src.path) m.req.src.cap.kind m.req.src.cap.base m.req.src.cap.bits m.req.src.cap.rights m.req.src.cap.width m.req.src.cap.level m.req.src.cap.device (Zb m.ids) (m.nodes.map Ju) (Za m.cores) (m.moves.map Jw) m.base m.next.number (Za m.next.members) (Za m.next.owners) (m.state.slots.map Zg) (m.state.pending.map ZM) (m.state.marks.map Zk) (m.state.answers.map ZS) (m.state.entries.map Ze) (Zb m.state.commits) m.report.core m.report.view.number (Za m.report.view.members) (Za m.report.view.owners) (m.report.state.slots.map Zg) (m.report.state.pending.map ZM) (m.report.state.marks.map Zk) (m.report.state.answers.map ZS) (m.report.state.entries.map Ze) (Zb m.report.state.commits) m.report.ready m.report.next.number (Za m.report.next.members) (Za m.report.next.owners) (m.report.proposal.slots.map Zg) (m.report.proposal.pending.map ZM) (m.report.proposal.marks.map Zk) (m.report.proposal.answers.map ZS) (m.report.proposal.entries.map Ze) (Zb m.report.proposal.commits)=some (ZqI (hold core l mk m)):=by
 rw [ZuJ,s38 l h,Option.bind_some,s39 mk hk,Option.bind_some,s40 m hm,Option.bind_some]
 refine Zo (fun h1=>?_) fun h1=>Zo (fun h2=>?_) fun h2=>?_
 ·rw [hold,if_pos (.inl (by simpa using h1))]; rfl
 ·simp only [CQ] at h2
  rw [hold,if_pos (.inr h2)]; rfl
 simp only [CQ] at h2
 have hv:Kk m=true:=by simpa using h1
 have hno:¬ (Kk m=false∨m.to≠core):=fun h=>h.elim (fun h=>by rw [hv] at h; cases h) h2
 rw [hold,if_neg hno]
 refine Zo (fun h4=>?_) fun h4=>?_
 ·simp only [CQ] at h4
  obtain ⟨n,hmn,hs,hok⟩:=Zdv hv h4
  have hp:=YX hok
  rw [if_pos h4,s41 l h m n hmn hs (by omega),Option.bind_some,VN]
  refine Zo (fun h5=>?_) fun h5=>?_
  ·simp only [CQ] at h5
   have h5':KU l m=0:=h5
   rw [if_pos h5',h5']; rfl
  simp only [CQ] at h5
  have h5':¬ KU l m=0:=h5
  refine Zo (fun h6=>?_) fun h6=>?_
  ·simp only [CQ] at h6
   have h6':KU l m=3:=h6
   rw [if_neg h5',if_pos h6',h6']; rfl
  ·simp only [CQ] at h6
   have h6':¬ KU l m=3:=h6
   rw [if_neg h5',if_neg h6']; rfl
 simp only [CQ] at h4
 rw [if_neg h4]
 refine Zo (fun h6=>?_) fun h6=>?_
 ·simp only [CQ] at h6
  rw [if_pos h6,s42 mk (by omega),Option.bind_some,s43 l h m.ids hm.ids m.op,Option.bind_some]; rfl
 simp only [CQ] at h6
 rw [if_neg h6]
 refine Zo (fun h8=>?_) fun h8=>?_
 ·simp only [CQ] at h8
  rw [if_pos h8,s44 mk hk,Option.bind_some]; rfl
 simp only [CQ] at h8
 rw [if_neg h8]
 refine Zo (fun h10=>?_) fun h10=>?_
 ·simp only [CQ] at h10
  rw [if_pos h10,s45 l h m.op,Option.bind_some]; rfl
 ·simp only [CQ] at h10
  rw [if_neg h10]; rfl
theorem s35 (core:Int) (l:List Jq) (h:W4 l) (mk:List YA) (hk:mk.length≤1000) (m:Msg) (hm:m.Fits):g35 core (l.map Zg) (mk.map Zk) m.kind m.view m.frm m.to m.round m.region m.slot m.op.core m.op.op m.op.part m.err m.settled m.req.id.core m.req.id.op m.req.id.part m.req.call.kind m.req.call.slot m.req.call.dest m.req.call.core m.req.call.mask m.req.call.object m.req.call.bits m.req.call.level m.req.call.offset m.req.call.count m.req.call.index m.req.call.addr m.req.region m.req.width m.req.src.id.core m.req.src.id.op m.req.src.id.part (Zb m.req.src.path) m.req.src.cap.kind m.req.src.cap.base m.req.src.cap.bits m.req.src.cap.rights m.req.src.cap.width m.req.src.cap.level m.req.src.cap.device (Zb m.ids) (m.nodes.map Ju) (Za m.cores) (m.moves.map Jw) m.base m.next.number (Za m.next.members) (Za m.next.owners) (m.state.slots.map Zg) (m.state.pending.map ZM) (m.state.marks.map Zk) (m.state.answers.map ZS) (m.state.entries.map Ze) (Zb m.state.commits) m.report.core m.report.view.number (Za m.report.view.members) (Za m.report.view.owners) (m.report.state.slots.map Zg) (m.report.state.pending.map ZM) (m.report.state.marks.map Zk) (m.report.state.answers.map ZS) (m.report.state.entries.map Ze) (Zb m.report.state.commits) m.report.ready m.report.next.number (Za m.report.next.members) (Za m.report.next.owners) (m.report.proposal.slots.map Zg) (m.report.proposal.pending.map ZM) (m.report.proposal.marks.map Zk) (m.report.proposal.answers.map ZS) (m.report.proposal.entries.map Ze) (Zb m.report.proposal.commits)=some (ZqI (hold core l mk m)):=by
 rw [ZsO,s56 m hm,Option.bind_some]
 refine Zo (fun h1=>?_) fun h1=>Zo (fun h2=>?_) fun h2=>?_
 ·rw [hold,if_pos (.inl (by simpa using h1))]; rfl
 ·simp only [CQ] at h2
  rw [hold,if_pos (.inr h2)]; rfl
 simp only [CQ] at h2
 have hv:Kk m=true:=by simpa using h1
 have hno:¬ (Kk m=false∨m.to≠core):=fun h=>h.elim (fun h=>by rw [hv] at h; cases h) h2
 rw [hold,if_neg hno]
 refine Zo (fun h4=>?_) fun h4=>?_
 ·simp only [CQ] at h4
  obtain ⟨n,hmn,hs,hok⟩:=Zdv hv h4
  have hp:=YX hok
  obtain ⟨r,hr,hr0⟩:=s57 l h m n hmn hs (by omega)
  rw [if_pos h4,hr,Option.bind_some,VN]
  refine Zo (fun h5=>?_) fun h5=>?_
  ·simp only [CQ] at h5
   have h5':KU l m=0:=h5
   rw [if_pos h5',h5',hr0 h5']; rfl
  simp only [CQ] at h5
  have h5':¬ KU l m=0:=h5
  refine Zo (fun h6=>?_) fun h6=>?_
  ·simp only [CQ] at h6
   have h6':KU l m=3:=h6
   rw [if_neg h5',if_pos h6',KK,if_neg h5',h6']; rfl
  ·simp only [CQ] at h6
   have h6':¬ KU l m=3:=h6
   rw [if_neg h5',if_neg h6',KK,if_neg h5']; rfl
 simp only [CQ] at h4
 rw [if_neg h4]
 refine Zo (fun h6=>?_) fun h6=>?_
 ·simp only [CQ] at h6
  rw [if_pos h6,s58 l h m.ids hm.ids m.op,Option.bind_some,s59 mk hk,Option.bind_some]; rfl
 simp only [CQ] at h6
 rw [if_neg h6]
 refine Zo (fun h8=>?_) fun h8=>?_
 ·simp only [CQ] at h8
  rw [if_pos h8,s60 mk hk,Option.bind_some]; rfl
 simp only [CQ] at h8
 rw [if_neg h8]
 refine Zo (fun h10=>?_) fun h10=>?_
 ·simp only [CQ] at h10
  rw [if_pos h10,s61 l h m.op,Option.bind_some]; rfl
 ·simp only [CQ] at h10
  rw [if_neg h10]; rfl
theorem ZlU {l:List Jq} (h:W4 l) (f:Jq→Jq) (hf:∀ s,(f s).node.path.length≤s.node.path.length):W4 (l.map f):=
 ⟨by rw [List.length_map]; exact h.len,fun s hs=>by
  obtain ⟨t,ht,rfl⟩:=List.mem_map.1 hs
  exact Nat.le_trans (hf t) (h.path t ht)⟩
theorem ZrZ {l:List Jq} (h:W4 l) (z:Int) (n:Y4):W4 (Zeo l z n):=by
 unfold Zeo
 split
 ·rename_i he
  have hok:ZF n=true:=by
   unfold Z9 at he
   split at he
   ·cases he
   ·rename_i hh
    cases hn:ZF n with
    | true => rfl
    | false => exact (hh (.inr (.inr (.inl hn)))).elim
  have hp:=YX hok
  refine ⟨by rw [List.length_modify]; exact h.len,fun s hs=>?_⟩
  obtain ⟨i,hi,rfl⟩:=List.getElem_of_mem hs
  rw [List.getElem_modify]
  split
  ·show n.path.length≤20; omega
  ·exact h.path _ (List.getElem_mem _)
 ·exact ⟨by simp,by simp⟩
theorem ZjC {l:List Jq} (h:W4 l) (m:Msg):W4 (KK l m):=by
 unfold KK
 split
 ·exact ZrZ h _ _
 ·exact h
theorem ZoU {l:List Jq} (h:W4 l) (ids:List Id) (b:Id):W4 (l.map (lockS ids b)):=ZlU h _ fun s=>by unfold lockS; split <;> exact Nat.le_refl _
theorem Zl7 {l:List Jq} (h:W4 l) (b:Id):W4 (Zc0 b l):=by
 unfold Zc0
 split
 ·exact h
 ·exact ZlU h _ fun s=>by
   unfold Jr
   split
   ·exact Nat.zero_le _
   ·exact Nat.le_refl _
theorem ZqA (r:Int) (op:Id) (l:List YA):(mkM r op l).length≤l.length+1:=by
 have:=Zcl r l
 have:=Vf (geR r) (Vg r l)
 simp only [mkM,List.length_append,List.length_take,List.length_drop,List.length_cons,List.length_nil]
 omega
theorem Zox (core:Int) {l:List Jq} (h:W4 l) (mk:List YA) (m:Msg):W4 (hold core l mk m).slots∧(hold core l mk m).marks.length≤mk.length+1∧(∀ x∈(hold core l mk m).msgs,∃ k e,x=rep k e m)∧(hold core l mk m).msgs.length≤1∧(hold core l mk m).coms.length≤1:=by
 unfold hold
 split
 ·exact ⟨h,by simp,by simp,by simp,by simp⟩
 split
 ·refine ⟨ZjC h m,by simp,fun x hx=>⟨5,KU l m,by simpa using hx⟩,by simp,?_⟩
  show (VN l m).length≤1
  unfold VN; split
  ·simp
  ·split <;> simp
 split
 ·exact ⟨ZoU h _ _,by have:=Zcl m.region mk; show (Vg m.region mk).length≤_; omega,fun x hx=>⟨7,0,by simpa using hx⟩,by simp,by simp⟩
 split
 ·exact ⟨h,ZqA _ _ _,fun x hx=>⟨9,0,by simpa using hx⟩,by simp,by simp⟩
 split
 ·exact ⟨Zl7 h _,by simp,fun x hx=>⟨11,0,by simpa using hx⟩,by simp,by simp⟩
 ·exact ⟨h,by simp,by simp,by simp,by simp⟩
theorem Zpf (k e:Int) (m:Msg):(rep k e m).Fits:=by
 have hv:ZC.Fits:=⟨by simp [ZC],by simp [ZC]⟩
 have hs:Zl.Fits:=by constructor <;> simp [Zl]
 exact ⟨by simp [rep,Z5,ZX],by simp [rep],by simp [rep],by simp [rep],by simp [rep],by simp [rep],hv,hs,⟨hv,hs,hv,hs⟩⟩
theorem ZdM {γ:Type} {l:List (Id×Bool)} {i:Nat} (h:i < l.length) (k:(Int×Int×Int×Bool)→Option γ):Zi (l.map Zpr) (i:Int) [.int .i64,.int .i64,.int .i64,.bool] k=k (l[i].1.core,l[i].1.op,l[i].1.part,l[i].2):=J6 (f:=Zpr) (sh:=[.int .i64,.int .i64,.int .i64,.bool]) (v:=fun c=>(c.1.core,c.1.op,c.1.part,c.2)) (fun _=>rfl) h k
theorem ZiT (m:YA):Za4 m m=true:=by simp [Za4]
theorem s13 (core:Int) (l:List Jq) (h:W4 l) (mk:List YA) (hk:mk.length≤900) (m:Msg) (hm:m.Fits):g13 core (l.map Zg) (mk.map Zk) m.kind m.view m.frm m.to m.round m.region m.slot m.op.core m.op.op m.op.part m.err m.settled m.req.id.core m.req.id.op m.req.id.part m.req.call.kind m.req.call.slot m.req.call.dest m.req.call.core m.req.call.mask m.req.call.object m.req.call.bits m.req.call.level m.req.call.offset m.req.call.count m.req.call.index m.req.call.addr m.req.region m.req.width m.req.src.id.core m.req.src.id.op m.req.src.id.part (Zb m.req.src.path) m.req.src.cap.kind m.req.src.cap.base m.req.src.cap.bits m.req.src.cap.rights m.req.src.cap.width m.req.src.cap.level m.req.src.cap.device (Zb m.ids) (m.nodes.map Ju) (Za m.cores) (m.moves.map Jw) m.base m.next.number (Za m.next.members) (Za m.next.owners) (m.state.slots.map Zg) (m.state.pending.map ZM) (m.state.marks.map Zk) (m.state.answers.map ZS) (m.state.entries.map Ze) (Zb m.state.commits) m.report.core m.report.view.number (Za m.report.view.members) (Za m.report.view.owners) (m.report.state.slots.map Zg) (m.report.state.pending.map ZM) (m.report.state.marks.map Zk) (m.report.state.answers.map ZS) (m.report.state.entries.map Ze) (Zb m.report.state.commits) m.report.ready m.report.next.number (Za m.report.next.members) (Za m.report.next.owners) (m.report.proposal.slots.map Zg) (m.report.proposal.pending.map ZM) (m.report.proposal.marks.map Zk) (m.report.proposal.answers.map ZS) (m.report.proposal.entries.map Ze) (Zb m.report.proposal.commits)=some true:=by
 rw [ZtV,s16 l h,Option.bind_some]
 refine (Zf (Zq (by simp; omega) (by omega)) _).trans ?_
 rw [s15 core l h mk (by omega) m hm,Option.bind_some,s35 core l h mk (by omega) m hm,Option.bind_some]
 obtain ⟨f1,f2,f3,f4,f5⟩:=Zox core h mk m
 generalize hold core l mk m=r at *
 simp only [ZqI]
 have hc:r.coms.length < 2 ^ 63:=by omega
 have h1:=f1.len
 refine (if_neg (by simp [cop])).trans ?_
 have:=ZL (F:=fun k i=>Zk4 k (r.slots.map Zg) (r.marks.map Zk) (r.msgs.map ZoQ) (r.coms.map Zpr) (r.slots.map Zg) (r.marks.map Zk) (r.msgs.map ZoQ) (r.coms.map Zpr) i) (n:=r.coms.length) (fin:=some true) (bad:=some false) (fun _=>true) hc 0 (by omega)
  (fun k i _ hi=>by
   show Zk4 (k+1) _ _ _ _ _ _ _ _ _=_
   rw [ZjV,List.length_map,if_pos (ZZ hi)]
   refine (ZdM hi _).trans ?_
   refine (ZdM hi _).trans ?_
   refine (if_neg (by simp [cop])).trans ?_
   rw [ZR hi hc]; rfl)
  (fun k i hi=>by
   show Zk4 (k+1) _ _ _ _ _ _ _ _ _=_
   rw [ZjV,List.length_map,if_neg (ZY hi)]
   have p1:∀ x∈r.slots,x.node.path.length < 2 ^ 63:=fun x hx=>by have:=f1.path x hx; omega
   rw [s22 _ _ (by omega) p1 p1,Option.bind_some,Jk _ Zkz]
   refine (if_pos rfl).trans ?_
   rw [s36 _ _ (by omega),Option.bind_some,Jk _ ZiT]
   refine (if_pos rfl).trans ?_
   rw [s37 _ (by omega) (fun x hx=>by obtain ⟨k,e,rfl⟩:=f3 x hx; exact Zpf k e m)]
   rfl)
 refine this.trans ?_
 rw [if_pos (by simp)]
theorem s7:g7=some true:=by kernel_rfl
theorem s9 (x n:Int) (h1:1≤n) (h2:n < 2 ^ 62):g9 x n=some (x % n):=by
 have e62:(2:Int) ^ 62=4611686018427387904:=by decide
 have hm0:=Int.emod_nonneg x (show n≠0 by omega)
 have hm1:=Int.emod_lt_of_pos x (show 0 < n by omega)
 have ht:iop .rem .i64 x n=x.tmod n:=rfl
 rw [Zx2,if_neg (by simp only [CQ]; omega),Zf (by omega),ht]
 have:=Int.tmod_eq_emod (a:=x) (b:=n)
 by_cases hd:0≤x∨n ∣ x
 ·rw [if_pos hd] at this
  rw [if_neg (by simp only [CQ]; omega)]
  congr 1
  omega
 ·rw [if_neg hd] at this
  have habs:((n.natAbs:Nat):Int)=n:=by omega
  have hne:x % n≠0:=fun h=>hd (.inr (Int.dvd_of_emod_eq_zero h))
  rw [if_pos (by simp only [CQ]; omega),Kh (by omega) (by omega)]
  congr 1
  omega
end Go.Proofs.YtljejgmcgddppaaGreat
end

section
namespace Go.Proofs.YtljejgmcgddppaaGreat
open Go Go.AM
set_option linter.unusedSimpArgs false
set_option linter.unusedVariables false
set_option maxRecDepth 100000
structure Zpy where
 root:Bool
 src:Int
 core:Int
 slot:Int
 kind:Int
 base:Int
 bits:Int
 count:Int
 rights:Int
 copy:Bool
def Zac (s:Zpy):List AV:=[B s.root,I s.src,I s.core,I s.slot,I s.kind,I s.base,I s.bits,I s.count,I s.rights,B s.copy]
theorem ZsZ:Tryz.prog.cellsOf 82=10:=by kernel_rfl
theorem ZrU {d:Nat} {cs:List AV} (h:TyR Tryz.prog (d+2) 82 cs):∃ s:Zpy,cs=Zac s:=by
 rw [TyR] at h
 simp only [Tryz.underlying82] at h
 obtain ⟨ps,rfl,hl,hp⟩:=h
 obtain ⟨p0,p1,p2,p3,p4,p5,p6,p7,p8,p9,rfl⟩:∃ p0 p1 p2 p3 p4 p5 p6 p7 p8 p9,ps = [p0,p1,p2,p3,p4,p5,p6,p7,p8,p9]:=by
  match ps,hl with
  | [p0, p1, p2, p3, p4, p5, p6, p7, p8, p9], _ => exact ⟨p0, p1, p2, p3, p4, p5, p6, p7, p8, p9, rfl⟩
 obtain ⟨a,rfl⟩:=ZmF (hp 0 _ _ rfl rfl)
 obtain ⟨b,rfl⟩:=Zaj (hp 1 _ _ rfl rfl)
 obtain ⟨c,rfl⟩:=Zaj (hp 2 _ _ rfl rfl)
 obtain ⟨d,rfl⟩:=Zaj (hp 3 _ _ rfl rfl)
 obtain ⟨e,rfl⟩:=Zaj (hp 4 _ _ rfl rfl)
 obtain ⟨f,rfl⟩:=Zaj (hp 5 _ _ rfl rfl)
 obtain ⟨g,rfl⟩:=Zaj (hp 6 _ _ rfl rfl)
 obtain ⟨i,rfl⟩:=Zaj (hp 7 _ _ rfl rfl)
 obtain ⟨j,rfl⟩:=Zaj (hp 8 _ _ rfl rfl)
 obtain ⟨k,rfl⟩:=ZmF (hp 9 _ _ rfl rfl)
 exact ⟨⟨a,b,c,d,e,f,g,i,j,k⟩,rfl⟩
theorem Zmn {x:AV} (h:Zb2 Tryz.prog 12 23 x):∃ l:List Zpy,x = .slice false 10 (l.map Zac)∧l.length < 2 ^ 63:=by
 simp only [Zb2,Tryz.underlying23] at h
 have hh:=h.2
 rw [TyR] at hh
 simp only [Tryz.underlying23,ZsZ] at hh
 obtain ⟨xs,h1,h2,h3⟩:=hh
 obtain ⟨l,rfl,h5⟩:=ZdB (f:=Zac) (p:=fun _=>True) xs fun y hy=>(ZrU (h3 y hy)).elim fun a h=>⟨a,h,trivial⟩
 exact ⟨l,by simpa using h1,Zzv (by simpa using h2)⟩
end Go.Proofs.YtljejgmcgddppaaGreat
end

section
namespace Go.Proofs.YtljejgmcgddppaaGreat
open Go Go.AM
set_option linter.unusedSimpArgs false
set_option linter.unusedVariables false
set_option maxRecDepth 100000
theorem ZyP (a b:Int):Zsk a b=some (ZbR a b):=by
 rw [ZqQ]
 simp only [Zvj,Option.bind_some]
 cases h:Ve a b with
 | false => simp [ZbR, h]
 | true =>
  obtain ⟨h1,h2,h3,h4,h5⟩:=Zfw h
  have hw:IntKind.wrap .u64 b=b:=KV (by omega) (by omega)
  simp only [Bool.not_true,Bool.false_eq_true,if_false,hw]
  rw [Zf (by omega),ZqM h]
theorem s82 (a b c d:Int):g82 a b c d=some (Zt9 a b c d):=by
 rw [Zt1]
 simp only [Zvj,ZyP,Option.bind_some]
 repeat' split
 all_goals (refine congrArg some ?_; rw [Zj]; simp only [Zt9,J1,J0,JU,JW,JV,JX,JS,JY,JT,JQ,JR,JZ,Bool.not_eq_true,Bool.not_eq_false,Bool.not_eq_true',Bool.not_eq_false',Bool.and_eq_true,Bool.or_eq_true,decide_eq_true_eq,decide_eq_false_iff_not,Bool.false_eq_true,Bool.true_eq_false,Option.bind_some,Option.some.injEq,false_iff,true_iff,iff_false,iff_true] at *; grind)
theorem s80 (a b c d:Int):g80 a b c d=some (inB a b c d):=by
 rw [Zsv]
 simp only [Zvj,ZyP,Option.bind_some]
 repeat' split
 all_goals (refine congrArg some ?_; rw [Zj]; simp only [inB,J1,J0,JU,JW,JV,JX,JS,JY,JT,JQ,JR,JZ,Bool.not_eq_true,Bool.not_eq_false,Bool.not_eq_true',Bool.not_eq_false',Bool.and_eq_true,Bool.or_eq_true,decide_eq_true_eq,decide_eq_false_iff_not,Bool.false_eq_true,Bool.true_eq_false,Option.bind_some,Option.some.injEq,false_iff,true_iff,iff_false,iff_true] at *; grind)
theorem s50 (k b s r w l:Int) (d:Bool) (m:Int):g50 k b s r w l d m=some (k,b,s,iop .and .i64 r m,w,l,d):=ZsX ..
end Go.Proofs.YtljejgmcgddppaaGreat
end

section
namespace Go.Proofs.YtljejgmcgddppaaGreat
open Go Go.AM
set_option linter.unusedSimpArgs false
set_option linter.unusedVariables false
set_option maxRecDepth 100000
theorem l51 {b r w l k s:Int} {d fl:Bool} {lv wd bits sz off obj cnt:Int} (hb:0≤b) (hoff:0≤off) (hsz:0≤sz) (hc:cnt≤8) (hm:b+off+8 * sz < 2 ^ 62):∀ (j i fuel:Nat),cnt=i+j→j < fuel→
  VI fuel obj bits lv wd off cnt k b s r w l d fl sz (Y1 obj (b+off) sz bits r (if fl=true then wd else 0) (if fl=true then lv else 0) d i) i=some (Y1 obj (b+off) sz bits r (if fl=true then wd else 0) (if fl=true then lv else 0) d cnt.toNat,0):=by
 intro j
 have e62:(2:Int) ^ 62=4611686018427387904:=by decide
 induction j with
 | zero =>
  intro i fuel h hf
  obtain ⟨f,rfl⟩:∃ f,fuel=f+1:=⟨fuel - 1,by omega⟩
  rw [Zi4,if_neg (by simp only [J1,J0,JU,JW,JV,JX,JS,JY,JT,JQ,JR,JZ,Bool.not_eq_true,Bool.not_eq_false,Bool.not_eq_true',Bool.not_eq_false',Bool.and_eq_true,Bool.or_eq_true,decide_eq_true_eq,decide_eq_false_iff_not,Bool.false_eq_true,Bool.true_eq_false,Option.bind_some,Option.some.injEq,false_iff,true_iff,iff_false,iff_true]; omega)]
  have:cnt.toNat=i:=by omega
  rw [this]
 | succ j ih =>
  intro i fuel h hf
  obtain ⟨f,rfl⟩:∃ f,fuel=f+1:=⟨fuel - 1,by omega⟩
  have hsi:(i:Int) * sz≤8 * sz:=Int.mul_le_mul_of_nonneg_right (by omega) hsz
  have hsi0:0≤(i:Int) * sz:=Int.mul_nonneg (by omega) hsz
  have a1:iop .add .i64 b off=b+off:=Kh (by omega) (by omega)
  have a2:iop .mul .i64 i sz=i * sz:=ZtH (by omega) (by omega)
  have a3:iop .add .i64 (b+off) (i * sz)=b+off+i * sz:=Kh (by omega) (by omega)
  have a4:iop .add .i64 i 1=((i+1:Nat):Int):=by rw [Kh (by omega) (by omega)]; omega
  have:=ih (i+1) f (by omega) (by omega)
  rw [Zfi] at this
  rw [Zi4,if_pos (by simp only [J1,J0,JU,JW,JV,JX,JS,JY,JT,JQ,JR,JZ,Bool.not_eq_true,Bool.not_eq_false,Bool.not_eq_true',Bool.not_eq_false',Bool.and_eq_true,Bool.or_eq_true,decide_eq_true_eq,decide_eq_false_iff_not,Bool.false_eq_true,Bool.true_eq_false,Option.bind_some,Option.some.injEq,false_iff,true_iff,iff_false,iff_true]; omega)]
  cases fl
  ·simp only [Bool.false_eq_true,if_false] at this ⊢
   rw [Zf (ZlS (by rw [ZbV]; simp; omega)),a1,a2,a3,a4]
   exact this
  ·simp only [if_true] at this ⊢
   rw [Zf (ZlS (by rw [ZbV]; simp; omega)),a1,a2,a3,a4]
   exact this
set_option maxHeartbeats 4000000 in
theorem s51 (k b s r w l:Int) (d:Bool) (obj bits level width off cnt:Int):g51 k b s r w l d obj bits level width off cnt =
  some (Wq ⟨k,b,s,r,w,l,d⟩ obj bits level width off cnt,ZcC ⟨k,b,s,r,w,l,d⟩ obj bits level width off cnt):=by
 rw [Ztn]
 simp only [s84,s85,s86,Option.bind_some]
 by_cases hh:VJ ⟨k,b,s,r,w,l,d⟩=true∧k=1∧iop .and .i64 r 2≠0∧VO obj bits=true∧(obj=3→ZdJ width level=true)∧1≤cnt∧cnt≤8∧0≤off
 ·obtain ⟨h1,rfl,h3,h4,h5,h6,h7,h8⟩:=hh
  obtain ⟨n1,n2,n3,n4,n5,n6,n7,n8,n9,n10,n11,n12,n13,n14,n15,n16⟩:=Zog h1 h4 h6 h7 h8
  have q1:(Zw ((0:Int)≤bits):Option (List (List AV)×Int)→_)=fun x=>x:=Zib n7
  have q2:(Zw ((2:Int) ^ bits.toNat≠0):Option (List (List AV)×Int)→_)=fun x=>x:=Zib n6
  have hw1:IntKind.wrap .u64 bits=bits:=KV n7 (by omega)
  have hw2:IntKind.wrap .u64 s=s:=KV n8 (by simp only at n16; omega)
  have q3:(Zw ((0:Int)≤s):Option (List (List AV)×Int)→_)=fun x=>x:=Zib n8
  simp only at n3 n5
  have loop:∀ fl:Bool,off+cnt * 2 ^ bits.toNat≤2 ^ s.toNat→VI Zx obj bits level width off cnt 1 b s r w l d fl (2 ^ bits.toNat) [] 0=some (Y1 obj (b+off) (2 ^ bits.toNat) bits r (if fl=true then width else 0) (if fl=true then level else 0) d cnt.toNat,0):=by
   intro fl hle
   have:=l51 (fl:=fl) (k:=1) (s:=s) (r:=r) (w:=w) (l:=l) (d:=d) (lv:=level) (wd:=width) (bits:=bits) (obj:=obj) (cnt:=cnt) n9 h8 (Int.le_of_lt n11) h7 (show b+off+8 * 2 ^ bits.toNat < 2 ^ 62 by
    have e62:(2:Int) ^ 62=4611686018427387904:=by decide
    simp only at n10
    omega) cnt.toNat 0 Zx (by omega) (Zbm (by omega))
   exact this
  have n9':0≤b:=n9
  have n10':b+2 ^ s.toNat≤1099511627776:=n10
  have n5':off≤2 ^ s.toNat→iop .sub .i64 (2 ^ s.toNat) off=2 ^ s.toNat - off:=fun h=>ZhK (by omega) (by omega)
  have hR:ZcC ⟨1,b,s,r,w,l,d⟩ obj bits level width off cnt=if d=true∧obj≠1∧obj≠2 then 5 else if off % 2 ^ bits.toNat≠0∨2 ^ s.toNat - cnt * 2 ^ bits.toNat < off∨(obj=1∧s≤bits) then 6 else 0:=by
   rw [ZcC,if_neg (by simp [h1]),if_neg h3,if_neg (by
    rintro (h | ⟨h,h'⟩ | h | h | h)
    ·rw [h4] at h; cases h
    ·rw [h5 h] at h'; cases h'
    ·omega
    ·omega
    ·omega)]
  have hk1:cop .neq (1:Int) 1=false:=rfl
  simp only [hw1,hw2,n1,n2,n3,n4,q1,q2,q3,h1,h4,hk1,Bool.not_true,Bool.false_eq_true,if_false]
  clear n1 n2 n3 n4 n5 q1 q2 q3
  by_cases e5:d=true∧obj≠1∧obj≠2
  ·rw [if_pos e5] at hR
   obtain ⟨hd,e1,e2⟩:=e5
   repeat' (with_reducible refine Zo (fun _=>?_) (fun _=>?_))
   all_goals first
    | exact Zh1 (by decide) hR
    | (exfalso; simp only [J1, J0, JU, JW, JV, JX, JS, JY, JT, JQ, JR, JZ, Bool.not_eq_true, Bool.not_eq_false, Bool.not_eq_true', Bool.not_eq_false', Bool.and_eq_true, Bool.or_eq_true, decide_eq_true_eq, decide_eq_false_iff_not, Bool.false_eq_true, Bool.true_eq_false, Option.bind_some, Option.some.injEq, false_iff, true_iff, iff_false, iff_true] at *; first | omega | grind)
  ·rw [if_neg e5] at hR
   by_cases e6:off % 2 ^ bits.toNat≠0∨2 ^ s.toNat - cnt * 2 ^ bits.toNat < off∨(obj=1∧s≤bits)
   ·rw [if_pos e6] at hR
    repeat' (with_reducible refine Zo (fun _=>?_) (fun _=>?_))
    all_goals first
     | exact Zh1 (by decide) hR
     | (exfalso; simp only [J1, J0, JU, JW, JV, JX, JS, JY, JT, JQ, JR, JZ, Bool.not_eq_true, Bool.not_eq_false, Bool.not_eq_true', Bool.not_eq_false', Bool.and_eq_true, Bool.or_eq_true, decide_eq_true_eq, decide_eq_false_iff_not, Bool.false_eq_true, Bool.true_eq_false, Option.bind_some, Option.some.injEq, false_iff, true_iff, iff_false, iff_true] at *; rw [n5' (by omega)] at *; first | omega | grind)
     | (exfalso; simp only [J1, J0, JU, JW, JV, JX, JS, JY, JT, JQ, JR, JZ, Bool.not_eq_true, Bool.not_eq_false, Bool.not_eq_true', Bool.not_eq_false', Bool.and_eq_true, Bool.or_eq_true, decide_eq_true_eq, decide_eq_false_iff_not, Bool.false_eq_true, Bool.true_eq_false, Option.bind_some, Option.some.injEq, false_iff, true_iff, iff_false, iff_true] at *; first | omega | grind)
   ·rw [if_neg e6] at hR
    have hL:∀ fl,VI Zx obj bits level width off cnt 1 b s r w l d fl (2 ^ bits.toNat) [] 0=some (Y1 obj (b+off) (2 ^ bits.toNat) bits r (if fl=true then width else 0) (if fl=true then level else 0) d cnt.toNat,0):=fun fl=>loop fl (by omega)
    have n5:=n5' (by omega)
    simp only [hL,Wq,hR,if_true,n5]
    have hfl:(cop .eql obj 3=true)=(obj=3):=by simp only [J1,J0,JU,JW,JV,JX,JS,JY,JT,JQ,JR,JZ,Bool.not_eq_true,Bool.not_eq_false,Bool.not_eq_true',Bool.not_eq_false',Bool.and_eq_true,Bool.or_eq_true,decide_eq_true_eq,decide_eq_false_iff_not,Bool.false_eq_true,Bool.true_eq_false,Option.bind_some,Option.some.injEq,false_iff,true_iff,iff_false,iff_true]
    simp only [hfl]
    repeat' (with_reducible refine Zo (fun _=>?_) (fun _=>?_))
    all_goals first
     | rfl
     | (exfalso; simp only [J1, J0, JU, JW, JV, JX, JS, JY, JT, JQ, JR, JZ, Bool.not_eq_true, Bool.not_eq_false, Bool.not_eq_true', Bool.not_eq_false', Bool.and_eq_true, Bool.or_eq_true, decide_eq_true_eq, decide_eq_false_iff_not, Bool.false_eq_true, Bool.true_eq_false, Option.bind_some, Option.some.injEq, false_iff, true_iff, iff_false, iff_true] at *; first | omega | grind)
 ·repeat' (with_reducible refine Zo (fun _=>?_) (fun _=>?_))
  all_goals first
   | exact Zh1 (by decide) (by simp only [J1, J0, JU, JW, JV, JX, JS, JY, JT, JQ, JR, JZ, Bool.not_eq_true, Bool.not_eq_false, Bool.not_eq_true', Bool.not_eq_false', Bool.and_eq_true, Bool.or_eq_true, decide_eq_true_eq, decide_eq_false_iff_not, Bool.false_eq_true, Bool.true_eq_false, Option.bind_some, Option.some.injEq, false_iff, true_iff, iff_false, iff_true] at *; simp only [ZcC]; grind)
   | (exfalso; simp only [J1, J0, JU, JW, JV, JX, JS, JY, JT, JQ, JR, JZ, Bool.not_eq_true, Bool.not_eq_false, Bool.not_eq_true', Bool.not_eq_false', Bool.and_eq_true, Bool.or_eq_true, decide_eq_true_eq, decide_eq_false_iff_not, Bool.false_eq_true, Bool.true_eq_false, Option.bind_some, Option.some.injEq, false_iff, true_iff, iff_false, iff_true] at *; grind)
end Go.Proofs.YtljejgmcgddppaaGreat
end

section
namespace Go.Proofs.YtljejgmcgddppaaGreat
open Go Go.AM
set_option linter.unusedSimpArgs false
set_option linter.unusedVariables false
set_option maxRecDepth 100000
def Ret {α:Type} (P:α→Prop) (o:Option α):Prop:=∃ r,o=some r∧P r
theorem Zn {α:Type} {P:α→Prop} {a:α} (h:P a):Ret P (some a):=⟨a,rfl,h⟩
theorem Zc {α β:Type} {P:β→Prop} {Q:α→Prop} {o:Option α} {f:α→Option β} (h:Ret Q o) (k:∀ r,Q r→Ret P (f r)):Ret P (o.bind f):=by
 obtain ⟨r,rfl,hr⟩:=h
 exact k r hr
theorem Zp {α:Type} {P:α→Prop} {c:Prop} {_:Decidable c} {a b:Option α} (h1:c→Ret P a) (h2:¬ c→Ret P b):Ret P (if c then a else b):=by
 split
 ·exact h1 ‹_›
 ·exact h2 ‹_›
theorem Zu {α:Type} {P:α→Prop} {p:Prop} {_:Decidable p} {x:Option α} (h:p) (k:Ret P x):Ret P (Zw p x):=by
 rw [Zf h]; exact k
theorem Zd {α:Type} {P:α→Prop} {a b:Option α} (h:a=b) (k:Ret P b):Ret P a:=h ▸ k
theorem Zjd {α:Type} {P Q:α→Prop} {o:Option α} (h:Ret P o) (k:∀ r,P r→Q r):Ret Q o:=by
 obtain ⟨r,e,hr⟩:=h
 exact ⟨r,e,k r hr⟩
theorem Z7 {α β:Type} {P:β→Prop} {o:Option α} {a:α} {f:α→Option β} (h:o=some a) (k:Ret P (f a)):Ret P (o.bind f):=by
 subst h; exact k
theorem KY {σ γ:Type} {P:γ→Prop} {F:Nat→σ→Int→Option γ} {n:Nat} (J:Nat→σ→Prop) (hn:n < 2 ^ 63)
  (step:∀ (k i:Nat) (s:σ),i < n→J i s→(∀ s',J (i+1) s'→Ret P (F k s' ((i+1:Nat):Int)))→Ret P (F (k+1) s (i:Int)))
  (last:∀ (k:Nat) (s:σ),J n s→Ret P (F (k+1) s (n:Int))) (s:σ) (h:J 0 s):Ret P (F Zx s 0):=by
 have key:∀ (j i fuel:Nat) (s:σ),i+j=n→j < fuel→J i s→Ret P (F fuel s (i:Int)):=by
  intro j
  induction j with
  | zero =>
   intro i fuel s h hf hj
   obtain ⟨q,rfl⟩:∃ q,fuel=q+1:=⟨fuel - 1,by omega⟩
   have:i=n:=by omega
   subst this
   exact last q s hj
  | succ j ih =>
   intro i fuel s h hf hj
   obtain ⟨q,rfl⟩:∃ q,fuel=q+1:=⟨fuel - 1,by omega⟩
   exact step q i s (by omega) hj fun s' hs=>ih (i+1) q s' (by omega) (by omega) hs
 exact key n 0 Zx s (by omega) (by have:=JL hn; omega) h
theorem place (x n:Int) (h1:1≤n) (h2:n < 2 ^ 62):Ret (fun r=>0≤r∧r < n) (g9 x n):=⟨_,s9 x n h1 h2,Int.emod_nonneg x (by omega),Int.emod_lt_of_pos x (by omega)⟩
theorem Zv (l:List Int) (z:Int):Ret (fun _=>True) (g25 (Za l) z):=by
 rw [Zt7]
 refine Zp (fun _=>Zn trivial) fun h1=>Zp (fun _=>Zn trivial) fun h2=>?_
 simp only [CQ,ZJ] at h1 h2
 have e:z=((z.toNat:Nat):Int):=by omega
 have hl:z.toNat < l.length:=by omega
 have:=ZW (γ:=Int) hl (fun r=>some r)
 rw [← e] at this
 exact Zd this (Zn trivial)
theorem ZbZ {γ:Type} {P:γ→Prop} {l:List Int} {z:Int} {k:Int→Option γ} (h0:0≤z) (h:z.toNat < l.length) (hk:Ret P (k l[z.toNat])):Ret P (Zi (Za l) z [.int .i64] k):=by
 have e:z=((z.toNat:Nat):Int):=by omega
 have:=ZW h k
 rw [← e] at this
 exact Zd this hk
theorem KL {γ:Type} {P:γ→Prop} {l:List ZG} {z:Int} {k:ShsT ZdH→Option γ} (h0:0≤z) (h:z.toNat < l.length) (hk:Ret P (k (J8 l[z.toNat]))):Ret P (Zi (l.map Ze) z ZdH k):=by
 have e:z=((z.toNat:Nat):Int):=by omega
 have:=Zt h k
 rw [← e] at this
 exact Zd this hk
def ZnC (c:Cap):List AV:=[I c.kind,I c.base,I c.bits,I c.rights,I c.width,I c.level,B c.device]
abbrev Zmi:List Sh:=[.int .i64,.int .i64,.int .i64,.int .i64,.int .i64,.int .i64,.bool]
def Zr8 (c:Cap):ShsT Zmi:=(c.kind,c.base,c.bits,c.rights,c.width,c.level,c.device)
theorem Zan {γ:Type} {l:List Cap} {i:Nat} (h:i < l.length) (k:ShsT Zmi→Option γ):Zi (l.map ZnC) (i:Int) Zmi k=k (Zr8 l[i]):=J6 (fun _=>rfl) h k
def atP {α:Type} (q:α→Bool) (p:List α) (i:Nat):Bool:=match p[i]? with | some x=>q x | none=>false
theorem ZeG {α:Type} (q:α→Bool) {p:List α} {i:Nat} (h:i < p.length):atP q p i=q p[i]:=by unfold atP; rw [List.getElem?_eq_getElem h]
def idE (i:Id) (e:ZG):Bool:=decide (e.node.id=i)
def plE (c s:Int) (e:ZG):Bool:=decide (e.core=c)&&decide (e.slot=s)
theorem s79 (l:List ZG) (hn:l.length < 2 ^ 63) (j:Id):g79 (l.map Ze) j.core j.op j.part=some (Zfb l.length (Wg (idE j) l)):=by
 rw [ZuI]
 exact V6 (F:=fun k z=>Zlj k (l.map Ze) j.core j.op j.part z) (n:=l.length) (fun m=>Zfb l.length m) (atP (idE j) l) hn
  (fun k i hi=>by
   show Zlj (k+1) _ _ _ _ _=_
   rw [Zkh,List.length_map,if_pos (ZZ hi)]
   refine (Zt hi _).trans ?_
   simp only [J8,d2,d4,d8,d16]
   rw [ZR hi hn,ZeG _ hi,Zc3 hi,idE]
   refine Zo (fun h1=>?_) fun h1=>?_
   ·rw [if_pos (by rw [Ye] at h1; rw [decide_eq_true_eq]; exact h1)]
   ·rw [if_neg (by rw [Ye] at h1; rw [decide_eq_true_eq]; exact h1)])
  (fun k=>by
   show Zlj (k+1) _ _ _ _ _=_
   rw [Zkh,List.length_map,if_neg (ZY (Nat.le_refl _)),Zfb,if_neg (Nat.lt_irrefl _)]) (Wg (idE j) l) (Vf _ l) (fun i hi=>by
    have hl:=Vf (idE j) l
    rw [ZeG _ (by omega)]; exact ZbX _ l i (by omega) hi) (fun h=>by rw [ZeG _ h]; exact ZdF _ l h)
theorem ZzP (l:List ZG) (hn:l.length < 2 ^ 63) (c s:Int):Zyj (l.map Ze) c s=some (Zfb l.length (Wg (plE c s) l)):=by
 rw [Zq5]
 exact V6 (F:=fun k z=>ZcQ k (l.map Ze) c s z) (n:=l.length) (fun m=>Zfb l.length m) (atP (plE c s) l) hn
  (fun k i hi=>by
   show ZcQ (k+1) _ _ _ _=_
   rw [Zgu,List.length_map,if_pos (ZZ hi)]
   refine (Zt hi _).trans ?_
   simp only [J8,d2,d4,d8,d16]
   rw [ZR hi hn,ZeG _ hi,Zc3 hi,plE]
   refine Zo (fun h1=>?_) fun h1=>?_
   ·simp only [CQ] at h1
    refine (Zt hi _).trans ?_
    simp only [J8,d2,d4,d8,d16]
    refine Zo (fun h2=>?_) fun h2=>?_
    ·simp only [CQ] at h2
     rw [if_pos (by simp [h1,h2])]
    ·simp only [CQ] at h2
     rw [if_neg (by simp [h2])]
   ·simp only [CQ] at h1
    rw [if_neg (by simp [h1])])
  (fun k=>by
   show ZcQ (k+1) _ _ _ _=_
   rw [Zgu,List.length_map,if_neg (ZY (Nat.le_refl _)),Zfb,if_neg (Nat.lt_irrefl _)]) (Wg (plE c s) l) (Vf _ l) (fun i hi=>by
    have hl:=Vf (plE c s) l
    rw [ZeG _ (by omega)]; exact ZbX _ l i (by omega) hi) (fun h=>by rw [ZeG _ h]; exact ZdF _ l h)
structure Zsa (l:List ZG):Prop where
 len:l.length≤100
 path:∀ e∈l,e.node.path.length≤20
theorem ZyT (l:List ZG) (h:Zsa l):Zpx (l.map Ze)=some (l.map Ze):=by
 rw [ZqY]
 have hn:l.length < 2 ^ 63:=by have:=h.len; omega
 refine (ZiS (F:=fun k acc i=>ZeZ k (l.map Ze) acc i) l (fun r=>[Ze r]) hn (fun k i hi=>?_) (fun k acc i hi=>?_)).trans (by rw [Zcp])
 ·show ZeZ (k+1) _ _ _=_
  rw [Zgj,List.length_map,if_pos (ZZ hi)]
  refine (Zt hi _).trans ?_
  simp only [J8,d2,d4,d8,d16]
  refine (Zt hi _).trans ?_
  refine (Zt hi _).trans ?_
  have hp:=h.path l[i] (List.getElem_mem hi)
  simp only [J8,d2,d4,d8,d16]
  rw [s30 l[i].node (by omega),Option.bind_some]
  refine (Zf (Zq ?_ (by omega)) _).trans ?_
  ·rw [Zcp]
   have:=h.len
   simp only [List.length_map,List.length_take,List.length_append,List.length_cons,List.length_nil]
   omega
  ·rw [ZR hi hn]
   rfl
 ·show ZeZ (k+1) _ _ _=_
  rw [Zgj,List.length_map,if_neg (ZY hi)]
def Zt8 (l:List ZG) (x:ZG) (r:List ZG):Prop:=∃ i,i≤l.length∧(∀ j (h:j < l.length),j < i→lte x l[j]=false)∧(∀ h:i < l.length,lte x l[i]=true)∧l.any (idE x.node.id)=false∧l.any (plE x.core x.slot)=false∧r=l.take i++[x]++l.drop i
theorem Zpz {α:Type} (q:α→Bool) (l:List α) (h:¬ cop .geq (Zfb l.length (Wg q l)) 0=true):l.any q=false:=by
 rw [Zjg,decide_eq_true_eq] at h
 rw [List.any_eq_false]
 intro x hx
 obtain ⟨i,hi,rfl⟩:=List.getElem_of_mem hx
 have:=ZbX q l i hi (by omega)
 simp [this]
theorem Zmw {l m:List ZG} (h:Zsa l) (hs:∀ e∈m,e∈l) (hl:m.length≤l.length):Zsa m:=⟨by have:=h.len; omega,fun e he=>h.path e (hs e he)⟩
theorem s83 (l:List ZG) (h:Zsa l) (x:ZG) (hx:x.node.path.length≤20):Ret (fun r=>r=(E0,false)∨∃ m,Zt8 l x m∧r=(m.map Ze,true)) (g83 (l.map Ze) x.core x.slot x.node.id.core x.node.id.op x.node.id.part (Zb x.node.path) x.node.cap.kind x.node.cap.base x.node.cap.bits x.node.cap.rights x.node.cap.width x.node.cap.level x.node.cap.device):=by
 have hn:l.length < 2 ^ 63:=by have:=h.len; omega
 rw [ZuA,s79 l hn x.node.id,Option.bind_some]
 refine Zp (fun _=>Zn (.inl rfl)) fun h1=>?_
 rw [ZzP l hn,Option.bind_some]
 refine Zp (fun _=>Zn (.inl rfl)) fun h2=>?_
 have n1:=Zpz _ _ h1
 have n2:=Zpz _ _ h2
 have ins:∀ (i:Nat),i≤l.length→(∀ j (h:j < l.length),j < i→lte x l[j]=false)→(∀ h:i < l.length,lte x l[i]=true)→Ret (fun r=>r=(E0,false)∨∃ m,Zt8 l x m∧r=(m.map Ze,true)) (Zw ((0:Int)≤(i:Int))<|Zw ((i:Int)≤(List.length (l.map Ze):Int))<|
   (Zpx (List.take (Int.toNat (i:Int)) (l.map Ze))).bind fun (r29:LL)=>(g30 x.node.id.core x.node.id.op x.node.id.part (Zb x.node.path) x.node.cap.kind x.node.cap.base x.node.cap.bits x.node.cap.rights x.node.cap.width x.node.cap.level x.node.cap.device).bind fun r30=>
   Zw (Ja r29 (E0++[[I x.core,I x.slot,I r30.1,I r30.2.1,I r30.2.2.1,AV.slice false 3 r30.2.2.2.1,I r30.2.2.2.2.1,I r30.2.2.2.2.2.1,I r30.2.2.2.2.2.2.1,I r30.2.2.2.2.2.2.2.1,I r30.2.2.2.2.2.2.2.2.1,I r30.2.2.2.2.2.2.2.2.2.1,AV.val (.bool r30.2.2.2.2.2.2.2.2.2.2)]]) 120)<|
   Zw ((0:Int)≤(i:Int))<|Zw ((i:Int)≤(List.length (l.map Ze):Int))<|(Zpx (List.drop (Int.toNat (i:Int)) (l.map Ze))).bind fun (r41:LL)=>
   Zw (Ja (r29++(E0++[[I x.core,I x.slot,I r30.1,I r30.2.1,I r30.2.2.1,AV.slice false 3 r30.2.2.2.1,I r30.2.2.2.2.1,I r30.2.2.2.2.2.1,I r30.2.2.2.2.2.2.1,I r30.2.2.2.2.2.2.2.1,I r30.2.2.2.2.2.2.2.2.1,I r30.2.2.2.2.2.2.2.2.2.1,AV.val (.bool r30.2.2.2.2.2.2.2.2.2.2)]])) r41 120)<|
   some (((r29++(E0++[[I x.core,I x.slot,I r30.1,I r30.2.1,I r30.2.2.1,AV.slice false 3 r30.2.2.2.1,I r30.2.2.2.2.1,I r30.2.2.2.2.2.1,I r30.2.2.2.2.2.2.1,I r30.2.2.2.2.2.2.2.1,I r30.2.2.2.2.2.2.2.2.1,I r30.2.2.2.2.2.2.2.2.2.1,AV.val (.bool r30.2.2.2.2.2.2.2.2.2.2)]]))++r41),true)):=by
  intro i hi hlo hhi
  have hl:=h.len
  refine Zu (by omega) (Zu (by rw [List.length_map]; omega) ?_)
  rw [Int.toNat_natCast,← List.map_take,← List.map_drop,ZyT _ (Zmw h (fun e he=>List.mem_of_mem_take he) (by simp; omega)),Option.bind_some,s30 x.node (by omega),Option.bind_some]
  refine Zu (Zq (by simp; omega) (by omega)) (Zu (by omega) (Zu (by rw [List.length_map]; omega) ?_))
  rw [ZyT _ (Zmw h (fun e he=>List.mem_of_mem_drop he) (by simp)),Option.bind_some]
  refine Zu (Zq (by simp; omega) (by omega)) (Zn (.inr ⟨_,⟨i,hi,hlo,hhi,n1,n2,rfl⟩,?_⟩))
  simp [Ze,Zft]
 refine KY (F:=fun k (_:Unit) z=>ZkL k (l.map Ze) x.core x.slot x.node.id.core x.node.id.op x.node.id.part (Zb x.node.path) x.node.cap.kind x.node.cap.base x.node.cap.bits x.node.cap.rights x.node.cap.width x.node.cap.level x.node.cap.device z) (n:=l.length) (fun i _=>∀ j (h:j < l.length),j < i→lte x l[j]=false) hn (fun k i _ hi hJ ih=>?_) (fun k _ hJ=>?_) () (fun j _ h0=>absurd h0 (Nat.not_lt_zero _))
 ·show Ret _ (ZkL (k+1) _ _ _ _ _ _ _ _ _ _ _ _ _ _ _)
  rw [Zjh,List.length_map,if_pos (ZZ hi)]
  refine Zd (Zt hi _) ?_
  simp only [J8,d2,d4,d8,d16]
  rw [s29,Option.bind_some]
  refine Zp (fun hc=>?_) fun hc=>?_
  ·rw [ZR hi hn]
   refine ih () fun j h1 h2=>?_
   by_cases hji:j < i
   ·exact hJ j h1 hji
   ·have:j=i:=by omega
    subst this
    rw [Bool.not_eq_true'] at hc
    exact hc
  ·have:=ins i (by omega) hJ fun _=>by rw [Bool.not_eq_true',Bool.not_eq_false] at hc; exact hc
   rw [List.length_map] at this
   exact this
 ·show Ret _ (ZkL (k+1) _ _ _ _ _ _ _ _ _ _ _ _ _ _ _)
  rw [Zjh,List.length_map,if_neg (ZY (Nat.le_refl _))]
  have:=ins l.length (Nat.le_refl _) hJ fun h=>absurd h (Nat.lt_irrefl _)
  rw [List.length_map] at this
  exact this
theorem s49 (l:List ZG) (h:Zsa l) (x:ZG) (hx:x.node.path.length≤20):Ret (fun r=>∃ m,(m=l∨Zt8 l x m)∧r=m.map Ze) (g49 (l.map Ze) x.core x.slot x.node.id.core x.node.id.op x.node.id.part (Zb x.node.path) x.node.cap.kind x.node.cap.base x.node.cap.bits x.node.cap.rights x.node.cap.width x.node.cap.level x.node.cap.device):=by
 rw [Ztf]
 refine Zc (s83 l h x hx) fun r hr=>?_
 rcases hr with rfl | ⟨m,hm,rfl⟩
 ·exact Zp (fun _=>Zn ⟨l,.inl rfl,rfl⟩) fun h=>absurd rfl h
 ·exact Zp (fun h=>absurd h (by simp)) fun _=>Zn ⟨m,.inr hm,rfl⟩
structure Zny (s:Y4) (i:Id) (c:Cap):Prop where
 src:ZF s=true
 id:Wo i=true
 cap:VJ c=true
 ne:i≠s.id
 fresh:s.path.contains i=false
 room:s.path.length < 8
def ZdC (s:Y4) (i:Id) (c:Cap):Y4:=⟨i,s.path++[s.id],c⟩
theorem s52 (s:Y4) (hs:s.path.length≤20) (i:Id) (c:Cap):Ret (fun r=>(∃ e:Int,e≠0∧r=(0,0,0,E0,0,0,0,0,0,0,false,e))∨(Zny s i c∧r=(i.core,i.op,i.part,Zb (s.path++[s.id]),c.kind,c.base,c.bits,c.rights,c.width,c.level,c.device,0)))
  (g52 s.id.core s.id.op s.id.part (Zb s.path) s.cap.kind s.cap.base s.cap.bits s.cap.rights s.cap.width s.cap.level s.cap.device i.core i.op i.part c.kind c.base c.bits c.rights c.width c.level c.device):=by
 rw [Zuq,s87 s (by omega),Option.bind_some]
 refine Zp (fun _=>Zn (.inl ⟨1,by omega,rfl⟩)) fun h1=>?_
 rw [s88,Option.bind_some]
 refine Zp (fun _=>Zn (.inl ⟨1,by omega,rfl⟩)) fun h2=>?_
 rw [s84,Option.bind_some]
 refine Zp (fun _=>Zn (.inl ⟨1,by omega,rfl⟩)) fun h3=>?_
 refine Zp (fun _=>Zn (.inl ⟨1,by omega,rfl⟩)) fun h4=>?_
 rw [Ye] at h4
 rw [s18 s.path (by omega),Option.bind_some]
 refine Zp (fun _=>Zn (.inl ⟨1,by omega,rfl⟩)) fun h5=>?_
 refine Zp (fun _=>Zn (.inl ⟨9,by omega,rfl⟩)) fun h6=>?_
 rw [s53 s.path (by omega),Option.bind_some]
 refine Zu (Zq (by rw [Z0]; simp; omega) (by omega)) (Zn (.inr ⟨?_,?_⟩))
 ·simp only [Bool.not_eq_true',Bool.not_eq_false] at h1 h2 h3
  simp only [Bool.not_eq_true] at h5
  have h8:=YX h1
  simp only [CQ,Z0] at h6
  exact ⟨h1,h2,h3,h4,h5,by omega⟩
 ·simp [Zb,idc]
end Go.Proofs.YtljejgmcgddppaaGreat
end

section
namespace Go.Proofs.YtljejgmcgddppaaGreat
open Go Go.AM
set_option linter.unusedSimpArgs false
set_option linter.unusedVariables false
set_option maxRecDepth 100000
theorem Zwh {a b:Int} (h0:0≤b) (h1:b≤62) (h2:0≤a) (h3:a * 2 ^ b.toNat < 2 ^ 63):iop .shl .i64 a b=a * 2 ^ b.toNat:=by
 have hmin:min b.toNat IntKind.i64.bits=b.toNat:=by
  have:IntKind.i64.bits=64:=rfl
  omega
 simp only [iop,hmin]
 have hp:=YD b.toNat
 have:0≤a * 2 ^ b.toNat:=Int.mul_nonneg h2 (by omega)
 rw [ZbJ (by omega) h3]
theorem s78 (a b:Int):Ret (fun r=>∃ k q:Int,r=(q * 2 ^ k.toNat,k)∧6≤k∧k≤16∧0≤q∧q < 2 ^ (16 - k).toNat) (g78 a b):=by
 rw [ZtC]
 refine Zc (place b 11 (by omega) (by omega)) fun x hx=>?_
 obtain ⟨k,hk⟩:∃ k,k=6+x:=⟨_,rfl⟩
 have e1:iop .add .i64 6 x=k:=by rw [Kh (by omega) (by omega),hk]
 have e2:iop .sub .i64 16 k=16 - k:=ZhK (by omega) (by omega)
 have w1:IntKind.wrap .u64 (16 - k)=16 - k:=KV (by omega) (by omega)
 have w2:IntKind.wrap .u64 k=k:=KV (by omega) (by omega)
 have hp:(2:Int) ^ (16 - k).toNat < 2 ^ 62:=by
  have:=Zms (m:=(16 - k).toNat) (n:=16) (by omega)
  have e:(2:Int) ^ 16=65536:=by decide
  have e:(2:Int) ^ 62=4611686018427387904:=by decide
  omega
 have hp1:=YD (16 - k).toNat
 rw [e1,e2,w1,w2,Zsh (by omega)]
 refine Zu (by omega) (Zc (place a _ (by omega) hp) fun q hq=>Zu (by omega) (Zn ⟨k,q,?_,by omega,by omega,hq.1,hq.2⟩))
 have hm:q * 2 ^ k.toNat < 2 ^ 63:=by
  have h1:q * 2 ^ k.toNat≤2 ^ (16 - k).toNat * 2 ^ k.toNat:=Int.mul_le_mul_of_nonneg_right (by omega) (by have:=YD k.toNat; omega)
  rw [← Int.pow_add,show (16 - k).toNat+k.toNat=16 by omega] at h1
  have e:(2:Int) ^ 16=65536:=by decide
  have e:(2:Int) ^ 63=9223372036854775808:=by decide
  omega
 rw [Zwh (by omega) (by omega) hq.1 hm]
theorem s47 (a b:Int):Ret (fun r=>∃ c:Cap,r=Zr8 c∧VJ c=true) (g47 a b):=by
 rw [ZuY]
 refine Zc (s78 a b) fun r ⟨k,q,hr,h1,h2,h3,h4⟩=>?_
 subst hr
 refine Zn ⟨⟨1,q * 2 ^ k.toNat,k,7,0,0,false⟩,rfl,?_⟩
 have hm:(q+1) * 2 ^ k.toNat≤65536:=by
  have h5:(q+1) * 2 ^ k.toNat≤2 ^ (16 - k).toNat * 2 ^ k.toNat:=Int.mul_le_mul_of_nonneg_right (by omega) (by have:=YD k.toNat; omega)
  rw [← Int.pow_add,show (16 - k).toNat+k.toNat=16 by omega] at h5
  have e:(2:Int) ^ 16=65536:=by decide
  omega
 rw [Int.add_mul,Int.one_mul] at hm
 have h6:0≤q * 2 ^ k.toNat:=Int.mul_nonneg h3 (by have:=YD k.toNat; omega)
 have h7:q * 2 ^ k.toNat % 2 ^ k.toNat=0:=Int.mul_emod_left ..
 simp [VJ,VO,Ve,h6,h7]
 omega
theorem Zou (c:Cap) (obj bits level width off cnt:Int):∃ cs:List Cap,Wq c obj bits level width off cnt=cs.map ZnC∧(cs.length:Int)≤max 0 cnt:=by
 unfold Wq
 split
 ·refine ⟨(List.range cnt.toNat).map fun (j:Nat)=>⟨obj,c.base+off+(j:Int) * 2 ^ bits.toNat,bits,c.rights,if obj=3 then width else 0,if obj=3 then level else 0,c.device⟩,?_,by simp; omega⟩
  rw [List.map_map]; rfl
 ·exact ⟨[],rfl,by simp; omega⟩
theorem l48 (rec0:List V→Option Bool) (l:List ZG) (hn:l.length < 2 ^ 63) (cs:List Cap) (m i:Nat) (hi:i < cs.length) (ih':Ret (fun _=>True) (rec0 [.l (l.map Ze),.l (cs.map ZnC),.i (Zfb l.length m),.i (iop .add .i64 (i:Int) 1)])) :
  Ret (fun _=>True) (ZcO rec0 Zx (l.map Ze) (cs.map ZnC) (Zfb l.length m) (i:Int) 0):=by
 refine KY (P:=fun _=>True) (F:=fun k2 (_:Unit) z=>ZcO rec0 k2 (l.map Ze) (cs.map ZnC) (Zfb l.length m) (i:Int) z) (n:=l.length) (fun _ _=>True) hn (fun k2 t _ ht _ ih2=>?_) (fun k2 _ _=>?_) () trivial
 ·show Ret _ (ZcO _ (k2+1) _ _ _ _ _)
  rw [ZjO,List.length_map,if_pos (ZZ ht)]
  refine Zd (Zt ht _) ?_
  simp only [J8,d2,d4,d8,d16]
  have nxt:Ret (fun _=>True) (ZcO rec0 k2 (l.map Ze) (cs.map ZnC) (Zfb l.length m) (i:Int) (iop .add .i64 (t:Int) 1)):=by rw [ZR ht hn]; exact ih2 () trivial
  refine Zp (fun h1=>?_) fun h1=>?_
  ·rw [Zjg,decide_eq_true_eq] at h1
   refine Zp (fun h2=>?_) fun h2=>?_
   ·rw [s81,Option.bind_some]
    refine Zd (congrArg (fun z=>Zi (l.map Ze) z _ _) (Zc3 h1)) ?_
    refine Zd (Zt h1 _) ?_
    simp only [J8,d2,d4,d8,d16]
    rw [s81,Option.bind_some,s80,Option.bind_some,Option.bind_some]
    refine Zd (Zan hi _) ?_
    simp only [Zr8]
    rw [s81,Option.bind_some,s82,Option.bind_some]
    exact Zp (fun _=>Zp (fun _=>Zn trivial) fun _=>nxt) fun _=>nxt
   ·rw [s81,Option.bind_some]
    refine Zd (Zan hi _) ?_
    simp only [Zr8]
    rw [s81,Option.bind_some,s82,Option.bind_some]
    exact Zp (fun _=>Zn trivial) fun _=>nxt
  ·rw [s81,Option.bind_some]
   refine Zd (Zan hi _) ?_
   simp only [Zr8]
   rw [s81,Option.bind_some,s82,Option.bind_some]
   exact Zp (fun _=>Zn trivial) fun _=>nxt
 ·show Ret _ (ZcO _ (k2+1) _ _ _ _ _)
  rw [ZjO,List.length_map,if_neg (ZY (Nat.le_refl _))]
  exact ih'
theorem s48 (l:List ZG) (hn:l.length < 2 ^ 63) (j:Id) (cs:List Cap) (hc:cs.length < 2 ^ 63):Ret (fun _=>True) (g48 (l.map Ze) j.core j.op j.part (cs.map ZnC)):=by
 rw [ZuK,s79 l hn j,Option.bind_some]
 generalize hm:Wg (idE j) l=m
 refine KY (F:=fun k (_:Unit) z=>ZlP k (l.map Ze) (cs.map ZnC) (Zfb l.length m) z) (n:=cs.length) (fun _ _=>True) hc (fun k i _ hi _ ih=>?_) (fun k _ _=>?_) () trivial
 ·show Ret _ (ZlP (k+1) _ _ _ _)
  rw [Zkb,List.length_map,if_pos (ZZ hi)]
  exact l48 _ l hn cs m i hi (by rw [ZR hi hc]; exact ih () trivial)
 ·show Ret _ (ZlP (k+1) _ _ _ _)
  rw [Zkb,List.length_map,if_neg (ZY (Nat.le_refl _))]
  exact Zn trivial
structure EOk (e:ZG):Prop where
 c0:0≤e.core
 c1:e.core < 4
 s0:0≤e.slot
 s1:e.slot < 16
 ic:e.node.id.core=e.core
 o1:1≤e.node.id.op
 o2:e.node.id.op≤40
 p0:0≤e.node.id.part
 p1:e.node.id.part < 3
 ok:ZF e.node=true
structure FOk (l:List ZG) (n:Nat):Prop where
 len:l.length≤n
 all:∀ e∈l,EOk e
 asc:l.Pairwise fun a b=>lte a b=true
theorem Yf {n:Y4} (h:ZF n=true):Wo n.id=true∧VJ n.cap=true∧n.path.length≤8∧(List.range n.path.length).all (VC n)=true:=by
 simp only [ZF,Bool.and_eq_true,decide_eq_true_eq] at h
 exact ⟨h.1.1.1,h.1.1.2,h.1.2,h.2⟩
theorem FOk.few {l:List ZG} {n:Nat} (h:FOk l n) (hn:n≤100):Zsa l:=⟨by have:=h.len; omega,fun e he=>by have:=(Yf (h.all e he).ok).2.2.1; omega⟩
theorem ZgT {a b:ZG} : lte a b=true↔(a.node.id.core < b.node.id.core∨(a.node.id.core=b.node.id.core∧(a.node.id.op < b.node.id.op∨(a.node.id.op=b.node.id.op∧a.node.id.part < b.node.id.part)))):=by simp [lte,Zr7,Zsd]
theorem Zm7 {a b c:ZG} (h1:lte a b=true) (h2:lte b c=true):lte a c=true:=by
 rw [ZgT] at *; omega
theorem ZmB {a b:ZG} (h:lte a b=false) (hne:a.node.id≠b.node.id):lte b a=true:=by
 rw [← Bool.not_eq_true,ZgT] at h
 rw [ZgT]
 have:¬ (a.node.id.core=b.node.id.core∧a.node.id.op=b.node.id.op∧a.node.id.part=b.node.id.part):=fun ⟨e1,e2,e3⟩=>hne (by cases ha:a.node.id; cases hb:b.node.id; simp_all)
 omega
theorem Zoe {l m:List ZG} {x:ZG} (h:l.Pairwise fun a b=>lte a b=true) (ha:Zt8 l x m):m.Pairwise fun a b=>lte a b=true:=by
 obtain ⟨i,hi,hlo,hhi,hid,_,rfl⟩:=ha
 have hge:∀ j (hj:j < l.length),i≤j→lte x l[j]=true:=by
  intro j hj hij
  have h1:lte x (l[i]'(by omega))=true:=hhi (by omega)
  by_cases hji:j=i
  ·subst hji; exact h1
  ·exact Zm7 h1 (List.pairwise_iff_getElem.1 h i j (by omega) hj (by omega))
 rw [List.pairwise_append,List.pairwise_append]
 refine ⟨⟨h.take,List.pairwise_singleton ..,fun a ha b hb=>?_⟩,h.drop,fun a ha b hb=>?_⟩
 ·rw [List.mem_singleton] at hb
  subst hb
  obtain ⟨j,hj,rfl⟩:=List.getElem_of_mem ha
  rw [List.length_take] at hj
  rw [List.getElem_take]
  refine ZmB (hlo j (by omega) (by omega)) fun he=>?_
  rw [List.any_eq_false] at hid
  have:=hid _ (List.getElem_mem (show j < l.length by omega))
  rw [idE,decide_eq_true_eq] at this
  exact this he.symm
 ·obtain ⟨k,hk,rfl⟩:=List.getElem_of_mem hb
  rw [List.length_drop] at hk
  rw [List.getElem_drop]
  rw [List.mem_append,List.mem_singleton] at ha
  rcases ha with ha | rfl
  ·obtain ⟨j,hj,rfl⟩:=List.getElem_of_mem ha
   rw [List.length_take] at hj
   rw [List.getElem_take]
   exact List.pairwise_iff_getElem.1 h j (i+k) (by omega) (by omega) (by omega)
  ·exact hge (i+k) (by omega) (by omega)
theorem Zl3 {l m:List ZG} {x:ZG} {n:Nat} (h:FOk l n) (hx:EOk x) (ha:m=l∨Zt8 l x m):FOk m (n+1):=by
 rcases ha with rfl | ha
 ·exact ⟨by have:=h.len; omega,h.all,h.asc⟩
 ·have hasc:=Zoe h.asc ha
  obtain ⟨i,hi,_,_,_,_,rfl⟩:=ha
  refine ⟨by have:=h.len; simp; omega,fun e he=>?_,hasc⟩
  simp only [List.mem_append,List.mem_singleton] at he
  rcases he with (he | rfl) | he
  ·exact h.all e (List.mem_of_mem_take he)
  ·exact hx
  ·exact h.all e (List.mem_of_mem_drop he)
theorem ZhF (i:Id) (c:Cap) (hi:Wo i=true) (hc:VJ c=true):ZF ⟨i,[],c⟩=true:=by simp [ZF,hi,hc]
theorem Zi9 {s:Y4} {i:Id} {c:Cap} (h:Zny s i c):ZF (ZdC s i c)=true:=by
 obtain ⟨k1,k2,k3,k4⟩:=Yf h.src
 have hr:=h.room
 simp only [ZF,ZdC,Bool.and_eq_true,decide_eq_true_eq,h.id,h.cap,true_and,List.length_append,List.length_cons,List.length_nil]
 refine ⟨by omega,?_⟩
 rw [List.all_eq_true] at k4 ⊢
 intro j hj
 rw [List.mem_range] at hj
 by_cases hjl:j < s.path.length
 ·have:=k4 j (List.mem_range.2 hjl)
  simp only [VC,List.getElem?_eq_getElem hjl] at this
  simp only [VC,List.getElem?_append_left hjl,List.getElem?_eq_getElem hjl,List.take_append_of_le_length (Nat.le_of_lt hjl)]
  simp only [Bool.and_eq_true,decide_eq_true_eq] at this ⊢
  refine ⟨⟨this.1.1,fun he=>?_⟩,this.2⟩
  have hf:=h.fresh
  rw [← he] at hf
  simp at hf
 ·have hje:j=s.path.length:=by omega
  subst hje
  simp only [VC,List.getElem?_append_right (Nat.le_refl _),Nat.sub_self,List.getElem?_cons_zero,List.take_left]
  simp only [Bool.and_eq_true,decide_eq_true_eq]
  refine ⟨⟨k1,fun he=>h.ne he.symm⟩,?_⟩
  rw [Bool.not_eq_true',← Bool.not_eq_true,List.contains_iff_mem]
  intro hm
  obtain ⟨t,ht,hte⟩:=List.getElem_of_mem hm
  have:=k4 t (List.mem_range.2 ht)
  simp only [VC,List.getElem?_eq_getElem ht,hte] at this
  simp at this
theorem l24 (src:Y4) (hs:src.path.length≤20) (root:Bool) (op core slot:Int) (hc0:0≤core) (hc1:core < 4) (hs0:0≤slot) (hs1:slot < 8) (h1:1≤op) (h2:op≤40) (cs:List Cap) (hcs:cs.length≤3) (l:List ZG) (n:Nat) (hn:n≤60) (h:FOk l n) :
  Ret (fun r=>∃ m,FOk m (n+3)∧r=m.map Ze) (Zgt Zx (l.map Ze) op core slot src.id.core src.id.op src.id.part (Zb src.path) src.cap.kind src.cap.base src.cap.bits src.cap.rights src.cap.width src.cap.level src.cap.device (cs.map ZnC) 0):=by
 refine KY (F:=fun k (s:LL) z=>Zgt k s op core slot src.id.core src.id.op src.id.part (Zb src.path) src.cap.kind src.cap.base src.cap.bits src.cap.rights src.cap.width src.cap.level src.cap.device (cs.map ZnC) z) (n:=cs.length) (fun i s=>∃ m,FOk m (n+i)∧s=m.map Ze) (by omega) (fun k i s hi hj ih=>?_) (fun k s hj=>?_) _ ⟨l,h,rfl⟩
 ·obtain ⟨m,hm,rfl⟩:=hj
  show Ret _ (Zgt (k+1) _ _ _ _ _ _ _ _ _ _ _ _ _ _ _ _ _)
  rw [Zjy,List.length_map,if_pos (ZZ hi)]
  refine Zd (Zan hi _) ?_
  simp only [Zr8]
  refine Zc (s52 src hs ⟨core,op,(i:Int)⟩ cs[i]) fun r hr=>?_
  rcases hr with ⟨e,he,rfl⟩ | ⟨hk,rfl⟩
  ·refine Zp (fun _=>Zn ⟨m,⟨by have:=hm.len; omega,hm.all,hm.asc⟩,rfl⟩) fun hh=>?_
   simp only [CQ] at hh
   exact absurd hh (by omega)
  ·refine Zp (fun hh=>absurd hh (by simp [cop])) fun _=>?_
   have ho:=Yf (Zi9 hk)
   have hx:EOk ⟨core,slot+i,ZdC src ⟨core,op,(i:Int)⟩ cs[i]⟩:=⟨hc0,hc1,by show 0≤slot+i; omega,by show slot+i < 16; omega,rfl,h1,h2,by show (0:Int)≤i; omega,by show (i:Int) < 3; omega,Zi9 hk⟩
   have ea:iop .add .i64 slot (i:Int)=slot+i:=Kh (by omega) (by omega)
   rw [ea]
   refine Zc (s49 m (hm.few (by omega)) ⟨core,slot+i,ZdC src ⟨core,op,(i:Int)⟩ cs[i]⟩ (by have:=ho.2.2.1; show (ZdC src ⟨core,op,(i:Int)⟩ cs[i]).path.length≤20; omega)) fun r ⟨m',hm',hr⟩=>?_
   subst hr
   rw [ZR hi (by omega)]
   exact ih _ ⟨m',Zl3 hm hx hm',rfl⟩
 ·obtain ⟨m,hm,rfl⟩:=hj
  show Ret _ (Zgt (k+1) _ _ _ _ _ _ _ _ _ _ _ _ _ _ _ _ _)
  rw [Zjy,List.length_map,if_neg (ZY (Nat.le_refl _))]
  exact Zn ⟨m,⟨by have:=hm.len; omega,hm.all,hm.asc⟩,rfl⟩
theorem ZyA (l:List ZG) (n:Nat) (hn:n≤60) (h:FOk l n) (core slot op base bits:Int) (hc0:0≤core) (hc1:core < 4) (hs0:0≤slot) (hs1:slot < 8) (h1:1≤op) (h2:op≤40) :
    Ret (fun r=>∃ m,FOk m (n+3)∧r=m.map Ze) ((g47 base bits).bind fun r14=>
 (g48 (l.map Ze) 0 0 0 (E0++[[I r14.1,I r14.2.1,I r14.2.2.1,I r14.2.2.2.1,I r14.2.2.2.2.1,I r14.2.2.2.2.2.1,AV.val (.bool r14.2.2.2.2.2.2)]])).bind fun (r21:Bool)=>
 if r21=true then some (l.map Ze) else
 (g49 (l.map Ze) core slot core op 0 E0 r14.1 r14.2.1 r14.2.2.1 r14.2.2.2.1 r14.2.2.2.2.1 r14.2.2.2.2.2.1 r14.2.2.2.2.2.2).bind fun (r22:LL)=>some (r22)):=by
  refine Zc (s47 base bits) fun r ⟨c,hr,hc⟩=>?_
  subst hr
  have hl:=h.len
  refine Zc (s48 l (by omega) ⟨0,0,0⟩ [c] (by simp)) fun b _=>?_
  refine Zp (fun _=>Zn ⟨l,⟨by omega,h.all,h.asc⟩,rfl⟩) fun _=>?_
  have hi:Wo ⟨core,op,0⟩=true:=by simp [Wo]; omega
  have hx:EOk ⟨core,slot,⟨⟨core,op,0⟩,[],c⟩⟩:=⟨hc0,hc1,hs0,by show slot < 16; omega,rfl,h1,h2,Int.le_refl _,by show (0:Int) < 3; omega,ZhF _ _ hi hc⟩
  refine Zc (s49 l (h.few (by omega)) ⟨core,slot,⟨⟨core,op,0⟩,[],c⟩⟩ (by simp)) fun r ⟨m',hm',hr⟩=>?_
  subst hr
  have:=Zl3 h hx hm'
  exact Zn ⟨m',⟨by have:=this.len; omega,this.all,this.asc⟩,rfl⟩
theorem s24 (l:List ZG) (n:Nat) (hn:n≤60) (h:FOk l n) (root copy:Bool) (src core slot kind base bits count rights op:Int) (h1:1≤op) (h2:op≤40) :
  Ret (fun r=>∃ m,FOk m (n+3)∧r=m.map Ze) (g24 (l.map Ze) root src core slot kind base bits count rights copy op):=by
 have hl:=h.len
 rw [ZtP]
 refine Zc (place core 4 (by omega) (by omega)) fun c hc=>Zc (place slot 8 (by omega) (by omega)) fun s hs=>?_
 refine Zp (fun _=>ZyA l n hn h c s op base bits hc.1 hc.2 hs.1 hs.2 h1 h2) fun _=>?_
 refine Zp (fun _=>ZyA l n hn h c s op base bits hc.1 hc.2 hs.1 hs.2 h1 h2) fun h3=>?_
 simp only [CQ,List.length_map] at h3
 rw [List.length_map]
 refine Zc (place src _ (by omega) (by omega)) fun i hi=>?_
 have hil:i.toNat < l.length:=by omega
 refine KL hi.1 hil ?_
 simp only [J8,d2,d4,d8,d16]
 have he:=h.all _ (List.getElem_mem hil)
 have ho:=Yf he.ok
 generalize l[i.toNat]=e at he ho
 refine Zc (place rights 8 (by omega) (by omega)) fun r28 _=>?_
 rw [s50,Option.bind_some]
 refine Zp (fun _=>?_) fun _=>?_
 ·refine Zc (place kind 6 (by omega) (by omega)) fun r36 h36=>Zc (place bits 10 (by omega) (by omega)) fun r37 h37=>?_
  have e1:iop .add .i64 6 r37=6+r37:=Kh (by omega) (by omega)
  have e2:iop .sub .i64 (iop .add .i64 1 r36) 1=r36:=by rw [Kh (by omega) (by omega),ZhK (by omega) (by omega)]; omega
  rw [e1,e2]
  refine ZbZ (l:=[6+r37,12,12,6,10,16]) h36.1 (by simp; omega) ?_
  have hb:∀ x∈[6+r37,12,12,6,10,16],0≤x∧x≤16:=by
   intro x hx
   simp only [List.mem_cons,List.not_mem_nil,or_false] at hx
   omega
  have hb':=hb _ (List.getElem_mem (show r36.toNat < [6+r37,12,12,6,10,16].length by simp; omega))
  generalize [6+r37,12,12,6,10,16][r36.toNat]'(by simp; omega)=r38 at hb'
  refine Zc (place rights 2 (by omega) (by omega)) fun r39 _=>Zc (place base 8 (by omega) (by omega)) fun r40 _=>?_
  refine Zu (by rw [KV (by omega) (by omega)]; omega) (Zc (place count 3 (by omega) (by omega)) fun r41 h41=>?_)
  rw [s51,Option.bind_some]
  refine Zp (fun _=>Zn ⟨l,⟨by omega,h.all,h.asc⟩,rfl⟩) fun _=>?_
  obtain ⟨cs,hcs,hcl⟩:=Zou ⟨e.node.cap.kind,e.node.cap.base,e.node.cap.bits,e.node.cap.rights,e.node.cap.width,e.node.cap.level,e.node.cap.device⟩ (iop .add .i64 1 r36) r38 r39 32 (iop .shl .i64 r40 (IntKind.wrap .u64 r38)) (iop .add .i64 1 r41)
  rw [hcs]
  have e3:iop .add .i64 1 r41=1+r41:=Kh (by omega) (by omega)
  rw [e3] at hcl
  refine Zc (s48 l (by omega) e.node.id cs (by omega)) fun b _=>?_
  refine Zp (fun _=>Zn ⟨l,⟨by omega,h.all,h.asc⟩,rfl⟩) fun _=>?_
  exact l24 e.node (by omega) true op c s hc.1 hc.2 hs.1 hs.2 h1 h2 cs (by omega) l n hn h
 ·exact l24 e.node (by omega) true op c s hc.1 hc.2 hs.1 hs.2 h1 h2 [⟨e.node.cap.kind,e.node.cap.base,e.node.cap.bits,iop .and .i64 e.node.cap.rights r28,e.node.cap.width,e.node.cap.level,e.node.cap.device⟩] (by simp) l n hn h
def Zr1 (s:Zpy):Bool×Int×Int×Int×Int×Int×Int×Int×Int×Bool:=(s.root,s.src,s.core,s.slot,s.kind,s.base,s.bits,s.count,s.rights,s.copy)
theorem ZkY {γ:Type} {l:List Zpy} {i:Nat} (h:i < l.length) (k:(Bool×Int×Int×Int×Int×Int×Int×Int×Int×Bool)→Option γ):Zi (l.map Zac) (i:Int) [.bool,.int .i64,.int .i64,.int .i64,.int .i64,.int .i64,.int .i64,.int .i64,.int .i64,.bool] k=k (Zr1 l[i]):=J6 (f:=Zac) (sh:=[.bool,.int .i64,.int .i64,.int .i64,.int .i64,.int .i64,.int .i64,.int .i64,.int .i64,.bool]) (v:=Zr1) (fun _=>rfl) h k
theorem s8 (l:List Zpy) (hn:l.length < 2 ^ 63):Ret (fun r=>∃ m,FOk m 30∧r=m.map Ze) (g8 (l.map Zac)):=by
 rw [Zyb]
 have key:∀ (d i fuel:Nat) (m:List ZG),i+d=41→d < fuel→FOk m 30→Ret (fun r=>∃ m,FOk m 30∧r=m.map Ze) (Zvm fuel (l.map Zac) (m.map Ze) (i:Int)):=by
  intro d
  induction d with
  | zero =>
   intro i fuel m hi hf hm
   obtain ⟨q,rfl⟩:∃ q,fuel=q+1:=⟨fuel - 1,by omega⟩
   rw [Znq]
   refine Zp (fun _=>?_) fun _=>Zn ⟨m,hm,rfl⟩
   rw [if_neg (by simp only [CQ]; omega)]
   exact Zn ⟨m,hm,rfl⟩
  | succ d ih =>
   intro i fuel m hi hf hm
   obtain ⟨q,rfl⟩:∃ q,fuel=q+1:=⟨fuel - 1,by omega⟩
   rw [Znq]
   refine Zp (fun h1=>?_) fun _=>Zn ⟨m,hm,rfl⟩
   refine Zp (fun h2=>?_) fun _=>Zn ⟨m,hm,rfl⟩
   refine Zp (fun h3=>?_) fun _=>Zn ⟨m,hm,rfl⟩
   simp only [CQ,List.length_map] at h1 h2 h3
   have hil:i < l.length:=by omega
   refine Zd (ZkY hil _) ?_
   simp only [Zr1]
   have e:iop .add .i64 (i:Int) 1=((i+1:Nat):Int):=ZR hil hn
   rw [e]
   refine Zc (s24 m 27 (by omega) ⟨by omega,hm.all,hm.asc⟩ _ _ _ _ _ _ _ _ _ _ _ (by omega) (by omega)) fun r ⟨m',hm',hr⟩=>?_
   subst hr
   exact ih (i+1) q m' (by omega) (by omega) hm'
 exact key 41 0 Zx [] rfl (by have:=@JL 41 (by omega); omega) ⟨by simp,by simp,List.Pairwise.nil⟩
end Go.Proofs.YtljejgmcgddppaaGreat
end

section
namespace Go.Proofs.YtljejgmcgddppaaGreat
open Go Go.AM
set_option linter.unusedSimpArgs false
set_option linter.unusedVariables false
set_option maxRecDepth 100000
structure SOk (l:List ZG) (s:List Jq):Prop where
 len:s.length=12
 spot:∀ t (h:t < s.length),s[t].op=0∧s[t].lock=zid∧(s[t].node=ZX∨∃ e∈l,e.slot=(t:Int)∧s[t].node=e.node)
theorem SOk.all {l:List ZG} {s:List Jq} (h:SOk l s):∀ x∈s,x.op=0∧x.lock=zid∧(x.node=ZX∨∃ e∈l,x.node=e.node):=by
 intro x hx
 obtain ⟨t,ht,rfl⟩:=List.getElem_of_mem hx
 obtain ⟨h1,h2,h3⟩:=h.spot t ht
 exact ⟨h1,h2,h3.imp id fun ⟨e,he,_,hn⟩=>⟨e,he,hn⟩⟩
theorem SOk.few {l:List ZG} {s:List Jq} {n:Nat} (h:SOk l s) (hf:FOk l n):W4 s:=by
 refine ⟨by have:=h.len; omega,fun x hx=>?_⟩
 rcases (h.all x hx).2.2 with e | ⟨e,he,hne⟩
 ·rw [e]; simp [ZX]
 ·have:=(Yf (hf.all e he).ok).2.2.1
  rw [hne]; omega
theorem s14 (l:List ZG) (n:Nat) (hn:n≤60) (hf:FOk l n) (c:Int):Ret (fun r=>∃ s,SOk l s∧r=s.map Zg) (g14 (l.map Ze) c):=by
 have hl:=hf.len
 rw [ZtO]
 refine Zu (by decide) (Zu (by decide) (Zu (by decide) ?_))
 refine KY (F:=fun k (s:LL) z=>Ze6 k (l.map Ze) c s z) (n:=l.length) (fun i s=>∃ s',SOk l s'∧s=s'.map Zg) (by omega) (fun k i s hi hj ih=>?_) (fun k s hj=>?_) _ ⟨List.replicate 12 ⟨ZX,0,zid⟩,⟨rfl,fun t ht=>?_⟩,rfl⟩
 ·obtain ⟨s,hs,rfl⟩:=hj
  show Ret _ (Ze6 (k+1) _ _ _ _)
  rw [ZjZ,List.length_map,if_pos (ZZ hi)]
  refine Zd (Zt hi _) ?_
  simp only [J8,d2,d4,d8,d16]
  have nxt:Ret (fun r=>∃ s,SOk l s∧r=s.map Zg) (Ze6 k (l.map Ze) c (s.map Zg) (iop .add .i64 (i:Int) 1)):=by rw [ZR hi (by omega)]; exact ih _ ⟨s,hs,rfl⟩
  refine Zp (fun _=>?_) fun _=>nxt
  refine Zd (Zt hi _) ?_
  simp only [J8,d2,d4,d8,d16]
  refine Zp (fun h1=>?_) fun _=>nxt
  simp only [CQ] at h1
  refine Zd (Zt hi _) ?_
  simp only [J8,d2,d4,d8,d16]
  refine Zd (Zt hi _) ?_
  simp only [J8,d2,d4,d8,d16]
  have he:=hf.all _ (List.getElem_mem hi)
  have hp:=(Yf he.ok).2.2.1
  rw [s30 l[i].node (by omega),Option.bind_some]
  have h0:=he.s0
  have hsl:=hs.len
  refine Zu (by omega) (Zu (by rw [List.length_map]; omega) (Zu (by omega) (Zu (by rw [List.length_map]; omega) ?_)))
  rw [ZR hi (by omega)]
  refine ih _ ⟨s.modify l[i].slot.toNat (ZpM l[i].node),⟨by rw [List.length_modify]; exact hsl,fun t ht=>?_⟩,Zfe s _ l[i].node⟩
  rw [List.length_modify] at ht
  rw [List.getElem_modify]
  have ha:=hs.spot t ht
  split
  ·exact ⟨ha.1,ha.2.1,.inr ⟨l[i],List.getElem_mem hi,by omega,rfl⟩⟩
  ·exact ha
 ·obtain ⟨s,hs,rfl⟩:=hj
  show Ret _ (Ze6 (k+1) _ _ _ _)
  rw [ZjZ,List.length_map,if_neg (ZY (Nat.le_refl _))]
  exact Zn ⟨s,hs,rfl⟩
 ·rw [List.getElem_replicate]
  exact ⟨rfl,rfl,.inl rfl⟩
structure IOk (l:List ZG) (w:List Id):Prop where
 len:w.length≤l.length
 all:∀ i∈w,∃ e∈l,e.node.id=i
theorem s12 (l:List ZG) (hl:l.length≤60) (z:List Int):Ret (fun r=>∃ w,IOk l w∧r=Zb w) (g12 (l.map Ze) (Za z)):=by
 rw [ZsW]
 refine KY (F:=fun k (s:LL) i=>ZhQ k (l.map Ze) (Za z) s i) (n:=l.length) (fun i s=>∃ w:List Id,w.length≤i∧(∀ i∈w,∃ e∈l,e.node.id=i)∧s=Zb w) (by omega) (fun k i s hi hj ih=>?_) (fun k s hj=>?_) _ ⟨[],by simp,by simp,rfl⟩
 ·obtain ⟨w,hw,hm,rfl⟩:=hj
  show Ret _ (ZhQ (k+1) _ _ _ _)
  rw [ZjG,List.length_map,if_pos (ZZ hi)]
  refine Zc (Zv z _) fun r4 _=>Zc (place r4 2 (by omega) (by omega)) fun r5 _=>?_
  rw [ZR hi (by omega)]
  refine Zp (fun _=>?_) fun _=>ih _ ⟨w,by omega,hm,rfl⟩
  refine Zd (Zt hi _) ?_
  simp only [J8,d2,d4,d8,d16]
  refine Zu (Zq (by rw [Z0]; simp; omega) (by omega)) (ih _ ⟨w++[l[i].node.id],by simp; omega,fun x hx=>?_,by simp [Zb,idc]⟩)
  simp only [List.mem_append,List.mem_singleton] at hx
  rcases hx with hx | rfl
  ·exact hm x hx
  ·exact ⟨l[i],List.getElem_mem hi,rfl⟩
 ·obtain ⟨w,hw,hm,rfl⟩:=hj
  show Ret _ (ZhQ (k+1) _ _ _ _)
  rw [ZjG,List.length_map,if_neg (ZY (Nat.le_refl _))]
  exact Zn ⟨w,⟨hw,hm⟩,rfl⟩
theorem Zlw {a b:Int} (h:a=b):¬ cop .neq a b=true:=by simp only [CQ]; exact fun g=>g h
end Go.Proofs.YtljejgmcgddppaaGreat
end

section
namespace Go.Proofs.YtljejgmcgddppaaGreat
open Go Go.AM
set_option linter.unusedSimpArgs false
set_option linter.unusedVariables false
set_option maxRecDepth 100000
theorem ZfK {α:Type} (lt:α→α→Bool) (l:List α):KO lt l=true↔∀ j (h:j+1 < l.length),lt l[j] l[j+1]=true:=by
 rw [KO,List.all_eq_true]
 constructor
 ·intro h j hj
  have:=h (j+1) (by rw [List.mem_range'_1]; omega)
  rw [Ke lt hj] at this
  exact this
 ·intro h i hi
  rw [List.mem_range'_1] at hi
  match i with
  | 0 => rfl
  | j + 1 => rw [Ke lt (by omega)]; exact h j (by omega)
theorem Zju {α:Type} {lt:α→α→Bool} {l:List α} {a:α} (h:KO lt l=true) (ha:∀ h:0 < l.length,lt (l[l.length - 1]'(by omega)) a=true):KO lt (l++[a])=true:=by
 rw [ZfK] at h ⊢
 intro j hj
 rw [List.length_append,List.length_cons,List.length_nil] at hj
 by_cases hjl:j+1 < l.length
 ·rw [List.getElem_append_left (by omega),List.getElem_append_left hjl]
  exact h j hjl
 ·have e:j=l.length - 1:=by omega
  subst e
  rw [List.getElem_append_left (by omega),List.getElem_append_right (by omega)]
  have:=ha (by omega)
  simpa using this
theorem ZnO {α:Type} {lt:α→α→Bool} {l:List α} (h:l.Pairwise fun a b=>lt a b=true):KO lt l=true:=by
 rw [ZfK]
 intro j hj
 exact List.pairwise_iff_getElem.1 h j (j+1) (by omega) hj (by omega)
theorem Ko {α:Type} (f:α→List AV) (l:List α) (a:α):l.map f++(E0++[f a])=(l++[a]).map f:=by simp
theorem YL {α:Type} {P:α→Prop} {l:List α} {a:α} (h:∀ x∈l,P x) (ha:P a):∀ x∈l++[a],P x:=by
 intro x hx
 simp only [List.mem_append,List.mem_singleton] at hx
 rcases hx with hx | rfl
 ·exact h x hx
 ·exact ha
theorem Yo {σ γ:Type} {P:γ→Prop} {F:Nat→σ→Int→Option γ} (n:Nat) (J:Nat→σ→Prop) (hn:n < 1000)
  (step:∀ (k i:Nat) (s:σ),i≤n→J i s→(i < n→∀ s',J (i+1) s'→Ret P (F k s' ((i+1:Nat):Int)))→Ret P (F (k+1) s (i:Int))) (s:σ) (h:J 0 s):Ret P (F Zx s 0):=by
 refine KY (F:=F) (n:=n) J (by omega) (fun k i s hi hj ih=>step k i s (by omega) hj fun _=>ih) (fun k s hj=>step k n s (Nat.le_refl _) hj fun h=>absurd h (Nat.lt_irrefl _)) s h
theorem Zed {i n:Nat} (h:i≤n) (hn:n < 1000):iop .add .i64 (i:Int) 1=((i+1:Nat):Int):=by
 rw [Kh (by omega) (by omega)]; omega
structure Zx1 (i:Id):Prop where
 c0:0≤i.core
 c1:i.core < 4
 o0:1≤i.op
 o1:i.op≤20
 p:i.part=0
theorem Zx1.ok {i:Id} (h:Zx1 i):Za2 i=true:=by
 obtain ⟨h1,h2,h3,h4,h5⟩:=h
 simp only [Za2,Wo,Bool.and_eq_true,decide_eq_true_eq]
 omega
theorem s26 (x:Int):Ret (fun r=>∃ i:Id,r=(i.core,i.op,i.part)∧Zx1 i) (g26 x):=by
 rw [ZtL]
 refine Zc (place x 4 (by omega) (by omega)) fun a ha=>Zu (by omega) (Zc (place _ 20 (by omega) (by omega)) fun b hb=>?_)
 have e:iop .add .i64 1 b=1+b:=Kh (by omega) (by omega)
 rw [e]
 exact Zn ⟨⟨a,1+b,0⟩,rfl,⟨ha.1,ha.2,by show 1≤1+b; omega,by show 1+b≤20; omega,rfl⟩⟩
theorem s28 (l:List Int) (z:Int) (hz:0≤z):Ret (fun r=>∃ m:List Int,r=Za m∧m.length≤l.length) (g28 (Za l) z):=by
 rw [Zuu,ZJ]
 refine Zp (fun _=>Zn ⟨[],rfl,by simp⟩) fun h=>?_
 simp only [CQ] at h
 refine Zu hz (Zu (by omega) (Zn ⟨l.drop z.toNat,?_,by simp⟩))
 exact (List.map_drop ..).symm
theorem Zle {γ:Type} {P:γ→Prop} {a b z:Int} {k:Int→Option γ} (h0:0≤z) (h:z < 2) (hk:∀ x,x=a∨x=b→Ret P (k x)):Ret P (Zi ((E0++[[I a]])++[[I b]]) z [.int .i64] k):=
 ZbZ (l:=[a,b]) h0 (by simp; omega) (hk _ (by rcases (by omega:z=0∨z=1) with rfl | rfl <;> simp))
theorem Zlz:KT ZX ZX=true:=by kernel_rfl
theorem s27 (l:List Int) (n:Y4) (hn:ZF n=true) (hp:n.path.length≤20):Ret (fun r=>∃ q:Req,r=ZqF q∧(q.src.path.length≤20∧q.call.dest < 8)∧KS q=true) (g27 (Za l) n.id.core n.id.op n.id.part (Zb n.path) n.cap.kind n.cap.base n.cap.bits n.cap.rights n.cap.width n.cap.level n.cap.device):=by
 rw [Zs9]
 refine Zc (Zv l 0) fun _ _=>Zc (s26 _) fun r ⟨i,hi,hio⟩=>?_
 subst hi
 refine Zc (Zv l 1) fun _ _=>Zc (place _ 3 (by omega) (by omega)) fun rg hrg=>?_
 refine Zc (Zv l 2) fun _ _=>Zc (place _ 2 (by omega) (by omega)) fun _ h2=>?_
 refine Zle h2.1 h2.2 fun w hw=>?_
 rw [s30 n (by omega),Option.bind_some]
 refine Zc (Zv l 3) fun _ _=>Zc (place _ 6 (by omega) (by omega)) fun kd hkd=>?_
 refine Zc (Zv l 4) fun _ _=>Zc (place _ 8 (by omega) (by omega)) fun _ _=>?_
 refine Zc (Zv l 5) fun _ _=>Zc (place _ 8 (by omega) (by omega)) fun _ hde=>?_
 refine Zc (Zv l 6) fun _ _=>Zc (place _ 4 (by omega) (by omega)) fun _ _=>?_
 refine Zc (Zv l 7) fun _ _=>Zc (place _ 8 (by omega) (by omega)) fun _ _=>?_
 refine Zc (Zv l 8) fun _ _=>Zc (place _ 6 (by omega) (by omega)) fun _ _=>?_
 refine Zc (Zv l 9) fun _ _=>Zc (place _ 3 (by omega) (by omega)) fun _ _=>?_
 refine Zc (Zv l 10) fun _ _=>Zc (place _ 2 (by omega) (by omega)) fun _ _=>?_
 refine Zc (Zv l 11) fun _ _=>Zc (place _ 8 (by omega) (by omega)) fun _ _=>Zu (by omega) ?_
 refine Zc (Zv l 12) fun _ _=>Zc (place _ 3 (by omega) (by omega)) fun _ _=>?_
 refine Zc (Zv l 13) fun _ _=>Zc (Zv l 14) fun _ _=>?_
 have ek:iop .add .i64 1 kd=1+kd:=Kh (by omega) (by omega)
 rw [ek]
 have hr:Z1 rg=true:=by simp only [Z1,decide_eq_true_eq]; omega
 refine Zp (fun h1=>Zn ⟨⟨i,⟨_,_,_,_,_,_,_,_,_,_,_,_⟩,_,_,ZX⟩,rfl,⟨by simp [ZX],hde.2⟩,?_⟩) fun h1=>Zn ⟨⟨i,⟨_,_,_,_,_,_,_,_,_,_,_,_⟩,_,_,n⟩,rfl,⟨hp,hde.2⟩,?_⟩
 ·simp only [CQ] at h1
  simp only [KS,hio.ok,hr,h1,Zlz,Bool.and_eq_true,decide_eq_true_eq,if_true,true_and,and_true]
  exact ⟨by omega,hw⟩
 ·simp only [CQ] at h1
  simp only [KS,hio.ok,hr,hn,if_neg h1,Bool.and_eq_true,decide_eq_true_eq,true_and,and_true]
  exact ⟨by omega,hw⟩
structure ZkV (f:List ZG) (ss:List Jq):Prop where
 len:ss.length=12
 spot:∀ t (h:t < ss.length),(0≤ss[t].op∧ss[t].op≤20)∧((ss[t].node=ZX∧ss[t].lock=zid)∨∃ e∈f,e.slot=(t:Int)∧ss[t].node=e.node∧(ss[t].lock=zid∨Za2 ss[t].lock=true))
theorem SOk.slIn {f:List ZG} {s:List Jq} (h:SOk f s):ZkV f s:=⟨h.len,fun t ht=>by
 obtain ⟨h1,h2,h3⟩:=h.spot t ht
 refine ⟨by omega,?_⟩
 rcases h3 with h3 | ⟨e,he,hs,hn⟩
 ·exact .inl ⟨h3,h2⟩
 ·exact .inr ⟨e,he,hs,hn,.inl h2⟩⟩
theorem ZuV {f:List ZG} {n:Nat} (hf:FOk f n) {a b:ZG} (ha:a∈f) (hb:b∈f) (h:a.node.id=b.node.id):a=b:=by
 obtain ⟨i,hi,rfl⟩:=List.getElem_of_mem ha
 obtain ⟨j,hj,rfl⟩:=List.getElem_of_mem hb
 have hp:=List.pairwise_iff_getElem.1 hf.asc
 by_cases hij:i < j
 ·have:=hp i j hi hj hij
  rw [ZgT,h] at this; omega
 ·by_cases hji:j < i
  ·have:=hp j i hj hi hji
   rw [ZgT,h] at this; omega
  ·have:i=j:=by omega
   subst this; rfl
theorem ZjU {f:List ZG} {n:Nat} (hf:FOk f n) {e:ZG} (he:e∈f):e.node.id≠zid:=by
 intro h
 have:=(hf.all e he).o1
 rw [h] at this
 exact absurd this (by decide)
theorem Zo3 {f:List ZG} {n:Nat} {ss:List Jq} (hf:FOk f n) (h:ZkV f ss):Vm ss=true:=by
 have hl:=h.len
 rw [Vm,Bool.and_eq_true,decide_eq_true_eq,List.all_eq_true]
 refine ⟨by omega,fun i hi=>?_⟩
 rw [List.mem_range'_1] at hi
 have hil:i < ss.length:=by omega
 obtain ⟨ho,hn⟩:=h.spot i hil
 rw [Bool.and_eq_true,Jb _ hil]
 refine ⟨?_,?_⟩
 ·rw [Zdq,Bool.and_eq_true,decide_eq_true_eq]
  refine ⟨by omega,?_⟩
  rcases hn with ⟨e1,e2⟩ | ⟨e,he,_,e1,e2⟩
  ·rw [e1,e2,if_pos (show ZX.id=zid from rfl),Zlz]; rfl
  ·rw [e1,if_neg (ZjU hf he),(hf.all e he).ok,Bool.true_and,Bool.or_eq_true,decide_eq_true_eq]
   exact e2
 ·unfold Kl
  rw [List.getElem?_eq_getElem hil]
  show (!((ss.take i).any (Zad ss[i].node.id)))=true
  rw [Bool.not_eq_true',List.any_eq_false]
  intro x hx
  obtain ⟨j,hj,rfl⟩:=List.getElem_of_mem hx
  rw [List.length_take] at hj
  rw [List.getElem_take]
  have hji:j < i:=by omega
  obtain ⟨_,hm⟩:=h.spot j (by omega)
  rw [Zad,Bool.not_eq_true,Bool.and_eq_false_iff]
  rcases hm with ⟨e1,_⟩ | ⟨e,he,hs,e1,_⟩
  ·left; rw [e1]; rfl
  ·right
   rw [decide_eq_false_iff_not,e1]
   intro heq
   rcases hn with ⟨e3,_⟩ | ⟨e',he',hs',e3,_⟩
   ·rw [e3] at heq; exact ZjU hf he heq
   ·rw [e3] at heq
    have:=ZuV hf he he' heq
    subst this
    omega
structure StG (f:List ZG) (s:State):Prop where
 slots:ZkV f s.slots
 ok:YJ s=true
 pend:s.pending.length≤3
 psrc:∀ q∈s.pending,q.src.path.length≤20∧q.call.dest < 8
 pok:∀ q∈s.pending,KS q=true
 marks:s.marks.length≤3
 answers:s.answers.length≤3
 entries:s.entries.length≤3
 epath:∀ e∈s.entries,e.node.path.length≤20
 commits:s.commits.length≤3
abbrev StT:=LL×LL×LL×LL×LL×LL
def stV (s:State):StT:=(s.slots.map Zg,s.pending.map ZM,s.marks.map Zk,s.answers.map ZS,s.entries.map Ze,Zb s.commits)
def StR (f:List ZG) (r:StT):Prop:=∃ s:State,r=stV s∧StG f s
def ZyW (l:List Req):Prop:=l.length≤3∧(∀ q∈l,q.src.path.length≤20∧q.call.dest < 8)∧(∀ q∈l,KS q=true)∧KO ltp l=true
def Zw5 (l:List YA):Prop:=l.length≤3∧(∀ q∈l,Y7 q=true)∧KO ltm l=true
def Zvq (l:List Ans):Prop:=l.length≤3∧(∀ q∈l,Wc q=true)∧KO lta l=true
def Zs2 (l:List ZG):Prop:=l.length≤3∧(∀ e∈l,e.node.path.length≤20)∧(∀ q∈l,We q=true)∧KO lte l=true
def Zs3 (l:List Id):Prop:=l.length≤3∧∀ q∈l,Za2 q=true
theorem Zo5 {f:List ZG} {n:Nat} (hf:FOk f n) {ss:List Jq} (hs:ZkV f ss) {pe:List Req} (hp:ZyW pe) {ma:List YA} (hm:Zw5 ma) {an:List Ans} (ha:Zvq an) {en:List ZG} (he:Zs2 en) {co:List Id} (hc:Zs3 co) :
  StR f (ss.map Zg,pe.map ZM,ma.map Zk,an.map ZS,en.map Ze,Zb co):=by
 refine ⟨⟨ss,pe,ma,an,en,co⟩,rfl,⟨hs,?_,hp.1,hp.2.1,hp.2.2.1,hm.1,ha.1,he.1,he.2.1,hc.1⟩⟩
 simp only [YJ,Zo3 hf hs,List.all_eq_true.2 hp.2.2.1,hp.2.2.2,List.all_eq_true.2 hm.2.1,hm.2.2,List.all_eq_true.2 ha.2.1,ha.2.2,List.all_eq_true.2 he.2.2.1,he.2.2.2,List.all_eq_true.2 hc.2,Bool.and_self]
theorem Zs6 {e:ZG} (h:EOk e):We e=true:=by
 obtain ⟨h1,h2,h3,h4,_,_,_,_,_,h5⟩:=h
 simp only [We,Zs,Jl,h5,Bool.and_eq_true,decide_eq_true_eq,and_true]
 omega
theorem Zyo (l:List Int) (f:List ZG) (n:Nat) (hf:FOk f n) (hn:n≤60) (y2 y3 y4 y5 y6 y7 sl pe ma an:LL) (h:∀ en co,Zs2 en→Zs3 co→StR f (sl,pe,ma,an,en.map Ze,Zb co)) :
  Ret (StR f) (Zlh Zx (Za l) (f.map Ze) y2 y3 y4 y5 y6 y7 sl pe ma an E0 E0 0):=by
 have hfl:=hf.len
 refine Yo (F:=fun k (s:LL×LL) z=>Zlh k (Za l) (f.map Ze) y2 y3 y4 y5 y6 y7 sl pe ma an s.1 s.2 z) 3
  (fun i s=>∃ cs,s=(List.map Ze (f.take i),Zb cs)∧i≤f.length∧cs.length≤i∧∀ c∈cs,Za2 c=true) (by omega) (fun k i s hi hj ih=>?_) (E0,E0) ⟨[],by simp [Zb],by omega,by simp,by simp⟩
 obtain ⟨cs,rfl,h1,h2,h3⟩:=hj
 have out:Ret (StR f) (some (sl,pe,ma,an,List.map Ze (f.take i),Zb cs)):=Zn (h _ _ ⟨by simp; omega,fun e he=>by have:=(Yf (hf.all e (List.mem_of_mem_take he)).ok).2.2.1; omega,fun e he=>Zs6 (hf.all e (List.mem_of_mem_take he)),ZnO hf.asc.take⟩ ⟨by omega,h3⟩)
 show Ret _ (Zlh (k+1) _ _ _ _ _ _ _ _ _ _ _ _ _ _ _)
 rw [Zpk]
 refine Zc (Zv l _) fun _ _=>Zc (place _ 3 (by omega) (by omega)) fun r16 h16=>?_
 refine Zp (fun h4=>?_) fun _=>out
 refine Zp (fun h5=>?_) fun _=>out
 simp only [CQ,List.length_map] at h4 h5
 have hif:i < f.length:=by omega
 refine Zu (Zq (by simp; omega) (by omega)) ?_
 refine Zd (Zt hif _) ?_
 simp only [J8,d2,d4,d8,d16]
 refine Zu (Zq (by simp; omega) (by omega)) (Zu (Zq (by rw [Z0]; simp; omega) (by omega)) ?_)
 refine Zc (Zv l _) fun _ _=>Zc (s26 _) fun r ⟨c,hc,hco⟩=>?_
 subst hc
 refine Zu (Zq (by rw [Z0]; simp; omega) (by omega)) ?_
 rw [Zed hi (by omega)]
 refine ih (by omega) (List.map Ze (f.take i)++(E0++[Ze f[i]]),Zb cs++(E0++[idc c])) ⟨cs++[c],?_,by omega,by simp; omega,YL h3 hco.ok⟩
 have e1:f.take (i+1)=f.take i++[f[i]]:=by rw [List.take_add_one,List.getElem?_eq_getElem hif]; rfl
 rw [e1,Ko]
 simp [Zb]
theorem Zyc (l:List Int) (f:List ZG) (n:Nat) (hf:FOk f n) (hn:n≤60) (y2 y3 y4 y5 y6 y7 sl pe ma:LL) (h:∀ an en co,Zvq an→Zs2 en→Zs3 co→StR f (sl,pe,ma,an.map ZS,en.map Ze,Zb co)) :
  Ret (StR f) (ZkF Zx (Za l) (f.map Ze) y2 y3 y4 y5 y6 y7 sl pe ma E0 E0 E0 0):=by
 refine Yo (F:=fun k (s:LL) z=>ZkF k (Za l) (f.map Ze) y2 y3 y4 y5 y6 y7 sl pe ma s E0 E0 z) 3
  (fun i s=>∃ es:List Ans,s=List.map ZS es∧es.length=i∧(∀ j (h:j < es.length),es[j].op=((j+1:Nat):Int))∧∀ x∈es,Wc x=true) (by omega) (fun k i s hi hj ih=>?_) _ ⟨[],rfl,by simp,by simp,by simp⟩
 obtain ⟨es,rfl,h1,h2,h3⟩:=hj
 show Ret _ (ZkF (k+1) _ _ _ _ _ _ _ _ _ _ _ _ _ _ _)
 rw [ZnQ]
 refine Zc (Zv l _) fun _ _=>Zc (place _ 3 (by omega) (by omega)) fun r16 h16=>?_
 refine Zp (fun h4=>?_) fun _=>Zyo l f n hf hn _ _ _ _ _ _ _ _ _ _ fun en co he hc=>h es en co ⟨by omega,h3,(ZfK ..).2 fun j hj=>by rw [lta,h2,h2,decide_eq_true_eq]; omega⟩ he hc
 simp only [CQ] at h4
 refine Zu (Zq (by simp; omega) (by omega)) ?_
 refine Zc (Zv l _) fun _ _=>Zc (place _ 20 (by omega) (by omega)) fun v hv=>?_
 refine Zu (Zq (by simp; omega) (by omega)) ?_
 rw [Zed hi (by omega)]
 refine ih (by omega) _ ⟨es++[⟨((i+1:Nat):Int),v⟩],by rw [← Ko]; rfl,by simp; omega,fun j hj=>?_,YL h3 (by simp only [Wc,ZcD,Bool.and_eq_true,decide_eq_true_eq]; omega)⟩
 by_cases hjl:j < es.length
 ·rw [List.getElem_append_left hjl]; exact h2 j hjl
 ·rw [List.getElem_append_right (by omega)]
  rw [List.length_append,List.length_cons,List.length_nil] at hj
  have:j=i:=by omega
  subst this
  simp
theorem Zwp (l:List Int) (f:List ZG) (n:Nat) (hf:FOk f n) (hn:n≤60) (y2 y3 y4 y5 y6 y7 sl pe:LL) (h:∀ ma an en co,Zw5 ma→Zvq an→Zs2 en→Zs3 co→StR f (sl,pe,ma.map Zk,an.map ZS,en.map Ze,Zb co)) :
  Ret (StR f) (ZiF Zx (Za l) (f.map Ze) y2 y3 y4 y5 y6 y7 sl pe E0 E0 E0 E0 0):=by
 refine Yo (F:=fun k (s:LL) z=>ZiF k (Za l) (f.map Ze) y2 y3 y4 y5 y6 y7 sl pe s E0 E0 E0 z) 3
  (fun i s=>∃ es:List YA,s=List.map Zk es∧es.length=i∧(∀ j (h:j < es.length),es[j].region=(j:Int))∧∀ x∈es,Y7 x=true) (by omega) (fun k i s hi hj ih=>?_) _ ⟨[],rfl,by simp,by simp,by simp⟩
 obtain ⟨es,rfl,h1,h2,h3⟩:=hj
 show Ret _ (ZiF (k+1) _ _ _ _ _ _ _ _ _ _ _ _ _ _ _)
 rw [ZoB]
 refine Zc (Zv l _) fun _ _=>Zc (place _ 3 (by omega) (by omega)) fun r16 h16=>?_
 refine Zp (fun h4=>?_) fun _=>Zyc l f n hf hn _ _ _ _ _ _ _ _ _ fun an en co ha he hc=>h es an en co ⟨by omega,h3,(ZfK ..).2 fun j hj=>by rw [ltm,h2,h2,decide_eq_true_eq]; omega⟩ ha he hc
 simp only [CQ] at h4
 refine Zu (Zq (by simp; omega) (by omega)) ?_
 refine Zc (Zv l _) fun _ _=>Zc (s26 _) fun r ⟨c,hc,hco⟩=>?_
 subst hc
 refine Zu (Zq (by simp; omega) (by omega)) ?_
 rw [Zed hi (by omega)]
 refine ih (by omega) _ ⟨es++[⟨(i:Int),c⟩],by rw [← Ko]; rfl,by simp; omega,fun j hj=>?_,YL h3 (by simp only [Y7,Z1,hco.ok,Bool.and_eq_true,decide_eq_true_eq,and_true]; omega)⟩
 by_cases hjl:j < es.length
 ·rw [List.getElem_append_left hjl]; exact h2 j hjl
 ·rw [List.getElem_append_right (by omega)]
  rw [List.length_append,List.length_cons,List.length_nil] at hj
  have:j=i:=by omega
  subst this
  simp
theorem ZwV (l:List Int) (f:List ZG) (n:Nat) (hf:FOk f n) (hn:n≤60) (y2 y3 y4 y5 y6 y7 sl:LL) (h:∀ pe ma an en co,ZyW pe→Zw5 ma→Zvq an→Zs2 en→Zs3 co→StR f (sl,pe.map ZM,ma.map Zk,an.map ZS,en.map Ze,Zb co)) :
  Ret (StR f) (Zfy Zx (Za l) (f.map Ze) y2 y3 y4 y5 y6 y7 sl E0 E0 E0 E0 E0 0):=by
 have hfl:=hf.len
 refine Yo (F:=fun k (s:LL) z=>Zfy k (Za l) (f.map Ze) y2 y3 y4 y5 y6 y7 sl s E0 E0 E0 E0 z) 3
  (fun i s=>∃ es,s=List.map ZM es∧es.length≤i∧(∀ q∈es,q.src.path.length≤20∧q.call.dest < 8)∧(∀ q∈es,KS q=true)∧KO ltp es=true) (by omega) (fun k i s hi hj ih=>?_) _ ⟨[],rfl,by simp,by simp,by simp,rfl⟩
 obtain ⟨es,rfl,h1,h3,h7,h8⟩:=hj
 have out:=Zwp l f n hf hn y2 y3 y4 y5 y6 y7 sl (List.map ZM es) fun ma an en co hm ha he hc=>h es ma an en co ⟨by omega,h3,h7,h8⟩ hm ha he hc
 show Ret _ (Zfy (k+1) _ _ _ _ _ _ _ _ _ _ _ _ _ _ _)
 rw [Zn5]
 refine Zc (Zv l _) fun _ _=>Zc (place _ 3 (by omega) (by omega)) fun r16 h16=>?_
 refine Zp (fun h4=>?_) fun _=>out
 refine Zp (fun h5=>?_) fun _=>out
 simp only [CQ,List.length_map] at h4 h5
 have e13:iop .add .i64 13 (i:Int)=13+i:=Kh (by omega) (by omega)
 rw [e13]
 refine Zc (s28 l _ (by omega)) fun r ⟨m,hr,_⟩=>?_
 subst hr
 rw [List.length_map]
 refine Zc (Zv l _) fun _ _=>Zc (place _ _ (by omega) (by omega)) fun r19 h19=>?_
 have hil:r19.toNat < f.length:=by omega
 refine KL h19.1 hil ?_
 simp only [J8,d2,d4,d8,d16]
 have hno:=(hf.all _ (List.getElem_mem hil)).ok
 have hp:=(Yf hno).2.2.1
 refine Zc (s27 m f[r19.toNat].node hno (by omega)) fun r ⟨q,hq,hqp,hqo⟩=>?_
 subst hq
 rw [Zed hi (by omega)]
 have room1:Ja E0 (List.map ZM es) 240:=Zq (by simp; omega) (by omega)
 have room2:Ja (List.map ZM es) (E0++[ZM q]) 240:=Zq (by simp; omega) (by omega)
 have nxt:i < 3→(∀ h:0 < es.length,ltp (es[es.length - 1]'(by omega)) q=true)→Ret (StR f) (Zfy k (Za l) (f.map Ze) y2 y3 y4 y5 y6 y7 sl (List.map ZM es++(E0++[ZM q])) E0 E0 E0 E0 ((i+1:Nat):Int)):=fun hi3 hlt=>ih hi3 _ ⟨es++[q],(Ko ..),by simp; omega,YL h3 hqp,YL h7 hqo,Zju h8 hlt⟩
 refine Zp (fun h6=>Zu room1 (Zu room2 (nxt (by omega) fun h=>?_))) fun h6=>?_
 ·simp only [CQ,List.length_map] at h6
  omega
 simp only [CQ,List.length_map] at h6
 have e1:iop .sub .i64 (List.length (List.map ZM es):Int) 1=((es.length - 1:Nat):Int):=by rw [List.length_map,ZhK (by omega) (by omega)]; omega
 rw [e1]
 refine Zd (Yb (show es.length - 1 < es.length by omega) _) ?_
 refine Zd (congrArg (fun o=>Option.bind o _) (s29 _ _ _ _ _ _)) ?_
 refine Zp (fun hlt=>Zu room1 (Zu room2 (nxt (by omega) fun _=>hlt))) fun _=>ih (by omega) _ ⟨es,rfl,by omega,h3,h7,h8⟩
def Zn2 (b:Id) (s:Jq):Jq:={ s with lock:=b }
theorem ZuX (acc:List Jq) (i:Nat) (b:Id):Zy (acc.map Zg) i 12 [I b.core,I b.op,I b.part]=(acc.modify i (Zn2 b)).map Zg:=Yt Zg (Zn2 b) acc i 12 _ fun _ _=>rfl
theorem ZkV.lockS {f:List ZG} {ss:List Jq} (h:ZkV f ss) (i:Nat) (hi:i < ss.length) (b:Id) (hb:Za2 b=true) (he:J5 ss[i]=false):ZkV f (ss.modify i (Zn2 b)):=by
 refine ⟨by rw [List.length_modify]; exact h.len,fun t ht=>?_⟩
 rw [List.length_modify] at ht
 rw [List.getElem_modify]
 obtain ⟨ho,hn⟩:=h.spot t ht
 split
 ·rename_i heq
  subst heq
  refine ⟨ho,?_⟩
  rcases hn with ⟨e1,_⟩ | ⟨e,he',hs,e1,_⟩
  ·rw [J5,e1] at he
   exact absurd he (by decide)
  ·exact .inr ⟨e,he',hs,e1,.inr hb⟩
 ·exact ⟨ho,hn⟩
theorem ZkV.opS {f:List ZG} {ss:List Jq} (h:ZkV f ss) (i:Nat) (g:Jq→Jq) (hg:∀ x,(g x).node=x.node∧(g x).lock=x.lock∧0≤(g x).op∧(g x).op≤20):ZkV f (ss.modify i g):=by
 refine ⟨by rw [List.length_modify]; exact h.len,fun t ht=>?_⟩
 rw [List.length_modify] at ht
 rw [List.getElem_modify]
 obtain ⟨ho,hn⟩:=h.spot t ht
 split
 ·rw [(hg _).1,(hg _).2.1]
  exact ⟨(hg _).2.2,hn⟩
 ·exact ⟨ho,hn⟩
theorem Zxi (l:List Int) (f:List ZG) (n:Nat) (hf:FOk f n) (hn:n≤60) (y2 y3 y4 y5 y6 y7:LL) (ss:List Jq) (hss:ZkV f ss) :
  Ret (StR f) (Zbv Zx (Za l) (f.map Ze) y2 y3 y4 y5 y6 y7 (ss.map Zg) E0 E0 E0 E0 E0 0):=by
 refine Yo (F:=fun k (s:LL) z=>Zbv k (Za l) (f.map Ze) y2 y3 y4 y5 y6 y7 s E0 E0 E0 E0 E0 z) 12
  (fun i s=>∃ es,s=List.map Zg es∧ZkV f es) (by omega) (fun k i s hi hj ih=>?_) _ ⟨ss,rfl,hss⟩
 obtain ⟨es,rfl,h1⟩:=hj
 have hl:=h1.len
 show Ret _ (Zbv (k+1) _ _ _ _ _ _ _ _ _ _ _ _ _ _ _)
 rw [Zol,List.length_map]
 refine Zp (fun h4=>?_) fun _=>ZwV l f n hf hn _ _ _ _ _ _ _ fun pe ma an en co hp hm ha he hc=>Zo5 hf h1 hp hm ha he hc
 simp only [CQ] at h4
 have hi12:i < 12:=by omega
 have hie:i < es.length:=by omega
 rw [Zed hi (by omega)]
 have h0:(0:Int)≤(i:Int):=by omega
 have hlt:(i:Int) < (es.length:Int):=by omega
 -- what becomes of the reservation
 have part2:∀ es':List Jq,ZkV f es'→Ret (StR f) ((g25 (Za l) (i:Int)).bind fun (r17:Int)=>(g9 r17 7).bind fun (r18:Int)=>if (cop .eql r18 6)=true then (g25 (Za l) (i:Int)).bind fun (r19:Int)=>Zw ((7:Int)≠0)<|(g9 (iop .quo .i64 r19 7) 20).bind fun (r20:Int)=>Zw ((0:Int)≤(i:Int))<|Zw ((i:Int) < (List.length (es'.map Zg):Int))<|Zw ((0:Int)≤(i:Int))<|Zw ((i:Int) < (List.length (es'.map Zg):Int))<|
   Zbv k (Za l) (f.map Ze) y2 y3 y4 y5 y6 y7 (Zy (es'.map Zg) (Int.toNat (i:Int)) 11 [AV.val (.int .i64 (iop .add .i64 1 r20))]) E0 E0 E0 E0 E0 ((i+1:Nat):Int)
   else Zbv k (Za l) (f.map Ze) y2 y3 y4 y5 y6 y7 (es'.map Zg) E0 E0 E0 E0 E0 ((i+1:Nat):Int)):=by
  intro es' he'
  have hl':=he'.len
  refine Zc (Zv l _) fun _ _=>Zc (place _ 7 (by omega) (by omega)) fun r18 _=>?_
  refine Zp (fun _=>?_) fun _=>ih hi12 _ ⟨es',rfl,he'⟩
  refine Zc (Zv l _) fun _ _=>Zu (by omega) (Zc (place _ 20 (by omega) (by omega)) fun r20 h20=>?_)
  rw [List.length_map]
  refine Zu h0 (Zu (by omega) (Zu h0 (Zu (by omega) ?_)))
  have e20:iop .add .i64 1 r20=1+r20:=Kh (by omega) (by omega)
  rw [Int.toNat_natCast,e20,ZtJ]
  exact ih hi12 _ ⟨_,rfl,he'.opS _ _ fun x=>⟨rfl,rfl,by show 0≤1+r20; omega,by show 1+r20≤20; omega⟩⟩
 refine Zc (Zv l _) fun _ _=>Zc (place _ 5 (by omega) (by omega)) fun r16 _=>?_
 refine Zp (fun _=>?_) fun _=>?_
 ·refine Zu h0 (Zu hlt ?_)
  refine Zd (ZN hie _) ?_
  simp only [Yd,d2,d4,d8,d16]
  rw [s21,Option.bind_some]
  refine Zp (fun hne=>?_) fun _=>?_
  ·rw [Bool.not_eq_true'] at hne
   refine Zc (Zv l _) fun _ _=>Zu (by omega) (Zc (s26 _) fun r ⟨b,hb,hbo⟩=>?_)
   subst hb
   refine Zu h0 (Zu hlt (Zu h0 (Zu hlt ?_)))
   have:=part2 (es.modify i (Zn2 b)) (h1.lockS i hie b hbo.ok hne)
   rw [← ZuX,← Int.toNat_natCast i] at this
   exact this
  ·have:=part2 es h1
   rw [List.length_map] at this
   exact this
 ·have:=part2 es h1
  rw [List.length_map] at this
  exact this
theorem s10 (l:List Int) (f:List ZG) (n:Nat) (hf:FOk f n) (hn:n≤60) (c:Int):Ret (StR f) (g10 (Za l) (f.map Ze) c):=by
 rw [Zuv]
 refine Zc (s14 f n hn hf c) fun r ⟨s,hs,hr⟩=>?_
 subst hr
 exact Zxi l f n hf hn _ _ _ _ _ _ s hs.slIn
theorem StG.few {f:List ZG} {n:Nat} (hf:FOk f n) {s:State} (h:StG f s):W4 s.slots:=by
 refine ⟨by have:=h.slots.len; omega,fun x hx=>?_⟩
 obtain ⟨t,ht,rfl⟩:=List.getElem_of_mem hx
 rcases (h.slots.spot t ht).2 with ⟨e,_⟩ | ⟨e,he,_,e1,_⟩
 ·rw [e]; simp [ZX]
 ·rw [e1]
  have:=(Yf (hf.all e he).ok).2.2.1
  omega
theorem StG.fits {f:List ZG} {n:Nat} (hf:FOk f n) {s:State} (h:StG f s):s.Fits:=by
 have h1:=h.slots.len; have h2:=h.pend; have h3:=h.marks; have h4:=h.answers; have h5:=h.entries; have h6:=h.commits
 exact ⟨by omega,by omega,by omega,by omega,by omega,by omega,fun x hx=>by have:=(h.few hf).path x hx; omega,fun x hx=>by have:=(h.psrc x hx).1; omega,fun x hx=>by have:=h.epath x hx; omega⟩
end Go.Proofs.YtljejgmcgddppaaGreat
end

section
namespace Go.Proofs.YtljejgmcgddppaaGreat
open Go Go.AM
set_option linter.unusedSimpArgs false
set_option linter.unusedVariables false
set_option maxRecDepth 100000
theorem Jf {b:Bool} (h:b=false):¬ b=true:=by simp [h]
structure VwG (v:View):Prop where
 ok:K9 v=true
 members:v.members.length≤4
 owners:v.owners.length≤4
theorem VQ {z:Int} (h:0≤z∧z < 4):Zs z=true:=by simp only [Zs,decide_eq_true_eq]; omega
theorem s34 (l:List Int):Ret (fun r=>∃ v:View,r=(v.number,Za v.members,Za v.owners)∧VwG v) (g34 (Za l)):=by
 rw [Zso]
 refine Zc (Zv l _) fun _ _=>Zc (place _ 200 (by omega) (by omega)) fun num hnum=>?_
 have part0:∀ mem:List Int,mem.length≤4→(∀ x∈mem,Zs x=true)→(∀ i (h:i < mem.length),Zd6 mem i=true)→Ret (fun r=>∃ v:View,r=(v.number,Za v.members,Za v.owners)∧VwG v) (Zlf Zx (Za l) 0 E0 E0 num (Za mem) E0 0):=by
  intro mem hm1 hm2 hm3
  refine Yo (F:=fun k (s:LL) z=>Zlf k (Za l) 0 E0 E0 num (Za mem) s z) 3 (fun i s=>∃ es:List Int,s=Za es∧es.length≤i∧∀ x∈es,Zs x=true) (by omega) (fun k i s hi hj ih=>?_) _ ⟨[],rfl,by simp,by simp⟩
  obtain ⟨es,rfl,h1,h2⟩:=hj
  show Ret _ (Zlf (k+1) _ _ _ _ _ _ _ _)
  rw [Zpi]
  refine Zc (Zv l _) fun _ _=>Zc (place _ 3 (by omega) (by omega)) fun r9 h9=>?_
  refine Zp (fun h4=>?_) fun _=>Zn ⟨⟨num,mem,es⟩,rfl,⟨?_,hm1,by show es.length≤4; omega⟩⟩
  ·simp only [CQ] at h4
   refine Zu (Zq (by simp [ZJ]; omega) (by omega)) ?_
   refine Zc (Zv l _) fun _ _=>Zc (place _ 4 (by omega) (by omega)) fun r11 h11=>?_
   refine Zu (Zq (by simp [Za]; omega) (by omega)) ?_
   rw [Zed hi (by omega)]
   exact ih (by omega) _ ⟨es++[r11],(Ko Zh2 es _),by simp; omega,YL h2 (VQ h11)⟩
  ·have a1:((List.range' 0 mem.length).all fun i=>atB Zs mem i&&Zd6 mem i)=true:=by
    rw [List.all_eq_true]
    intro i hi
    rw [List.mem_range'_1] at hi
    have hil:i < mem.length:=by omega
    rw [Jb _ hil,hm2 _ (List.getElem_mem hil),hm3 i hil]; rfl
   have a2:Jy num=true:=by simp only [Jy,decide_eq_true_eq]; omega
   simp only [K9,a1,a2,List.all_eq_true.2 h2,Bool.and_true,Bool.true_and,Bool.and_eq_true,decide_eq_true_eq]
   omega
 refine Yo (F:=fun k (s:LL) z=>Zkv k (Za l) 0 E0 E0 num s E0 z) 4 (fun i s=>∃ es:List Int,s=Za es∧es.length≤i∧(∀ x∈es,Zs x=true)∧∀ i (h:i < es.length),Zd6 es i=true) (by omega) (fun k i s hi hj ih=>?_) _ ⟨[],rfl,by simp,by simp,by simp⟩
 obtain ⟨es,rfl,h1,h2,h3⟩:=hj
 show Ret _ (Zkv (k+1) _ _ _ _ _ _ _ _)
 rw [ZoY]
 refine Zc (Zv l _) fun _ _=>Zc (place _ 4 (by omega) (by omega)) fun r9 h9=>?_
 refine Zp (fun h4=>?_) fun _=>part0 es (by omega) h2 h3
 simp only [CQ] at h4
 refine Zc (Zv l _) fun _ _=>Zc (place _ 4 (by omega) (by omega)) fun r11 h11=>?_
 rw [s55 es (by omega),Option.bind_some,Zed hi (by omega)]
 refine Zp (fun h5=>?_) fun _=>ih (by omega) _ ⟨es,rfl,by omega,h2,h3⟩
 refine Zu (Zq (by simp [ZJ]; omega) (by omega)) ?_
 refine Zu (Zq (by simp [Za]; omega) (by omega)) ?_
 refine ih (by omega) _ ⟨es++[r11],(Ko Zh2 es _),by simp; omega,YL h2 (VQ h11),fun j hj=>?_⟩
 rw [List.length_append,List.length_cons,List.length_nil] at hj
 rw [Zkg (by simpa using hj)]
 by_cases hjl:j < es.length
 ·have:=h3 j hjl
  rw [Zkg hjl] at this
  rw [List.getElem_append_left hjl,List.take_append_of_le_length (by omega)]
  exact this
 ·have e:j=es.length:=by omega
  subst e
  rw [List.getElem_append_right (Nat.le_refl _),List.take_left]
  simpa using h5
theorem s32 (z:Int):Ret (fun r=>∃ cs:List Int,r=Za cs∧cs.length≤4∧ZcV cs=true) (g32 z):=by
 rw [ZsD]
 refine Yo (F:=fun k (s:LL) i=>ZkI k z s i) 4 (fun i s=>∃ es:List Int,s=Za es∧es.length≤i∧(∀ x∈es,0≤x∧x < (i:Int))∧KO ltI es=true) (by omega) (fun k i s hi hj ih=>?_) _ ⟨[],rfl,by simp,by simp,rfl⟩
 obtain ⟨es,rfl,h1,h2,h3⟩:=hj
 show Ret _ (ZkI (k+1) _ _ _)
 rw [ZnV]
 refine Zp (fun h4=>?_) fun h4=>Zn ⟨es,rfl,by omega,?_⟩
 ·simp only [CQ] at h4
  have hw:IntKind.wrap .u64 (i:Int)=i:=KV (by omega) (by omega)
  rw [hw]
  refine Zu (by omega) (Zc (place _ 2 (by omega) (by omega)) fun r3 _=>?_)
  rw [Zed hi (by omega)]
  refine Zp (fun _=>?_) fun _=>ih (by omega) _ ⟨es,rfl,by omega,fun x hx=>by have:=h2 x hx; omega,h3⟩
  refine Zu (Zq (by simp [Za]; omega) (by omega)) (ih (by omega) _ ⟨es++[(i:Int)],(Ko Zh2 es _),by simp; omega,fun x hx=>?_,Zju h3 fun h=>?_⟩)
  ·rw [List.mem_append,List.mem_singleton] at hx
   rcases hx with hx | rfl
   ·have:=h2 x hx; omega
   ·omega
  ·have:=h2 _ (List.getElem_mem (show es.length - 1 < es.length by omega))
   rw [ltI,decide_eq_true_eq]; omega
 ·rw [ZcV,h3,Bool.and_true,List.all_eq_true]
  intro x hx
  have:=h2 x hx
  exact VQ ⟨by omega,by omega⟩
theorem s54 (a b c:Int):Ret (fun r=>∃ i:Id,r=(i.core,i.op,i.part)∧Wo i=true) (g54 a b c):=by
 rw [Ztz]
 refine Zc (place a 4 (by omega) (by omega)) fun x hx=>Zc (place b 12 (by omega) (by omega)) fun y hy=>Zc (place c 3 (by omega) (by omega)) fun z hz=>?_
 have e:iop .add .i64 1 y=1+y:=Kh (by omega) (by omega)
 rw [e]
 exact Zn ⟨⟨x,1+y,z⟩,rfl,by simp only [Wo,decide_eq_true_eq]; omega⟩
theorem s31 (l:List Int) (hn:l.length < 2 ^ 63):Ret (fun r=>∃ is:List Id,r=Zb is∧is.length≤8∧∀ i∈is,Wo i=true) (g31 (Za l)):=by
 rw [ZuH]
 refine KY (F:=fun k (s:LL) i=>ZiV k (Za l) s i) (n:=l.length) (fun i s=>∃ es:List Id,s=Zb es∧es.length≤8∧∀ i∈es,Wo i=true) hn (fun k i s hi hj ih=>?_) (fun k s hj=>?_) _ ⟨[],rfl,by simp,by simp⟩
 ·obtain ⟨es,rfl,h1,h2⟩:=hj
  show Ret _ (ZiV (k+1) _ _ _)
  rw [Zj0,ZJ,Z0,if_pos (ZZ hi)]
  refine Zp (fun h4=>?_) fun _=>Zn ⟨es,rfl,h1,h2⟩
  simp only [CQ] at h4
  refine Zd (ZW hi _) (Zd (ZW hi _) (Zu (by omega) (Zd (ZW hi _) (Zu (by omega) ?_))))
  refine Zc (s54 _ _ _) fun r ⟨x,hx,hxo⟩=>?_
  subst hx
  rw [s18 es (by omega),Option.bind_some,ZR hi hn]
  refine Zp (fun _=>?_) fun _=>ih _ ⟨es,rfl,h1,h2⟩
  exact Zu (Zq (by rw [Z0]; simp; omega) (by omega)) (ih _ ⟨es++[x],by simp [Zb,idc],by simp; omega,YL h2 hxo⟩)
 ·obtain ⟨es,rfl,h1,h2⟩:=hj
  show Ret _ (ZiV (k+1) _ _ _)
  rw [Zj0,ZJ,if_neg (ZY (Nat.le_refl _))]
  exact Zn ⟨es,rfl,h1,h2⟩
structure StS (s:State):Prop where
 ok:YJ s=true
 slots:s.slots.length≤12
 spath:∀ x∈s.slots,x.node.path.length≤20
 pend:s.pending.length≤3
 psrc:∀ q∈s.pending,q.src.path.length≤20
 marks:s.marks.length≤3
 answers:s.answers.length≤3
 entries:s.entries.length≤3
 epath:∀ e∈s.entries,e.node.path.length≤20
 commits:s.commits.length≤3
theorem StG.short {f:List ZG} {n:Nat} (hf:FOk f n) {s:State} (h:StG f s):StS s:=⟨h.ok,by have:=h.slots.len; omega,(h.few hf).path,h.pend,fun q hq=>(h.psrc q hq).1,h.marks,h.answers,h.entries,h.epath,h.commits⟩
theorem StS.fits {s:State} (h:StS s):s.Fits:=by
 have h1:=h.slots; have h2:=h.pend; have h3:=h.marks; have h4:=h.answers; have h5:=h.entries; have h6:=h.commits
 exact ⟨by omega,by omega,by omega,by omega,by omega,by omega,fun x hx=>by have:=h.spath x hx; omega,fun x hx=>by have:=h.psrc x hx; omega,fun x hx=>by have:=h.epath x hx; omega⟩
theorem K6:StS Zl:=⟨by kernel_rfl,by simp [Zl],by simp [Zl],by simp [Zl],by simp [Zl],by simp [Zl],by simp [Zl],by simp [Zl],by simp [Zl],by simp [Zl]⟩
theorem Va:VwG ZC:=⟨by kernel_rfl,by simp [ZC],by simp [ZC]⟩
theorem VwG.fits {v:View} (h:VwG v):v.Fits:=⟨by have:=h.members; omega,by have:=h.owners; omega⟩
structure RpS (r:Report):Prop where
 core:Zs r.core=true
 view:VwG r.view
 state:StS r.state
 next:VwG r.next
 proposal:StS r.proposal
theorem RpS.ok {r:Report} (h:RpS r):Zie r=true:=by simp only [Zie,h.core,h.view.ok,h.state.ok,h.next.ok,h.proposal.ok,Bool.and_self]
theorem Wb:RpS Zm:=⟨by kernel_rfl,Va,K6,Va,K6⟩
abbrev RpT:=Int×Int×LL×LL×LL×LL×LL×LL×LL×LL×Bool×Int×LL×LL×LL×LL×LL×LL×LL×LL
def rpV (r:Report):RpT:=(r.core,r.view.number,Za r.view.members,Za r.view.owners,r.state.slots.map Zg,r.state.pending.map ZM,r.state.marks.map Zk,r.state.answers.map ZS,r.state.entries.map Ze,Zb r.state.commits,r.ready,r.next.number,Za r.next.members,Za r.next.owners,r.proposal.slots.map Zg,r.proposal.pending.map ZM,r.proposal.marks.map Zk,r.proposal.answers.map ZS,r.proposal.entries.map Ze,Zb r.proposal.commits)
theorem s33 (l:List Int) (f:List ZG) (n:Nat) (hf:FOk f n) (hn:n≤60):Ret (fun r=>∃ p:Report,r=rpV p∧RpS p) (g33 (Za l) (f.map Ze)):=by
 rw [Zu4]
 refine Zc (Zv l _) fun _ _=>Zc (place _ 4 (by omega) (by omega)) fun c hc=>?_
 refine Zc (s28 l 1 (by omega)) fun r ⟨l1,hr,_⟩=>?_
 subst hr
 refine Zc (s34 l1) fun r ⟨v,hr,hv⟩=>?_
 subst hr
 refine Zc (s28 l 2 (by omega)) fun r ⟨l2,hr,_⟩=>?_
 subst hr
 refine Zc (s10 l2 f n hf hn c) fun r ⟨s,hr,hs⟩=>?_
 subst hr
 refine Zc (Zv l _) fun _ _=>Zc (place _ 2 (by omega) (by omega)) fun _ _=>?_
 refine Zp (fun _=>?_) fun _=>Zn ⟨⟨c,v,s,false,ZC,Zl⟩,rfl,⟨VQ hc,hv,hs.short hf,Va,K6⟩⟩
 refine Zc (s28 l 4 (by omega)) fun r ⟨l1,hr,_⟩=>?_
 subst hr
 refine Zc (s34 l1) fun r ⟨v2,hr,hv2⟩=>?_
 subst hr
 refine Zc (s28 l 5 (by omega)) fun r ⟨l2,hr,_⟩=>?_
 subst hr
 refine Zc (s10 l2 f n hf hn c) fun r ⟨s2,hr,hs2⟩=>?_
 subst hr
 exact Zn ⟨⟨c,v,s,true,v2,s2⟩,rfl,⟨VQ hc,hv,hs.short hf,hv2,hs2.short hf⟩⟩
structure MsS (m:Msg):Prop where
 req:m.req.src.path.length≤20
 ids:m.ids.length≤8
 nodes:m.nodes.length≤3
 node:∀ x∈m.nodes,x.path.length≤20
 cores:m.cores.length≤4
 moves:m.moves.length≤3
 next:VwG m.next
 state:StS m.state
 report:RpS m.report
theorem RpS.fits {r:Report} (h:RpS r):r.Fits:=⟨h.view.fits,h.state.fits,h.next.fits,h.proposal.fits⟩
theorem MsS.fits {m:Msg} (h:MsS m):m.Fits:=⟨by have:=h.req; omega,by have:=h.ids; omega,by have:=h.nodes; omega,fun x hx=>by have:=h.node x hx; omega,by have:=h.cores; omega,by have:=h.moves; omega,h.next.fits,h.state.fits,h.report.fits⟩
theorem JB (m:Msg) (k:Nat) (hk:m.kind=(k:Int)) (h1:1≤k) (h2:k≤17) (hv:0≤m.view∧m.view < 70) (hf:0≤m.frm∧m.frm < 4) (ht:0≤m.to∧m.to < 4) (hfs:(kf k).all (Zh m)=true) (hr:rest k m=true):Kk m=true:=by
 have e1:kindOk m.kind=true:=by simp only [kindOk,decide_eq_true_eq]; omega
 have e2:Jy m.view=true:=by simp only [Jy,decide_eq_true_eq]; omega
 have e3:m.kind.toNat=k:=by omega
 simp only [Kk,headOk,e1,e2,VQ hf,VQ ht,e3,hfs,hr,Bool.and_self]
theorem Zws (l:List Int) (f:List ZG) (n:Nat) (hf:FOk f n) (hn:n≤60) (m:Msg) :
  Ret (fun r=>∃ ns:List Y4,r=Znt { m with nodes:=ns }∧ns.length≤3∧(∀ x∈ns,ZF x=true)∧∀ x∈ns,x.path.length≤20) (Zbs Zx (Za l) (f.map Ze) 0 0 0 0 0 0 0 0 0 0 0 false 0 0 0 0 0 0 0 0 0 0 0 0 0 0 0 0 0 0 0 0 E0 0 0 0 0 0 0 false E0 E0 E0 E0 0 0 E0 E0 E0 E0 E0 E0 E0 E0 0 0 E0 E0 E0 E0 E0 E0 E0 E0 false 0 E0 E0 E0 E0 E0 E0 E0 E0 m.kind m.view m.frm m.to m.round m.region m.slot m.op.core m.op.op m.op.part m.err m.settled m.req.id.core m.req.id.op m.req.id.part m.req.call.kind m.req.call.slot m.req.call.dest m.req.call.core m.req.call.mask m.req.call.object m.req.call.bits m.req.call.level m.req.call.offset m.req.call.count m.req.call.index m.req.call.addr m.req.region m.req.width m.req.src.id.core m.req.src.id.op m.req.src.id.part (Zb m.req.src.path) m.req.src.cap.kind m.req.src.cap.base m.req.src.cap.bits m.req.src.cap.rights m.req.src.cap.width m.req.src.cap.level m.req.src.cap.device (Zb m.ids) E0 (Za m.cores) (m.moves.map Jw) m.base m.next.number (Za m.next.members) (Za m.next.owners) (m.state.slots.map Zg) (m.state.pending.map ZM) (m.state.marks.map Zk) (m.state.answers.map ZS) (m.state.entries.map Ze) (Zb m.state.commits) m.report.core m.report.view.number (Za m.report.view.members) (Za m.report.view.owners) (m.report.state.slots.map Zg) (m.report.state.pending.map ZM) (m.report.state.marks.map Zk) (m.report.state.answers.map ZS) (m.report.state.entries.map Ze) (Zb m.report.state.commits) m.report.ready m.report.next.number (Za m.report.next.members) (Za m.report.next.owners) (m.report.proposal.slots.map Zg) (m.report.proposal.pending.map ZM) (m.report.proposal.marks.map Zk) (m.report.proposal.answers.map ZS) (m.report.proposal.entries.map Ze) (Zb m.report.proposal.commits) 0):=by
 have hfl:=hf.len
 refine Yo (F:=fun k (s:LL) z=>Zbs k (Za l) (f.map Ze) 0 0 0 0 0 0 0 0 0 0 0 false 0 0 0 0 0 0 0 0 0 0 0 0 0 0 0 0 0 0 0 0 E0 0 0 0 0 0 0 false E0 E0 E0 E0 0 0 E0 E0 E0 E0 E0 E0 E0 E0 0 0 E0 E0 E0 E0 E0 E0 E0 E0 false 0 E0 E0 E0 E0 E0 E0 E0 E0 m.kind m.view m.frm m.to m.round m.region m.slot m.op.core m.op.op m.op.part m.err m.settled m.req.id.core m.req.id.op m.req.id.part m.req.call.kind m.req.call.slot m.req.call.dest m.req.call.core m.req.call.mask m.req.call.object m.req.call.bits m.req.call.level m.req.call.offset m.req.call.count m.req.call.index m.req.call.addr m.req.region m.req.width m.req.src.id.core m.req.src.id.op m.req.src.id.part (Zb m.req.src.path) m.req.src.cap.kind m.req.src.cap.base m.req.src.cap.bits m.req.src.cap.rights m.req.src.cap.width m.req.src.cap.level m.req.src.cap.device (Zb m.ids) s (Za m.cores) (m.moves.map Jw) m.base m.next.number (Za m.next.members) (Za m.next.owners) (m.state.slots.map Zg) (m.state.pending.map ZM) (m.state.marks.map Zk) (m.state.answers.map ZS) (m.state.entries.map Ze) (Zb m.state.commits) m.report.core m.report.view.number (Za m.report.view.members) (Za m.report.view.owners) (m.report.state.slots.map Zg) (m.report.state.pending.map ZM) (m.report.state.marks.map Zk) (m.report.state.answers.map ZS) (m.report.state.entries.map Ze) (Zb m.report.state.commits) m.report.ready m.report.next.number (Za m.report.next.members) (Za m.report.next.owners) (m.report.proposal.slots.map Zg) (m.report.proposal.pending.map ZM) (m.report.proposal.marks.map Zk) (m.report.proposal.answers.map ZS) (m.report.proposal.entries.map Ze) (Zb m.report.proposal.commits) z) 3 (fun i s=>∃ es:List Y4,s=es.map Ju∧es.length≤i∧(∀ x∈es,ZF x=true)∧∀ x∈es,x.path.length≤20) (by omega) (fun k i s hi hj ih=>?_) _ ⟨[],rfl,by simp,by simp,by simp⟩
 obtain ⟨es,rfl,h1,h2,h3⟩:=hj
 refine Zd (ZoZ ..) ?_
 refine Zc (Zv l _) fun _ _=>Zc (place _ 3 (by omega) (by omega)) fun r16 h16=>?_
 refine Zp (fun h4=>?_) fun _=>Zn ⟨es,rfl,by omega,h2,h3⟩
 refine Zp (fun h5=>?_) fun _=>Zn ⟨es,rfl,by omega,h2,h3⟩
 simp only [CQ,List.length_map] at h4 h5
 have hif:i < f.length:=by omega
 refine Zu (Zq (by simp; omega) (by omega)) ?_
 refine Zd (Zt hif _) ?_
 have hno:=(hf.all _ (List.getElem_mem hif)).ok
 have hp:=(Yf hno).2.2.1
 refine Z7 (s30 f[i].node (by omega)) ?_
 refine Zu (Zq (by simp; omega) (by omega)) ?_
 refine Zd (congrArg (fun z=>Zbs k (Za l) (f.map Ze) 0 0 0 0 0 0 0 0 0 0 0 false 0 0 0 0 0 0 0 0 0 0 0 0 0 0 0 0 0 0 0 0 E0 0 0 0 0 0 0 false E0 E0 E0 E0 0 0 E0 E0 E0 E0 E0 E0 E0 E0 0 0 E0 E0 E0 E0 E0 E0 E0 E0 false 0 E0 E0 E0 E0 E0 E0 E0 E0 m.kind m.view m.frm m.to m.round m.region m.slot m.op.core m.op.op m.op.part m.err m.settled m.req.id.core m.req.id.op m.req.id.part m.req.call.kind m.req.call.slot m.req.call.dest m.req.call.core m.req.call.mask m.req.call.object m.req.call.bits m.req.call.level m.req.call.offset m.req.call.count m.req.call.index m.req.call.addr m.req.region m.req.width m.req.src.id.core m.req.src.id.op m.req.src.id.part (Zb m.req.src.path) m.req.src.cap.kind m.req.src.cap.base m.req.src.cap.bits m.req.src.cap.rights m.req.src.cap.width m.req.src.cap.level m.req.src.cap.device (Zb m.ids) (es.map Ju++(E0++[Ju f[i].node])) (Za m.cores) (m.moves.map Jw) m.base m.next.number (Za m.next.members) (Za m.next.owners) (m.state.slots.map Zg) (m.state.pending.map ZM) (m.state.marks.map Zk) (m.state.answers.map ZS) (m.state.entries.map Ze) (Zb m.state.commits) m.report.core m.report.view.number (Za m.report.view.members) (Za m.report.view.owners) (m.report.state.slots.map Zg) (m.report.state.pending.map ZM) (m.report.state.marks.map Zk) (m.report.state.answers.map ZS) (m.report.state.entries.map Ze) (Zb m.report.state.commits) m.report.ready m.report.next.number (Za m.report.next.members) (Za m.report.next.owners) (m.report.proposal.slots.map Zg) (m.report.proposal.pending.map ZM) (m.report.proposal.marks.map Zk) (m.report.proposal.answers.map ZS) (m.report.proposal.entries.map Ze) (Zb m.report.proposal.commits) z) (Zed hi (by omega))) ?_
 exact ih (by omega) _ ⟨es++[f[i].node],(Ko Ju es f[i].node),by simp; omega,YL h2 hno,YL h3 (by omega)⟩
theorem Zwa (l:List Int) (m:Msg) :
  Ret (fun r=>∃ ns:List ZiY,r=Znt { m with moves:=ns }∧ns.length≤3∧(∀ x∈ns,Vc x=true)) (ZbN Zx (Za l) 0 0 0 0 0 0 0 0 0 0 0 false 0 0 0 0 0 0 0 0 0 0 0 0 0 0 0 0 0 0 0 0 E0 0 0 0 0 0 0 false E0 E0 E0 E0 0 0 E0 E0 E0 E0 E0 E0 E0 E0 0 0 E0 E0 E0 E0 E0 E0 E0 E0 false 0 E0 E0 E0 E0 E0 E0 E0 E0 m.kind m.view m.frm m.to m.round m.region m.slot m.op.core m.op.op m.op.part m.err m.settled m.req.id.core m.req.id.op m.req.id.part m.req.call.kind m.req.call.slot m.req.call.dest m.req.call.core m.req.call.mask m.req.call.object m.req.call.bits m.req.call.level m.req.call.offset m.req.call.count m.req.call.index m.req.call.addr m.req.region m.req.width m.req.src.id.core m.req.src.id.op m.req.src.id.part (Zb m.req.src.path) m.req.src.cap.kind m.req.src.cap.base m.req.src.cap.bits m.req.src.cap.rights m.req.src.cap.width m.req.src.cap.level m.req.src.cap.device (Zb m.ids) (m.nodes.map Ju) (Za m.cores) E0 m.base m.next.number (Za m.next.members) (Za m.next.owners) (m.state.slots.map Zg) (m.state.pending.map ZM) (m.state.marks.map Zk) (m.state.answers.map ZS) (m.state.entries.map Ze) (Zb m.state.commits) m.report.core m.report.view.number (Za m.report.view.members) (Za m.report.view.owners) (m.report.state.slots.map Zg) (m.report.state.pending.map ZM) (m.report.state.marks.map Zk) (m.report.state.answers.map ZS) (m.report.state.entries.map Ze) (Zb m.report.state.commits) m.report.ready m.report.next.number (Za m.report.next.members) (Za m.report.next.owners) (m.report.proposal.slots.map Zg) (m.report.proposal.pending.map ZM) (m.report.proposal.marks.map Zk) (m.report.proposal.answers.map ZS) (m.report.proposal.entries.map Ze) (Zb m.report.proposal.commits) 0):=by
 refine Yo (F:=fun k (s:LL) z=>ZbN k (Za l) 0 0 0 0 0 0 0 0 0 0 0 false 0 0 0 0 0 0 0 0 0 0 0 0 0 0 0 0 0 0 0 0 E0 0 0 0 0 0 0 false E0 E0 E0 E0 0 0 E0 E0 E0 E0 E0 E0 E0 E0 0 0 E0 E0 E0 E0 E0 E0 E0 E0 false 0 E0 E0 E0 E0 E0 E0 E0 E0 m.kind m.view m.frm m.to m.round m.region m.slot m.op.core m.op.op m.op.part m.err m.settled m.req.id.core m.req.id.op m.req.id.part m.req.call.kind m.req.call.slot m.req.call.dest m.req.call.core m.req.call.mask m.req.call.object m.req.call.bits m.req.call.level m.req.call.offset m.req.call.count m.req.call.index m.req.call.addr m.req.region m.req.width m.req.src.id.core m.req.src.id.op m.req.src.id.part (Zb m.req.src.path) m.req.src.cap.kind m.req.src.cap.base m.req.src.cap.bits m.req.src.cap.rights m.req.src.cap.width m.req.src.cap.level m.req.src.cap.device (Zb m.ids) (m.nodes.map Ju) (Za m.cores) s m.base m.next.number (Za m.next.members) (Za m.next.owners) (m.state.slots.map Zg) (m.state.pending.map ZM) (m.state.marks.map Zk) (m.state.answers.map ZS) (m.state.entries.map Ze) (Zb m.state.commits) m.report.core m.report.view.number (Za m.report.view.members) (Za m.report.view.owners) (m.report.state.slots.map Zg) (m.report.state.pending.map ZM) (m.report.state.marks.map Zk) (m.report.state.answers.map ZS) (m.report.state.entries.map Ze) (Zb m.report.state.commits) m.report.ready m.report.next.number (Za m.report.next.members) (Za m.report.next.owners) (m.report.proposal.slots.map Zg) (m.report.proposal.pending.map ZM) (m.report.proposal.marks.map Zk) (m.report.proposal.answers.map ZS) (m.report.proposal.entries.map Ze) (Zb m.report.proposal.commits) z) 3 (fun i s=>∃ es:List ZiY,s=es.map Jw∧es.length≤i∧(∀ x∈es,Vc x=true)) (by omega) (fun k i s hi hj ih=>?_) _ ⟨[],rfl,by simp,by simp⟩
 obtain ⟨es,rfl,h1,h2⟩:=hj
 refine Zd (Zot ..) ?_
 refine Zc (Zv l _) fun _ _=>Zc (place _ 3 (by omega) (by omega)) fun r16 h16=>?_
 refine Zp (fun h4=>?_) fun _=>Zn ⟨es,rfl,by omega,h2⟩
 simp only [CQ] at h4
 refine Zu (Zq (by simp; omega) (by omega)) ?_
 refine Zc (Zv l _) fun _ _=>Zc (place _ 3 (by omega) (by omega)) fun a ha=>?_
 refine Zc (Zv l _) fun _ _=>Zc (place _ 4 (by omega) (by omega)) fun b hb=>?_
 refine Zu (Zq (by simp; omega) (by omega)) ?_
 refine Zd (congrArg (fun z=>ZbN k (Za l) 0 0 0 0 0 0 0 0 0 0 0 false 0 0 0 0 0 0 0 0 0 0 0 0 0 0 0 0 0 0 0 0 E0 0 0 0 0 0 0 false E0 E0 E0 E0 0 0 E0 E0 E0 E0 E0 E0 E0 E0 0 0 E0 E0 E0 E0 E0 E0 E0 E0 false 0 E0 E0 E0 E0 E0 E0 E0 E0 m.kind m.view m.frm m.to m.round m.region m.slot m.op.core m.op.op m.op.part m.err m.settled m.req.id.core m.req.id.op m.req.id.part m.req.call.kind m.req.call.slot m.req.call.dest m.req.call.core m.req.call.mask m.req.call.object m.req.call.bits m.req.call.level m.req.call.offset m.req.call.count m.req.call.index m.req.call.addr m.req.region m.req.width m.req.src.id.core m.req.src.id.op m.req.src.id.part (Zb m.req.src.path) m.req.src.cap.kind m.req.src.cap.base m.req.src.cap.bits m.req.src.cap.rights m.req.src.cap.width m.req.src.cap.level m.req.src.cap.device (Zb m.ids) (m.nodes.map Ju) (Za m.cores) (es.map Jw++(E0++[Jw ⟨a,b⟩])) m.base m.next.number (Za m.next.members) (Za m.next.owners) (m.state.slots.map Zg) (m.state.pending.map ZM) (m.state.marks.map Zk) (m.state.answers.map ZS) (m.state.entries.map Ze) (Zb m.state.commits) m.report.core m.report.view.number (Za m.report.view.members) (Za m.report.view.owners) (m.report.state.slots.map Zg) (m.report.state.pending.map ZM) (m.report.state.marks.map Zk) (m.report.state.answers.map ZS) (m.report.state.entries.map Ze) (Zb m.report.state.commits) m.report.ready m.report.next.number (Za m.report.next.members) (Za m.report.next.owners) (m.report.proposal.slots.map Zg) (m.report.proposal.pending.map ZM) (m.report.proposal.marks.map Zk) (m.report.proposal.answers.map ZS) (m.report.proposal.entries.map Ze) (Zb m.report.proposal.commits) z) (Zed hi (by omega))) ?_
 refine ih (by omega) _ ⟨es++[⟨a,b⟩],(Ko Jw es ⟨a,b⟩),by simp; omega,YL h2 ?_⟩
 simp only [Vc,VQ hb,Z1,Bool.and_true,decide_eq_true_eq]
 omega
theorem s11 (kind:Int) (l:List Int) (hl:l.length < 2 ^ 63) (f:List ZG) (n:Nat) (hf:FOk f n) (hn:n≤60):Ret (fun r=>∃ m:Msg,r=Znt m∧Kk m=true∧MsS m) (g11 kind (Za l) (f.map Ze)):=by
 rw [ZuE]
 refine Zc (place _ 17 (by omega) (by omega)) fun r3 h3=>?_
 obtain ⟨kd,hkd⟩:∃ kd,kd=1+r3:=⟨_,rfl⟩
 have ek:iop .add .i64 1 r3=kd:=by rw [Kh (by omega) (by omega),hkd]
 rw [ek]
 refine Zc (Zv l _) fun _ _=>Zc (place _ 70 (by omega) (by omega)) fun v hv=>?_
 refine Zc (Zv l _) fun _ _=>Zc (place _ 4 (by omega) (by omega)) fun fr hfr=>?_
 refine Zc (Zv l _) fun _ _=>Zc (place _ 4 (by omega) (by omega)) fun to hto=>?_
 refine Zc (Zv l _) fun _ _=>Zc (s26 _) fun r ⟨i,hr,hio⟩=>?_
 subst hr
 have hfl:=hf.len
 refine Zp (fun h4=>?a) fun _=>?b
 case' a=>
  simp only [CQ,List.length_map] at h4
  rw [List.length_map]
  refine Zc (Zv l _) fun _ _=>Zc (place _ _ (by omega) (by omega)) fun z hz=>?_
  have hzl:z.toNat < f.length:=by omega
  refine KL hz.1 hzl ?_
  have hn0:=(hf.all _ (List.getElem_mem hzl)).ok
  generalize f[z.toNat]=e at hn0
  let nd:Y4:=e.node
  have hno:ZF nd=true:=hn0
 case' b=>
  let nd:Y4:=⟨i,[],⟨2,4096,12,3,0,0,false⟩⟩
  have hno:ZF nd=true:=ZhF _ _ (by have:=hio.ok; rw [Za2,Bool.and_eq_true] at this; exact this.1) (by kernel_rfl)
 all_goals
  have hpa:nd.path.length≤20:=by have:=(Yf hno).2.2.1; omega
  have hk17:kd=1∨kd=2∨kd=3∨kd=4∨kd=5∨kd=6∨kd=7∨kd=8∨kd=9∨kd=10∨kd=11∨kd=12∨kd=13∨kd=14∨kd=15∨kd=16∨kd=17:=by omega
  rcases hk17 with rfl | rfl | rfl | rfl | rfl | rfl | rfl | rfl | rfl | rfl | rfl | rfl | rfl | rfl | rfl | rfl | rfl
  ·refine Zd (if_pos (by kernel_rfl)) (Zc (Zv l _) fun _ _=>Zc (place _ 3 (by omega) (by omega)) fun rg hrg=>?_)
   have hrg':Z1 rg=true:=by simp only [Z1,decide_eq_true_eq]; omega
   refine Zd (if_neg (Jf (by kernel_rfl))) ?_
   refine Zd (if_pos (by kernel_rfl)) ?_
   refine Zc (s28 l 5 (by omega)) fun r ⟨l1,hr,hl1⟩=>?_
   subst hr
   refine Zc (s27 l1 nd hno hpa) fun r ⟨q,hr,⟨hqp,_⟩,hqo⟩=>?_
   subst hr
   exact Zn ⟨⟨1,v,fr,to,0,rg,0,zid,0,false,q,[],[],[],[],0,ZC,Zl,Zm⟩,rfl,JB ⟨1,v,fr,to,0,rg,0,zid,0,false,q,[],[],[],[],0,ZC,Zl,Zm⟩ 1 rfl (by decide) (by decide) hv hfr hto (by simp only [kf,List.all_cons,List.all_nil,Zh,decide_true,Bool.and_true,Bool.true_and,Bool.or_true,Bool.true_or,List.length_cons,List.length_nil,ne_eq,not_true_eq_false,not_false_eq_true,hrg',hqo]) (by kernel_rfl),⟨hqp,by simp,by simp,by simp,by simp,by simp,Va,K6,Wb⟩⟩
  ·refine Zd (if_pos (by kernel_rfl)) (Zc (Zv l _) fun _ _=>Zc (place _ 3 (by omega) (by omega)) fun rg hrg=>?_)
   have hrg':Z1 rg=true:=by simp only [Z1,decide_eq_true_eq]; omega
   refine Zd (if_pos (by kernel_rfl)) (Zc (Zv l _) fun _ _=>Zc (s26 _) fun r ⟨op,hr,hop⟩=>?_)
   subst hr
   refine Zd (if_neg (Jf (by kernel_rfl))) ?_
   refine Zd (if_pos (by kernel_rfl)) ?_
   refine Zc (Zv l 6) fun _ _=>Zc (place _ 20 (by omega) (by omega)) fun er her=>?_
   have her':ZcD er=true:=by simp only [ZcD,decide_eq_true_eq]; omega
   refine Zc (Zv l 7) fun _ _=>Zc (place _ 2 (by omega) (by omega)) fun st hst=>?_
   refine Zjd (Zws l f n hf hn ⟨2,v,fr,to,0,rg,0,op,er,(cop .eql st 1),Z5,[],[],[],[],0,ZC,Zl,Zm⟩) fun r ⟨ns,hr,hn1,hn2,hn3⟩=>?_
   exact ⟨⟨2,v,fr,to,0,rg,0,op,er,(cop .eql st 1),Z5,[],ns,[],[],0,ZC,Zl,Zm⟩,hr,JB ⟨2,v,fr,to,0,rg,0,op,er,(cop .eql st 1),Z5,[],ns,[],[],0,ZC,Zl,Zm⟩ 2 rfl (by decide) (by decide) hv hfr hto (by simp only [kf,List.all_cons,List.all_nil,Zh,decide_true,Bool.and_true,Bool.true_and,Bool.or_true,Bool.true_or,List.length_cons,List.length_nil,ne_eq,not_true_eq_false,not_false_eq_true,hrg',hop.ok,her',List.all_eq_true.2 hn2,show ns.length≤8 by omega,show ¬ ((2:Int)=4) by decide]) (by kernel_rfl),⟨by simp [Z5,ZX],by simp,hn1,hn3,by simp,by simp,Va,K6,Wb⟩⟩
  ·refine Zd (if_pos (by kernel_rfl)) (Zc (Zv l _) fun _ _=>Zc (place _ 3 (by omega) (by omega)) fun rg hrg=>?_)
   have hrg':Z1 rg=true:=by simp only [Z1,decide_eq_true_eq]; omega
   refine Zd (if_pos (by kernel_rfl)) (Zc (Zv l _) fun _ _=>Zc (s26 _) fun r ⟨op,hr,hop⟩=>?_)
   subst hr
   refine Zd (if_neg (Jf (by kernel_rfl))) ?_
   refine Zd (if_neg (Jf (by kernel_rfl))) ?_
   refine Zd (if_neg (Jf (by kernel_rfl))) ?_
   refine Zd (if_neg (Jf (by kernel_rfl))) ?_
   refine Zd (if_neg (Jf (by kernel_rfl))) ?_
   refine Zd (if_neg (Jf (by kernel_rfl))) ?_
   refine Zd (if_neg (Jf (by kernel_rfl))) ?_
   refine Zd (if_neg (Jf (by kernel_rfl))) ?_
   refine Zd (if_neg (Jf (by kernel_rfl))) ?_
   exact Zn ⟨⟨3,v,fr,to,0,rg,0,op,0,false,Z5,[],[],[],[],0,ZC,Zl,Zm⟩,rfl,JB ⟨3,v,fr,to,0,rg,0,op,0,false,Z5,[],[],[],[],0,ZC,Zl,Zm⟩ 3 rfl (by decide) (by decide) hv hfr hto (by simp only [kf,List.all_cons,List.all_nil,Zh,decide_true,Bool.and_true,Bool.true_and,Bool.or_true,Bool.true_or,List.length_cons,List.length_nil,ne_eq,not_true_eq_false,not_false_eq_true,hrg',hop.ok]) (by kernel_rfl),⟨by simp [Z5,ZX],by simp,by simp,by simp,by simp,by simp,Va,K6,Wb⟩⟩
  ·refine Zd (if_pos (by kernel_rfl)) (Zc (Zv l _) fun _ _=>Zc (place _ 3 (by omega) (by omega)) fun rg hrg=>?_)
   have hrg':Z1 rg=true:=by simp only [Z1,decide_eq_true_eq]; omega
   refine Zd (if_pos (by kernel_rfl)) (Zc (Zv l _) fun _ _=>Zc (s26 _) fun r ⟨op,hr,hop⟩=>?_)
   subst hr
   refine Zd (if_neg (Jf (by kernel_rfl))) ?_
   refine Zd (if_neg (Jf (by kernel_rfl))) ?_
   refine Zd (if_pos (by kernel_rfl)) ?_
   refine Zc (Zv l 6) fun _ _=>Zc (place _ 12 (by omega) (by omega)) fun sl hsl=>?_
   have hsl':Jl sl=true:=by simp only [Jl,decide_eq_true_eq]; omega
   refine Z7 (s30 nd (Nat.le_trans hpa (by decide))) ?_
   exact Zn ⟨⟨4,v,fr,to,0,rg,sl,op,0,false,Z5,[],[nd],[],[],0,ZC,Zl,Zm⟩,rfl,JB ⟨4,v,fr,to,0,rg,sl,op,0,false,Z5,[],[nd],[],[],0,ZC,Zl,Zm⟩ 4 rfl (by decide) (by decide) hv hfr hto (by simp only [kf,List.all_cons,List.all_nil,Zh,decide_true,Bool.and_true,Bool.true_and,Bool.or_true,Bool.true_or,List.length_cons,List.length_nil,ne_eq,not_true_eq_false,not_false_eq_true,hrg',hop.ok,hsl',hno]; rfl) (by kernel_rfl),⟨by simp [Z5,ZX],by simp,by simp,by intro x hx; rw [List.mem_singleton] at hx; subst hx; exact hpa,by simp,by simp,Va,K6,Wb⟩⟩
  ·refine Zd (if_pos (by kernel_rfl)) (Zc (Zv l _) fun _ _=>Zc (place _ 3 (by omega) (by omega)) fun rg hrg=>?_)
   have hrg':Z1 rg=true:=by simp only [Z1,decide_eq_true_eq]; omega
   refine Zd (if_pos (by kernel_rfl)) (Zc (Zv l _) fun _ _=>Zc (s26 _) fun r ⟨op,hr,hop⟩=>?_)
   subst hr
   refine Zd (if_neg (Jf (by kernel_rfl))) ?_
   refine Zd (if_neg (Jf (by kernel_rfl))) ?_
   refine Zd (if_neg (Jf (by kernel_rfl))) ?_
   refine Zd (if_pos (by kernel_rfl)) ?_
   refine Zc (Zv l 6) fun _ _=>Zc (place _ 20 (by omega) (by omega)) fun er her=>?_
   have her':ZcD er=true:=by simp only [ZcD,decide_eq_true_eq]; omega
   exact Zn ⟨⟨5,v,fr,to,0,rg,0,op,er,false,Z5,[],[],[],[],0,ZC,Zl,Zm⟩,rfl,JB ⟨5,v,fr,to,0,rg,0,op,er,false,Z5,[],[],[],[],0,ZC,Zl,Zm⟩ 5 rfl (by decide) (by decide) hv hfr hto (by simp only [kf,List.all_cons,List.all_nil,Zh,decide_true,Bool.and_true,Bool.true_and,Bool.or_true,Bool.true_or,List.length_cons,List.length_nil,ne_eq,not_true_eq_false,not_false_eq_true,hrg',hop.ok,her']) (by kernel_rfl),⟨by simp [Z5,ZX],by simp,by simp,by simp,by simp,by simp,Va,K6,Wb⟩⟩
  ·refine Zd (if_pos (by kernel_rfl)) (Zc (Zv l _) fun _ _=>Zc (place _ 3 (by omega) (by omega)) fun rg hrg=>?_)
   have hrg':Z1 rg=true:=by simp only [Z1,decide_eq_true_eq]; omega
   refine Zd (if_pos (by kernel_rfl)) (Zc (Zv l _) fun _ _=>Zc (s26 _) fun r ⟨op,hr,hop⟩=>?_)
   subst hr
   refine Zd (if_neg (Jf (by kernel_rfl))) ?_
   refine Zd (if_neg (Jf (by kernel_rfl))) ?_
   refine Zd (if_neg (Jf (by kernel_rfl))) ?_
   refine Zd (if_neg (Jf (by kernel_rfl))) ?_
   refine Zd (if_pos (by kernel_rfl)) ?_
   refine Zc (s28 l 6 (by omega)) fun r ⟨l1,hr,hl1⟩=>?_
   subst hr
   refine Zc (s31 l1 (by omega)) fun r ⟨is,hr,hi1,hi2⟩=>?_
   subst hr
   exact Zn ⟨⟨6,v,fr,to,0,rg,0,op,0,false,Z5,is,[],[],[],0,ZC,Zl,Zm⟩,rfl,JB ⟨6,v,fr,to,0,rg,0,op,0,false,Z5,is,[],[],[],0,ZC,Zl,Zm⟩ 6 rfl (by decide) (by decide) hv hfr hto (by simp only [kf,List.all_cons,List.all_nil,Zh,decide_true,Bool.and_true,Bool.true_and,Bool.or_true,Bool.true_or,List.length_cons,List.length_nil,ne_eq,not_true_eq_false,not_false_eq_true,hrg',hop.ok,List.all_eq_true.2 hi2,show is.length≤64 by omega]) (by kernel_rfl),⟨by simp [Z5,ZX],hi1,by simp,by simp,by simp,by simp,Va,K6,Wb⟩⟩
  ·refine Zd (if_pos (by kernel_rfl)) (Zc (Zv l _) fun _ _=>Zc (place _ 3 (by omega) (by omega)) fun rg hrg=>?_)
   have hrg':Z1 rg=true:=by simp only [Z1,decide_eq_true_eq]; omega
   refine Zd (if_pos (by kernel_rfl)) (Zc (Zv l _) fun _ _=>Zc (s26 _) fun r ⟨op,hr,hop⟩=>?_)
   subst hr
   refine Zd (if_neg (Jf (by kernel_rfl))) ?_
   refine Zd (if_neg (Jf (by kernel_rfl))) ?_
   refine Zd (if_neg (Jf (by kernel_rfl))) ?_
   refine Zd (if_neg (Jf (by kernel_rfl))) ?_
   refine Zd (if_neg (Jf (by kernel_rfl))) ?_
   refine Zd (if_neg (Jf (by kernel_rfl))) ?_
   refine Zd (if_neg (Jf (by kernel_rfl))) ?_
   refine Zd (if_neg (Jf (by kernel_rfl))) ?_
   refine Zd (if_neg (Jf (by kernel_rfl))) ?_
   exact Zn ⟨⟨7,v,fr,to,0,rg,0,op,0,false,Z5,[],[],[],[],0,ZC,Zl,Zm⟩,rfl,JB ⟨7,v,fr,to,0,rg,0,op,0,false,Z5,[],[],[],[],0,ZC,Zl,Zm⟩ 7 rfl (by decide) (by decide) hv hfr hto (by simp only [kf,List.all_cons,List.all_nil,Zh,decide_true,Bool.and_true,Bool.true_and,Bool.or_true,Bool.true_or,List.length_cons,List.length_nil,ne_eq,not_true_eq_false,not_false_eq_true,hrg',hop.ok]) (by kernel_rfl),⟨by simp [Z5,ZX],by simp,by simp,by simp,by simp,by simp,Va,K6,Wb⟩⟩
  ·refine Zd (if_pos (by kernel_rfl)) (Zc (Zv l _) fun _ _=>Zc (place _ 3 (by omega) (by omega)) fun rg hrg=>?_)
   have hrg':Z1 rg=true:=by simp only [Z1,decide_eq_true_eq]; omega
   refine Zd (if_pos (by kernel_rfl)) (Zc (Zv l _) fun _ _=>Zc (s26 _) fun r ⟨op,hr,hop⟩=>?_)
   subst hr
   refine Zd (if_neg (Jf (by kernel_rfl))) ?_
   refine Zd (if_neg (Jf (by kernel_rfl))) ?_
   refine Zd (if_neg (Jf (by kernel_rfl))) ?_
   refine Zd (if_neg (Jf (by kernel_rfl))) ?_
   refine Zd (if_neg (Jf (by kernel_rfl))) ?_
   refine Zd (if_neg (Jf (by kernel_rfl))) ?_
   refine Zd (if_neg (Jf (by kernel_rfl))) ?_
   refine Zd (if_neg (Jf (by kernel_rfl))) ?_
   refine Zd (if_neg (Jf (by kernel_rfl))) ?_
   exact Zn ⟨⟨8,v,fr,to,0,rg,0,op,0,false,Z5,[],[],[],[],0,ZC,Zl,Zm⟩,rfl,JB ⟨8,v,fr,to,0,rg,0,op,0,false,Z5,[],[],[],[],0,ZC,Zl,Zm⟩ 8 rfl (by decide) (by decide) hv hfr hto (by simp only [kf,List.all_cons,List.all_nil,Zh,decide_true,Bool.and_true,Bool.true_and,Bool.or_true,Bool.true_or,List.length_cons,List.length_nil,ne_eq,not_true_eq_false,not_false_eq_true,hrg',hop.ok]) (by kernel_rfl),⟨by simp [Z5,ZX],by simp,by simp,by simp,by simp,by simp,Va,K6,Wb⟩⟩
  ·refine Zd (if_pos (by kernel_rfl)) (Zc (Zv l _) fun _ _=>Zc (place _ 3 (by omega) (by omega)) fun rg hrg=>?_)
   have hrg':Z1 rg=true:=by simp only [Z1,decide_eq_true_eq]; omega
   refine Zd (if_pos (by kernel_rfl)) (Zc (Zv l _) fun _ _=>Zc (s26 _) fun r ⟨op,hr,hop⟩=>?_)
   subst hr
   refine Zd (if_neg (Jf (by kernel_rfl))) ?_
   refine Zd (if_neg (Jf (by kernel_rfl))) ?_
   refine Zd (if_neg (Jf (by kernel_rfl))) ?_
   refine Zd (if_neg (Jf (by kernel_rfl))) ?_
   refine Zd (if_neg (Jf (by kernel_rfl))) ?_
   refine Zd (if_neg (Jf (by kernel_rfl))) ?_
   refine Zd (if_neg (Jf (by kernel_rfl))) ?_
   refine Zd (if_neg (Jf (by kernel_rfl))) ?_
   refine Zd (if_neg (Jf (by kernel_rfl))) ?_
   exact Zn ⟨⟨9,v,fr,to,0,rg,0,op,0,false,Z5,[],[],[],[],0,ZC,Zl,Zm⟩,rfl,JB ⟨9,v,fr,to,0,rg,0,op,0,false,Z5,[],[],[],[],0,ZC,Zl,Zm⟩ 9 rfl (by decide) (by decide) hv hfr hto (by simp only [kf,List.all_cons,List.all_nil,Zh,decide_true,Bool.and_true,Bool.true_and,Bool.or_true,Bool.true_or,List.length_cons,List.length_nil,ne_eq,not_true_eq_false,not_false_eq_true,hrg',hop.ok]) (by kernel_rfl),⟨by simp [Z5,ZX],by simp,by simp,by simp,by simp,by simp,Va,K6,Wb⟩⟩
  ·refine Zd (if_pos (by kernel_rfl)) (Zc (Zv l _) fun _ _=>Zc (place _ 3 (by omega) (by omega)) fun rg hrg=>?_)
   have hrg':Z1 rg=true:=by simp only [Z1,decide_eq_true_eq]; omega
   refine Zd (if_pos (by kernel_rfl)) (Zc (Zv l _) fun _ _=>Zc (s26 _) fun r ⟨op,hr,hop⟩=>?_)
   subst hr
   refine Zd (if_neg (Jf (by kernel_rfl))) ?_
   refine Zd (if_neg (Jf (by kernel_rfl))) ?_
   refine Zd (if_neg (Jf (by kernel_rfl))) ?_
   refine Zd (if_neg (Jf (by kernel_rfl))) ?_
   refine Zd (if_neg (Jf (by kernel_rfl))) ?_
   refine Zd (if_neg (Jf (by kernel_rfl))) ?_
   refine Zd (if_neg (Jf (by kernel_rfl))) ?_
   refine Zd (if_neg (Jf (by kernel_rfl))) ?_
   refine Zd (if_neg (Jf (by kernel_rfl))) ?_
   exact Zn ⟨⟨10,v,fr,to,0,rg,0,op,0,false,Z5,[],[],[],[],0,ZC,Zl,Zm⟩,rfl,JB ⟨10,v,fr,to,0,rg,0,op,0,false,Z5,[],[],[],[],0,ZC,Zl,Zm⟩ 10 rfl (by decide) (by decide) hv hfr hto (by simp only [kf,List.all_cons,List.all_nil,Zh,decide_true,Bool.and_true,Bool.true_and,Bool.or_true,Bool.true_or,List.length_cons,List.length_nil,ne_eq,not_true_eq_false,not_false_eq_true,hrg',hop.ok]) (by kernel_rfl),⟨by simp [Z5,ZX],by simp,by simp,by simp,by simp,by simp,Va,K6,Wb⟩⟩
  ·refine Zd (if_pos (by kernel_rfl)) (Zc (Zv l _) fun _ _=>Zc (place _ 3 (by omega) (by omega)) fun rg hrg=>?_)
   have hrg':Z1 rg=true:=by simp only [Z1,decide_eq_true_eq]; omega
   refine Zd (if_pos (by kernel_rfl)) (Zc (Zv l _) fun _ _=>Zc (s26 _) fun r ⟨op,hr,hop⟩=>?_)
   subst hr
   refine Zd (if_neg (Jf (by kernel_rfl))) ?_
   refine Zd (if_neg (Jf (by kernel_rfl))) ?_
   refine Zd (if_neg (Jf (by kernel_rfl))) ?_
   refine Zd (if_neg (Jf (by kernel_rfl))) ?_
   refine Zd (if_neg (Jf (by kernel_rfl))) ?_
   refine Zd (if_neg (Jf (by kernel_rfl))) ?_
   refine Zd (if_neg (Jf (by kernel_rfl))) ?_
   refine Zd (if_neg (Jf (by kernel_rfl))) ?_
   refine Zd (if_neg (Jf (by kernel_rfl))) ?_
   exact Zn ⟨⟨11,v,fr,to,0,rg,0,op,0,false,Z5,[],[],[],[],0,ZC,Zl,Zm⟩,rfl,JB ⟨11,v,fr,to,0,rg,0,op,0,false,Z5,[],[],[],[],0,ZC,Zl,Zm⟩ 11 rfl (by decide) (by decide) hv hfr hto (by simp only [kf,List.all_cons,List.all_nil,Zh,decide_true,Bool.and_true,Bool.true_and,Bool.or_true,Bool.true_or,List.length_cons,List.length_nil,ne_eq,not_true_eq_false,not_false_eq_true,hrg',hop.ok]) (by kernel_rfl),⟨by simp [Z5,ZX],by simp,by simp,by simp,by simp,by simp,Va,K6,Wb⟩⟩
  ·refine Zd (if_neg (Jf (by kernel_rfl))) (Zd (if_pos (by kernel_rfl)) (Zc (Zv l _) fun _ _=>Zc (place _ 5 (by omega) (by omega)) fun rnd hrnd=>?_))
   have hrnd':Jy rnd=true:=by simp only [Jy,decide_eq_true_eq]; omega
   refine Zd (if_neg (Jf (by kernel_rfl))) ?_
   refine Zd (if_neg (Jf (by kernel_rfl))) ?_
   refine Zd (if_neg (Jf (by kernel_rfl))) ?_
   refine Zd (if_neg (Jf (by kernel_rfl))) ?_
   refine Zd (if_neg (Jf (by kernel_rfl))) ?_
   refine Zd (if_pos (by kernel_rfl)) ?_
   refine Zc (Zv l 6) fun _ _=>Zc (s32 _) fun r ⟨cs,hr,hc1,hc2⟩=>?_
   subst hr
   exact Zn ⟨⟨12,v,fr,to,rnd,0,0,zid,0,false,Z5,[],[],cs,[],0,ZC,Zl,Zm⟩,rfl,JB ⟨12,v,fr,to,rnd,0,0,zid,0,false,Z5,[],[],cs,[],0,ZC,Zl,Zm⟩ 12 rfl (by decide) (by decide) hv hfr hto (by simp only [kf,List.all_cons,List.all_nil,Zh,decide_true,Bool.and_true,Bool.true_and,Bool.or_true,Bool.true_or,List.length_cons,List.length_nil,ne_eq,not_true_eq_false,not_false_eq_true,hrnd',hc2]) (by kernel_rfl),⟨by simp [Z5,ZX],by simp,by simp,by simp,hc1,by simp,Va,K6,Wb⟩⟩
  ·refine Zd (if_neg (Jf (by kernel_rfl))) (Zd (if_pos (by kernel_rfl)) (Zc (Zv l _) fun _ _=>Zc (place _ 5 (by omega) (by omega)) fun rnd hrnd=>?_))
   have hrnd':Jy rnd=true:=by simp only [Jy,decide_eq_true_eq]; omega
   refine Zd (if_neg (Jf (by kernel_rfl))) ?_
   refine Zd (if_neg (Jf (by kernel_rfl))) ?_
   refine Zd (if_neg (Jf (by kernel_rfl))) ?_
   refine Zd (if_neg (Jf (by kernel_rfl))) ?_
   refine Zd (if_neg (Jf (by kernel_rfl))) ?_
   refine Zd (if_neg (Jf (by kernel_rfl))) ?_
   refine Zd (if_pos (by kernel_rfl)) ?_
   refine Zc (s28 l 6 (by omega)) fun r ⟨l1,hr,hl1⟩=>?_
   subst hr
   refine Zc (s33 l1 f n hf hn) fun r ⟨p,hr,hp⟩=>?_
   subst hr
   exact Zn ⟨⟨13,v,fr,to,rnd,0,0,zid,0,false,Z5,[],[],[],[],0,ZC,Zl,p⟩,rfl,JB ⟨13,v,fr,to,rnd,0,0,zid,0,false,Z5,[],[],[],[],0,ZC,Zl,p⟩ 13 rfl (by decide) (by decide) hv hfr hto (by simp only [kf,List.all_cons,List.all_nil,Zh,decide_true,Bool.and_true,Bool.true_and,Bool.or_true,Bool.true_or,List.length_cons,List.length_nil,ne_eq,not_true_eq_false,not_false_eq_true,hrnd',hp.ok]) (by kernel_rfl),⟨by simp [Z5,ZX],by simp,by simp,by simp,by simp,by simp,Va,K6,hp⟩⟩
  ·refine Zd (if_neg (Jf (by kernel_rfl))) (Zd (if_pos (by kernel_rfl)) (Zc (Zv l _) fun _ _=>Zc (place _ 5 (by omega) (by omega)) fun rnd hrnd=>?_))
   have hrnd':Jy rnd=true:=by simp only [Jy,decide_eq_true_eq]; omega
   refine Zd (if_neg (Jf (by kernel_rfl))) ?_
   refine Zd (if_neg (Jf (by kernel_rfl))) ?_
   refine Zd (if_neg (Jf (by kernel_rfl))) ?_
   refine Zd (if_neg (Jf (by kernel_rfl))) ?_
   refine Zd (if_neg (Jf (by kernel_rfl))) ?_
   refine Zd (if_neg (Jf (by kernel_rfl))) ?_
   refine Zd (if_neg (Jf (by kernel_rfl))) ?_
   refine Zd (if_pos (by kernel_rfl)) ?_
   refine Zc (Zv l 5) fun _ _=>Zc (place _ 70 (by omega) (by omega)) fun bs hbs=>?_
   have hbs':Jy bs=true:=by simp only [Jy,decide_eq_true_eq]; omega
   refine Zc (Zv l 6) fun _ _=>Zc (s32 _) fun r ⟨cs,hr,hc1,hc2⟩=>?_
   subst hr
   refine Zc (s28 l 7 (by omega)) fun r ⟨l1,hr,hl1⟩=>?_
   subst hr
   refine Zc (s34 l1) fun r ⟨nv,hr,hnv⟩=>?_
   subst hr
   refine Zc (s28 l 8 (by omega)) fun r ⟨l2,hr,hl2⟩=>?_
   subst hr
   refine Zc (Zv l 9) fun _ _=>Zc (place _ 4 (by omega) (by omega)) fun c9 hc9=>?_
   refine Zc (s10 l2 f n hf hn c9) fun r ⟨ss,hr,hss⟩=>?_
   subst hr
   exact Zn ⟨⟨14,v,fr,to,rnd,0,0,zid,0,false,Z5,[],[],cs,[],bs,nv,ss,Zm⟩,rfl,JB ⟨14,v,fr,to,rnd,0,0,zid,0,false,Z5,[],[],cs,[],bs,nv,ss,Zm⟩ 14 rfl (by decide) (by decide) hv hfr hto (by simp only [kf,List.all_cons,List.all_nil,Zh,decide_true,Bool.and_true,Bool.true_and,Bool.or_true,Bool.true_or,List.length_cons,List.length_nil,ne_eq,not_true_eq_false,not_false_eq_true,hrnd',hbs',hc2,hnv.ok,hss.ok]) (by kernel_rfl),⟨by simp [Z5,ZX],by simp,by simp,by simp,hc1,by simp,hnv,hss.short hf,Wb⟩⟩
  ·refine Zd (if_neg (Jf (by kernel_rfl))) (Zd (if_pos (by kernel_rfl)) (Zc (Zv l _) fun _ _=>Zc (place _ 5 (by omega) (by omega)) fun rnd hrnd=>?_))
   have hrnd':Jy rnd=true:=by simp only [Jy,decide_eq_true_eq]; omega
   refine Zd (if_neg (Jf (by kernel_rfl))) ?_
   refine Zd (if_neg (Jf (by kernel_rfl))) ?_
   refine Zd (if_neg (Jf (by kernel_rfl))) ?_
   refine Zd (if_neg (Jf (by kernel_rfl))) ?_
   refine Zd (if_neg (Jf (by kernel_rfl))) ?_
   refine Zd (if_neg (Jf (by kernel_rfl))) ?_
   refine Zd (if_neg (Jf (by kernel_rfl))) ?_
   refine Zd (if_neg (Jf (by kernel_rfl))) ?_
   refine Zd (if_neg (Jf (by kernel_rfl))) ?_
   exact Zn ⟨⟨15,v,fr,to,rnd,0,0,zid,0,false,Z5,[],[],[],[],0,ZC,Zl,Zm⟩,rfl,JB ⟨15,v,fr,to,rnd,0,0,zid,0,false,Z5,[],[],[],[],0,ZC,Zl,Zm⟩ 15 rfl (by decide) (by decide) hv hfr hto (by simp only [kf,List.all_cons,List.all_nil,Zh,decide_true,Bool.and_true,Bool.true_and,Bool.or_true,Bool.true_or,List.length_cons,List.length_nil,ne_eq,not_true_eq_false,not_false_eq_true,hrnd']) (by kernel_rfl),⟨by simp [Z5,ZX],by simp,by simp,by simp,by simp,by simp,Va,K6,Wb⟩⟩
  ·refine Zd (if_neg (Jf (by kernel_rfl))) (Zd (if_pos (by kernel_rfl)) (Zc (Zv l _) fun _ _=>Zc (place _ 5 (by omega) (by omega)) fun rnd hrnd=>?_))
   have hrnd':Jy rnd=true:=by simp only [Jy,decide_eq_true_eq]; omega
   refine Zd (if_neg (Jf (by kernel_rfl))) ?_
   refine Zd (if_neg (Jf (by kernel_rfl))) ?_
   refine Zd (if_neg (Jf (by kernel_rfl))) ?_
   refine Zd (if_neg (Jf (by kernel_rfl))) ?_
   refine Zd (if_neg (Jf (by kernel_rfl))) ?_
   refine Zd (if_neg (Jf (by kernel_rfl))) ?_
   refine Zd (if_neg (Jf (by kernel_rfl))) ?_
   refine Zd (if_neg (Jf (by kernel_rfl))) ?_
   refine Zd (if_neg (Jf (by kernel_rfl))) ?_
   exact Zn ⟨⟨16,v,fr,to,rnd,0,0,zid,0,false,Z5,[],[],[],[],0,ZC,Zl,Zm⟩,rfl,JB ⟨16,v,fr,to,rnd,0,0,zid,0,false,Z5,[],[],[],[],0,ZC,Zl,Zm⟩ 16 rfl (by decide) (by decide) hv hfr hto (by simp only [kf,List.all_cons,List.all_nil,Zh,decide_true,Bool.and_true,Bool.true_and,Bool.or_true,Bool.true_or,List.length_cons,List.length_nil,ne_eq,not_true_eq_false,not_false_eq_true,hrnd']) (by kernel_rfl),⟨by simp [Z5,ZX],by simp,by simp,by simp,by simp,by simp,Va,K6,Wb⟩⟩
  ·refine Zd (if_neg (Jf (by kernel_rfl))) (Zd (if_neg (Jf (by kernel_rfl))) ?_)
   refine Zd (if_neg (Jf (by kernel_rfl))) ?_
   refine Zd (if_neg (Jf (by kernel_rfl))) ?_
   refine Zd (if_neg (Jf (by kernel_rfl))) ?_
   refine Zd (if_neg (Jf (by kernel_rfl))) ?_
   refine Zd (if_neg (Jf (by kernel_rfl))) ?_
   refine Zd (if_neg (Jf (by kernel_rfl))) ?_
   refine Zd (if_neg (Jf (by kernel_rfl))) ?_
   refine Zd (if_neg (Jf (by kernel_rfl))) ?_
   refine Zd (if_pos (by kernel_rfl)) ?_
   refine Zc (Zv l 6) fun _ _=>Zc (s32 _) fun r ⟨cs,hr,hc1,hc2⟩=>?_
   subst hr
   refine Zjd (Zwa l ⟨17,v,fr,to,0,0,0,zid,0,false,Z5,[],[],cs,[],0,ZC,Zl,Zm⟩) fun r ⟨ns,hr,hn1,hn2⟩=>?_
   exact ⟨⟨17,v,fr,to,0,0,0,zid,0,false,Z5,[],[],cs,ns,0,ZC,Zl,Zm⟩,hr,JB ⟨17,v,fr,to,0,0,0,zid,0,false,Z5,[],[],cs,ns,0,ZC,Zl,Zm⟩ 17 rfl (by decide) (by decide) hv hfr hto (by simp only [kf,List.all_cons,List.all_nil,Zh,decide_true,Bool.and_true,Bool.true_and,Bool.or_true,Bool.true_or,List.length_cons,List.length_nil,ne_eq,not_true_eq_false,not_false_eq_true,hc2,List.all_eq_true.2 hn2,show ns.length≤16 by omega]) (by kernel_rfl),⟨by simp [Z5,ZX],by simp,by simp,by simp,hc1,hn1,Va,K6,Wb⟩⟩
end Go.Proofs.YtljejgmcgddppaaGreat
end

section
namespace Go.Proofs.YtljejgmcgddppaaGreat
open Go Go.AM
set_option linter.unusedSimpArgs false
set_option linter.unusedVariables false
set_option maxRecDepth 100000
theorem Zgz:Ret (fun r=>r=true) ((g7).bind fun (r:Bool)=>some (r)):=Z7 s7 (Zn rfl)
theorem s3 (c0:Int) (l:List Int) (sts:List Zpy) (hn:sts.length < 2 ^ 63) (kind:Int) (z:List Int) (to:Int):g3 c0 (Za l) (sts.map Zac) kind (Za z) to=some true:=by
 have key:Ret (fun r=>r=true) (g3 c0 (Za l) (sts.map Zac) kind (Za z) to):=by
  rw [Zwc]
  refine Zp (fun _=>Zgz) fun _=>Zp (fun _=>Zgz) fun hz0=>?_
  have hz:z.length < 2 ^ 63:=by simp only [CQ,ZJ] at hz0; omega
  refine Zc (s8 sts hn) fun r ⟨f,hf,hr⟩=>?_
  subst hr
  refine Zc (place c0 4 (by omega) (by omega)) fun c hc=>?_
  refine Zc (s10 l f 30 hf (by omega) c) fun r ⟨s,hr,hs⟩=>?_
  subst hr
  refine Zc (s11 kind z hz f 30 hf (by omega)) fun r ⟨m,hr,hv,hm⟩=>?_
  subst hr
  refine Zc (place to 8 (by omega) (by omega)) fun _ _=>?_
  have hfl:=hf.len
  have hmk:=hs.marks
  have few:=hs.few hf
  have fin:∀ m':Msg,m'.Fits→Ret (fun r=>r=true) ((g13 c (s.slots.map Zg) (s.marks.map Zk) m'.kind m'.view m'.frm m'.to m'.round m'.region m'.slot m'.op.core m'.op.op m'.op.part m'.err m'.settled m'.req.id.core m'.req.id.op m'.req.id.part m'.req.call.kind m'.req.call.slot m'.req.call.dest m'.req.call.core m'.req.call.mask m'.req.call.object m'.req.call.bits m'.req.call.level m'.req.call.offset m'.req.call.count m'.req.call.index m'.req.call.addr m'.req.region m'.req.width m'.req.src.id.core m'.req.src.id.op m'.req.src.id.part (Zb m'.req.src.path) m'.req.src.cap.kind m'.req.src.cap.base m'.req.src.cap.bits m'.req.src.cap.rights m'.req.src.cap.width m'.req.src.cap.level m'.req.src.cap.device (Zb m'.ids) (m'.nodes.map Ju) (Za m'.cores) (m'.moves.map Jw) m'.base m'.next.number (Za m'.next.members) (Za m'.next.owners) (m'.state.slots.map Zg) (m'.state.pending.map ZM) (m'.state.marks.map Zk) (m'.state.answers.map ZS) (m'.state.entries.map Ze) (Zb m'.state.commits) m'.report.core m'.report.view.number (Za m'.report.view.members) (Za m'.report.view.owners) (m'.report.state.slots.map Zg) (m'.report.state.pending.map ZM) (m'.report.state.marks.map Zk) (m'.report.state.answers.map ZS) (m'.report.state.entries.map Ze) (Zb m'.report.state.commits) m'.report.ready m'.report.next.number (Za m'.report.next.members) (Za m'.report.next.owners) (m'.report.proposal.slots.map Zg) (m'.report.proposal.pending.map ZM) (m'.report.proposal.marks.map Zk) (m'.report.proposal.answers.map ZS) (m'.report.proposal.entries.map Ze) (Zb m'.report.proposal.commits)).bind fun (r90:Bool)=>if r90=true then (g7).bind fun (r:Bool)=>some (r) else some (false)):=fun m' hm'=>Z7 (s13 c s.slots few s.marks (by omega) m' hm') (Zd (if_pos rfl) Zgz)
  have h:=hm.fits
  refine Zp (fun _=>?_) fun _=>?_
  ·refine Zp (fun _=>?_) fun _=>?_
   ·refine Zc (s12 f (by omega) z) fun r ⟨w,hw,hr⟩=>?_
    subst hr
    exact fin { m with to:=c,ids:=w } ⟨h.req,by show w.length < _; have:=hw.len; omega,h.nodes,h.node,h.cores,h.moves,h.next,h.state,h.report⟩
   ·exact fin { m with to:=c } ⟨h.req,h.ids,h.nodes,h.node,h.cores,h.moves,h.next,h.state,h.report⟩
  ·refine Zp (fun _=>?_) fun _=>?_
   ·refine Zc (s12 f (by omega) z) fun r ⟨w,hw,hr⟩=>?_
    subst hr
    exact fin { m with ids:=w } ⟨h.req,by show w.length < _; have:=hw.len; omega,h.nodes,h.node,h.cores,h.moves,h.next,h.state,h.report⟩
   ·exact fin m h
 obtain ⟨r,e,rfl⟩:=key
 exact e
def nIn (x:Int):Y4:=⟨⟨5,x,0⟩,[],⟨4,0,6,7,0,0,false⟩⟩
def mIn (c k x:Int):Msg:=⟨4,0,1,c,0,0,k,⟨5,x,0⟩,0,false,Z5,[],[nIn x],[],[],0,ZC,Zl,Zm⟩
theorem Zpv {x:Int} (h1:1≤x) (h2:x≤100):ZF (nIn x)=true:=ZhF _ _ (by simp only [Wo,decide_eq_true_eq]; omega) (by kernel_rfl)
theorem ZjH (c k x:Int):(mIn c k x).Fits:=⟨by simp [mIn,Z5,ZX],by simp [mIn],by simp [mIn],by simp [mIn,nIn],by simp [mIn],by simp [mIn],Va.fits,K6.fits,Wb.fits⟩
theorem Zt4 {c k x:Int} (hc:0≤c∧c < 4) (hk:0≤k∧k < 14) (h1:1≤x) (h2:x≤100):Kk (mIn c k x)=true:=by
 have e1:Jl k=true:=by simp only [Jl,decide_eq_true_eq]; omega
 have e2:Za2 ⟨5,x,0⟩=true:=by simp [Za2,Wo]; omega
 have e3:Z1 0=true:=by decide
 refine JB (mIn c k x) 4 rfl (by decide) (by decide) ⟨Int.le_refl _,show (0:Int) < 70 by decide⟩ ⟨show (0:Int)≤1 by decide,show (1:Int) < 4 by decide⟩ hc ?_ (by kernel_rfl)
 show (Z1 0&&(Za2 ⟨5,x,0⟩&&(Jl k&&((decide ([nIn x].length≤8)&&(decide ((4:Int)≠4)||decide ([nIn x].length=1))&&[nIn x].all ZF)&&true))))=true
 rw [e1,e2,e3,List.all_cons,Zpv h1 h2]
 rfl
theorem Zl8 {c k x:Int} (hc:0≤c∧c < 4) (hk:0≤k∧k < 14) (h1:1≤x) (h2:x≤100) (l:List Jq):hold c l [] (mIn c k x)=⟨KK l (mIn c k x),[],[rep 5 (KU l (mIn c k x)) (mIn c k x)],VN l (mIn c k x)⟩:=by
 rw [hold,if_neg (by rw [Zt4 hc hk h1 h2]; simp [mIn]),if_pos (show (mIn c k x).kind=4 from rfl)]
theorem Zci {l:List Jq} {m:Msg} {e:Int} (h:KU l m=e) (he:e≠0):KK l m=l:=by rw [KK,if_neg (by rw [h]; exact he)]
theorem Wx (l:List Jq) (h:W4 l):g22 (l.map Zg) (l.map Zg)=some true:=by
 have h1:=h.len
 rw [s22 l l (by omega) (fun x hx=>by have:=h.path x hx; omega) (fun x hx=>by have:=h.path x hx; omega),Jk Zdu (fun a=>by simp [Zdu,YW])]
theorem Ziu {a b:Int} (h:a=b):cop .eql a b=true:=by simp only [CQ]; exact h
theorem s6 (c0:Int) (l:List Int) (sts:List Zpy) (hn:sts.length < 2 ^ 63) (slot op:Int):g6 c0 (Za l) (sts.map Zac) slot op=some true:=by
 have key:Ret (fun r=>r=true) (g6 c0 (Za l) (sts.map Zac) slot op):=by
  rw [ZxZ]
  refine Zp (fun _=>Zgz) fun _=>?_
  refine Zc (place c0 4 (by omega) (by omega)) fun c hc=>?_
  refine Zc (s8 sts hn) fun r ⟨f,hf,hr⟩=>?_
  subst hr
  refine Zc (s10 l f 30 hf (by omega) c) fun r ⟨s,hr,hs⟩=>?_
  subst hr
  refine Zc (place slot 14 (by omega) (by omega)) fun k hk=>Zc (place op 100 (by omega) (by omega)) fun y hy=>?_
  obtain ⟨x,hx⟩:∃ x,x=1+y:=⟨_,rfl⟩
  have ex:iop .add .i64 1 y=x:=by rw [Kh (by omega) (by omega),hx]
  rw [ex]
  have few:=hs.few hf
  have hlen:=hs.slots.len
  have hspot:=hs.slots.spot
  obtain ⟨S,hS⟩:∃ S,S=s.slots:=⟨_,rfl⟩
  have hx1:1≤x:=by omega
  have hx2:x≤100:=by omega
  refine Z7 (s16 s.slots few) ?_
  have h15:=s15 c s.slots few [] (by simp) (mIn c k x) (ZjH c k x)
  rw [Zl8 hc hk hx1 hx2] at h15
  refine Z7 h15 ?_
  refine Zd (if_neg (Zlw rfl)) ?_
  have hmi:0 < [rep 5 (KU s.slots (mIn c k x)) (mIn c k x)].length:=by simp
  -- a refusal
  refine Zp (fun h1=>?_) fun h1=>?_
  ·simp only [CQ] at h1
   have h1':(s.slots.length:Int)≤k:=by simpa [stV] using h1
   have he:KU s.slots (mIn c k x)=1:=if_pos h1'
   refine Zd (Yj hmi _) ?_
   refine Zd (if_neg (Zlw he)) ?_
   refine Zd (if_pos (by kernel_rfl)) ?_
   refine Zd (Yj hmi _) ?_
   refine Zd (if_pos (Ziu he)) ?_
   refine Z7 (show g22 ((KK s.slots (mIn c k x)).map Zg) (s.slots.map Zg)=some true by rw [Zci he (by decide)]; exact Wx s.slots few) ?_
   refine Zd (if_pos rfl) ?_
   refine Zd (if_pos ?_) Zgz
   have hC:VN s.slots (mIn c k x) = []:=by rw [VN,if_neg (by rw [he]; decide),if_neg (by rw [he]; decide)]
   show ((cop .eql ((List.length ((VN s.slots (mIn c k x)).map Zpr):Nat):Int) 1) == (cop .eql 1 3))=true
   rw [hC]
   rfl
  have h1':¬ (s.slots.length:Int)≤k:=by simpa [stV,cop] using h1
  have hkl:k.toNat < s.slots.length:=by omega
  have hat:s.slots[k.toNat]? = some s.slots[k.toNat]:=List.getElem?_eq_getElem hkl
  have hinst:KU s.slots (mIn c k x)=if ZcR s.slots[k.toNat]=true then 4 else if J5 s.slots[k.toNat]=false then 3 else if Z9 s.slots k (nIn x)≠0 then 1 else 0:=by
   rw [KU,if_neg (show ¬ (s.slots.length:Int)≤(mIn c k x).slot from h1')]
   show (match s.slots[k.toNat]? with | some s'=>_ | none=>_)=_
   rw [hat]; rfl
  refine Zd (Jp (l:=s.slots) hk.1 hkl _) ?_
  refine Z7 (s20 s.slots[k.toNat]) ?_
  refine Zp (fun h2=>?_) fun h2=>?_
  ·have he:KU s.slots (mIn c k x)=4:=by rw [hinst,if_pos h2]
   refine Zd (Yj hmi _) ?_
   refine Zd (if_neg (Zlw he)) ?_
   refine Zd (if_pos (by kernel_rfl)) ?_
   refine Zd (Yj hmi _) ?_
   refine Zd (if_pos (Ziu he)) ?_
   refine Z7 (show g22 ((KK s.slots (mIn c k x)).map Zg) (s.slots.map Zg)=some true by rw [Zci he (by decide)]; exact Wx s.slots few) ?_
   refine Zd (if_pos rfl) ?_
   refine Zd (if_pos ?_) Zgz
   have hC:VN s.slots (mIn c k x) = []:=by rw [VN,if_neg (by rw [he]; decide),if_neg (by rw [he]; decide)]
   show ((cop .eql ((List.length ((VN s.slots (mIn c k x)).map Zpr):Nat):Int) 1) == (cop .eql 4 3))=true
   rw [hC]
   rfl
  refine Zd (Jp (l:=s.slots) hk.1 hkl _) ?_
  refine Z7 (s21 s.slots[k.toNat]) ?_
  refine Zp (fun h3=>?_) fun h3=>?_
  ·have he:KU s.slots (mIn c k x)=3:=by rw [hinst,if_neg h2,if_pos (by simpa using h3)]
   refine Zd (Yj hmi _) ?_
   refine Zd (if_neg (Zlw he)) ?_
   refine Zd (if_pos (by kernel_rfl)) ?_
   refine Zd (Yj hmi _) ?_
   refine Zd (if_pos (Ziu he)) ?_
   refine Z7 (show g22 ((KK s.slots (mIn c k x)).map Zg) (s.slots.map Zg)=some true by rw [Zci he (by decide)]; exact Wx s.slots few) ?_
   refine Zd (if_pos rfl) ?_
   refine Zd (if_pos ?_) Zgz
   have hC:VN s.slots (mIn c k x) = [(⟨5,x,0⟩,false)]:=by rw [VN,if_neg (by rw [he]; decide),if_pos he]; rfl
   show ((cop .eql ((List.length ((VN s.slots (mIn c k x)).map Zpr):Nat):Int) 1) == (cop .eql 3 3))=true
   rw [hC]
   rfl
  have h3':J5 s.slots[k.toNat]=true:=by simpa using h3
  -- where the nodes' Ids come from
  have hids:∀ t (h:t < s.slots.length),s.slots[t].node.id≠⟨5,x,0⟩:=by
   intro t ht he
   rcases (hspot t ht).2 with ⟨e1,_⟩ | ⟨e,hef,_,e1,_⟩
   ·rw [e1] at he
    have:=congrArg Id.core he
    exact absurd this (by show (0:Int)≠5; decide)
   ·rw [e1] at he
    have h4:=(hf.all e hef).ic
    have h5:=(hf.all e hef).c1
    rw [he] at h4
    have h6:(5:Int)=e.core:=h4
    omega
  have hput:Z9 s.slots k (nIn x)=0:=by
   have hany:s.slots.any (Zad (nIn x).id)=false:=by
    rw [List.any_eq_false]
    intro a ha
    obtain ⟨t,ht,rfl⟩:=List.getElem_of_mem ha
    have:=hids t ht
    rw [Zad,Bool.not_eq_true,Bool.and_eq_false_iff]
    right
    rw [decide_eq_false_iff_not]
    exact this
   rw [Z9,if_neg,if_neg]
   ·rw [hat]; simp [h3']
   ·rw [Zpv hx1 hx2,hany]
    simp only [Bool.true_eq_false,Bool.false_eq_true,or_false]
    omega
  have he:KU s.slots (mIn c k x)=0:=by rw [hinst,if_neg h2,if_neg (by simp [h3']),if_neg (by rw [hput]; simp)]
  have hX:KK s.slots (mIn c k x)=s.slots.modify k.toNat (ZpM (nIn x)):=by
   rw [KK,if_pos he]
   show Zeo s.slots k (nIn x)=_
   rw [Zeo,if_pos hput]
  have hC:VN s.slots (mIn c k x) = [(⟨5,x,0⟩,true)]:=by rw [VN,if_pos he]; rfl
  have fewX:W4 (s.slots.modify k.toNat (ZpM (nIn x))):=hX ▸ ZjC few (mIn c k x)
  refine Zd (Yj hmi _) ?_
  refine Zd (if_neg (Zlw he)) ?_
  refine Zd (if_neg (Jf (by kernel_rfl))) ?_
  rw [hX,hC]
  generalize hXd:s.slots.modify k.toNat (ZpM (nIn x))=X at fewX
  have hXl:X.length=12:=by rw [← hXd,List.length_modify]; exact hlen
  have hkX:k.toNat < X.length:=by omega
  have hXk:X[k.toNat]=ZpM (nIn x) s.slots[k.toNat]:=by subst hXd; rw [List.getElem_modify,if_pos rfl]
  have hXo:∀ t (h:t < X.length),t≠k.toNat→X[t]=s.slots[t]'(by omega):=by
   intro t ht hne
   subst hXd
   rw [List.getElem_modify,if_neg (fun h=>hne h.symm)]
  have hatX:X[k.toNat]? = some X[k.toNat]:=List.getElem?_eq_getElem hkX
  have hbX:¬ ZcR X[k.toNat]=true:=by rw [hXk]; exact h2
  have heX:J5 X[k.toNat]=false:=by rw [hXk]; rw [J5,decide_eq_false_iff_not]; intro h; have:=congrArg Id.core h; exact absurd this (by show (5:Int)≠0; decide)
  have he2:KU X (mIn c k x)=3:=by
   rw [KU,if_neg (show ¬ (X.length:Int)≤(mIn c k x).slot by show ¬ (X.length:Int)≤k; omega)]
   show (match X[k.toNat]? with | some s'=>_ | none=>_)=_
   rw [hatX]
   show (if ZcR X[k.toNat]=true then (4:Int) else if J5 X[k.toNat]=false then 3 else _)=3
   rw [if_neg hbX,if_pos heX]
  refine Z7 (s16 X fewX) ?_
  have h15b:=s15 c X fewX [] (by simp) (mIn c k x) (ZjH c k x)
  rw [Zl8 hc hk hx1 hx2,Zci he2 (by decide)] at h15b
  refine Z7 h15b ?_
  refine Zd (if_pos (Ziu rfl)) ?_
  refine Zd (ZdM (l:=[(⟨5,x,0⟩,true)]) (i:=0) (by simp) _) ?_
  refine Zd (if_pos (by simp [cop])) ?_
  obtain ⟨r,hr,hri⟩:=s23 X (by omega) k.toNat hkX (by rw [hXk]; intro h; have:=congrArg Id.core h; exact absurd this (by show (5:Int)≠0; decide))
  rw [hXk] at hr
  refine Z7 hr ?_
  have huniq:Kl X k.toNat=true:=by
   unfold Kl
   rw [hatX]
   show (!((X.take k.toNat).any (Zad X[k.toNat].node.id)))=true
   rw [Bool.not_eq_true',List.any_eq_false]
   intro a ha
   obtain ⟨j,hj,rfl⟩:=List.getElem_of_mem ha
   rw [List.length_take] at hj
   rw [List.getElem_take,hXo j (by omega) (by omega),Zad,Bool.not_eq_true,Bool.and_eq_false_iff]
   right
   rw [decide_eq_false_iff_not,hXk]
   exact hids j (by omega)
  have hrk:r=k:=by have:=hri.2 huniq; omega
  refine Zd (if_pos (Ziu hrk)) ?_
  refine Zd (if_pos (Ziu rfl)) ?_
  refine Zd (Yj (l:=[rep 5 (KU X (mIn c k x)) (mIn c k x)]) (i:=0) (by simp) _) ?_
  refine Zd (if_pos (Ziu he2)) ?_
  refine Z7 (Wx X fewX) ?_
  exact Zd (if_pos rfl) Zgz
 obtain ⟨r,e,rfl⟩:=key
 exact e
end Go.Proofs.YtljejgmcgddppaaGreat
end
