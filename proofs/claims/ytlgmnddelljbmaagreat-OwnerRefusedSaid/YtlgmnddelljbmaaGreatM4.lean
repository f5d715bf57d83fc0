/- AmFin, AmPlain, AmUse, AmRet, AmRun, AmRow, AmLift, AmSem, AmSize, AmIns: texts of the proof, put together. -/
import Derived.Test.YtlgmnddelljbmaaGreatM3
import Derived.Laws.StructEq
import Derived.ChangeArms
import Derived.ChangeStays
import Derived.ChangeBook
import Derived.ChangeSame
import Derived.RowKit
import Derived.ChangeOld
import GoSem.ClaimJoined
import GoSem.ClaimOpenFrom
import Derived.KernelRfl
import Derived.SizedLaws
import Derived.WalkKit
import Derived.Lib.Walk
import Derived.Lib.SliceRun
import Derived.Lib.AppendZerosOnto
import Derived.Lib.Overlaps
import Derived.Laws.Externs
import Derived.Laws.IdiomCopy
import Derived.Shelf.RegionOpenPlain

section
namespace Go.AM
def Vl (tm:Array Value):ResultVar→Sem Value
 | .tmp t => pure (tm.getD t undef)
 | .cell a t => do loadVar t (← asAddr (tm.getD a undef))
def Zdm:ResultVar→Nat
 | .tmp _ => 0
 | .cell _ _ => 1
theorem ZgH (fn:Func) (tm:Array Value):results fn tm=(do
  let vs ← fn.results.mapM (Vl tm)
  pure (if h:vs.size=1 then vs[0] else .tuple vs)):=by
 unfold results
 congr 1
theorem Zfz {P:Program} {w:World} {f:ResultVar→Sem Value} : ∀ (rs:List ResultVar) (vs:List Value),rs.length=vs.length→
  (∀ (i:Nat) (r:ResultVar) (v:Value),rs[i]? = some r→vs[i]? = some v→(f r).run P w = .ok v w)→(rs.mapM f).run P w = .ok vs w
 | [], [], _, _ => by simp
 | [], _ :: _, h, _ => by simp at h
 | _ :: _, [], h, _ => by simp at h
 | r :: rs, v :: vs, h, hf => by
  have h1:=hf 0 r v rfl rfl
  have h2:=Zfz rs vs (by simpa using h) fun i r' v' hr hv=>hf (i+1) r' v' (by simpa using hr) (by simpa using hv)
  simp [List.mapM_cons,h1,h2]
theorem Va {P:Program} {w:World} {fn:Func} {tm:Array Value} {vs:List Value} (hl:fn.results.toList.length=vs.length)
  (hf:∀ (i:Nat) (r:ResultVar) (v:Value),fn.results.toList[i]? = some r→vs[i]? = some v→(Vl tm r).run P w = .ok v w) :
  (results fn tm).run P w = .ok (match vs with | [v]=>v | vs=>.tuple vs.toArray) w:=by
 have h:=Zfz _ _ hl hf
 rw [ZgH,Array.mapM_eq_mapM_toList]
 simp only [Sem.run_bind,Sem.run_map,h,Result.andThen_ok]
 rcases vs with _ | ⟨v,_ | ⟨u,l⟩⟩ <;> simp
section
variable {P:Program} {E:Env}
theorem ZdI {c:Ctx} (hc:c.P=P) {s:Tr} {ρ:Nat→V} {tm:Array Value} {w:World} {lim:Nat→Nat} {X:Nat→Nat→Option Nat} (hs:Sim c (ZQ E s ρ) tm w lim X) {r:ResultVar} {x:TC}
  (h:ZbY P (gE E s) r=some x):∃ v,(Vl tm r).run P w = .ok v w∧JQ P w lim (X (JN r) (Zdm r)) (x.den ρ) v:=by
 cases r with
 | tmp t =>
  have hr:=hs.rel t
  simp only [ZbY] at h
  split at h
  ·rename_i y hy
   simp only [Option.some.injEq] at h
   subst h
   have:ZQ E s ρ t=y.den ρ:=by simp only [ZQ,hy,SV.den]
   rw [this] at hr
   exact ⟨_,rfl,by cases y<;>exact hr⟩
  ·rename_i cs hy
   simp only [Option.some.injEq] at h
   subst h
   have:ZQ E s ρ t = .agg (cs.map (SC.den ρ)):=by simp only [ZQ,hy,SV.den]
   rw [this] at hr
   exact ⟨_,rfl,hr⟩
  ·rename_i b e xs hy
   simp only [Option.some.injEq] at h
   subst h
   have:ZQ E s ρ t = .own b e (xs.den ρ):=by simp only [ZQ,hy,SV.den]
   rw [this,hc] at hr
   exact ⟨_,rfl,hr⟩
  ·cases h
 | cell t T =>
  have hr:=hs.rel t
  simp only [ZbY] at h
  split at h
  ·rename_i cs hT hy
   split at h
   ·rename_i hl
    simp only [Option.some.injEq] at h
    subst h
    have:ZQ E s ρ t = .box (cs.map (BC.den ρ)):=by simp only [ZQ,hy,SV.den]
    rw [this,hc] at hr
    obtain ⟨b,us,g1,g2,g3,g4,g5,g6⟩:=Zw.part (show Zw P w lim (X t) _ _ from hr) 0 (P.cellsOf T) (by simp [hl.1]) (by rw [List.drop_zero,List.take_of_length_le (by simp [hl.1])];exact ZaW hl.2.1 ρ) (by rw [List.drop_zero,List.take_of_length_le (by simp [hl.1])];exact ZdZ hl.2.2 ρ)
    refine ⟨.agg us.toArray,?_,?_⟩
    ·obtain ⟨i,hi⟩:=ZbS hT
     have hl2:=run_loadCells_list (P:=P) w ⟨b,0,none⟩ us (fun j v hj=>by rw [Jx];exact g4 j v hj)
     rw [g3] at hl2
     simp [Vl,g2,asAddr,loadVar,We hT,Zj hi,hl2]
    ·have he:(TC.agg (cs.map (Zbv P))).den ρ = .agg ((((cs.map (BC.den ρ)).drop 0).take (P.cellsOf T)).map (Yz P)):=by
      rw [List.drop_zero,List.take_of_length_le (by simp [hl.1])]
      simp only [TC.den,List.map_map]
      congr 1
      exact List.map_congr_left fun b _=>ZbL P ρ b
     rw [he]
     exact .agg (by simp [g3,hl.1]) g5 g6
   ·cases h
  ·rename_i bx e xs hT hy
   simp only [Option.some.injEq] at h
   subst h
   have:ZQ E s ρ t = .box [.own bx e (xs.den ρ)]:=by simp only [ZQ,hy,SV.den];rfl
   rw [this,hc] at hr
   obtain ⟨b,arr,ty,h1,h2,h3,h4,h5,h6,h7⟩:=(show Zw P w lim (X t) _ _ from hr)
   obtain ⟨u,hu⟩:∃ u,arr[0]? = some u:=⟨_,Array.getElem?_eq_getElem (by rw [h4];simp)⟩
   refine ⟨u,?_,h7 0 _ u rfl hu⟩
   have hcell:w.cell? ⟨b,0,none⟩=some u:=by rw [ZK h3];exact hu
   simp [Vl,h2,asAddr,loadVar,Y0 hT,hcell]
  ·rename_i y hT hy
   simp only [Option.some.injEq] at h
   subst h
   have:ZQ E s ρ t = .box [y.den ρ]:=by simp only [ZQ,hy,SV.den];rfl
   rw [this,hc] at hr
   obtain ⟨b,arr,ty,h1,h2,h3,h4,h5,h6,h7⟩:=(show Zw P w lim (X t) _ _ from hr)
   obtain ⟨u,hu⟩:∃ u,arr[0]? = some u:=⟨_,Array.getElem?_eq_getElem (by rw [h4];simp)⟩
   have h70:=h7 0 _ u rfl hu
   refine ⟨u,?_,by cases y<;>exact h70⟩
   have hcell:w.cell? ⟨b,0,none⟩=some u:=by rw [ZK h3];exact hu
   simp [Vl,h2,asAddr,loadVar,Y0 hT,hcell]
  ·cases h
theorem Zdt {c:Ctx} (hc:c.P=P) {s:Tr} {ρ:Nat→V} {tm:Array Value} {w:World} {lim:Nat→Nat} {X:Nat→Nat→Option Nat} (hs:Sim c (ZQ E s ρ) tm w lim X):∀ (rs:List ResultVar) (xs:List TC),
  Zbf P (gE E s) rs=some xs→∃ vs:List Value,rs.length=vs.length∧xs.length=vs.length∧∀ (i:Nat) (r:ResultVar) (v:Value),rs[i]? = some r→vs[i]? = some v→
   (Vl tm r).run P w = .ok v w∧∀ x,xs[i]? = some x→JQ P w lim (X (JN r) (Zdm r)) (x.den ρ) v
 | [], xs, h => by
  simp only [Zbf,Option.some.injEq] at h
  subst h
  exact ⟨[],rfl,rfl,by simp⟩
 | r :: rs, xs, h => by
  simp only [Zbf] at h
  split at h
  ·rename_i x xs' hx hxs
   simp only [Option.some.injEq] at h
   subst h
   obtain ⟨v,h1,h2⟩:=ZdI hc hs hx
   obtain ⟨vs,g1,g2,g3⟩:=Zdt hc hs rs xs' hxs
   refine ⟨v::vs,by simp [g1],by simp [g2],fun i r' v' hr hv=>?_⟩
   cases i with
   | zero =>
    simp only [List.getElem?_cons_zero,Option.some.injEq] at hr hv
    subst hr
    subst hv
    refine ⟨h1,fun y hy=>?_⟩
    simp only [List.getElem?_cons_zero,Option.some.injEq] at hy
    subst hy
    exact h2
   | succ i =>
    obtain ⟨k1,k2⟩:=g3 i r' v' (by simpa using hr) (by simpa using hv)
    exact ⟨k1,fun y hy=>k2 y (by simpa using hy)⟩
  ·cases h
theorem Zed {w:World} {lim:Nat→Nat} {X:Nat→Nat→Option Nat} {σ:Nat→AV} {d:Nat} {x:TC} {ρ:Nat→V} {v:Value} (h:JQ P w lim (X d 0) (x.den ρ) v):ZD P w lim X σ d (x.den ρ) v:=by
 cases x with
 | c y => cases y <;> exact h
 | agg cs => exact h
 | own x e l => exact h
 | gone => trivial
theorem ZbI (ρ:Nat→V):∀ (aZ:List SV) (i:Nat) (σ:Nat→AV) (d:Nat),Jw σ ((Kz aZ i).map fun u=>(u.1,u.2.den ρ)) d=if i≤d∧d < i+aZ.length then ZE (aZ.map (SV.den ρ)) (d-i) else σ d
 | [], i, σ, d => by
  rw [if_neg (by simp)]
  rfl
 | a :: aZ, i, σ, d => by
  simp only [Kz,List.map_cons,Jw]
  rw [ZbI ρ aZ (i+1)]
  by_cases h:i+1≤d∧d < i+1+aZ.length
  ·rw [if_pos h,if_pos (by simp only [List.length_cons];omega)]
   obtain ⟨k,hk⟩:∃ k,d-i=k+1:=⟨d-i-1,by omega⟩
   rw [hk,show d-(i+1)=k by omega]
   simp [ZE]
  ·rw [if_neg h]
   by_cases hd:d=i
   ·subst hd
    rw [ZU,if_pos (by simp)]
    simp [ZE]
   ·rw [Zi _ _ hd,if_neg (by simp only [List.length_cons];omega)]
theorem ZdX {n:Nat} : ∀ (aZ:List SV) (i:Nat),(∀ a∈aZ,a.bd n)→∀ u∈Kz aZ i,u.2.bd n
 | [], i, _, u, hu => by simp [Kz] at hu
 | a :: aZ, i, h, u, hu => by
  rcases List.mem_cons.1 hu with rfl | hu
  ·exact h a (by simp)
  ·exact ZdX aZ (i+1) (fun b hb=>h b (by simp [hb])) u hu
theorem ZbB:∀ (aZ:List SV) (i m:Nat),i+aZ.length≤m→∀ u∈Kz aZ i,u.1 < m
 | [], i, m, _, u, hu => by simp [Kz] at hu
 | a :: aZ, i, m, h, u, hu => by
  simp only [List.length_cons] at h
  rcases List.mem_cons.1 hu with rfl | hu
  ·show i < m;omega
  ·exact ZbB aZ (i+1) m (by omega) u hu
def SV.isBx:SV→Bool
 | .box _ => true
 | .gbox _ => true
 | _ => false
theorem Y3 {a:SV} {aZ:List SV} {i:Nat} (h:Z6 E (a::aZ) i=true):Z6 E aZ (i+1)=true:=by
 cases a<;>simp only [Z6,Bool.and_eq_true,Bool.false_eq_true] at h<;>exact h.2
theorem Vd:∀ (aZ:List SV) (i:Nat),Z6 E aZ i=true→∀ (j:Nat) (a:SV),aZ[j]? = some a→(∀ cs,a = .box cs→i+j∈E.pins)∧(a.isG=true↔E.nt≤i+j)
 | [], i, _, j, a, h => by simp at h
 | a :: aZ, i, hf, j, b, h => by
  cases j with
  | zero =>
   simp only [List.getElem?_cons_zero,Option.some.injEq] at h
   subst h
   refine ⟨fun cs e=>?_,?_⟩
   ·subst e
    simp only [Z6,Bool.and_eq_true,List.contains_iff_mem] at hf
    exact hf.1.2
   ·cases a<;>simp only [Z6,Bool.and_eq_true,decide_eq_true_eq,Bool.false_eq_true] at hf<;>simp only [SV.isG,Bool.false_eq_true,false_iff,true_iff]<;>omega
  | succ j =>
   have:=Vd aZ (i+1) (Y3 hf) j b (by simpa using h)
   rw [show i+(j+1)=i+1+j by omega]
   exact this
theorem Zfw (g:Nat→SV):∀ (aZ:List SV) (i j:Nat),(KR g aZ i)[j]? = (aZ[j]?).map fun a=>if a.isBx=true then g (i+j) else .dead
 | [], i, j => by simp [KR]
 | a :: aZ, i, 0 => by cases a <;> rfl
 | a :: aZ, i, j + 1 => by
  have:=Zfw g aZ (i+1) j
  rw [show i+1+j=i+(j+1) by omega] at this
  cases a<;>simpa [KR] using this
theorem Zc6 (g:Nat→SV):∀ (aZ:List SV) (i:Nat),(KR g aZ i).length=aZ.length
 | [], i => rfl
 | a :: aZ, i => by cases a <;> simp [KR, Zc6 g aZ]
def Zf1 (args:List SV) (rs:List ResultVar) (i k:Nat):Option (Nat×Nat):=
 if i < args.length then (if (args[i]?).map SV.isBx=some true then some (i,k) else none)
 else if i=args.length then
  match rs with
  | [r] => if k = 0 then some (JN r, Zdm r) else none
  | rs => match k with | 0 => none | k + 1 => (rs[k]?).map fun r => (JN r, Zdm r)
 else none
theorem ZfE:∀ (rs:List ResultVar),(rs.map JN).Nodup→∀ (i j:Nat) (a b:ResultVar),rs[i]? = some a→rs[j]? = some b→JN a=JN b→i=j
 | [], _, i, j, a, b, h, _, _ => by simp at h
 | r :: rs, hn, i, j, a, b, ha, hb, he => by
  rw [List.map_cons,List.nodup_cons] at hn
  cases i with
  | zero =>
   cases j with
   | zero => rfl
   | succ j =>
    simp only [List.getElem?_cons_zero,Option.some.injEq] at ha
    subst ha
    exact (hn.1 (List.mem_map.2 ⟨b,List.mem_of_getElem? (by simpa using hb),he.symm⟩)).elim
  | succ i =>
   cases j with
   | zero =>
    simp only [List.getElem?_cons_zero,Option.some.injEq] at hb
    subst hb
    exact (hn.1 (List.mem_map.2 ⟨a,List.mem_of_getElem? (by simpa using ha),he⟩)).elim
   | succ j => rw [ZfE rs hn.2 i j a b (by simpa using ha) (by simpa using hb) he]
theorem WR {args:List SV} {rs:List ResultVar} {k:Nat} {p:Nat×Nat} (h:Zf1 args rs args.length k=some p) :
  ∃ j r,rs[j]? = some r∧p=(JN r,Zdm r)∧((rs.length=1∧j=0∧k=0)∨(rs.length≠1∧k=j+1)):=by
 unfold Zf1 at h
 rw [if_neg (Nat.lt_irrefl _),if_pos rfl] at h
 split at h
 ·rename_i r
  split at h
  ·rename_i hk
   simp only [Option.some.injEq] at h
   exact ⟨0,r,rfl,h.symm,.inl ⟨rfl,rfl,hk⟩⟩
  ·cases h
 ·rename_i hne
  split at h
  ·cases h
  ·rename_i k
   cases hr:rs[k]? with
   | none => simp [hr] at h
   | some r =>
    simp only [hr,Option.map_some,Option.some.injEq] at h
    refine ⟨k,r,hr,h.symm,.inr ⟨fun h1=>?_,rfl⟩⟩
    obtain ⟨r',hr'⟩:=List.length_eq_one_iff.1 h1
    exact hne r' hr'
theorem ZiY {args:List SV} {rs:List ResultVar} (hf:ZcD args rs=true) {i k i' k':Nat} {p:Nat×Nat} (h:Zf1 args rs i k=some p) (h':Zf1 args rs i' k'=some p):i=i'∧k=k':=by
 simp only [ZcD,Bool.and_eq_true] at hf
 obtain ⟨hn,hb⟩:=hf
 have hnd:=Vw _ hn
 have hform:∀ i k p,Zf1 args rs i k=some p→(i < args.length∧p=(i,k)∧∃ a,args[i]? = some a∧a.isBx=true)∨i=args.length:=by
  intro i k p h
  unfold Zf1 at h
  split at h
  ·rename_i hi
   split at h
   ·rename_i hbx
    simp only [Option.some.injEq] at h
    obtain ⟨a,ha,hax⟩:=Option.map_eq_some_iff.1 hbx
    exact .inl ⟨hi,h.symm,a,ha,hax⟩
   ·cases h
  ·split at h
   ·rename_i hi;exact .inr hi
   ·cases h
 have hno:∀ (j:Nat) (r:ResultVar),rs[j]? = some r→∀ a,args[JN r]? = some a→a.isBx=true→False:=by
  intro j r hr a ha hax
  rw [List.all_eq_true] at hb
  have:=hb r (List.mem_of_getElem? hr)
  rw [ha] at this
  cases a<;>simp [SV.isBx] at hax<;>cases this
 rcases hform i k p h with ⟨h1,h2,a,h3,h4⟩ | h1<;>rcases hform i' k' p h' with ⟨h1',h2',a',h3',h4'⟩ | h1'
 ·rw [h2] at h2'
  simp only [Prod.mk.injEq] at h2'
  exact h2'
 ·subst h1'
  obtain ⟨j,r,g1,g2,_⟩:=WR h'
  rw [h2] at g2
  simp only [Prod.mk.injEq] at g2
  exact (hno j r g1 a (by rw [← g2.1];exact h3) h4).elim
 ·subst h1
  obtain ⟨j,r,g1,g2,_⟩:=WR h
  rw [h2'] at g2
  simp only [Prod.mk.injEq] at g2
  exact (hno j r g1 a' (by rw [← g2.1];exact h3') h4').elim
 ·subst h1
  subst h1'
  obtain ⟨j,r,g1,g2,g3⟩:=WR h
  obtain ⟨j',r',g1',g2',g3'⟩:=WR h'
  rw [g2] at g2'
  simp only [Prod.mk.injEq] at g2'
  have:=ZfE rs hnd j j' r r' g1 g1' g2'.1
  refine ⟨rfl,?_⟩
  omega
end
end Go.AM
end

section
namespace Go.AM
def Zjl (P:Program) (rec:TypeId→Bool) (e:Nat):List Field→Nat→Bool
 | [], _ => true
 | f :: fs, off => (f.name != "_") && (f.offset == off) &&
  (match P.underlying f.type with
   | some (.int _) => true
   | some .bool => true
   | some (.struct _) => rec f.type && (P.info? f.type).isSome
   | _ => false) &&
  (match Yy P e f.type with | some l=>(P.cellsOf f.type == l.length)&&Zjl P rec e fs (off+l.length) | none=>false)
def Zgl (P:Program):Nat→TypeId→Bool
 | 0, _ => false
 | e + 1, T =>
  match P.underlying T with
  | some (.struct fs) => Zjl P (Zgl P e) e fs.toList 0 && !P.stoodInHeld T
  | _ => false
def Zop (P:Program) (T:TypeId):Bool:=Zgl P 8 T&&!P.eqGuardType P.depth T
theorem KH:∀ (L1 L2:List Sh) (us:List Value),J9 (L1++L2) us→J9 L1 (us.take L1.length)∧J9 L2 (us.drop L1.length)∧(us.take L1.length).length=L1.length
 | [], L2, us, h => ⟨by simp [J9], by simpa using h, by simp⟩
 | s :: L1, L2, [], h => by cases s <;> exact h.elim
 | s :: L1, L2, u :: us, h => by
  cases s<;>cases u<;>try exact h.elim
  ·obtain ⟨h1,h2,h3⟩:=KH L1 L2 us h.2
   exact ⟨⟨h.1,h1⟩,h2,by simpa using h3⟩
  ·obtain ⟨h1,h2,h3⟩:=KH L1 L2 us h
   exact ⟨h1,h2,by simpa using h3⟩
theorem Ze0:∀ (L:List Sh) (a c b d:List Value),J9 L a→J9 L c→eqV (a++b) (c++d)=(eqV a c&&eqV b d)
 | [], [], [], b, d, _, _ => by simp [eqV]
 | [], _ :: _, _, _, _, h, _ => h.elim
 | [], [], _ :: _, _, _, _, h => h.elim
 | s :: L, [], _, _, _, h, _ => by cases s <;> exact h.elim
 | s :: L, _ :: _, [], _, _, _, h => by cases s <;> exact h.elim
 | s :: L, x :: a, y :: c, b, d, h, h' => by
  cases s<;>cases x<;>(try exact h.elim)<;>cases y<;>try exact h'.elim
  ·simp only [List.cons_append,eqV,Ze0 L a c b d h.2 h'.2,Bool.and_assoc]
  ·simp only [List.cons_append,eqV,Ze0 L a c b d h h',Bool.and_assoc]
section
variable {P:Program}
def Zkr (P:Program) (e k:Nat) (T:TypeId):Prop:=∀ (L:List Sh) (us vs:List Value) (w:World),Yy P e T=some L→J9 L us→J9 L vs→
 (Op.equalIn (k+e) T (.agg us.toArray) (.agg vs.toArray)).run P w = .ok (eqV us vs) w
theorem W7 (e k:Nat) (rec:TypeId→Bool) (hrec:∀ T,rec T=true→Zkr P e k T) (w:World) (us vs:List Value):∀ (fs:List Field) (n:Nat) (L:List Sh),Zjl P rec e fs n=true→
  fs.foldr (fun f acc=>match Yy P e f.type,acc with | some a,some b=>some (a++b) | _,_=>none) (some [])=some L→J9 L (us.drop n)→J9 L (vs.drop n)→
  (Op.eqFields (k+e) us.toArray vs.toArray fs).run P w = .ok (eqV (us.drop n) (vs.drop n)) w
 | [], n, L, _, hL, hu, hv => by
  simp only [List.foldr_nil,Option.some.injEq] at hL
  subst hL
  cases h:us.drop n with
  | nil => simp [Op.eqFields, eqV]
  | cons x l => rw [h] at hu; exact hu.elim
 | f :: fs, n, L, hf, hL, hu, hv => by
  simp only [Zjl,Bool.and_eq_true,bne_iff_ne,ne_eq,beq_iff_eq] at hf
  obtain ⟨⟨⟨hname,hoff⟩,hty⟩,hrest⟩:=hf
  simp only [List.foldr_cons] at hL
  split at hL
  case h_2=>cases hL
  rename_i a L' ha hL'
  simp only [Option.some.injEq] at hL
  subst hL
  rw [ha] at hrest
  simp only [Bool.and_eq_true,beq_iff_eq] at hrest
  obtain ⟨hcells,hrest⟩:=hrest
  obtain ⟨u1,u2,u3⟩:=KH a L' _ hu
  obtain ⟨v1,v2,v3⟩:=KH a L' _ hv
  rw [List.drop_drop] at u2 v2
  have ih:=W7 e k rec hrec w us vs fs (n+a.length) L' hrest hL' u2 v2
  have hus:us.drop n=(us.drop n).take a.length++us.drop (n+a.length):=by
   rw [← List.drop_drop,List.take_append_drop]
  have hvs:vs.drop n=(vs.drop n).take a.length++vs.drop (n+a.length):=by
   rw [← List.drop_drop,List.take_append_drop]
  have hev:eqV (us.drop n) (vs.drop n)=(eqV ((us.drop n).take a.length) ((vs.drop n).take a.length)&&eqV (us.drop (n+a.length)) (vs.drop (n+a.length))):=by
   rw [hus,hvs]
   have:=Ze0 a ((us.drop n).take a.length) ((vs.drop n).take a.length) (us.drop (n+a.length)) (vs.drop (n+a.length)) u1 v1
   rw [← hus,← hvs] at this ⊢
   exact this
  rw [hev]
  -- the field's value
  suffices hx:∃ x y,(part f.type us.toArray f.offset).run P w = .ok x w∧(part f.type vs.toArray f.offset).run P w = .ok y w∧(Op.equalIn (k+e) f.type x y).run P w = .ok (eqV ((us.drop n).take a.length) ((vs.drop n).take a.length)) w by
   obtain ⟨x,y,p1,p2,p3⟩:=hx
   simp only [Op.eqFields,hname,ne_eq,not_false_eq_true,if_true,Sem.run_bind,p1,p2,p3,Result.andThen_ok,Sem.run_ite]
   cases h:eqV ((us.drop n).take a.length) ((vs.drop n).take a.length)
   ·simp
   ·simpa using ih
  have he:∃ e',e=e'+1:=by
   cases e with
   | zero => simp [Yy] at ha
   | succ e' => exact ⟨e', rfl⟩
  obtain ⟨e',rfl⟩:=he
  have one:∀ (l:List Value),((l.drop n).take 1).length=1→∃ x,(l.drop n).take 1 = [x]∧l[n]? = some x:=by
   intro l hl
   cases h:l.drop n with
   | nil => rw [h] at hl; simp at hl
   | cons x r =>
    refine ⟨x,rfl,?_⟩
    have:=congrArg (fun l=>l[0]?) h
    simpa using this
  split at hty
  ·rename_i kk hk
   have ha':a = [.int kk]:=by
    simp only [Yy,hk,Option.some.injEq] at ha
    exact ha.symm
   subst ha'
   obtain ⟨x,x1,x2⟩:=one us u3
   obtain ⟨y,y1,y2⟩:=one vs v3
   simp only [List.length_cons,List.length_nil,Nat.zero_add] at u1 v1 ⊢
   rw [x1] at u1 ⊢
   rw [y1] at v1 ⊢
   cases x<;>try exact u1.elim
   cases y<;>try exact v1.elim
   obtain ⟨rfl,_⟩:=u1
   obtain ⟨rfl,_⟩:=v1
   have p1:∀ (l:List Value) (x:Value),l[n]? = some x→(part f.type l.toArray f.offset).run P w = .ok x w:=by
    intro l x h
    rw [hoff]
    have:l.toArray[n]? = some x:=by simpa using h
    simp [part,isAgg,run_underlying hk,this]
   refine ⟨_,_,p1 us _ x2,p1 vs _ y2,?_⟩
   rw [show k+(e'+1)=(k+e')+1 from rfl,run_equalIn_int w (k+e') f.type _ _ _ _ hk]
   simp [eqV]
  ·rename_i hk
   have ha':a = [.bool]:=by
    simp only [Yy,hk,Option.some.injEq] at ha
    exact ha.symm
   subst ha'
   obtain ⟨x,x1,x2⟩:=one us u3
   obtain ⟨y,y1,y2⟩:=one vs v3
   simp only [List.length_cons,List.length_nil,Nat.zero_add] at u1 v1 ⊢
   rw [x1] at u1 ⊢
   rw [y1] at v1 ⊢
   cases x<;>try exact u1.elim
   cases y<;>try exact v1.elim
   have p1:∀ (l:List Value) (x:Value),l[n]? = some x→(part f.type l.toArray f.offset).run P w = .ok x w:=by
    intro l x h
    rw [hoff]
    have:l.toArray[n]? = some x:=by simpa using h
    simp [part,isAgg,run_underlying hk,this]
   refine ⟨_,_,p1 us _ x2,p1 vs _ y2,?_⟩
   rw [show k+(e'+1)=(k+e')+1 from rfl,run_equalIn_bool' w (k+e') f.type _ _ hk]
   simp [eqV]
  ·rename_i gs hk
   rw [Bool.and_eq_true] at hty
   obtain ⟨inf,hinf⟩:=Option.isSome_iff_exists.1 hty.2
   have hsz:P.cellsOf f.type=inf.size:=Zp hinf
   have p1:∀ (l:List Value),(part f.type l.toArray f.offset).run P w = .ok (.agg ((l.drop n).take a.length).toArray) w:=by
    intro l
    rw [hoff]
    have hag:(isAgg f.type).run P w = .ok true w:=by simp [isAgg,run_underlying hk]
    have:l.toArray.extract n (n+inf.size)=((l.drop n).take a.length).toArray:=by
     apply Array.toList_inj.1
     rw [Array.toList_extract]
     simp [List.extract_eq_take_drop,← hcells,hsz]
    rw [← hsz,hcells] at this
    simp [part,hag,Zj hinf,← hsz,hcells]
   exact ⟨_,_,p1 us,p1 vs,hrec f.type hty.1 a _ _ w ha u1 v1⟩
  ·cases hty
theorem ZgS:∀ (e k:Nat) (T:TypeId),Zgl P e T=true→Zkr P e k T
 | 0, _, _, h => by simp [Zgl] at h
 | e + 1, k, T, h => by
  intro L us vs w hL hu hv
  unfold Zgl at h
  split at h
  ·rename_i fs hfs
   simp only [Bool.and_eq_true,Bool.not_eq_true'] at h
   have hfo:P.fieldsOf T=fs:=by simp only [Program.fieldsOf,hfs]
   rw [show k+(e+1)=(k+e)+1 from rfl,run_equalIn_struct w (k+e) T _ _ (by rw [hfo];exact hfs) h.2,hfo]
   have:=W7 e k (Zgl P e) (fun T' h'=>ZgS e k T' h') w us vs fs.toList 0 L h.1 (by
    rw [Yy] at hL
    simp only [hfs] at hL
    exact hL) (by simpa using hu) (by simpa using hv)
   simpa using this
  ·cases h
theorem Zj0 {plain:List TypeId} (h:plain.all (Zop P)=true):PlainSound P plain:=by
 intro T hT
 rw [List.all_eq_true] at h
 have hf:=h T hT
 unfold Zop at hf
 simp only [Bool.and_eq_true,Bool.not_eq_true'] at hf
 exact ⟨hf.2,fun L hL us vs hu hv w=>ZgS 8 9992 T hf.1 L us vs w hL hu hv⟩
end
end Go.AM
end

section
namespace Go.AM
def Znm (l:List V):Nat→V:=fun n=>(l[n]?).getD (.i 0)
abbrev I (z:Int):AV:=.val (.int .i64 z)
abbrev B (b:Bool):AV:=.val (.bool b)
theorem Wp {z:Int} (h1 : -(2^63:Int)≤z) (h2:z < 2^63):IntKind.i64.wrap z=z:=by
 have e:(2:Int)^63=9223372036854775808:=by decide
 rw [e] at h1 h2
 simp only [IntKind.wrap]
 have:IntKind.i64.signed=true:=rfl
 simp [this,IntKind.bits]
 omega
theorem YW {z:Int} (h1:0≤z) (h2:z < 2^64):IntKind.u64.wrap z=z:=by
 have e:(2:Int)^64=18446744073709551616:=by decide
 rw [e] at h2
 simp only [IntKind.wrap]
 have:IntKind.u64.signed=false:=rfl
 simp [this,IntKind.bits]
 omega
theorem YU {a b:Int} (h1 : -(2^63:Int)≤a+b) (h2:a+b < 2^63):iop .add .i64 a b=a+b:=Wp h1 h2
theorem ZjB {a b:Int} (h1 : -(2^63:Int)≤a-b) (h2:a-b < 2^63):iop .sub .i64 a b=a-b:=Wp h1 h2
theorem Zn4 {a b:Int} (h1 : -(2^63:Int)≤a*b) (h2:a*b < 2^63):iop .mul .i64 a b=a*b:=Wp h1 h2
theorem Zml {b:Int} (h2:b≤62):iop .shl .i64 1 b=2^b.toNat:=by
 have hb:b.toNat≤62:=by omega
 have hle:(2:Int)^b.toNat≤2^62:=by
  have:=Nat.pow_le_pow_right (n:=2) (by omega) hb
  exact_mod_cast this
 have hpos:(0:Int) < 2^b.toNat:=by
  have:=Nat.pow_pos (n:=b.toNat) (show 0 < 2 by omega)
  exact_mod_cast this
 have e62:(2:Int)^62=4611686018427387904:=by decide
 have e63:(2:Int)^63=9223372036854775808:=by decide
 have hmin:min b.toNat IntKind.i64.bits=b.toNat:=by
  have:IntKind.i64.bits=64:=rfl
  omega
 simp only [iop,hmin,Int.one_mul]
 rw [Wp (by omega) (by omega)]
theorem JO (n:Nat):(0:Int) < 2^n:=by
 have:=Nat.pow_pos (n:=n) (show 0 < 2 by omega)
 exact_mod_cast this
theorem Zg4 {m n:Nat} (h:m≤n):(2:Int)^m≤2^n:=by
 have:=Nat.pow_le_pow_right (n:=2) (by omega) h
 exact_mod_cast this
theorem Jp (a b:Int):(cop .lss a b=true)=(a < b):=by simp [cop]
theorem Jf (a b:Int):(cop .lss a b=false)=(b≤a):=by simp [cop]
theorem Jh (a b:Int):(cop .leq a b=true)=(a≤b):=by simp [cop]
theorem Jm (a b:Int):(cop .leq a b=false)=(b < a):=by simp [cop]
theorem Jk (a b:Int):(cop .gtr a b=true)=(b < a):=by simp [cop]
theorem Jq (a b:Int):(cop .gtr a b=false)=(a≤b):=by simp [cop]
theorem Jo (a b:Int):(cop .geq a b=true)=(b≤a):=by simp [cop]
theorem Je (a b:Int):(cop .geq a b=false)=(a < b):=by simp [cop]
theorem Jg (a b:Int):(cop .eql a b=true)=(a=b):=by simp [cop]
theorem Jn (a b:Int):(cop .eql a b=false)=(a≠b):=by simp [cop]
theorem Ji (a b:Int):(cop .neq a b=true)=(a≠b):=by simp [cop]
theorem Jl (a b:Int):(cop .neq a b=false)=(a=b):=by simp [cop]
theorem Z2 (x y:Bool):(x=y)=(x=true↔y=true):=by cases x<;>cases y<;>simp
end Go.AM
end

section
namespace Go.AM
section
variable {P:Program} {E:Env}
theorem callOk_ofR {R : AV → List AV → Prop} (hm : P.follows .mixedOrders = true) (hps : PlainSound P E.plain) {f : FuncId} {fn : Func} (hf : P.funcs[f]? = some fn) (hname : (fn.name == "runtime.NumGoroutine") = false) {args : List SV} {n : Nat} {ρ : Nat → V}
  (hargs:∀ a∈args,a.bd n) {res:AV} {outs:List AV} (hR:∀ r os,R r os→K2 P (os++[r]) (outs++[res])) (h:(Zoz P E fn args n).wp P R (fun _ _=>False) ρ):Jz P f (args.map (SV.den ρ)) res outs:=by
 unfold Zoz at h
 split at h
 case h_2=>exact h.elim
 rename_i code hbody
 dsimp only at h
 split at h
 case isFalse=>exact h.elim
 rename_i hh
 obtain ⟨hnt,hnm,hal,hng,haf⟩:=hh
 have hat:=Vd args 0 haf
 refine ⟨⟨fn,hf,hname,by rw [hbody];rfl⟩,?_⟩
 intro w lim X cargs hcl hrel hdist hsize
 rw [List.length_map] at hcl
 have hgl:∀ (aZ:List SV) (i:Nat),Z6 E aZ i=true→i+aZ.length≤E.nt+((aZ.map (SV.den ρ)).countP AV.isG)∨aZ.length≤(aZ.map (SV.den ρ)).countP AV.isG:=by
  intro aZ
  induction aZ with
  | nil => intro i _; exact .inr (Nat.zero_le _)
  | cons a aZ ih =>
   intro i hf
   have h0:=Vd (a::aZ) i hf 0 a rfl
   have hd:(a.den ρ).isG=a.isG:=by cases a<;>first | rfl | (rename_i x;cases x<;>rfl)
   rw [List.map_cons,List.countP_cons,hd,List.length_cons]
   by_cases hg:a.isG=true
   ·rw [if_pos hg]
    rcases ih (i+1) (Y3 hf) with h1 | h1
    ·left;omega
    ·right;omega
   ·rw [if_neg hg]
    have h2:i < E.nt:=by
     rcases Nat.lt_or_ge i E.nt with h | h
     ·exact h
     ·exact (hg (h0.2.2 (by simpa using h))).elim
    rcases ih (i+1) (Y3 hf) with h1 | h1
    ·left;omega
    ·left;omega
 have hcn:cargs.length≤E.nt:=by
  rcases hgl args 0 haf with h1 | h1<;>omega
 have hcd:∀ d,d < args.length→(∃ a,args[d]? = some a):=fun d hd=>⟨_,List.getElem?_eq_getElem hd⟩
 refine calls_of_wp hf hbody ?_
 let c:Ctx:=⟨P,w,lim,fun b=>∃ i k,X i k=some b,E.nt,fun d=>match args[d]? with | some (.box _)=>some (cargs.getD d undef) | _=>none,fun d=>match args[d]? with | some (.gbox _)=>X d 0 | _=>none⟩
 have hlow:K9 E (Kz args 0):=by
  unfold K9
  rw [List.all_eq_true]
  intro u hu
  have:=ZbB args 0 E.top (by omega) u hu
  simpa using this
 have hσ:ZQ E (Jt (Kz args 0) (.leaf .dead)) ρ=ZE (args.map (SV.den ρ)):=by
  rw [JY hnt ρ _ _ hlow]
  funext d
  rw [ZbI,Nat.zero_add,Nat.sub_zero]
  split
  ·rfl
  ·rename_i hd
   have h1:ZQ E (.leaf .dead) ρ d = .dead:=by
    simp only [ZQ,gE]
    split<;>rfl
   have h2:(args.map (SV.den ρ))[d]? = none:=List.getElem?_eq_none (by rw [List.length_map];omega)
   rw [h1]
   simp only [ZE,h2]
   rfl
 have htm:∀ d,(cargs.toArray++Array.replicate (fn.ntmps-cargs.toArray.size) undef).getD d undef=cargs.getD d undef:=by
  intro d
  rw [List.getD_eq_getElem?_getD,Array.getD_eq_getD_getElem?,Array.getElem?_append]
  simp only [List.size_toArray,List.getElem?_toArray]
  split
  ·rfl
  ·rename_i h1
   rw [List.getElem?_eq_none (by omega),Array.getElem?_replicate]
   split<;>rfl
 have hpin:∀ d v,c.pin d=some v→(∃ cs,args[d]? = some (.box cs))∧v=cargs.getD d undef:=by
  intro d v hv
  have hv':(match args[d]? with | some (.box _)=>some (cargs.getD d undef) | _=>none)=some v:=hv
  split at hv'
  ·rename_i cs hcs
   simp only [Option.some.injEq] at hv'
   exact ⟨⟨cs,hcs⟩,hv'.symm⟩
  ·cases hv'
 have hsim:Sim c (ZQ E (Jt (Kz args 0) (.leaf .dead)) ρ) (cargs.toArray++Array.replicate (fn.ntmps-cargs.toArray.size) undef) w lim X:=by
  rw [hσ]
  have hG:∀ d,(ZE (args.map (SV.den ρ)) d).isG=true↔∃ cs,args[d]? = some (.gbox cs):=by
   intro d
   cases ha:args[d]? with
   | none =>
    have h2:(args.map (SV.den ρ))[d]? = none:=by rw [List.getElem?_map,ha];rfl
    simp only [ZE,h2]
    exact ⟨fun h=>(by cases h),fun ⟨_,h⟩=>(by cases h)⟩
   | some a =>
    have h2:ZE (args.map (SV.den ρ)) d=a.den ρ:=by simp only [ZE,List.getElem?_map,ha];rfl
    rw [h2]
    cases a with
    | gbox cs => exact ⟨fun _ => ⟨cs, rfl⟩, fun _ => rfl⟩
    | c x => exact ⟨fun h => (by cases x <;> cases h), fun ⟨_, h⟩ => (by cases h)⟩
    | _ => exact ⟨fun h => (by cases h), fun ⟨_, h⟩ => (by cases h)⟩
  refine ⟨fun d=>by rw [htm d];exact hrel d,?_,fun d hd=>?_,fun d hd=>?_,hdist,fun d k b hb=>⟨hsize d k b hb,.inl ⟨d,k,hb⟩⟩,⟨rfl,rfl,rfl,Nat.le_refl _,fun _ _=>rfl,fun _ _ _=>⟨rfl,rfl⟩,Ext.refl w lim⟩,fun d v hv=>?_,fun d b hb=>?_⟩
  ·show _=E.nt
   simp
   omega
  ·cases ha:args[d]? with
   | none =>
    left
    have h2:(args.map (SV.den ρ))[d]? = none:=by rw [List.getElem?_map,ha];rfl
    simp only [ZE,h2]
    rfl
   | some a =>
    right
    have h3:=(hat d a ha).2.2 (by rw [Nat.zero_add];exact hd)
    refine (hG d).2 ?_
    cases a<;>simp [SV.isG] at h3
    exact ⟨_,ha⟩
  ·obtain ⟨cs,hcs⟩:=(hG d).1 hd
   have:=(hat d _ hcs).2.1 rfl
   rwa [Nat.zero_add] at this
  ·obtain ⟨⟨cs,hcs⟩,rfl⟩:=hpin d v hv
   refine ⟨htm d,cs.map (BC.den ρ),?_⟩
   simp only [ZE,List.getElem?_map,hcs]
   rfl
  ·have hb':(match args[d]? with | some (.gbox _)=>X d 0 | _=>none)=some b:=hb
   split at hb'
   ·rename_i cs hcs
    exact ⟨hb',(hG d).2 ⟨cs,hcs⟩⟩
   ·cases hb'
 have hfin:∀ s' n' ρ' (A':Nat→List V→Prop),Kt E s' n'→((match ZgW (gE E s') args fn.results.toList with
   | some (_, cs) => .ret (.box cs) (KR (gE E s') args 0)
   | none =>
   match Zjd P (gE E s') fn.results.toList with
   | some r => if ZcD args fn.results.toList = true then STree.ret r (KR (gE E s') args 0) else .stuck 124
   | none => .stuck 120) : STree).wp P R A' ρ' → ∀ tm' w' lim' X', Sim c (ZQ E s' ρ') tm' w' lim' X' → ∃ v, (results fn tm').run P w' = .ok v w' ∧
    ∃ v1 lim1 X1,Ending.returned v = .returned v1∧ZT w lim w' lim1 (fun b=>∃ i k,X i k=some b)∧outs.length=(args.map (SV.den ρ)).length∧
     (∀ i,ZD P w' lim1 X1 (ZE (outs++[res])) i (ZE (outs++[res]) i) (Wq (args.map (SV.den ρ)).length cargs v1 i))∧Zic X1∧
     (∀ i k b,X1 i k=some b→b < w'.heap.size∧((∃ i k,X i k=some b)∨w.heap.size≤b))∧∀ i,(ZE (outs++[res]) i).isG=true→(ZE (args.map (SV.den ρ)) i).isG=true∧X1 i 0=X i 0:=by
  intro s' n' ρ' A' _ h' tm' w' lim' X' hsim'
  obtain ⟨r,SRC,hA,hB,hval,hG0,h'⟩:∃ (r:SV) (SRC:Nat→Nat→Option (Nat×Nat)),(∀ i,i < args.length→∀ k,SRC i k=if (args[i]?).map SV.isBx=some true then some (i,k) else none)∧
    (∀ i k i' k' p,SRC i k=some p→SRC i' k'=some p→i=i'∧k=k')∧
    (∃ v,(results fn tm').run P w' = .ok v w'∧ZD P w' lim' (fun i k=>(SRC i k).bind fun p=>X' p.1 p.2) (ZE ((KR (gE E s') args 0).map (SV.den ρ')++[r.den ρ'])) args.length (r.den ρ') v)∧
    (r.den ρ').isG=false∧(STree.ret r (KR (gE E s') args 0)).wp P R A' ρ':=by
   split at h'
   ·rename_i d0 cs hbr
    unfold ZgW at hbr
    split at hbr
    case h_2=>cases hbr
    rename_i t hrs
    split at hbr
    case h_2=>cases hbr
    rename_i d1 hgt
    split at hbr
    case h_2=>cases hbr
    rename_i cs1 hgd
    split at hbr
    case isFalse=>cases hbr
    rename_i hna
    simp only [Option.some.injEq,Prod.mk.injEq] at hbr
    obtain ⟨rfl,rfl⟩:=hbr
    have hnb:∀ a,args[d1]? = some a→a.isBx=true→False:=by
     intro a ha hax
     rw [ha] at hna
     cases a<;>simp [SV.isBx] at hax<;>cases hna
    refine ⟨.box cs1,fun i k=>if i < args.length then (if (args[i]?).map SV.isBx=some true then some (i,k) else none) else if i=args.length then some (d1,k) else none,fun i hi k=>if_pos hi,?_,?_,rfl,h'⟩
    ·intro i k i' k' p h1 h2
     dsimp only at h1 h2
     split at h1
     ·split at h1
      ·rename_i hi hb
       simp only [Option.some.injEq] at h1
       subst h1
       obtain ⟨a,ha,hax⟩:=Option.map_eq_some_iff.1 hb
       split at h2
       ·split at h2
        ·simp only [Option.some.injEq,Prod.mk.injEq] at h2;exact ⟨h2.1.symm,h2.2.symm⟩
        ·cases h2
       ·split at h2
        ·simp only [Option.some.injEq,Prod.mk.injEq] at h2
         exact (hnb a (by rw [h2.1];exact ha) hax).elim
        ·cases h2
      ·cases h1
     ·split at h1
      ·rename_i hi
       simp only [Option.some.injEq] at h1
       subst h1
       split at h2
       ·split at h2
        ·rename_i hi' hb
         simp only [Option.some.injEq,Prod.mk.injEq] at h2
         obtain ⟨a,ha,hax⟩:=Option.map_eq_some_iff.1 hb
         exact (hnb a (by rw [← h2.1];exact ha) hax).elim
        ·cases h2
       ·split at h2
        ·rename_i hi'
         simp only [Option.some.injEq,Prod.mk.injEq] at h2
         exact ⟨by rw [hi,hi'],h2.2.symm⟩
        ·cases h2
      ·cases h1
    ·have ht:=hsim'.rel t
     have hd:=hsim'.rel d1
     have e1:ZQ E s' ρ' t = .ptr d1 0:=by simp only [ZQ,hgt];rfl
     have e2:ZQ E s' ρ' d1 = .box (cs1.map (BC.den ρ')):=by simp only [ZQ,hgd];rfl
     rw [e1] at ht
     rw [e2] at hd
     obtain ⟨b,cs',hb,_,hv⟩:=ht
     have hp:Zw P w' lim' (X' d1) (cs1.map (BC.den ρ')) (tm'.getD d1 undef):=hd
     obtain ⟨b',hb',hv'⟩:=Ym hp
     rw [hb] at hb'
     simp only [Option.some.injEq] at hb'
     subst hb'
     refine ⟨tm'.getD t undef,?_,?_⟩
     ·exact Va (vs:=[tm'.getD t undef]) (by rw [hrs];rfl) fun i r' v' hr' hv2=>by
       rw [hrs] at hr'
       cases i with
       | zero =>
        simp only [List.getElem?_cons_zero,Option.some.injEq] at hr' hv2
        subst hr'
        subst hv2
        rfl
       | succ i => simp at hr'
     ·show Zw P w' lim' (fun k=>((if args.length < args.length then (if (args[args.length]?).map SV.isBx=some true then some (args.length,k) else none) else if args.length=args.length then some (d1,k) else none:Option (Nat×Nat)).bind fun p=>X' p.1 p.2)) (cs1.map (BC.den ρ')) (tm'.getD t undef)
      have e3:(fun k=>((if args.length < args.length then (if (args[args.length]?).map SV.isBx=some true then some (args.length,k) else none) else if args.length=args.length then some (d1,k) else none:Option (Nat×Nat)).bind fun p=>X' p.1 p.2))=X' d1:=by
       funext k
       rw [if_neg (Nat.lt_irrefl _),if_pos rfl];rfl
      rw [e3,hv,← hv']
      exact hp
   ·split at h'
    case h_2=>exact h'.elim
    rename_i r hr
    split at h'
    case isFalse=>exact h'.elim
    rename_i hfine
    refine ⟨r,Zf1 args fn.results.toList,fun i hi k=>?_,fun i k i' k' p h1 h2=>ZiY hfine h1 h2,?_,?_,h'⟩
    ·unfold Zf1;rw [if_pos hi]
    ·generalize (KR (gE E s') args 0).map (SV.den ρ')=outs0
     have hrow:∀ k,Zf1 args fn.results.toList args.length k=match fn.results.toList with
       | [r] => if k = 0 then some (JN r, Zdm r) else none
       | rs => match k with | 0 => none | k + 1 => (rs[k]?).map fun r => (JN r, Zdm r) := by
      intro k
      unfold Zf1
      rw [if_neg (Nat.lt_irrefl _),if_pos rfl]
      all_goals rfl
     unfold Zjd at hr
     split at hr
     ·rename_i r0 hrs
      cases hx:ZbY P (gE E s') r0 with
      | none => simp [hx] at hr
      | some x =>
       simp only [hx,Option.map_some,Option.some.injEq] at hr
       subst hr
       rw [Zb2]
       obtain ⟨v,h1,h2⟩:=ZdI (c:=c) rfl hsim' hx
       refine ⟨v,?_,Zed ?_⟩
       ·exact Va (vs:=[v]) (by rw [hrs];rfl) fun i r' v' hr' hv'=>by
         rw [hrs] at hr'
         cases i with
         | zero =>
          simp only [List.getElem?_cons_zero,Option.some.injEq] at hr' hv'
          subst hr'
          subst hv'
          exact h1
         | succ i => simp at hr'
       ·show JQ P w' lim' ((Zf1 args fn.results.toList args.length 0).bind fun p=>X' p.1 p.2) _ v
        rw [hrow,hrs]
        exact h2
     ·rename_i hne
      cases hx:Zbf P (gE E s') fn.results.toList with
      | none => simp [hx] at hr
      | some xs =>
       simp only [hx,Option.map_some,Option.some.injEq] at hr
       subst hr
       obtain ⟨vs,g1,g2,g3⟩:=Zdt (c:=c) rfl hsim' _ _ hx
       have hne1:∀ v,vs≠[v]:=by
        intro v hv
        rw [hv] at g1
        obtain ⟨r',hr'⟩:=List.length_eq_one_iff.1 g1
        exact hne r' hr'
       refine ⟨.tuple vs.toArray,?_,?_⟩
       ·have:=Va g1 fun i r' v' hr' hv'=>(g3 i r' v' hr' hv').1
        rw [this]
        rcases vs with _ | ⟨v,_ | ⟨u,l⟩⟩
        ·rfl
        ·exact (hne1 v rfl).elim
        ·rfl
       ·refine ⟨vs,rfl,by simp [g2],fun i y u hy hu=>?_⟩
        rw [List.getElem?_map] at hy
        cases hxi:xs[i]? with
        | none => simp [hxi] at hy
        | some x =>
         simp only [hxi,Option.map_some,Option.some.injEq] at hy
         subst hy
         obtain ⟨r',hr'⟩:∃ r',fn.results.toList[i]? = some r':=⟨_,List.getElem?_eq_getElem (by rw [g1];exact (List.getElem?_eq_some_iff.1 hu).1)⟩
         have h3:=(g3 i r' u hr' hu).2 x hxi
         have hsrc:Zf1 args fn.results.toList args.length (i+1)=some (JN r',Zdm r'):=by
          rw [hrow]
          split
          ·rename_i r1 hr1;exact (hne r1 hr1).elim
          ·simp [hr']
         show JQ P w' lim' ((Zf1 args fn.results.toList args.length (i+1)).bind fun p=>X' p.1 p.2) _ u
         rw [hsrc]
         exact h3
    ·unfold Zjd at hr
     split at hr
     ·obtain ⟨x,_,rfl⟩:=Option.map_eq_some_iff.1 hr
      rw [Zb2]
      cases x with
      | c y => cases y <;> rfl
      | _ => rfl
     ·obtain ⟨x,_,rfl⟩:=Option.map_eq_some_iff.1 hr
      rfl
  obtain ⟨res0,hres⟩:∃ y,SV.den ρ' r=y:=⟨_,rfl⟩
  obtain ⟨outs0,houts⟩:∃ y,(KR (gE E s') args 0).map (SV.den ρ')=y:=⟨_,rfl⟩
  have hww:=hR _ _ h'
  rw [hres,houts] at hww
  suffices hz:∃ v,(results fn tm').run P w' = .ok v w'∧
    ∃ v1 lim1 X1,Ending.returned v = .returned v1∧ZT w lim w' lim1 (fun b=>∃ i k,X i k=some b)∧outs0.length=(args.map (SV.den ρ)).length∧
     (∀ i,ZD P w' lim1 X1 (ZE (outs0++[res0])) i (ZE (outs0++[res0]) i) (Wq (args.map (SV.den ρ)).length cargs v1 i))∧Zic X1∧
     (∀ i k b,X1 i k=some b→b < w'.heap.size∧((∃ i k,X i k=some b)∨w.heap.size≤b))∧∀ i,(ZE (outs0++[res0]) i).isG=true→(ZE (args.map (SV.den ρ)) i).isG=true∧X1 i 0=X i 0 by
   obtain ⟨v,hrun,v1,lim1,X1,he,hst,hol,hr,hd,hin,hgh⟩:=hz
   obtain ⟨X3,k1,k3,k2⟩:=ZbA hr hww
   have hX3:∀ i k b,X3 i k=some b→X1 i k=some b:=by
    intro i k b hb
    rcases k1 i k with e | e
    ·rw [← e];exact hb
    ·rw [e] at hb;cases hb
   have hll:outs0.length=outs.length:=by have:=hww.1;simpa using this
   refine ⟨v,hrun,v1,lim1,X3,he,hst,by rw [← hll,hol],k2,Zdw hd k1,fun i k b hb=>hin i k b (hX3 i k b hb),fun i hi=>?_⟩
   obtain ⟨m1,m2⟩:=hgh i (Zcp hww hi)
   exact ⟨m1,by rw [k3 i (Wk hi),m2]⟩
  rw [hres,houts] at hval
  obtain ⟨v,hv1,hv2⟩:=hval
  have hol:outs0.length=args.length:=by rw [← houts,List.length_map,Zc6]
  have hrt:∀ i,Wq (args.map (SV.den ρ)).length cargs v i=if i=args.length then v else cargs.getD i undef:=by
   intro i
   unfold Wq
   rw [List.length_map]
  have hout:∀ i,i < args.length→ZE (outs0++[res0]) i=match args[i]? with | some a=>if a.isBx=true then ZQ E s' ρ' i else .dead | none=>.dead:=by
   intro i hi
   simp only [ZE]
   rw [List.getElem?_append_left (by omega),← houts,List.getElem?_map,Zfw,Nat.zero_add]
   have:=List.getElem?_eq_getElem hi
   rw [this]
   simp only [Option.map_some,Option.getD_some]
   split<;>rfl
  have hgpn:∀ i cs,args[i]? = some (.gbox cs)→X' i 0=X i 0∧(ZQ E s' ρ' i).isG=true:=by
   intro i cs hcs
   have hri:=hrel i
   have h2:ZE (args.map (SV.den ρ)) i = .gbox (cs.map (BC.den ρ)):=by simp only [ZE,List.getElem?_map,hcs];rfl
   rw [h2] at hri
   obtain ⟨v',hp⟩:=hri
   obtain ⟨b,hb,_⟩:=Ym hp
   obtain ⟨g1,g2⟩:=hsim'.gpin i b (by show (match args[i]? with | some (.gbox _)=>X i 0 | _=>none)=_;rw [hcs];exact hb)
   exact ⟨by rw [g1,hb],g2⟩
  refine ⟨v,hv1,v,lim',fun i k=>(SRC i k).bind fun p=>X' p.1 p.2,rfl,⟨hsim'.frm.os,hsim'.frm.tape,hsim'.frm.output,hsim'.frm.size,hsim'.frm.frz,hsim'.frm.blk,hsim'.frm.ext⟩,by rw [hol,List.length_map],fun i=>?_,fun d k d' k' b hb hb'=>?_,fun i k b hb=>?_,fun i hi=>?_⟩
  ·rw [hrt]
   rcases Nat.lt_trichotomy i args.length with hi | hi | hi
   ·rw [if_neg (by omega),hout i hi]
    obtain ⟨a,ha⟩:=hcd i hi
    rw [ha]
    dsimp only
    have hrow:a.isBx=true→(fun k=>(SRC i k).bind fun p=>X' p.1 p.2)=X' i:=by
     intro hbx
     funext k
     rw [hA i hi k,ha,if_pos (by simp [hbx])]
     rfl
    cases a with
    | box cs =>
     rw [if_pos (show (SV.box cs).isBx=true from rfl)]
     obtain ⟨p1,cs',p2⟩:=hsim'.pin i (cargs.getD i undef) (by show (match args[i]? with | some (.box _)=>some (cargs.getD i undef) | _=>none)=_;rw [ha])
     have hrl:=hsim'.rel i
     rw [p2,p1] at hrl
     rw [p2]
     show Zw P w' lim' (fun k=>(SRC i k).bind fun p=>X' p.1 p.2) cs' _
     rw [hrow rfl]
     exact hrl
    | gbox cs =>
     rw [if_pos (show (SV.gbox cs).isBx=true from rfl)]
     obtain ⟨_,g2⟩:=hgpn i cs ha
     have hrl:=hsim'.rel i
     generalize ZQ E s' ρ' i=x at g2 hrl
     cases x<;>simp [AV.isG] at g2
     obtain ⟨v',hrl⟩:=hrl
     refine ⟨v',?_⟩
     show Zw P w' lim' (fun k=>(SRC i k).bind fun p=>X' p.1 p.2) _ v'
     rw [hrow rfl]
     exact hrl
    | _ => exact trivial
   ·subst hi
    have hout:ZE (outs0++[res0]) args.length=res0:=by
     simp only [ZE]
     rw [List.getElem?_append_right (by omega),hol]
     simp
    rw [if_pos rfl,hout]
    exact hv2
   ·have hout:ZE (outs0++[res0]) i = .dead:=by
     simp only [ZE]
     rw [List.getElem?_eq_none (by simp;omega)]
     rfl
    rw [hout]
    trivial
  ·cases hp:SRC d k with
   | none => simp [hp] at hb
   | some p =>
    cases hp':SRC d' k' with
    | none => simp [hp'] at hb'
    | some p' =>
     simp only [hp,hp',Option.bind_some] at hb hb'
     obtain ⟨e1,e2⟩:=hsim'.dist _ _ _ _ b hb hb'
     have:p=p':=Prod.ext e1 e2
     subst this
     exact hB _ _ _ _ _ hp hp'
  ·cases hp:SRC i k with
   | none => simp [hp] at hb
   | some p =>
    simp only [hp,Option.bind_some] at hb
    exact hsim'.ours _ _ b hb
  ·rcases Nat.lt_trichotomy i args.length with hl | hl | hl
   ·rw [hout i hl] at hi
    obtain ⟨a,ha⟩:=hcd i hl
    rw [ha] at hi
    dsimp only at hi
    cases a with
    | gbox cs =>
     obtain ⟨g1,g2⟩:=hgpn i cs ha
     refine ⟨by simp only [ZE,List.getElem?_map,ha];rfl,?_⟩
     show (SRC i 0).bind (fun p=>X' p.1 p.2)=X i 0
     rw [hA i hl 0,ha,if_pos (show (some (SV.gbox cs)).map SV.isBx=some true from rfl)]
     exact g1
    | box cs =>
     obtain ⟨p1,cs',p2⟩:=hsim'.pin i (cargs.getD i undef) (by show (match args[i]? with | some (.box _)=>some (cargs.getD i undef) | _=>none)=_;rw [ha])
     rw [if_pos (show (SV.box cs).isBx=true from rfl),p2] at hi
     cases hi
    | _ => cases hi
   ·subst hl
    have hres0:ZE (outs0++[res0]) args.length=res0:=by
     simp only [ZE]
     rw [List.getElem?_append_right (by omega),hol]
     simp
    rw [hres0,← hres,hG0] at hi
    cases hi
   ·have:ZE (outs0++[res0]) i = .dead:=by
     simp only [ZE]
     rw [List.getElem?_eq_none (by simp;omega)]
     rfl
    rw [this] at hi
    cases hi
 refine ZjG hm hps hnt (c:=c) rfl rfl (fun d v hv=>?_) (fun d b hb=>?_) code 0 n _ _ _ _ _ ρ _ w lim X _ ?_ h hsim ?_ ?_ ?_
 ·obtain ⟨⟨cs,hcs⟩,_⟩:=hpin d v hv
  have:=(hat d _ hcs).1 cs rfl
  rwa [Nat.zero_add] at this
 ·have hb':(match args[d]? with | some (.gbox _)=>X d 0 | _=>none)=some b:=hb
  split at hb'
  ·rename_i cs hcs
   have h1:=(hat d _ hcs).2.1 rfl
   have h2:=(List.getElem?_eq_some_iff.1 hcs).1
   exact ⟨by omega,by omega⟩
  ·cases hb'
 ·refine JF hnt _ _ hlow (fun d=>?_) (ZdX args 0 hargs)
  unfold gE
  split<;>trivial
 ·intro s' n' ρ' A' _ hs' h' tm' w' lim' X' hsim'
  obtain ⟨v,h1,h2⟩:=hfin s' n' ρ' A' hs' h' tm' w' lim' X' hsim'
  exact ⟨rfl,v,h1,h2⟩
 ·intro id s' n' ρ' A' _ hs' h'
  exact h'.elim
 ·intro s' n' ρ' A' _ hs' h' tm' w' lim' X' hsim'
  obtain ⟨v,h1,h2⟩:=hfin s' n' ρ' A' hs' h' tm' w' lim' X' hsim'
  exact ⟨rfl,v,h1,h2⟩
end
end Go.AM
end

section
namespace Go.AM
@[reducible] def Sh.T:Sh→Type
 | .int _ => Int
 | .bool => Bool
 | .str => ByteArray
 | .slice _ => List (List AV)
 | .own _ _ => List (List AV)
@[reducible] def ShsT:List Sh→Type
 | [] => Unit
 | [s] => s.T
 | s :: t :: r => s.T × ShsT (t :: r)
def Sh.toV:(s:Sh)→s.T→V
 | .int _, z => .i z
 | .bool, z => .b z
 | .str, z => .s z
 | .slice _, z => .l z
 | .own _ _, z => .l z
def Sh.ofV:(s:Sh)→V→Option s.T
 | .int _, .i z => some z
 | .bool, .b z => some z
 | .str, .s z => some z
 | .slice _, .l z => some z
 | .own _ _, .l z => some z
 | _, _ => none
def ZaZ:(l:List Sh)→ShsT l→List V
 | [], _ => []
 | [s], x => [s.toV x]
 | s :: t :: r, x => s.toV x.1 :: ZaZ (t :: r) x.2
def Zkm:(l:List Sh)→List V→Option (ShsT l)
 | [], [] => some ()
 | [], _ :: _ => none
 | [s], [v] => s.ofV v
 | [_], [] => none
 | [_], _ :: _ :: _ => none
 | _ :: _ :: _, [] => none
 | s :: t :: r, v :: vs => match s.ofV v, Zkm (t :: r) vs with | some a, some b => some (a, b) | _, _ => none
theorem Zik {s:Sh} {v:V} {x:s.T} (h:s.ofV v=some x):s.toV x=v:=by
 cases s<;>cases v<;>simp [Sh.ofV] at h<;>subst h<;>rfl
theorem Zdc:∀ (l:List Sh) (vs:List V) (x:ShsT l),Zkm l vs=some x→ZaZ l x=vs
 | [], [], _, _ => rfl
 | [], _ :: _, _, h => by simp [Zkm] at h
 | [s], [v], x, h => by simp only [ZaZ, Zik (show s.ofV v = some x from h)]
 | [_], [], _, h => by simp [Zkm] at h
 | [_], _ :: _ :: _, _, h => by simp [Zkm] at h
 | _ :: _ :: _, [], _, h => by simp [Zkm] at h
 | s :: t :: r, v :: vs, x, h => by
  simp only [Zkm] at h
  split at h
  ·rename_i a b ha hb
   simp only [Option.some.injEq] at h
   subst h
   simp only [ZaZ,Zik ha,Zdc (t::r) vs b hb]
  ·cases h
def Sh.ofE:(s:Sh)→AV→Option s.T
 | .int k, .val (.int k' z) => if k' = k then some z else none
 | .bool, .val (.bool b) => some b
 | .str, .val (.string b) => some b
 | .slice s, .slice false s' xs => if s' = s then some xs else none
 | _, _ => none
def Zh5:(l:List Sh)→List AV→Option (ShsT l)
 | [], [] => some ()
 | [], _ :: _ => none
 | [s], [c] => s.ofE c
 | [_], [] => none
 | [_], _ :: _ :: _ => none
 | _ :: _ :: _, [] => none
 | s :: t :: r, c :: cs => match s.ofE c, Zh5 (t :: r) cs with | some a, some b => some (a, b) | _, _ => none
theorem ZiP {s:Sh} {c:AV} {x:s.T} {n:Nat} {ρ:Nat→V} (h:s.ofE c=some x) (hρ:ρ n=s.toV x):(Yh s n).den ρ=c:=by
 unfold Sh.ofE at h
 split at h
 ·split at h
  ·simp only [Option.some.injEq] at h
   subst h
   rename_i hk
   subst hk
   simp only [Yh,SC.den,IE.den,hρ,Sh.toV,V.int]
  ·cases h
 ·simp only [Option.some.injEq] at h
  subst h
  simp only [Yh,SC.den,BE.den,hρ,Sh.toV,V.bool]
 ·simp only [Option.some.injEq] at h
  subst h
  simp only [Yh,SC.den,SE.den,hρ,Sh.toV,V.str]
 ·split at h
  ·simp only [Option.some.injEq] at h
   subst h
   rename_i hk
   subst hk
   simp only [Yh,SC.den,LE.den,hρ,Sh.toV,V.list]
  ·cases h
 ·cases h
theorem Zfu:∀ (l:List Sh) (cs:List AV) (x:ShsT l) (n:Nat) (ρ:Nat→V),Zh5 l cs=some x→Zfy ρ n (ZaZ l x)→(ZI l n).map (SC.den ρ)=cs
 | [], [], _, _, _, _, _ => rfl
 | [], _ :: _, _, _, _, h, _ => by simp [Zh5] at h
 | [s], [c], x, n, ρ, h, hf => by
  have h0:=hf 0 _ (show (ZaZ [s] x)[0]? = some (s.toV x) from rfl)
  rw [Nat.add_zero] at h0
  simp only [ZI,List.map_cons,List.map_nil,ZiP (show s.ofE c=some x from h) h0]
 | [_], [], _, _, _, h, _ => by simp [Zh5] at h
 | [_], _ :: _ :: _, _, _, _, h, _ => by simp [Zh5] at h
 | _ :: _ :: _, [], _, _, _, h, _ => by simp [Zh5] at h
 | s :: t :: r, c :: cs, x, n, ρ, h, hf => by
  simp only [Zh5] at h
  split at h
  ·rename_i a b ha hb
   simp only [Option.some.injEq] at h
   subst h
   obtain ⟨h0,h1⟩:=Zfy.tail (show Zfy ρ n (s.toV a::ZaZ (t::r) b) from hf)
   have h2:=Zfu (t::r) cs b (n+1) ρ hb h1
   rw [ZI,List.map_cons,ZiP ha h0,h2]
  ·cases h
def ZV {γ:Type} (p:Prop) [Decidable p] (x:Option γ):Option γ:=if p then x else none
theorem Zx {γ:Type} {p:Prop} {_:Decidable p} (h:p) (x:Option γ):ZV p x=x:=if_pos h
theorem Ye {γ:Type} {p:Prop} {_:Decidable p} {x:Option γ} {r:γ} (h:ZV p x=some r):p∧x=some r:=by
 unfold ZV at h
 split at h
 ·exact ⟨‹_›,h⟩
 ·cases h
def Zk0:Value→Value→Bool
 | .int k z, .int k' z' => decide (k = k') && decide (z = z')
 | .bool b, .bool b' => b == b'
 | .string s, .string s' => decide (s = s')
 | _, _ => false
theorem Zan {a b:Value} (h:Zk0 a b=true):a=b:=by
 unfold Zk0 at h
 split at h
 ·simp only [Bool.and_eq_true,decide_eq_true_eq] at h
  rw [h.1,h.2]
 ·rw [beq_iff_eq] at h
  rw [h]
 ·rw [decide_eq_true_eq] at h
  rw [h]
 ·cases h
def ZkM {α:Type} (q:α→α→Bool):List α→List α→Bool
 | [], [] => true
 | a :: aZ, b :: bs => q a b && ZkM q aZ bs
 | _, _ => false
theorem YN {α:Type} {q:α→α→Bool} (hq:∀ a b,q a b=true→a=b):∀ (aZ bs:List α),ZkM q aZ bs=true→aZ=bs
 | [], [], _ => rfl
 | [], _ :: _, h => by cases h
 | _ :: _, [], h => by cases h
 | a :: aZ, b :: bs, h => by
  simp only [ZkM,Bool.and_eq_true] at h
  rw [hq a b h.1,YN hq aZ bs h.2]
def Znp:Nat→AV→AV→Bool
 | _, .val a, .val b => Zk0 a b
 | n + 1, .slice f s xs, .slice f' s' ys => f == f' && (decide (s = s') && ZkM (ZkM (Znp n)) xs ys)
 | _, _, _ => false
theorem Zgr:∀ (n:Nat) (a b:AV),Znp n a b=true→a=b:=by
 intro n
 induction n with
 | zero =>
  intro a b h
  unfold Znp at h
  split at h
  ·rw [Zan h]
  ·rename_i hn;cases hn
  ·cases h
 | succ n ih =>
  intro a b h
  unfold Znp at h
  split at h
  ·rw [Zan h]
  ·rename_i hn
   cases hn
   simp only [Bool.and_eq_true,beq_iff_eq,decide_eq_true_eq] at h
   rw [h.1,h.2.1,YN (fun x y hxy=>YN ih x y hxy) _ _ h.2.2]
  ·cases h
section
open Classical in
noncomputable instance decLL:DecidableEq (List (List AV)):=fun a b=>if h:ZkM (ZkM (Znp 8)) a b=true then isTrue (YN (fun x y hxy=>YN (Zgr 8) x y hxy) _ _ h) else propDecidable _
end
@[reducible] noncomputable def Sh.dec:(s:Sh)→DecidableEq s.T
 | .int _ => inferInstanceAs (DecidableEq Int)
 | .bool => inferInstanceAs (DecidableEq Bool)
 | .str => inferInstanceAs (DecidableEq ByteArray)
 | .slice _ => decLL
 | .own _ _ => decLL
@[reducible] noncomputable def decS:(l:List Sh)→DecidableEq (ShsT l)
 | [] => inferInstanceAs (DecidableEq Unit)
 | [s] => s.dec
 | s :: t :: r => @instDecidableEqProd _ _ s.dec (decS (t :: r))
def ZiR {γ:Type} [d:DecidableEq γ] (l:List (List AV)) (k:Bool→Option γ):Option γ:=
 match l with
 | [] => if k true = k false then k true else none
 | _ :: _ => k false
theorem Zhr {γ:Type} {d:DecidableEq γ} {l:List (List AV)} {k:Bool→Option γ} {r:γ} (h:ZiR l k=some r) (b:Bool) (hb:b=true→l = []):k b=some r:=by
 unfold ZiR at h
 split at h
 ·split at h
  ·rename_i he
   cases b
   ·rw [← he];exact h
   ·exact h
  ·cases h
 ·cases b
  ·exact h
  ·cases hb rfl
theorem Zlw {γ:Type} {d:DecidableEq γ} {l:List (List AV)} {k:Bool→Option γ} {r:Option γ} (h1:l = []→k true=r) (h2:k false=r):ZiR l k=r:=by
 unfold ZiR
 split
 ·rw [h1 rfl,h2,if_pos rfl]
 ·exact h2
def Zu {γ:Type} (l:List (List AV)) (i:Int) (sh:List Sh) (k:ShsT sh→Option γ):Option γ:=
 if 0≤i then match l[i.toNat]? with | some cs=>(match Zh5 sh cs with | some r=>k r | none=>none) | none=>none else none
theorem KG {γ:Type} {l:List (List AV)} {i:Int} {sh:List Sh} {cs:List AV} {r:ShsT sh} (k:ShsT sh→Option γ) (h0:0≤i) (h1:l[i.toNat]? = some cs) (h2:Zh5 sh cs=some r):Zu l i sh k=k r:=by
 simp only [Zu,h0,if_true,h1,h2]
theorem Zgj {γ:Type} {l:List (List AV)} {i:Int} {sh:List Sh} {k:ShsT sh→Option γ} {x:γ} (h:Zu l i sh k=some x):0≤i∧∃ cs r,l[i.toNat]? = some cs∧Zh5 sh cs=some r∧k r=some x:=by
 unfold Zu at h
 split at h
 ·refine ⟨‹_›,?_⟩
  split at h
  ·split at h
   ·exact ⟨_,_,‹_›,‹_›,h⟩
   ·cases h
  ·cases h
 ·cases h
def Za4 {γ:Type} (F:(List V→Option γ)→List V→Option γ):Nat→List V→Option γ
 | 0 => fun _ => none
 | k + 1 => F (Za4 F k)
def JD:Nat:=1208925819614629174706176
inductive AP where
 | c (s : Sh)
 | agg (l : List Sh)
 | box (l : List Sh)
 | gbox (l : List Sh)
 | clo (g : FuncId) (ds : List Nat)
 | ref (j q : Nat)
 | dead
def RSh.sh:RSh→List Sh
 | .c s => [s]
 | .agg l => l
 | .box l => l
def JJ:List AP→List Sh
 | [] => []
 | .box l :: r => l ++ JJ r
 | .gbox l :: r => l ++ JJ r
 | _ :: r => JJ r
def Wf (rs:List RSh) (aps:List AP):List Sh:=rs.flatMap RSh.sh++JJ aps
structure Fun where
 args:List AP
 res:List RSh
 g:List V→Option (ShsT (Wf res args))
def YK (r:RSh) (us:List V) (j:Nat):AV:=
 match r with
 | .c s => Yr s (vAt us j)
 | .agg l => .agg (ZL l us j)
 | .box l => .box (ZL l us j)
def JL:List RSh→List V→Nat→List AV
 | [], _, _ => []
 | r :: rs, us, j => YK r us j :: JL rs us (j + r.sh.length)
def YF (rs:List RSh) (us:List V) (j:Nat):AV:=
 match rs with
 | [r] => YK r us j
 | rs => .tuple (JL rs us j)
def ZM:List AP→List V→Nat→List AV
 | [], _, _ => []
 | .box l :: r, us, j => .box (ZL l us j) :: ZM r us (j + l.length)
 | .gbox l :: r, us, j => .gbox (ZL l us j) :: ZM r us (j + l.length)
 | _ :: r, us, j => .dead :: ZM r us j
def AP.n:AP→Nat
 | .c _ => 1
 | .agg l => l.length
 | .box l => l.length
 | .gbox l => l.length
 | .clo _ _ => 0
 | .ref _ _ => 0
 | .dead => 0
def ZhI (a:AP) (us:List V) (j:Nat):AV:=
 match a with
 | .c s => Yr s (vAt us j)
 | .agg l => .agg (ZL l us j)
 | .box l => .box (ZL l us j)
 | .gbox l => .gbox (ZL l us j)
 | .clo g ds => .clo g ds
 | .ref j q => .mref j q
 | .dead => .dead
def YR:List AP→List V→Nat→List AV
 | [], _, _ => []
 | a :: r, us, j => ZhI a us j :: YR r us (j + a.n)
def Zec (rs:List RSh):Nat:=(rs.flatMap RSh.sh).length
def Fun.Ok (P:Program) (f:FuncId) (S:Fun):Prop:=
 ∀ vs r,S.g vs=some r→Jz P f (YR S.args vs 0) (YF S.res (ZaZ _ r) 0) (ZM S.args (ZaZ _ r) (Zec S.res))
def Zhh (P:Program):List (FuncId×Fun)→Prop
 | [] => True
 | p :: r => p.2.Ok P p.1 ∧ Zhh P r
def AP.sig:AP→Option (FuncId×List Nat)
 | .clo g ds => some (g, ds)
 | _ => none
def SV.sig:SV→Option (FuncId×List Nat)
 | .clo g ds => some (g, ds)
 | _ => none
def Ziy:List (FuncId×Fun)→FuncId→List (FuncId×List Nat)→Option Fun
 | [], _, _ => none
 | p :: r, f, sg => if p.1 = f ∧ p.2.args.filterMap AP.sig = sg then some p.2 else Ziy r f sg
theorem Zfa {P:Program} : ∀ {Φ:List (FuncId×Fun)} {f:FuncId} {sg:List (FuncId×List Nat)} {S:Fun},Zhh P Φ→Ziy Φ f sg=some S→S.Ok P f
 | [], _, _, _, _, h => by simp [Ziy] at h
 | p :: r, f, sg, S, ho, h => by
  simp only [Ziy] at h
  split at h
  ·rename_i hp
   simp only [Option.some.injEq] at h
   obtain ⟨hp,_⟩:=hp
   subst hp
   subst h
   exact ho.1
  ·exact Zfa ho.2 h
def Zl1 (P:Program):Sh→AV→Option V
 | .int k, .val (.int k' z) => if k' = k then some (.i z) else none
 | .bool, .val (.bool b) => some (.b b)
 | .str, .val (.string s) => some (.s s)
 | .slice s, .slice _ s' xs => if s' = s then some (.l xs) else (match xs with | [] => some (.l []) | _ :: _ => none)
 | .slice s, .own x e xs => if P.cellsOf e = s then (match x, xs with | false, xs => some (.l xs) | true, [] => some (.l []) | true, _ :: _ => none) else none
 | .own x e, .own x' e' xs => if e' = e then (match x, x', xs with | false, false, xs => some (.l xs) | true, true, xs => some (.l xs) | _, _, [] => some (.l []) | _, _, _ :: _ => none) else none
 | .own _ _, .slice true _ xs => (match xs with | [] => some (.l []) | _ :: _ => none)
 | _, _ => none
def Zc1 (P:Program):List Sh→List AV→Option (List V)
 | [], [] => some []
 | s :: ss, c :: cs => match Zl1 P s c, Zc1 P ss cs with | some v, some vs => some (v :: vs) | _, _ => none
 | _, _ => none
def Zmb (P:Program):AP→AV→Option (List V)
 | .c s, x => (Zl1 P s x).map fun v => [v]
 | .agg l, .agg cs => if l.all Sh.imm = true then Zc1 P l cs else none
 | .box l, .box cs => Zc1 P l cs
 | .gbox l, .gbox cs => Zc1 P l cs
 | .clo g ds, .clo g' ds' => if g' = g ∧ ds' = ds then some [] else none
 | .ref j q, .mref j' q' => if j' = j ∧ q' = q ∧ q ≠ 0 then some [] else none
 | .dead, .dead => some []
 | _, _ => none
def ZaK (P:Program):List AP→List AV→Option (List V)
 | [], [] => some []
 | a :: aZ, x :: xs => match Zmb P a x, ZaK P aZ xs with | some vs, some us => some (vs ++ us) | _, _ => none
 | _, _ => none
theorem Zij {P:Program} {s:Sh} {c:AV} {v:V} (h:Zl1 P s c=some v):Yf P c (Yr s v):=by
 unfold Zl1 at h
 split at h
 ·split at h
  ·simp only [Option.some.injEq] at h;subst h;rename_i hk;subst hk;exact .same (.inl rfl)
  ·cases h
 ·simp only [Option.some.injEq] at h;subst h;exact .same (.inl rfl)
 ·simp only [Option.some.injEq] at h;subst h;exact .same (.inl rfl)
 ·split at h
  ·simp only [Option.some.injEq] at h;subst h;rename_i hk;subst hk;exact .imm
  ·split at h
   ·simp only [Option.some.injEq] at h;subst h;exact .immN
   ·cases h
 ·split at h
  ·rename_i hk
   subst hk
   split at h
   ·simp only [Option.some.injEq] at h;subst h;exact .own
   ·simp only [Option.some.injEq] at h;subst h;exact .ownZ
   ·cases h
  ·cases h
 ·split at h
  ·rename_i hk
   subst hk
   split at h
   ·simp only [Option.some.injEq] at h;subst h;exact .same (.inr ⟨_,_,_,rfl⟩)
   ·simp only [Option.some.injEq] at h;subst h;exact .same (.inr ⟨_,_,_,rfl⟩)
   ·simp only [Option.some.injEq] at h;subst h;exact .ownN
   ·cases h
  ·cases h
 ·split at h
  ·simp only [Option.some.injEq] at h;subst h;exact .give
  ·cases h
 ·cases h
theorem WX {P:Program} : ∀ (l:List Sh) (cs:List AV) (vs:List V),Zc1 P l cs=some vs→vs.length=l.length∧cs.length=l.length∧∀ pre post:List V,
  ∀ (i:Nat) (c c':AV),cs[i]? = some c→(ZL l (pre++vs++post) pre.length)[i]? = some c'→Yf P c c'
 | [], [], vs, h => by
  simp only [Zc1,Option.some.injEq] at h
  subst h
  exact ⟨rfl,rfl,fun _ _ i c c' h=>by simp at h⟩
 | [], _ :: _, _, h => by simp [Zc1] at h
 | _ :: _, [], _, h => by simp [Zc1] at h
 | s :: ss, c :: cs, us, h => by
  simp only [Zc1] at h
  split at h
  ·rename_i v vs hv hvs
   simp only [Option.some.injEq] at h
   subst h
   obtain ⟨h1,h2,h3⟩:=WX (P:=P) ss cs vs hvs
   refine ⟨by simp [h1],by simp [h2],fun pre post i c1 c2 hc1 hc2=>?_⟩
   cases i with
   | zero =>
    simp only [ZL,List.getElem?_cons_zero,Option.some.injEq] at hc1 hc2
    subst hc1
    subst hc2
    rw [List.append_assoc,List.cons_append,Ko]
    exact Zij hv
   | succ i =>
    have:=h3 (pre++[v]) post i c1 c2 (by simpa using hc1)
    simp only [List.append_assoc,List.cons_append,List.nil_append,List.length_append,List.length_cons,List.length_nil] at this
    simp only [ZL,List.getElem?_cons_succ,List.append_assoc,List.cons_append] at hc2
    exact this hc2
  ·cases h
theorem ZkI {P:Program} {a:AP} {x:AV} {vs:List V} (h:Zmb P a x=some vs):vs.length=a.n∧((∃ g ds,a = .clo g ds∧x = .clo g ds)∨(∃ j q,a = .ref j q∧x = .mref j q)∨∀ pre post:List V,Yx P x (ZhI a (pre++vs++post) pre.length)):=by
 unfold Zmb at h
 split at h
 ·cases hd:Zl1 P _ x with
  | none => rw [hd] at h; cases h
  | some v =>
   rw [hd] at h
   simp only [Option.map_some,Option.some.injEq] at h
   subst h
   refine ⟨rfl,.inr<|.inr fun pre post=>?_⟩
   simp only [ZhI,List.append_assoc,List.cons_append,List.nil_append,Ko]
   exact .comp (.cell (Zij hd))
 ·rename_i l cs
  split at h
  ·rename_i hi
   obtain ⟨h1,h2,h3⟩:=WX (P:=P) _ _ _ h
   exact ⟨h1,.inr<|.inr fun pre post=>.comp (.agg (by rw [h2,Z9]) (Kc _ _ _ hi) (h3 pre post))⟩
  ·cases h
 ·obtain ⟨h1,h2,h3⟩:=WX (P:=P) _ _ _ h
  exact ⟨h1,.inr<|.inr fun pre post=>.box (by rw [h2,Z9]) (h3 pre post)⟩
 ·obtain ⟨h1,h2,h3⟩:=WX (P:=P) _ _ _ h
  exact ⟨h1,.inr<|.inr fun pre post=>.gbox (by rw [h2,Z9]) (h3 pre post)⟩
 ·split at h
  ·rename_i hh
   simp only [Option.some.injEq] at h
   subst h
   obtain ⟨rfl,rfl⟩:=hh
   exact ⟨rfl,.inl ⟨_,_,rfl,rfl⟩⟩
  ·cases h
 ·split at h
  ·rename_i hh
   simp only [Option.some.injEq] at h
   subst h
   obtain ⟨rfl,rfl,_⟩:=hh
   exact ⟨rfl,.inr (.inl ⟨_,_,rfl,rfl⟩)⟩
  ·cases h
 ·simp only [Option.some.injEq] at h
  subst h
  exact ⟨rfl,.inr<|.inr fun _ _=>.dead⟩
 ·cases h
theorem ZbD:∀ (l:List AP) (us:List V) (j:Nat),(YR l us j).length=l.length
 | [], _, _ => rfl
 | _ :: ss, us, j => by simp [YR, ZbD ss us]
theorem Zfm {P:Program} : ∀ (aZ:List AP) (xs:List AV) (vs:List V),ZaK P aZ xs=some vs→xs.length=aZ.length∧∀ pre post:List V,
  ∀ (i:Nat) (c c':AV),xs[i]? = some c→(YR aZ (pre++vs++post) pre.length)[i]? = some c'→(∃ g ds,aZ[i]? = some (.clo g ds)∧c = .clo g ds∧c' = .clo g ds)∨(∃ j q,aZ[i]? = some (.ref j q)∧c = .mref j q∧c' = .mref j q)∨Yx P c c'
 | [], [], _, _ => ⟨rfl, fun _ _ i c c' h => by simp at h⟩
 | [], _ :: _, _, h => by simp [ZaK] at h
 | _ :: _, [], _, h => by simp [ZaK] at h
 | a :: aZ, x :: xs, ws, h => by
  simp only [ZaK] at h
  split at h
  ·rename_i vs us hv hus
   simp only [Option.some.injEq] at h
   subst h
   obtain ⟨h1,h2⟩:=ZkI (P:=P) hv
   obtain ⟨h3,h4⟩:=Zfm (P:=P) aZ xs us hus
   refine ⟨by simp [h3],fun pre post i c1 c2 hc1 hc2=>?_⟩
   cases i with
   | zero =>
    simp only [YR,List.getElem?_cons_zero,Option.some.injEq] at hc1 hc2
    subst hc1
    subst hc2
    rcases h2 with ⟨g,ds,rfl,rfl⟩ | ⟨j,q,rfl,rfl⟩ | h2
    ·exact .inl ⟨g,ds,rfl,rfl,rfl⟩
    ·exact .inr (.inl ⟨j,q,rfl,rfl,rfl⟩)
    ·have:=h2 pre (us++post)
     exact .inr (.inr (by simpa [List.append_assoc] using this))
   | succ i =>
    have:=h4 (pre++vs) post i c1 c2 (by simpa using hc1)
    rw [List.length_append,h1] at this
    simp only [YR,List.getElem?_cons_succ] at hc2
    refine this ?_
    simpa [List.append_assoc] using hc2
  ·cases h
def Vu (aZ:List AP):Bool:=aZ.all fun a=>match a with | .clo _ ds=>ds.all (fun d=>match aZ[d]? with | some (.gbox _)=>true | _=>false) | .ref j q=>(match aZ[j]? with | some (.gbox l)=>(HP.gbox l).isPl q | _=>false) | _=>true
theorem Zaw:∀ (aZ:List AP) (us:List V) (j i:Nat) (a:AP),aZ[i]? = some a→∃ k,(YR aZ us j)[i]? = some (ZhI a us k)
 | [], _, _, _, _, h => by simp at h
 | b :: aZ, us, j, 0, a, h => by
  simp only [List.getElem?_cons_zero,Option.some.injEq] at h
  subst h
  exact ⟨j,rfl⟩
 | b :: aZ, us, j, i + 1, a, h => by
  obtain ⟨k,hk⟩:=Zaw aZ us (j+b.n) i a (by simpa using h)
  exact ⟨k,by simpa [YR] using hk⟩
theorem ZeS {P:Program} {aZ:List AP} {xs:List AV} {vs:List V} (hc:Vu aZ=true) (h:ZaK P aZ xs=some vs):K2 P xs (YR aZ vs 0):=by
 obtain ⟨h1,h2⟩:=Zfm (P:=P) aZ xs vs h
 refine ⟨by rw [h1,ZbD],fun i c c' hx hc'=>?_⟩
 rcases h2 [] [] i c c' hx (by simpa using hc') with ⟨g,ds,k1,rfl,rfl⟩ | ⟨j,q,k1,rfl,rfl⟩ | hw
 case inr.inl=>
  refine .inr (.inr ⟨j,q,rfl,rfl,?_⟩)
  unfold Vu at hc
  rw [List.all_eq_true] at hc
  have h3:=hc _ (List.mem_of_getElem? k1)
  simp only at h3
  split at h3
  ·rename_i l hl
   obtain ⟨k,hk⟩:=Zaw aZ vs 0 j _ hl
   simp only [ZE,hk]
   exact ZfP h3 vs k
  ·cases h3
 ·refine .inr (.inl ⟨g,ds,rfl,rfl,fun d hd=>?_⟩)
  unfold Vu at hc
  rw [List.all_eq_true] at hc
  have h3:=hc _ (List.mem_of_getElem? k1)
  simp only at h3
  rw [List.all_eq_true] at h3
  have h4:=h3 d hd
  split at h4
  ·rename_i l hl
   obtain ⟨k,hk⟩:=Zaw aZ vs 0 d _ hl
   simp only [ZE,hk]
   rfl
  ·cases h4
 ·exact .inl hw
def Zgx (a:AP) (x:AV):AV:=
 match a,x with
 | .c (.slice _), .own true e xs => .own false e xs
 | .c (.own false _), .own true e xs => .own false e xs
 | _, x => x
def ZdH:List AP→List AV→List AV
 | a :: aZ, x :: xs => Zgx a x :: ZdH aZ xs
 | _, xs => xs
theorem Zae (a:AP) (x:AV):Zgx a x=x∨∃ e xs,x = .own true e xs∧Zgx a x = .own false e xs:=by
 unfold Zgx
 split
 ·exact .inr ⟨_,_,rfl,rfl⟩
 ·exact .inr ⟨_,_,rfl,rfl⟩
 ·exact .inl rfl
theorem ZeZ (pre post:List AV) (x:AV) (i:Nat):ZE (pre++x::post) i=if i=pre.length then x else ZE (pre++.dead::post) i:=by
 unfold ZE
 by_cases hi:i=pre.length
 ·subst hi
  rw [if_pos rfl,List.getElem?_append_right (Nat.le_refl _),Nat.sub_self]
  rfl
 ·rw [if_neg hi]
  by_cases hlt:i < pre.length
  ·rw [List.getElem?_append_left hlt,List.getElem?_append_left hlt]
  ·rw [List.getElem?_append_right (by omega),List.getElem?_append_right (by omega)]
   obtain ⟨j,hj⟩:∃ j,i-pre.length=j+1:=⟨i-pre.length-1,by omega⟩
   rw [hj,List.getElem?_cons_succ,List.getElem?_cons_succ]
theorem Zif {P:Program} {w:World} {lim:Nat→Nat} {e:TypeId} {xs:List (List AV)} {v:Value} (h:Z8 P w lim true e xs v none):Z8 P w lim false e xs v none:=by
 rcases h with ⟨us,h1,h2,h3,h4,h5,h6⟩ | h
 ·exact .inl ⟨us,h1,h2,fun b hb=>(by cases hb),h4,h5,h6⟩
 ·exact .inr h
theorem Jz.freeze1 {P:Program} {f:FuncId} {pre post:List AV} {e:TypeId} {xs:List (List AV)} {res:AV} {outs:List AV} (h:Jz P f (pre++.own false e xs::post) res outs)
  (hn:∀ x∈pre++post,∀ d,¬ Z0 x d 0):Jz P f (pre++.own true e xs::post) res outs:=by
 refine ⟨h.1,fun w lim X cargs hcl hrel hdist hsize=>?_⟩
 have hat:∀ (b:Bool) (i:Nat),ZE (pre++.own b e xs::post) i=if i=pre.length then .own b e xs else ZE (pre++.dead::post) i:=fun b i=>ZeZ pre post _ i
 have hnr:∀ i d,i≠pre.length→¬ Z0 (ZE (pre++.dead::post) i) d 0:=by
  intro i d hi hr
  have hx:ZE (pre++.dead::post) i = .dead∨ZE (pre++.dead::post) i∈pre++post:=by
   unfold ZE
   cases hx:(pre++AV.dead::post)[i]? with
   | none => exact .inl rfl
   | some x =>
    have hm:=List.mem_of_getElem? hx
    rw [List.mem_append,List.mem_cons] at hm
    rcases hm with hm | rfl | hm
    ·exact .inr (List.mem_append_left _ hm)
    ·exact .inl rfl
    ·exact .inr (List.mem_append_right _ hm)
  rcases hx with hx | hx
  ·rw [hx] at hr
   rcases hr with hr | ⟨_,hr⟩ <;> cases hr
  ·exact hn _ hx d hr
 have h0:=hrel pre.length
 rw [hat,if_pos rfl] at h0
 have h0':Z8 P w lim true e xs (cargs.getD pre.length undef) (X pre.length 0):=h0
 obtain ⟨lim1,he,hk,hown⟩:∃ lim1,Ext w lim w lim1∧(∀ b,X pre.length 0≠some b→lim1 b=lim b)∧Z8 P w lim1 false e xs (cargs.getD pre.length undef) (X pre.length 0):=by
  cases hb:X pre.length 0 with
  | none => rw [hb] at h0'; exact ⟨lim, Ext.refl _ _, fun _ _ => rfl, Zif h0'⟩
  | some b0 =>
   rw [hb] at h0'
   have hl0:lim b0=0:=by
    rcases h0' with ⟨us,_,_,h3,_⟩ | ⟨_,h,_⟩
    ·rw [h3 b0 rfl];rfl
    ·cases h
   have hext:Ext w lim w (KB lim b0 (xs.length*P.cellsOf e)):=fun b _=>by
    refine ⟨?_,fun o u _ hu=>hu⟩
    unfold KB
    split
    ·rename_i h;rw [h,hl0];exact Nat.zero_le _
    ·exact Nat.le_refl _
   exact ⟨_,hext,fun b hne=>if_neg fun e=>hne (by rw [e]),ZaI h0' hext⟩
 have hrel1:∀ i,ZD P w lim1 X (ZE (pre++.own false e xs::post)) i (ZE (pre++.own false e xs::post) i) (cargs.getD i undef):=by
  intro i
  by_cases hi:i=pre.length
  ·subst hi
   rw [hat,if_pos rfl]
   exact hown
  ·have h1:=hrel i
   have hne:ZE (pre++.own false e xs::post) i=ZE (pre++.own true e xs::post) i:=by rw [hat,hat,if_neg hi,if_neg hi]
   rw [hne]
   refine ZD.chg (h1.mono he (fun k b hb=>⟨rfl,hk b fun e=>hi (hdist i k pre.length 0 b hb e).1⟩) fun d' k b hr _=>.of rfl) rfl (fun d' cs hd=>⟨⟨cs,?_⟩,rfl⟩) (fun d' hg=>⟨?_,rfl⟩) fun d' k hr=>?_
   ·rw [hat] at hd ⊢
    split at hd
    ·cases hd
    ·rename_i hd'
     rw [if_neg hd'];exact hd
   ·rw [hat] at hg ⊢
    split at hg
    ·cases hg
    ·rename_i hd'
     rw [if_neg hd'];exact hg
   ·rw [hat,if_neg hi] at hr
    refine ⟨?_,rfl⟩
    rw [hat,hat]
    by_cases hd:d'=pre.length
    ·rw [if_pos hd,if_pos hd]
     cases k with
     | zero => exact (hnr i d' hi hr).elim
     | succ k => intro _ _ h; cases h
    ·rw [if_neg hd,if_neg hd]
     exact K5.refl _ _
 have hcnt:(pre++AV.own true e xs::post).countP AV.isG=(pre++AV.own false e xs::post).countP AV.isG:=by
  simp [List.countP_append,List.countP_cons,AV.isG]
 have hll:(pre++AV.own true e xs::post).length=(pre++AV.own false e xs::post).length:=by simp
 refine (h.2 w lim1 X cargs (by rw [← hcnt,← hll];exact hcl) hrel1 hdist hsize).mono ?_
 rintro e' w' ⟨v,lim',X',he',hst,hol,hr,hd,hin,hgh⟩
 refine ⟨v,lim',X',he',⟨hst.os,hst.tape,hst.output,hst.size,hst.frz,fun b hb hn'=>?_,he.trans hst.ext (Nat.le_refl _)⟩,by rw [hol,hll],fun i=>by rw [hll];exact hr i,hd,hin,fun i hi=>?_⟩
 ·obtain ⟨k1,k2⟩:=hst.blk b hb hn'
  exact ⟨k1,k2.trans (hk b fun e=>hn' ⟨_,_,e⟩)⟩
 ·obtain ⟨m1,m2⟩:=hgh i hi
  refine ⟨?_,m2⟩
  rw [hat] at m1 ⊢
  split at m1
  ·cases m1
  ·rename_i hi'
   rw [if_neg hi'];exact m1
theorem Zbt {d k:Nat} : ∀ (aZ:List AP) (xs:List AV),(∀ x∈ZdH aZ xs,¬ Z0 x d k)→∀ x∈xs,¬ Z0 x d k
 | [], xs, h => fun x hx => h x (by cases xs <;> exact hx)
 | _ :: _, [], _ => fun _ hx => by cases hx
 | a :: aZ, y :: ys, h => fun x hx => by
  rcases List.mem_cons.1 hx with rfl | hx
  ·rcases Zae a x with e | ⟨_,_,rfl,_⟩
   ·have:=h (Zgx a x) (List.mem_cons_self ..)
    rwa [e] at this
   ·rintro (h | ⟨_,h⟩)<;>cases h
  ·exact Zbt aZ ys (fun z hz=>h z (List.mem_cons_of_mem _ hz)) x hx
theorem Jz.freeze {P:Program} {f:FuncId} {res:AV} {outs:List AV} : ∀ (aZ:List AP) (xs pre:List AV),Jz P f (pre++ZdH aZ xs) res outs→(∀ x∈pre++ZdH aZ xs,∀ d,¬ Z0 x d 0)→Jz P f (pre++xs) res outs
 | [], xs, pre, h, _ => by cases xs <;> exact h
 | _ :: _, [], pre, h, _ => h
 | a :: aZ, x :: xs, pre, h, hn => by
  have h1:=Jz.freeze aZ xs (pre++[Zgx a x]) (by simpa [ZdH] using h) (by simpa [ZdH] using hn)
  rw [List.append_assoc,List.singleton_append] at h1
  rcases Zae a x with e | ⟨e,ys,rfl,e'⟩
  ·rwa [e] at h1
  ·rw [e'] at h1
   refine h1.freeze1 fun y hy d=>?_
   rcases List.mem_append.1 hy with hy | hy
   ·exact hn y (List.mem_append_left _ hy) d
   ·exact Zbt aZ xs (fun z hz=>hn z (List.mem_append_right _ (List.mem_cons_of_mem _ hz)) d) y hy
theorem Zie {P:Program} {a:AP} {x:AV} {vs:List V} (h:Zmb P a x=some vs) (d:Nat):¬ Z0 x d 0:=by
 rintro (rfl | ⟨_,rfl⟩)<;>cases a
 case inl.ref j q=>
  simp only [Zmb] at h
  split at h
  ·rename_i hh;exact hh.2.2 hh.2.1.symm
  ·cases h
 all_goals simp [Zmb,Zl1] at h
 all_goals (rename_i s;cases s<;>simp [Zl1] at h)
theorem ZbG {P:Program} : ∀ (aZ:List AP) (xs:List AV) (vs:List V),ZaK P aZ xs=some vs→∀ x∈xs,∀ d,¬ Z0 x d 0
 | _, [], _, _ => fun _ hx => by cases hx
 | [], _ :: _, _, h => by simp [ZaK] at h
 | a :: aZ, x :: xs, ws, h => by
  simp only [ZaK] at h
  split at h
  ·rename_i vs us hv hus
   intro y hy d
   rcases List.mem_cons.1 hy with rfl | hy
   ·exact Zie hv d
   ·exact ZbG aZ xs us hus y hy d
  ·cases h
def ZkX {γ:Type} (P:Program) (S:Fun) (aZ:List AV) (k:List V→Option γ):Option γ:=
 match ZaK P S.args (ZdH S.args aZ) with
 | some vs => (S.g vs).bind fun r => k (ZaZ _ r)
 | none => none
theorem ZgI {γ:Type} {S:Fun} {aZ:List AV} {k:List V→Option γ} {x:γ} {P:Program} (h:ZkX P S aZ k=some x):∃ vs r,ZaK P S.args (ZdH S.args aZ)=some vs∧S.g vs=some r∧k (ZaZ _ r)=some x:=by
 unfold ZkX at h
 split at h
 ·rename_i vs hvs
  rw [Option.bind_eq_some_iff] at h
  obtain ⟨r,h1,h2⟩:=h
  exact ⟨vs,r,hvs,h1,h2⟩
 ·cases h
def Zoi (s:Sh) (x:SC) (m:Nat):Bool:=
 match s,x with
 | .int k, .int k' (.var a) => decide (k' = k) && decide (a = m)
 | .bool, .bool (.var a) => decide (a = m)
 | .str, .str (.var a) => decide (a = m)
 | .slice s, .slice false s' (.var a) => decide (s' = s) && decide (a = m)
 | _, _ => false
def Zf5:List Sh→List SC→Nat→Bool
 | [], [], _ => true
 | s :: ss, c :: cs, m => Zoi s c m && Zf5 ss cs (m + 1)
 | _, _, _ => false
def ZoX (r:RSh) (x:TC) (m:Nat):Bool:=
 match r,x with
 | .c s, .c x => Zoi s x m
 | .c (.own x e), .own x' e' (.var a) => (decide (e' = e) && decide (a = m)) && (x' == x)
 | .agg l, .agg cs => Zf5 l cs m
 | _, _ => false
def Zga:List RSh→List TC→Nat→Bool
 | [], [], _ => true
 | r :: rs, x :: xs, m => ZoX r x m && Zga rs xs (m + r.sh.length)
 | _, _, _ => false
def ZoP:SV→Option TC
 | .c x => some (.c x)
 | .agg cs => some (.agg cs)
 | .own x e l => some (.own x e l)
 | _ => none
def Zp1 (s:Sh) (x:BC) (m:Nat):Bool:=
 match s,x with
 | s, .c x => Zoi s x m
 | .own x e, .own x' e' (.var a) => (decide (e' = e) && decide (a = m)) && (x' == x)
 | _, _ => false
def Zdd:List Sh→List BC→Nat→Bool
 | [], [], _ => true
 | s :: ss, c :: cs, m => Zp1 s c m && Zdd ss cs (m + 1)
 | _, _, _ => false
def Zqu (rs:List RSh) (x:SV) (m:Nat):Bool:=
 match rs with
 | [r] => match r, x with | .box l, .box cs => Zdd l cs m | _, _ => match ZoP x with | some y => ZoX r y m | none => false
 | rs => match x with | .tuple vs => Zga rs vs m | _ => false
def Km:List AP→List SV→Nat→Bool
 | [], [], _ => true
 | .box l :: r, .box cs :: xs, m => Zdd l cs m && Km r xs (m + l.length)
 | .gbox l :: r, .gbox cs :: xs, m => Zdd l cs m && Km r xs (m + l.length)
 | .c _ :: r, .dead :: xs, m => Km r xs m
 | .agg _ :: r, .dead :: xs, m => Km r xs m
 | .clo _ _ :: r, .dead :: xs, m => Km r xs m
 | .ref _ _ :: r, .dead :: xs, m => Km r xs m
 | .dead :: r, .dead :: xs, m => Km r xs m
 | _, _, _ => false
section
variable {ρ:Nat→V} {n:Nat} {us:List V}
theorem V3 (j:Nat) (h:j < us.length):bind ρ n us (n+j)=vAt us j:=by
 unfold bind vAt
 rw [if_neg (by omega),show n+j-n=j by omega,List.getElem?_eq_getElem h]
 rfl
theorem ZcO {s:Sh} {x:SC} {j:Nat} (h:Zoi s x (n+j)=true) (hj:j < us.length):x.den (bind ρ n us)=Yr s (vAt us j):=by
 unfold Zoi at h
 split at h
 ·simp only [Bool.and_eq_true,decide_eq_true_eq] at h
  obtain ⟨rfl,rfl⟩:=h
  simp only [SC.den,IE.den,V3 j hj,Yr]
 ·simp only [decide_eq_true_eq] at h
  subst h
  simp only [SC.den,BE.den,V3 j hj,Yr]
 ·simp only [decide_eq_true_eq] at h
  subst h
  simp only [SC.den,SE.den,V3 j hj,Yr]
 ·simp only [Bool.and_eq_true,decide_eq_true_eq] at h
  obtain ⟨rfl,rfl⟩:=h
  simp only [SC.den,LE.den,V3 j hj,Yr]
 ·cases h
theorem Zdj:∀ (l:List Sh) (cs:List SC) (j:Nat),Zf5 l cs (n+j)=true→j+l.length≤us.length→cs.map (SC.den (bind ρ n us))=ZL l us j
 | [], [], _, _, _ => rfl
 | [], _ :: _, _, h, _ => by simp [Zf5] at h
 | _ :: _, [], _, h, _ => by simp [Zf5] at h
 | s :: ss, c :: cs, j, h, hl => by
  simp only [Zf5,Bool.and_eq_true] at h
  simp only [List.length_cons] at hl
  rw [List.map_cons,ZL,ZcO h.1 (by omega),Zdj ss cs (j+1) (by rw [← Nat.add_assoc];exact h.2) (by omega)]
theorem Zfg {r:RSh} {x:TC} {j:Nat} (h:ZoX r x (n+j)=true) (hj:j+r.sh.length≤us.length):x.den (bind ρ n us)=YK r us j:=by
 unfold ZoX at h
 split at h
 ·exact ZcO h (by simp [RSh.sh] at hj;omega)
 ·simp only [Bool.and_eq_true,decide_eq_true_eq,beq_iff_eq] at h
  obtain ⟨⟨rfl,rfl⟩,rfl⟩:=h
  have hj':j < us.length:=by simp [RSh.sh] at hj;omega
  simp only [TC.den,LE.den,V3 j hj',YK,Yr]
 ·simp only [TC.den,YK,Zdj _ _ j h hj]
 ·cases h
theorem Zdh:∀ (rs:List RSh) (xs:List TC) (j:Nat),Zga rs xs (n+j)=true→j+(rs.flatMap RSh.sh).length≤us.length→xs.map (TC.den (bind ρ n us))=JL rs us j
 | [], [], _, _, _ => rfl
 | [], _ :: _, _, h, _ => by simp [Zga] at h
 | _ :: _, [], _, h, _ => by simp [Zga] at h
 | r :: rs, x :: xs, j, h, hl => by
  simp only [Zga,Bool.and_eq_true] at h
  simp only [List.flatMap_cons,List.length_append] at hl
  rw [List.map_cons,JL,Zfg h.1 (by omega),Zdh rs xs (j+r.sh.length) (by rw [← Nat.add_assoc];exact h.2) (by omega)]
theorem ZfT {x:SV} {y:TC} (h:ZoP x=some y) (ρ:Nat→V):x.den ρ=y.den ρ:=by
 unfold ZoP at h
 split at h<;>simp at h<;>subst h<;>rfl
theorem Zi9 {s:Sh} {x:BC} {j:Nat} (h:Zp1 s x (n+j)=true) (hj:j < us.length):x.den (bind ρ n us)=Yr s (vAt us j):=by
 unfold Zp1 at h
 split at h
 ·exact ZcO h hj
 ·simp only [Bool.and_eq_true,decide_eq_true_eq,beq_iff_eq] at h
  obtain ⟨⟨rfl,rfl⟩,rfl⟩:=h
  simp only [BC.den,LE.den,V3 j hj,Yr]
 ·cases h
theorem VP:∀ (l:List Sh) (cs:List BC) (j:Nat),Zdd l cs (n+j)=true→j+l.length≤us.length→cs.map (BC.den (bind ρ n us))=ZL l us j
 | [], [], _, _, _ => rfl
 | [], _ :: _, _, h, _ => by simp [Zdd] at h
 | _ :: _, [], _, h, _ => by simp [Zdd] at h
 | s :: ss, c :: cs, j, h, hl => by
  simp only [Zdd,Bool.and_eq_true] at h
  simp only [List.length_cons] at hl
  rw [List.map_cons,ZL,Zi9 h.1 (by omega),VP ss cs (j+1) (by rw [← Nat.add_assoc];exact h.2) (by omega)]
theorem Zjy {rs:List RSh} {x:SV} (h:Zqu rs x n=true) (hl:Zec rs≤us.length):x.den (bind ρ n us)=YF rs us 0:=by
 unfold Zqu at h
 split at h
 ·split at h
  ·rename_i l cs
   have h1:cs.map (BC.den (bind ρ n us))=ZL l us 0:=VP l cs 0 h (by simpa [Zec,RSh.sh] using hl)
   simp only [SV.den,YF,YK,h1]
  ·split at h
   ·rename_i y hy
    rw [ZfT hy]
    exact Zfg (j:=0) h (by simpa [Zec] using hl)
   ·cases h
 ·rename_i hne
  split at h
  ·rename_i vs
   have:YF rs us 0 = .tuple (JL rs us 0):=by
    unfold YF
    split
    ·exact (hne _ rfl).elim
    ·rfl
   rw [this]
   simp only [SV.den,Zdh rs vs 0 h (by simpa [Zec] using hl)]
  ·cases h
theorem Yc:∀ (aps:List AP) (xs:List SV) (j:Nat),Km aps xs (n+j)=true→j+(JJ aps).length≤us.length→xs.map (SV.den (bind ρ n us))=ZM aps us j
 | [], [], _, _, _ => rfl
 | [], _ :: _, _, h, _ => by simp [Km] at h
 | .box l :: r, x :: xs, j, h, hl => by
  cases x<;>simp [Km] at h
  rename_i cs
  simp only [JJ,List.length_append] at hl
  have h1:cs.map (BC.den (bind ρ n us))=ZL l us j:=VP l cs j h.1 (by omega)
  simp only [List.map_cons,ZM,SV.den,h1,Yc r xs (j+l.length) (by rw [← Nat.add_assoc];exact h.2) (by omega)]
 | .gbox l :: r, x :: xs, j, h, hl => by
  cases x<;>simp [Km] at h
  rename_i cs
  simp only [JJ,List.length_append] at hl
  have h1:cs.map (BC.den (bind ρ n us))=ZL l us j:=VP l cs j h.1 (by omega)
  simp only [List.map_cons,ZM,SV.den,h1,Yc r xs (j+l.length) (by rw [← Nat.add_assoc];exact h.2) (by omega)]
 | .c _ :: r, x :: xs, j, h, hl => by
  cases x<;>simp [Km] at h
  simp only [JJ] at hl
  simp only [List.map_cons,ZM,SV.den,Yc r xs j h hl]
 | .agg _ :: r, x :: xs, j, h, hl => by
  cases x<;>simp [Km] at h
  simp only [JJ] at hl
  simp only [List.map_cons,ZM,SV.den,Yc r xs j h hl]
 | .clo _ _ :: r, x :: xs, j, h, hl => by
  cases x<;>simp [Km] at h
  simp only [JJ] at hl
  simp only [List.map_cons,ZM,SV.den,Yc r xs j h hl]
 | .ref _ _ :: r, x :: xs, j, h, hl => by
  cases x<;>simp [Km] at h
  simp only [JJ] at hl
  simp only [List.map_cons,ZM,SV.den,Yc r xs j h hl]
 | .dead :: r, x :: xs, j, h, hl => by
  cases x<;>simp [Km] at h
  simp only [JJ] at hl
  simp only [List.map_cons,ZM,SV.den,Yc r xs j h hl]
 | a :: _, [], _, h, _ => by cases a <;> simp [Km] at h
end
theorem Zfn:∀ (l:List Sh) (x:ShsT l),(ZaZ l x).length=l.length
 | [], _ => rfl
 | [_], _ => rfl
 | _ :: t :: r, x => by simp [ZaZ, Zfn (t :: r) x.2]
def ZoM (P:Program) (r:RSh) (x:TC):Option (List VE):=
 match r,x with
 | .c s, .c x => (Zj7 s x).map fun v => [v]
 | .c s, .own x e l => (WZ P s x e l).map fun v => [v]
 | .agg l, .agg cs => if l.all Sh.imm = true then Zdz l cs else none
 | _, _ => none
def ZeQ (P:Program):List RSh→List TC→Option (List VE)
 | [], [] => some []
 | r :: rs, x :: xs => match ZoM P r x, ZeQ P rs xs with | some v, some vs => some (v ++ vs) | _, _ => none
 | _, _ => none
def Zqv (P:Program) (rs:List RSh) (x:SV):Option (List VE):=
 match rs with
 | [r] => match r, x with | .box l, .box cs => ZaO P l cs | _, _ => match ZoP x with | some y => ZoM P r y | none => none
 | rs => match x with | .tuple vs => ZeQ P rs vs | _ => none
def YZ (P:Program):List AP→List SV→Option (List VE)
 | [], [] => some []
 | .box l :: r, .box cs :: xs => match ZaO P l cs, YZ P r xs with | some v, some vs => some (v ++ vs) | _, _ => none
 | .gbox l :: r, .gbox cs :: xs => match ZaO P l cs, YZ P r xs with | some v, some vs => some (v ++ vs) | _, _ => none
 | .c _ :: r, .dead :: xs => YZ P r xs
 | .agg _ :: r, .dead :: xs => YZ P r xs
 | .clo _ _ :: r, .dead :: xs => YZ P r xs
 | .ref _ _ :: r, .dead :: xs => YZ P r xs
 | .dead :: r, .dead :: xs => YZ P r xs
 | _, _ => none
def ZeT (P:Program) (aps:List AP) (rs:List RSh) (x:SV) (os:List SV):Option (List VE):=
 match Zqv P rs x,YZ P aps os with
 | some vs, some us => some (vs ++ us)
 | _, _ => none
section
variable {P:Program} {ρ:Nat→V}
theorem ZhA {r:RSh} {x:TC} {vs:List VE} (h:ZoM P r x=some vs):vs.length=r.sh.length∧∀ pre post:List V,Za2 P (x.den ρ) (YK r (pre++vs.map (VE.den ρ)++post) pre.length):=by
 unfold ZoM at h
 split at h
 ·cases hd:Zj7 _ _ with
  | none => rw [hd] at h; cases h
  | some v =>
   rw [hd] at h
   simp only [Option.map_some,Option.some.injEq] at h
   subst h
   refine ⟨rfl,fun pre post=>?_⟩
   simp only [YK,List.map_cons,List.map_nil,List.append_assoc,List.cons_append,List.nil_append,Ko]
   exact .cell (ZcK hd)
 ·cases hd:WZ P _ _ _ _ with
  | none => rw [hd] at h; cases h
  | some v =>
   rw [hd] at h
   simp only [Option.map_some,Option.some.injEq] at h
   subst h
   refine ⟨rfl,fun pre post=>?_⟩
   simp only [YK,List.map_cons,List.map_nil,List.append_assoc,List.cons_append,List.nil_append,Ko]
   exact .cell (Zaq hd)
 ·split at h
  ·rename_i hi
   obtain ⟨h1,h2,h3⟩:=ZcR (P:=P) (ρ:=ρ) _ _ _ h
   exact ⟨h1,fun pre post=>.agg (by rw [List.length_map,h2,Z9]) (Kc _ _ _ hi) (h3 pre post)⟩
  ·cases h
 ·cases h
theorem WC:∀ (rs:List RSh) (us:List V) (j:Nat),(JL rs us j).length=rs.length
 | [], _, _ => rfl
 | _ :: ss, us, j => by simp [JL, WC ss us]
theorem ZfF:∀ (rs:List RSh) (xs:List TC) (vs:List VE),ZeQ P rs xs=some vs→vs.length=(rs.flatMap RSh.sh).length∧xs.length=rs.length∧∀ pre post:List V,
  ∀ (i:Nat) (c c':AV),(xs.map (TC.den ρ))[i]? = some c→(JL rs (pre++vs.map (VE.den ρ)++post) pre.length)[i]? = some c'→Za2 P c c'
 | [], [], vs, h => by
  simp only [ZeQ,Option.some.injEq] at h
  subst h
  exact ⟨rfl,rfl,fun _ _ i c c' h=>by simp at h⟩
 | [], _ :: _, _, h => by simp [ZeQ] at h
 | _ :: _, [], _, h => by simp [ZeQ] at h
 | r :: rs, x :: xs, us, h => by
  simp only [ZeQ] at h
  split at h
  ·rename_i v vs hv hvs
   simp only [Option.some.injEq] at h
   subst h
   obtain ⟨h1,h2⟩:=ZhA (P:=P) (ρ:=ρ) hv
   obtain ⟨h3,h4,h5⟩:=ZfF rs xs vs hvs
   refine ⟨by simp [h1,h3],by simp [h4],fun pre post i c1 c2 hc1 hc2=>?_⟩
   cases i with
   | zero =>
    simp only [JL,List.map_cons,List.getElem?_cons_zero,Option.some.injEq] at hc1 hc2
    subst hc1
    subst hc2
    have:=h2 pre (vs.map (VE.den ρ)++post)
    simpa [List.append_assoc] using this
   | succ i =>
    have:=h5 (pre++v.map (VE.den ρ)) post i c1 c2 (by simpa using hc1)
    rw [List.length_append,List.length_map,h1] at this
    simp only [JL,List.getElem?_cons_succ] at hc2
    refine this ?_
    simpa [List.append_assoc] using hc2
  ·cases h
theorem Zlr {rs:List RSh} {x:SV} {vs:List VE} (h:Zqv P rs x=some vs):vs.length=Zec rs∧∀ post:List V,Yx P (x.den ρ) (YF rs (vs.map (VE.den ρ)++post) 0):=by
 unfold Zqv at h
 split at h
 ·split at h
  ·rename_i l cs
   obtain ⟨h1,h2,h3⟩:=KQ (P:=P) (ρ:=ρ) _ _ _ h
   refine ⟨by simpa [Zec,RSh.sh] using h1,fun post=>?_⟩
   have:=h3 [] post
   exact .box (by rw [List.length_map,h2,Z9]) (by simpa [YF,YK] using this)
  ·split at h
   ·rename_i y hy
    obtain ⟨h1,h2⟩:=ZhA (P:=P) (ρ:=ρ) h
    refine ⟨by simpa [Zec] using h1,fun post=>?_⟩
    rw [ZfT hy]
    have:=h2 [] post
    exact .comp (by simpa [YF] using this)
   ·cases h
 ·rename_i hne
  split at h
  ·rename_i ys
   obtain ⟨h1,h2,h3⟩:=ZfF (P:=P) (ρ:=ρ) _ _ _ h
   refine ⟨h1,fun post=>?_⟩
   have:∀ us,YF rs us 0 = .tuple (JL rs us 0):=by
    intro us
    unfold YF
    split
    ·exact (hne _ rfl).elim
    ·rfl
   rw [this]
   refine .tuple (by rw [List.length_map,h2,WC]) fun i c c' hc hc'=>h3 [] post i c c' hc ?_
   simpa using hc'
  ·cases h
theorem ZaL:∀ (aps:List AP) (us:List V) (j:Nat),(ZM aps us j).length=aps.length
 | [], _, _ => rfl
 | a :: r, us, j => by cases a <;> simp [ZM, ZaL r us]
theorem YG:∀ (aps:List AP) (xs:List SV) (vs:List VE),YZ P aps xs=some vs→vs.length=(JJ aps).length∧xs.length=aps.length∧∀ pre post:List V,
  ∀ (i:Nat) (c c':AV),(xs.map (SV.den ρ))[i]? = some c→(ZM aps (pre++vs.map (VE.den ρ)++post) pre.length)[i]? = some c'→Yx P c c'
 | [], [], vs, h => by
  simp only [YZ,Option.some.injEq] at h
  subst h
  exact ⟨rfl,rfl,fun _ _ i c c' h=>by simp at h⟩
 | [], _ :: _, _, h => by simp [YZ] at h
 | a :: _, [], _, h => by cases a <;> simp [YZ] at h
 | .box l :: r, x :: xs, us, h => by
  cases x<;>simp only [YZ,reduceCtorEq] at h
  split at h
  ·rename_i cs v vs hv hvs
   simp only [Option.some.injEq] at h
   subst h
   obtain ⟨h1,h2,h3⟩:=KQ (P:=P) (ρ:=ρ) _ _ _ hv
   obtain ⟨h4,h5,h6⟩:=YG r xs vs hvs
   refine ⟨by simp [h1,h4,JJ],by simp [h5],fun pre post i c1 c2 hc1 hc2=>?_⟩
   cases i with
   | zero =>
    simp only [ZM,List.map_cons,List.getElem?_cons_zero,Option.some.injEq,SV.den] at hc1 hc2
    subst hc1
    subst hc2
    have:=h3 pre (vs.map (VE.den ρ)++post)
    exact .box (by rw [List.length_map,h2,Z9]) (by simpa [List.append_assoc] using this)
   | succ i =>
    have:=h6 (pre++v.map (VE.den ρ)) post i c1 c2 (by simpa using hc1)
    rw [List.length_append,List.length_map,h1] at this
    simp only [ZM,List.getElem?_cons_succ] at hc2
    refine this ?_
    simpa [List.append_assoc] using hc2
  ·cases h
 | .gbox l :: r, x :: xs, us, h => by
  cases x<;>simp only [YZ,reduceCtorEq] at h
  split at h
  ·rename_i cs v vs hv hvs
   simp only [Option.some.injEq] at h
   subst h
   obtain ⟨h1,h2,h3⟩:=KQ (P:=P) (ρ:=ρ) _ _ _ hv
   obtain ⟨h4,h5,h6⟩:=YG r xs vs hvs
   refine ⟨by simp [h1,h4,JJ],by simp [h5],fun pre post i c1 c2 hc1 hc2=>?_⟩
   cases i with
   | zero =>
    simp only [ZM,List.map_cons,List.getElem?_cons_zero,Option.some.injEq,SV.den] at hc1 hc2
    subst hc1
    subst hc2
    have:=h3 pre (vs.map (VE.den ρ)++post)
    exact .gbox (by rw [List.length_map,h2,Z9]) (by simpa [List.append_assoc] using this)
   | succ i =>
    have:=h6 (pre++v.map (VE.den ρ)) post i c1 c2 (by simpa using hc1)
    rw [List.length_append,List.length_map,h1] at this
    simp only [ZM,List.getElem?_cons_succ] at hc2
    refine this ?_
    simpa [List.append_assoc] using hc2
  ·cases h
 | .c s :: r, x :: xs, us, h => by
  cases x<;>simp only [YZ,reduceCtorEq] at h
  exact retOs_dead (a:=.c s) r xs us (YG r xs us h) (fun _ _=>rfl) rfl
 | .agg l :: r, x :: xs, us, h => by
  cases x<;>simp only [YZ,reduceCtorEq] at h
  exact retOs_dead (a:=.agg l) r xs us (YG r xs us h) (fun _ _=>rfl) rfl
 | .clo g ds :: r, x :: xs, us, h => by
  cases x<;>simp only [YZ,reduceCtorEq] at h
  exact retOs_dead (a:=.clo g ds) r xs us (YG r xs us h) (fun _ _=>rfl) rfl
 | .ref g ds :: r, x :: xs, us, h => by
  cases x<;>simp only [YZ,reduceCtorEq] at h
  exact retOs_dead (a:=.ref g ds) r xs us (YG r xs us h) (fun _ _=>rfl) rfl
 | .dead :: r, x :: xs, us, h => by
  cases x<;>simp only [YZ,reduceCtorEq] at h
  exact retOs_dead (a:=.dead) r xs us (YG r xs us h) (fun _ _=>rfl) rfl
where
 retOs_dead {a:AP} (r:List AP) (xs:List SV) (us:List VE) (h:us.length=(JJ r).length∧xs.length=r.length∧∀ pre post:List V,
   ∀ (i:Nat) (c c':AV),(xs.map (SV.den ρ))[i]? = some c→(ZM r (pre++us.map (VE.den ρ)++post) pre.length)[i]? = some c'→Yx P c c')
   (ha:∀ vs j,ZM (a::r) vs j = .dead::ZM r vs j) (hs:JJ (a::r)=JJ r):us.length=(JJ (a::r)).length∧(SV.dead::xs).length=(a::r).length∧∀ pre post:List V,
   ∀ (i:Nat) (c c':AV),((SV.dead::xs).map (SV.den ρ))[i]? = some c→(ZM (a::r) (pre++us.map (VE.den ρ)++post) pre.length)[i]? = some c'→Yx P c c':=by
  obtain ⟨h4,h5,h6⟩:=h
  refine ⟨by rw [hs];exact h4,by simp [h5],fun pre post i c1 c2 hc1 hc2=>?_⟩
  rw [ha] at hc2
  cases i with
  | zero =>
   simp only [List.map_cons,List.getElem?_cons_zero,Option.some.injEq] at hc1 hc2
   subst hc2
   exact .dead
  | succ i => exact h6 pre post i c1 c2 (by simpa using hc1) (by simpa using hc2)
theorem Zgq {aps:List AP} {rs:List RSh} {x:SV} {os:List SV} {vs:List VE} (h:ZeT P aps rs x os=some vs) :
  K2 P (os.map (SV.den ρ)++[x.den ρ]) (ZM aps (vs.map (VE.den ρ)) (Zec rs)++[YF rs (vs.map (VE.den ρ)) 0]):=by
 unfold ZeT at h
 split at h
 ·rename_i a b ha hb
  simp only [Option.some.injEq] at h
  subst h
  obtain ⟨h1,h2⟩:=Zlr (ρ:=ρ) ha
  obtain ⟨h3,h4,h5⟩:=YG (P:=P) (ρ:=ρ) _ _ _ hb
  have hlo:(os.map (SV.den ρ)).length=(ZM aps ((a++b).map (VE.den ρ)) (Zec rs)).length:=by rw [List.length_map,h4,ZaL]
  refine ⟨by simp only [List.length_append,hlo,List.length_cons,List.length_nil],fun i c c' hc hc'=>?_⟩
  by_cases hi:i < (os.map (SV.den ρ)).length
  ·rw [List.getElem?_append_left hi] at hc
   rw [List.getElem?_append_left (by rw [← hlo];exact hi)] at hc'
   have:=h5 (a.map (VE.den ρ)) [] i c c' hc
   rw [List.length_map,h1] at this
   exact .inl (this (by simpa using hc'))
  ·rw [List.getElem?_append_right (by omega)] at hc
   rw [List.getElem?_append_right (by rw [← hlo];omega),← hlo] at hc'
   have h0:i-(os.map (SV.den ρ)).length=0:=by
    have:=(List.getElem?_eq_some_iff.1 hc).1
    simp only [List.length_cons,List.length_nil] at this
    omega
   rw [h0] at hc hc'
   simp only [List.getElem?_cons_zero,Option.some.injEq] at hc hc'
   subst hc
   subst hc'
   rw [List.map_append]
   exact .inl (h2 _)
 ·cases h
end
def Zl8 {γ:Type} (A:Nat→List V→Option γ) (n:Nat) (B:List V→Option γ):Nat→List V→Option γ:=fun i vs=>if i=n then B vs else A i vs
noncomputable def STree.run (P:Program) (Φ:List (FuncId×Fun)) (aps:List AP) (rs:List RSh):STree→(Nat→List V→Option (ShsT (Wf rs aps)))→(Nat→V)→Option (ShsT (Wf rs aps))
 | .stuck _, _, _ => none
 | .branch b t e, A, ρ => if b.den ρ = true then t.run P Φ aps rs A ρ else e.run P Φ aps rs A ρ
 | .req p t, A, ρ => @ZV _ (p.den ρ) (p.decDen ρ) (t.run P Φ aps rs A ρ)
 | .elem l i sh n t, A, ρ => Zu (l.den ρ) (i.den ρ) sh fun r => t.run P Φ aps rs A (bind ρ n (ZaZ sh r))
 | .nilq l n t, A, ρ => @ZiR _ (decS _) (l.den ρ) fun b => t.run P Φ aps rs A (bind ρ n [.b b])
 | .call f args res outs n _ t, A, ρ =>
  match Ziy Φ f (args.filterMap SV.sig) with
  | some S => if Zqu S.res res n = true ∧ Km S.args outs (n + Zec S.res) = true ∧ Vu S.args = true then ZkX P S (args.map (SV.den ρ)) fun us => t.run P Φ aps rs A (bind ρ n us) else none
  | none => none
 | .loop lv init n t, A, ρ => Za4 (fun rec vs => t.run P Φ aps rs (Zl8 A lv rec) (bind Zdr n vs)) JD (init.map (VE.den ρ))
 | .again lv vals, A, ρ => A lv (vals.map (VE.den ρ))
 | .ret res outs, _, ρ => match ZeT P aps rs res outs with | some vs => Zkm _ (vs.map (VE.den ρ)) | none => none
theorem ZrB {p:Nat→Prop} (h:∃ k,p k):∃ k,p k∧∀ j,j < k→¬ p j:=by
 obtain ⟨k,hk⟩:=h
 induction k using Nat.strongRecOn with
 | _ k ih =>
  by_cases hj:∃ j,j < k∧p j
  ·obtain ⟨j,h1,h2⟩:=hj
   exact ih j h1 h2
  ·exact ⟨k,hk,fun j h1 h2=>hj ⟨j,h1,h2⟩⟩
section
variable {P:Program} {Φ:List (FuncId×Fun)} {aps:List AP} {rs:List RSh}
theorem Ws (hΦ:Zhh P Φ) {r:ShsT (Wf rs aps)} {R:AV→List AV→Prop} (hR:∀ x os,K2 P (os++[x]) (ZM aps (ZaZ _ r) (Zec rs)++[YF rs (ZaZ _ r) 0])→R x os) :
  ∀ (t:STree) (A':Nat→List V→Option (ShsT (Wf rs aps))) (A:Nat→List V→Prop) (ρ:Nat→V),(∀ lv vs,A' lv vs=some r→A lv vs)→t.run P Φ aps rs A' ρ=some r→t.wp P R A ρ
 | .stuck _, _, _, _, _, h => by simp [STree.run] at h
 | .branch b t e, A', A, ρ, hA, h => by
  simp only [STree.run] at h
  refine ⟨fun hb=>?_,fun hb=>?_⟩
  ·rw [if_pos hb] at h
   exact Ws hΦ hR t A' A ρ hA h
  ·rw [if_neg (by rw [hb];exact Bool.false_ne_true)] at h
   exact Ws hΦ hR e A' A ρ hA h
 | .req p t, A', A, ρ, hA, h => by
  obtain ⟨h1,h2⟩:=Ye (show @ZV _ (p.den ρ) (p.decDen ρ) (t.run P Φ aps rs A' ρ)=some r from h)
  exact ⟨h1,Ws hΦ hR t A' A ρ hA h2⟩
 | .elem l i sh n t, A', A, ρ, hA, h => by
  obtain ⟨h0,cs,x,h1,h2,h3⟩:=Zgj (show Zu (l.den ρ) (i.den ρ) sh (fun r=>t.run P Φ aps rs A' (bind ρ n (ZaZ sh r)))=some r from h)
  refine ⟨ZaZ sh x,h0,?_,Ws hΦ hR t A' A _ hA h3⟩
  rw [h1,Zfu sh cs x n _ h2 (Zfy.bind ρ n _)]
 | .nilq l n t, A', A, ρ, hA, h => fun b hb => Ws hΦ hR t A' A _ hA (Zhr (show @ZiR _ (decS _) (l.den ρ) (fun b => t.run P Φ aps rs A' (bind ρ n [.b b])) = some r from h) b hb)
 | .call f args res outs n sh t, A', A, ρ, hA, h => by
  simp only [STree.run] at h
  split at h
  ·rename_i S hS
   split at h
   ·rename_i hfit
    obtain ⟨vs,x,h1,h2,h3⟩:=ZgI h
    have hlen:=Zfn _ x
    have hl2:(Wf S.res S.args).length=Zec S.res+(JJ S.args).length:=by simp [Wf,Zec]
    refine ⟨ZaZ _ x,?_,Ws hΦ hR t A' A _ hA h3⟩
    rw [Zjy hfit.1 (by omega),Yc S.args outs (Zec S.res) hfit.2.1 (by omega)]
    exact Jz.freeze S.args _ [] ((Zfa hΦ hS vs x h2).stronger (ZeS hfit.2.2 h1)) (ZbG _ _ _ h1)
   ·cases h
  ·cases h
 | .loop lv init n t, A', A, ρ, hA, h => by
  let F:=fun (rec:List V→Option (ShsT (Wf rs aps))) vs=>t.run P Φ aps rs (Zl8 A' lv rec) (bind Zdr n vs)
  have hF:Za4 F JD (init.map (VE.den ρ))=some r:=h
  have hm:∀ vs,∃ m:Nat,(∃ k,Za4 F k vs=some r)→Za4 F m vs=some r∧∀ j,Za4 F j vs=some r→m≤j:=by
   intro vs
   by_cases hk:∃ k,Za4 F k vs=some r
   ·obtain ⟨m,h1,h2⟩:=ZrB hk
    exact ⟨m,fun _=>⟨h1,fun j hj=>Nat.le_of_not_lt fun hlt=>h2 j hlt hj⟩⟩
   ·exact ⟨0,fun h=>(hk h).elim⟩
  obtain ⟨m,hm⟩:=Classical.axiomOfChoice hm
  refine ⟨fun vs=>∃ k,Za4 F k vs=some r,m,⟨JD,hF⟩,fun vs _ hk=>?_⟩
  obtain ⟨h1,h2⟩:=hm vs hk
  cases hmv:m vs with
  | zero => rw [hmv] at h1; cases h1
  | succ j =>
   rw [hmv] at h1
   refine Ws hΦ hR t (Zl8 A' lv (Za4 F j)) _ _ (fun lv' vs' hv=>?_) h1
   unfold Zl8 at hv
   unfold ZmK
   split at hv
   ·rename_i he
    rw [if_pos he]
    refine ⟨⟨j,hv⟩,?_⟩
    have:=(hm vs' ⟨j,hv⟩).2 j hv
    omega
   ·rename_i he
    rw [if_neg he]
    exact hA lv' vs' hv
 | .again lv vals, A', A, ρ, hA, h => hA lv _ h
 | .ret res outs, A', A, ρ, hA, h => by
  simp only [STree.run] at h
  split at h
  ·rename_i vs hvs
   refine hR _ _ ?_
   rw [Zdc _ _ _ h]
   exact Zgq hvs
  ·cases h
end
end Go.AM
end

section
namespace Go.AM
def TyR (P:Program):Nat→TypeId→List AV→Prop
 | 0, _, _ => False
 | d + 1, T, cs =>
  match P.underlying T with
  | some (.int k) => ∃ z, cs = [.val (.int k z)] ∧ (Lit.int k z).wf = true
  | some .bool => ∃ b, cs = [.val (.bool b)]
  | some .string => ∃ s, cs = [.val (.string s)]
  | some (.slice e) => ∃ xs : List (List AV), cs = [.slice false (P.cellsOf e) xs] ∧ xs.length ≤ maxLen ∧ ∀ x ∈ xs, TyR P d e x
  | some (.struct fs) => ∃ parts : List (List AV), cs = parts.flatten ∧ parts.length = fs.size ∧ ∀ (i : Nat) (f : Field) (p : List AV), fs[i]? = some f → parts[i]? = some p → TyR P d f.type p
  | _ => False
def WI (P:Program):Nat→TypeId→Bool
 | 0, _ => false
 | d + 1, T =>
  match P.underlying T with
  | some (.int _) => true
  | some .bool => true
  | some .string => true
  | some (.slice e) => WI P d e && decide (0 < P.cellsOf e)
  | some (.struct fs) => (fs.toList.all fun f => WI P d f.type) && decide (P.cellsOf T = (fs.toList.map fun f => P.cellsOf f.type).sum) &&
    (fs.toList.zipIdx.all fun p=>decide (p.1.offset=((fs.toList.take p.2).map fun f=>P.cellsOf f.type).sum))
  | _ => false
def Kh (w:World):Nat→Nat:=fun b=>match w.heap[b]? with | some (.cells c _ _)=>c.size | _=>0
theorem ZgM {w:World} {b o:Nat} {u:Value} (h:w.cell? ⟨b,o,none⟩=some u):o < Kh w b:=by
 unfold World.cell? at h
 unfold Kh
 split at h
 ·rename_i c t fr hc
  have h':c[o]? = some u:=by simpa using h
  have hc':w.heap[b]? = some (.cells c t fr):=hc
  rw [hc']
  exact (Array.getElem?_eq_some_iff.1 h').1
 ·cases h
theorem JV.flat {w:World} {lim:Nat→Nat} : ∀ (aZ:List (List AV)) (us:List (List Value)),aZ.length=us.length→(∀ (i:Nat) (a:List AV) (u:List Value),aZ[i]? = some a→us[i]? = some u→JV w lim a u)→JV w lim aZ.flatten us.flatten
 | [], [], _, _ => JV.nil w lim
 | [], _ :: _, h, _ => by simp at h
 | _ :: _, [], h, _ => by simp at h
 | a :: aZ, u :: us, h, hr => by
  have h1:=hr 0 a u rfl rfl
  have h2:=JV.flat aZ us (by simpa using h) fun i a' u' ha hu=>hr (i+1) a' u' (by simpa using ha) (by simpa using hu)
  refine ⟨by simp [h1.1,h2.1],fun c hc=>?_,fun i c v hc hv=>?_⟩
  ·rw [List.flatten_cons,List.mem_append] at hc
   rcases hc with hc | hc
   ·exact h1.2.1 c hc
   ·exact h2.2.1 c hc
  ·rw [List.flatten_cons] at hc hv
   by_cases hi:i < a.length
   ·rw [List.getElem?_append_left hi] at hc
    rw [List.getElem?_append_left (by rw [← h1.1];exact hi)] at hv
    exact h1.2.2 i c v hc hv
   ·rw [List.getElem?_append_right (by omega)] at hc
    rw [List.getElem?_append_right (by rw [← h1.1];omega),← h1.1] at hv
    exact h2.2.2 _ c v hc hv
theorem Zj8 {α:Type} : ∀ (ns:List Nat) (cs:List α),cs.length=ns.sum→∃ ps:List (List α),ps.length=ns.length∧ps.flatten=cs∧∀ (i:Nat) (n:Nat),ns[i]? = some n→ps[i]? = some ((cs.drop (ns.take i).sum).take n)
 | [], cs, h => ⟨[], rfl, by simp at h; simp [h], by simp⟩
 | n :: ns, cs, h => by
  obtain ⟨ps,h1,h2,h3⟩:=Zj8 ns (cs.drop n) (by simp only [List.sum_cons] at h;simp;omega)
  refine ⟨cs.take n::ps,by simp [h1],by rw [List.flatten_cons,h2,List.take_append_drop],fun i m hi=>?_⟩
  cases i with
  | zero => simp at hi; subst hi; simp
  | succ i =>
   have:=h3 i m (by simpa using hi)
   simp only [List.getElem?_cons_succ,this,List.take_succ_cons,List.sum_cons,List.drop_drop]
theorem Vh {β:Type} {Q:Nat→β→Prop} : ∀ (n:Nat),(∀ i,i < n→∃ b,Q i b)→∃ l:List β,l.length=n∧∀ (i:Nat) (b:β),l[i]? = some b→Q i b
 | 0, _ => ⟨[], rfl, by simp⟩
 | n + 1, h => by
  obtain ⟨l,h1,h2⟩:=Vh n fun i hi=>h i (by omega)
  obtain ⟨b,hb⟩:=h n (by omega)
  refine ⟨l++[b],by simp [h1],fun i c hc=>?_⟩
  by_cases hi:i < l.length
  ·rw [List.getElem?_append_left hi] at hc
   exact h2 i c hc
  ·rw [List.getElem?_append_right (by omega)] at hc
   have h0:i-l.length=0:=by
    have:=(List.getElem?_eq_some_iff.1 hc).1
    simp at this
    omega
   rw [h0] at hc
   simp only [List.getElem?_cons_zero,Option.some.injEq] at hc
   subst hc
   have:i=n:=by omega
   rw [this]
   exact hb
theorem ZbJ {s:Nat} {cell:Nat→Option Value} : ∀ (l:List (List Value)) (o:Nat),(∀ (i:Nat) (us:List Value),l[i]? = some us→us.length=s∧∀ (k:Nat) (u:Value),us[k]? = some u→cell (o+i*s+k)=some u)→
  ∀ (j:Nat) (u:Value),l.flatten[j]? = some u→cell (o+j)=some u
 | [], o, _, j, u, h => by simp at h
 | us :: l, o, h, j, u, hj => by
  obtain ⟨h1,h2⟩:=h 0 us rfl
  rw [List.flatten_cons] at hj
  by_cases hlt:j < us.length
  ·rw [List.getElem?_append_left hlt] at hj
   have:=h2 j u hj
   simpa using this
  ·rw [List.getElem?_append_right (by omega)] at hj
   have:=ZbJ l (o+s) (fun i us' hi=>by
    obtain ⟨g1,g2⟩:=h (i+1) us' (by simpa using hi)
    refine ⟨g1,fun k u' hk=>?_⟩
    have:=g2 k u' hk
    rw [Nat.add_mul,Nat.one_mul] at this
    rw [show o+s+i*s+k=o+(i*s+s)+k by omega]
    exact this) (j-us.length) u hj
   rw [show o+s+(j-us.length)=o+j by omega] at this
   exact this
theorem Zf0 {H:Type} {f:Func} {s:ChangeSpec} {apart fresh handsOn again:Bool} {W W':World} {args:Array Value} {v:Value} {ds gs:List (DataW H)} {before pa:List MemPlace} {P:Program} {enc:TypeId×Value→H}
  (hW:DataW.Whole enc P f.params.toList s.vars apart W args.toList ds gs before)
  (hres:∀ (b:Nat) (sp:Nat→Bool) (hd:Bool),DataW.TrodAll enc P W' b sp hd f.resultTypes.toList (v.resultList f.resultTypes.size) (s.fn H (ds++gs)).results [])
  (hargs:∀ sp:Nat→Bool,(∀ p∈before,sp p.block=true)→DataW.TrodAll enc P W' 0 sp true f.params.toList args.toList (s.fn H (ds++gs)).args pa)
  (hvars:∀ sp:Nat→Bool,(∀ p∈before,sp p.block=true)→DataW.TrodVars enc P W' sp s.vars (s.fn H (ds++gs)).vars [])
  (hps:before=pa++[]) (hk:W.keptBut W' (·∈before)) (hfz:∀ a:Addr,a.block < W.heap.size→W'.frozen? a=W.frozen? a)
  (hok:∀ (j:Nat) (t:TypeId) (r:Value),f.resultTypes[j]? = some t→(v.resultList f.resultTypes.size)[j]? = some r→Value.okWide P W' .any 0 t r) :
  s.post enc P f apart fresh handsOn again W args v W':=by
 have hin:∀ p∈before,p.block < W.heap.size:=fun p hp=>hW.lt p hp
 have hdec:∀ p∈before,(fun b=>decide (b < W.heap.size)) p.block=true:=fun p hp=>decide_eq_true (hin p hp)
 refine ⟨ds,gs,before,[],pa,[],hW,hres _ _ _,hargs _ hdec,hvars _ hdec,World.keptBut_mono (fun p hp=>⟨hp,?_⟩) hk,fun _=>?_⟩
 ·refine Or.inr (Or.inl ?_)
  rwa [hps,List.append_nil] at hp
 ·have hWp:=hW
  obtain ⟨_,_,_,_,_,hz,hn⟩:=hWp
  refine ⟨hok,_,_,([]++pa)++[],⟨[]++pa,[],ChangeShapes.trodAll_append (hargs _ fun _ _=>rfl) (hres _ _ _),hvars _ fun _ _=>rfl,rfl,?_,?_⟩,?_⟩
  ·intro b off hp
   have hmem:MemPlace.cell b off∈before:=by rw [hps];simpa using hp
   rw [hfz _ (hin _ hmem)]
   exact hz b off hmem
  ·intro ha
   have h1:=hn ha
   rw [hps] at h1
   simpa using h1
  ·intro p hp _
   rw [hps]
   simpa using hp
section
variable {P:Program} {H:Type} {enc:TypeId×Value→H} {w:World} {sp:Nat→Bool} {held:Bool}
theorem ZeP:∀ (d n:Nat) (T:TypeId) (cs:List Value) (x:DataW H×List MemPlace),WI P d T=true→DataW.trod enc P w 0 sp held n T cs=some x→∃ avs,TyR P d T avs∧JV w (Kh w) avs cs
 | 0, n, T, cs, x, hf, _ => by simp [WI] at hf
 | d + 1, n, T, cs, x, hf, h => by
  simp only [WI] at hf
  split at hf
  ·rename_i k hk
   obtain ⟨z,rfl,_,hw⟩:=DataW.trod_int hk h
   refine ⟨[.val (.int k z)],?_,rfl,by simp [AV.isCell],fun i c u hc hu=>?_⟩
   ·simp only [TyR,hk];exact ⟨z,rfl,hw⟩
   ·cases i with
    | zero => simp at hc hu; subst hc; subst hu; exact .val rfl
    | succ i => simp at hc
  ·rename_i hk
   obtain ⟨b,rfl,_⟩:=DataW.trod_bool hk h
   refine ⟨[.val (.bool b)],?_,rfl,by simp [AV.isCell],fun i c u hc hu=>?_⟩
   ·simp only [TyR,hk];exact ⟨b,rfl⟩
   ·cases i with
    | zero => simp at hc hu; subst hc; subst hu; exact .val rfl
    | succ i => simp at hc
  ·rename_i hk
   obtain ⟨s,rfl,_⟩:=DataW.trod_string hk h
   refine ⟨[.val (.string s)],?_,rfl,by simp [AV.isCell],fun i c u hc hu=>?_⟩
   ·simp only [TyR,hk];exact ⟨s,rfl⟩
   ·cases i with
    | zero => simp at hc hu; subst hc; subst hu; exact .val rfl
    | succ i => simp at hc
  ·rename_i e hk
   simp only [Bool.and_eq_true,decide_eq_true_eq] at hf
   rcases DataW.trod_slice hk h with ⟨rfl,_⟩ | ⟨a,len,cap,VA,rest,m,_,rfl,_,_,hlc,hcm,hel,hcells,_,_⟩
   ·refine ⟨[.slice false (P.cellsOf e) []],?_,rfl,by simp [AV.isCell],fun i c u hc hu=>?_⟩
    ·simp only [TyR,hk];exact ⟨[],rfl,by simp,by simp⟩
    ·cases i with
     | zero => simp at hc hu; subst hc; subst hu; exact .sliceN
     | succ i => simp at hc
   ·obtain ⟨l,hl1,hl2⟩:=Vh (Q:=fun i (p:List Value×List AV)=>w.cells? 0 (a.add (i*P.cellsOf e)) (P.cellsOf e)=some p.1∧TyR P d e p.2∧JV w (Kh w) p.2 p.1) len fun i hi=>by
     have h1:=hcells i hi
     obtain ⟨y,hy⟩:∃ y,VA[i]? = some y:=⟨_,List.getElem?_eq_getElem (by omega)⟩
     rw [hy,Option.bind_eq_some_iff] at h1
     obtain ⟨us,h2,h3⟩:=h1
     obtain ⟨avs,h4,h5⟩:=ZeP d m e us y hf.1 h3
     exact ⟨(us,avs),h2,h4,h5⟩
    have hall:∀ p∈l,TyR P d e p.2∧JV w (Kh w) p.2 p.1∧p.1.length=P.cellsOf e:=by
     intro p hp
     obtain ⟨i,hi⟩:=List.mem_iff_getElem?.1 hp
     obtain ⟨g1,g2,g3⟩:=hl2 i p hi
     exact ⟨g2,g3,(World.cells?_some g1).2.1⟩
    refine ⟨[.slice false (P.cellsOf e) (l.map (·.2))],?_,rfl,by simp [AV.isCell],fun i c u hc hu=>?_⟩
    ·simp only [TyR,hk]
     refine ⟨_,rfl,by simp;omega,fun y hy=>?_⟩
     obtain ⟨p,hp,rfl⟩:=List.mem_map.1 hy
     exact (hall p hp).1
    ·cases i with
     | succ i => simp at hc
     | zero =>
      simp only [List.getElem?_cons_zero,Option.some.injEq] at hc hu
      subst hc
      subst hu
      cases l with
      | nil =>
       have:len=0:=by simpa using hl1.symm
       subst this
       exact .sliceE (fun h=>by cases h)
      | cons p l' =>
       have hcell:∀ (j:Nat) (u:Value),((p::l').map (·.1)).flatten[j]? = some u→w.cell? ⟨a.block,a.off+j,none⟩=some u:=by
        refine ZbJ (s:=P.cellsOf e) (cell:=fun o=>w.cell? ⟨a.block,o,none⟩) _ a.off fun i us hi=>?_
        rw [List.getElem?_map] at hi
        cases hpi:(p::l')[i]? with
        | none => simp [hpi] at hi
        | some q =>
         simp only [hpi,Option.map_some,Option.some.injEq] at hi
         subst hi
         obtain ⟨g1,_,_⟩:=hl2 i q hpi
         obtain ⟨_,k2,k3⟩:=World.cells?_some g1
         refine ⟨k2,fun k u hu=>?_⟩
         have hk':k < P.cellsOf e:=by rw [← k2];exact (List.getElem?_eq_some_iff.1 hu).1
         have:=k3 k hk'
         rw [hu] at this
         have hblk:((a.add (i*P.cellsOf e)).add k).block=a.block∧((a.add (i*P.cellsOf e)).add k).off=a.off+i*P.cellsOf e+k:=by
          unfold Addr.add
          split<;>split<;>simp_all
         have hspot:((a.add (i*P.cellsOf e)).add k).spot=none:=by
          unfold World.cell? at this
          split at this
          ·split at this
           ·cases this
           ·rename_i hs;simpa using hs
          ·cases this
         have heq:(a.add (i*P.cellsOf e)).add k=⟨a.block,a.off+i*P.cellsOf e+k,none⟩:=by
          rw [← hblk.1,← hblk.2,← hspot]
         rw [heq] at this
         exact this
       have hspot:a.spot=none:=by
        obtain ⟨g1,_,_⟩:=hl2 0 p rfl
        obtain ⟨_,k2,k3⟩:=World.cells?_some g1
        have:=k3 0 hf.2
        obtain ⟨u,hu⟩:∃ u,p.1[0]? = some u:=⟨_,List.getElem?_eq_getElem (by rw [k2];exact hf.2)⟩
        rw [hu] at this
        have ha:(a.add (0*P.cellsOf e)).add 0=a:=by simp [Addr.add]
        rw [ha] at this
        unfold World.cell? at this
        split at this
        ·split at this
         ·cases this
         ·rename_i hs;simpa using hs
        ·cases this
       have ha:a=⟨a.block,a.off,none⟩:=by rw [← hspot]
       have hlen:((p::l').map (·.2)).length=len:=by rw [List.length_map];exact hl1
       rw [ha,← hlen]
       have hrel:JV w (Kh w) ((p::l').map (·.2)).flatten ((p::l').map (·.1)).flatten:=by
        refine JV.flat _ _ (by simp) fun i x us hx hus=>?_
        rw [List.getElem?_map] at hx hus
        cases hpi:(p::l')[i]? with
        | none => simp [hpi] at hx
        | some q =>
         simp only [hpi,Option.map_some,Option.some.injEq] at hx hus
         subst hx
         subst hus
         exact (hl2 i q hpi).2.2
       have hsz:∀ x∈(p::l').map (·.2),x.length=P.cellsOf e:=by
        intro x hx
        obtain ⟨q,hq,rfl⟩:=List.mem_map.1 hx
        obtain ⟨_,g2,g3⟩:=hall q hq
        rw [g2.1,g3]
       refine .sliceC (us:=((p::l').map (·.1)).flatten) hsz (fun x hx=>?_) (fun h=>by cases h) (by rw [hlen];exact hlc) (fun hne=>?_) ?_ hcell hrel.2.2
       ·obtain ⟨q,hq,rfl⟩:=List.mem_map.1 hx
        exact (hall q hq).2.1.2.1
       ·have hpos:0 < (((p::l').map (·.1)).flatten).length:=List.length_pos_iff.2 hne
        have hlast:=hcell ((((p::l').map (·.1)).flatten).length-1) _ (List.getElem?_eq_getElem (by omega))
        have:=ZgM hlast
        omega
       ·rw [← hrel.1,Zh _ _ hsz]
  ·rename_i fs hk
   simp only [Bool.and_eq_true,decide_eq_true_eq,List.all_eq_true] at hf
   obtain ⟨⟨h1,h2⟩,h3⟩:=hf
   obtain ⟨xs,m,_,_,hlen,hxl,hparts⟩:=DataW.trod_struct hk h
   obtain ⟨ps,q1,q2,q3⟩:=Zj8 (fs.toList.map fun f=>P.cellsOf f.type) cs (by rw [hlen,h2])
   have hps:ps.length=fs.size:=by rw [q1];simp
   obtain ⟨l,hl1,hl2⟩:=Vh (Q:=fun i (avs:List AV)=>∃ (f:Field) (us:List Value),fs[i]? = some f∧ps[i]? = some us∧TyR P d f.type avs∧JV w (Kh w) avs us) fs.size fun i hi=>by
    have hfi:fs[i]? = some fs[i]:=Array.getElem?_eq_getElem hi
    have hn:(fs.toList.map fun f=>P.cellsOf f.type)[i]? = some (P.cellsOf fs[i].type):=by simp [hi]
    have h4:=q3 i _ hn
    have h5:=hparts i _ hfi
    have hoff:=h3 (fs[i],i) (by rw [List.mem_zipIdx_iff_getElem?];simp [hi])
    simp only at hoff
    rw [hoff,List.map_take] at h5
    obtain ⟨y,hy⟩:∃ y,xs[i]? = some y:=⟨_,List.getElem?_eq_getElem (by omega)⟩
    rw [hy] at h5
    obtain ⟨avs,h6,h7⟩:=ZeP d m _ _ y (h1 fs[i] (by simp)) h5
    exact ⟨avs,fs[i],_,hfi,h4,h6,h7⟩
   refine ⟨l.flatten,?_,?_⟩
   ·simp only [TyR,hk]
    refine ⟨l,rfl,hl1,fun i f p hf hp=>?_⟩
    obtain ⟨f',us,g1,g2,g3,g4⟩:=hl2 i p hp
    rw [hf] at g1
    cases g1
    exact g3
   ·rw [← q2]
    refine JV.flat _ _ (by rw [hl1,hps]) fun i avs us ha hu=>?_
    obtain ⟨f',us',g1,g2,g3,g4⟩:=hl2 i avs ha
    rw [hu] at g2
    cases g2
    exact g4
  ·cases hf
def Za8 (P:Program) (d:Nat) (T:TypeId) (x:AV):Prop:=
 match P.underlying T with
 | some (.struct _) => ∃ cs, x = .agg cs ∧ TyR P d T cs
 | _ => x.isCell = true ∧ TyR P d T [x]
theorem Zi0 {lim:Nat→Nat} {avs:List AV} {v:Value} (h:JV w lim avs [v]):∃ x,avs = [x]∧x.isCell=true∧Rep w lim x v:=by
 obtain ⟨x,rfl⟩:=List.length_eq_one_iff.1 (by simpa using h.1:avs.length=1)
 exact ⟨x,rfl,h.2.1 x (by simp),h.2.2 0 x v rfl rfl⟩
theorem Zjq {d:Nat} {T:TypeId} {v:Value} {x:DataW H} {ps:List MemPlace} {r:Reach} {base:Nat} (hf:WI P d T=true) (hok:Value.okWide P w r base T v)
  (h:DataW.Trod enc P w 0 sp held T v x ps):∃ y,Za8 P d T y∧∀ X σ k,ZD P w (Kh w) X σ k y v:=by
 obtain ⟨n,h⟩:=h
 obtain ⟨avs,h1,h2⟩:=ZeP d n T _ _ hf h
 cases d with
 | zero => simp [WI] at hf
 | succ d =>
  have one:v.cells.toList = [v]→(∀ fs,P.underlying T≠some (.struct fs))→∃ y,Za8 P (d+1) T y∧∀ X σ k,ZD P w (Kh w) X σ k y v:=by
   intro hv hns
   rw [hv] at h2
   obtain ⟨y,rfl,h3,h4⟩:=Zi0 h2
   refine ⟨y,?_,fun X σ k=>(KJ h3 h4).2⟩
   unfold Za8
   split
   ·rename_i fs hfs;exact (hns fs hfs).elim
   ·exact ⟨h3,h1⟩
  simp only [WI] at hf
  split at hf
  ·rename_i kd hk
   obtain ⟨z,hz,_⟩:=DataW.trod_int hk h
   refine one ?_ (by rw [hk];simp)
   simp only [Value.okWide,hk,Cell.okWide] at hok
   cases v<;>simp_all [Cell.ok,Value.cells]
  ·rename_i hk
   refine one ?_ (by rw [hk];simp)
   simp only [Value.okWide,hk,Cell.okWide] at hok
   cases v<;>simp_all [Cell.ok,Value.cells]
  ·rename_i hk
   refine one ?_ (by rw [hk];simp)
   simp only [Value.okWide,hk,Cell.okWide] at hok
   cases v<;>simp_all [Cell.ok,Value.cells]
  ·rename_i e hk
   refine one ?_ (by rw [hk];simp)
   simp only [Value.okWide,hk,Cell.okWide] at hok
   cases v<;>simp_all [Cell.ok,Value.cells]
  ·rename_i fs hk
   simp only [Value.okWide,hk] at hok
   obtain ⟨cs,rfl,_,_⟩:=hok
   refine ⟨.agg avs,?_,?_⟩
   ·unfold Za8
    simp only [hk]
    exact ⟨avs,rfl,h1⟩
   ·have:cs=cs.toList.toArray:=by simp
    intro X σ k
    show Rep w (Kh w) (.agg avs) (.agg cs)
    rw [this]
    exact .agg h2.1 h2.2.1 h2.2.2
  ·cases hf
theorem ZdN {d:Nat} {r:Reach} {base:Nat} : ∀ (ts:List TypeId) (vs:List Value) (ds:List (DataW H)) (ps:List MemPlace),(∀ t∈ts,WI P d t=true)→
  (∀ (j:Nat) (t:TypeId) (v:Value),ts[j]? = some t→vs[j]? = some v→Value.okWide P w r base t v)→DataW.TrodAll enc P w 0 sp held ts vs ds ps→
  vs.length=ts.length∧∃ xs:List AV,xs.length=ts.length∧∀ (i:Nat) (t:TypeId) (x:AV) (v:Value),ts[i]? = some t→xs[i]? = some x→vs[i]? = some v→Za8 P d t x∧∀ X σ k,ZD P w (Kh w) X σ k x v
 | [], [], [], ps, _, _, _ => ⟨rfl, [], rfl, by simp⟩
 | t :: ts, v :: vs, x :: ds, ps, hf, hok, h => by
  obtain ⟨p,q,h1,h2,_⟩:=h
  obtain ⟨y,g1,g2⟩:=Zjq (hf t (by simp)) (hok 0 t v rfl rfl) h1
  obtain ⟨k1,xs,k2,k3⟩:=ZdN ts vs ds q (fun t ht=>hf t (by simp [ht])) (fun j t' v' ht hv=>hok (j+1) t' v' (by simpa using ht) (by simpa using hv)) h2
  refine ⟨by simp [k1],y::xs,by simp [k2],fun i t' x' v' ht hx hv=>?_⟩
  cases i with
  | zero =>
   simp only [List.getElem?_cons_zero,Option.some.injEq] at ht hx hv
   subst ht
   subst hx
   subst hv
   exact ⟨g1,g2⟩
  | succ i => exact k3 i t' x' v' (by simpa using ht) (by simpa using hx) (by simpa using hv)
 | [], _ :: _, _, _, _, _, h => h.elim
 | [], [], _ :: _, _, _, _, h => h.elim
 | _ :: _, [], _, _, _, _, h => h.elim
 | _ :: _, _ :: _, [], _, _, _, h => h.elim
theorem ZdB {w':World} {sp':Nat→Bool} (hl:laidOutB P=true):∀ (ts:List TypeId) (vs:List Value) (ds:List (DataW H)) (ps:List MemPlace),(∀ t∈ts,t < P.types.size∧P.readableRec t=true)→
  DataW.TrodAll enc P w 0 (fun _=>true) true ts vs ds ps→(∀ p∈ps,w.sameAt w' p)→(∀ p∈ps,sp' p.block=true)→DataW.TrodAll enc P w' 0 sp' true ts vs ds ps
 | [], [], [], _, _, h, _, _ => h
 | t :: ts, v :: vs, x :: ds, ps, ht, h, hs, hp => by
  obtain ⟨p,q,⟨n,h1⟩,h2,rfl⟩:=h
  refine ⟨p,q,⟨n,?_⟩,ZdB hl ts vs ds q (fun t' h'=>ht t' (by simp [h'])) h2 (fun z hz=>hs z (by simp [hz])) (fun z hz=>hp z (by simp [hz])),rfl⟩
  have hr:=(ht t (by simp)).2
  exact DataW.trod_stays (T:=InBook P t) (kids_book hl hr) (fun {t' e} h' hu=>book_sized hr h' hu) (fun h=>by cases h) ⟨(ht t (by simp)).1,book_self t⟩ h1 (fun z hz=>hs z (by simp [hz])) (fun z hz=>hp z (by simp [hz]))
 | [], _ :: _, _, _, _, h, _, _ => h.elim
 | [], [], _ :: _, _, _, h, _, _ => h.elim
 | _ :: _, [], _, _, _, h, _, _ => h.elim
 | _ :: _, _ :: _, [], _, _, h, _, _ => h.elim
theorem Zcl {fn:Func} {f:FuncId} {s:ChangeSpec} {apart fresh handsOn again:Bool} {tb:TypeId} {d:Nat} (hl:laidOutB P=true) (hpar:∀ t∈fn.params.toList,WI P d t=true∧t < P.types.size∧P.readableRec t=true)
  (hres:fn.resultTypes = #[tb]) (htb:P.underlying tb=some .bool) (hvars:s.vars = []) (hs:∀ ds,ds.length=fn.params.size→s.fn H ds = { results:=[.lit (.bool true)],args:=ds })
  (hcall:∀ xs:List AV,xs.length=fn.params.toList.length→(∀ (i:Nat) (t:TypeId) (x:AV),fn.params.toList[i]? = some t→xs[i]? = some x→Za8 P d t x)→∃ outs,Jz P f xs (B true) outs)
  (W:World) (base:Nat) (args:Array Value) (ds gs:List (DataW H)) (before:List MemPlace)
  (hval:∀ (j:Nat) t v,fn.params[j]? = some t→args[j]? = some v→Value.okWide P W .any base t v) (hW:DataW.Whole enc P fn.params.toList s.vars apart W args.toList ds gs before) :
  Calls P f args W fun e W'=>∃ v,e = .returned v∧s.post enc P fn apart fresh handsOn again W args v W':=by
 have hW':=hW
 obtain ⟨p,q,hA,hV,rfl,_,_⟩:=hW
 rw [hvars] at hV
 obtain ⟨rfl,rfl⟩:=ChangeShapes.trodVars_none hV
 obtain ⟨hlen,xs,hx1,hx2⟩:=ZdN (r:=.any) (base:=base) _ _ _ _ (fun t ht=>(hpar t ht).1) (fun j t v ht hv=>hval j t v (by simpa using ht) (by simpa using hv)) hA
 have hdl:ds.length=fn.params.size:=by
  have:∀ (ts:List TypeId) (vs:List Value) (ds:List (DataW H)) (ps:List MemPlace),DataW.TrodAll enc P W 0 (fun _=>true) true ts vs ds ps→ds.length=ts.length:=by
   intro ts
   induction ts with
   | nil => intro vs ds ps h; cases vs <;> cases ds <;> simp_all [DataW.TrodAll]
   | cons t ts ih =>
    intro vs ds ps h
    cases vs with
    | nil => exact h.elim
    | cons v vs =>
     cases ds with
     | nil => exact h.elim
     | cons x ds => obtain ⟨_, _, _, h2, _⟩ := h; simp [ih _ _ _ h2]
  simpa using this _ _ _ _ hA
 obtain ⟨outs,_,hc⟩:=hcall xs hx1 fun i t x ht hx=>by
  obtain ⟨v,hv⟩:∃ v,args.toList[i]? = some v:=⟨_,List.getElem?_eq_getElem (by rw [hlen];exact (List.getElem?_eq_some_iff.1 ht).1)⟩
  exact (hx2 i t x v ht hx hv).1
 have hng:xs.countP AV.isG=0:=by
  rw [List.countP_eq_zero]
  intro x hx hg
  obtain ⟨i,hi⟩:=List.mem_iff_getElem?.1 hx
  have hlt:=(List.getElem?_eq_some_iff.1 hi).1
  obtain ⟨v,hv⟩:∃ v,args.toList[i]? = some v:=⟨_,List.getElem?_eq_getElem (by omega)⟩
  obtain ⟨t,ht⟩:∃ t,fn.params.toList[i]? = some t:=⟨_,List.getElem?_eq_getElem (by omega)⟩
  have hr:=(hx2 i t x v ht hi hv).2 (fun _ _=>none) (fun _=>.dead) 0
  cases x<;>simp [AV.isG] at hg
  obtain ⟨v',b,_,_,h,_⟩:=hr
  cases h
 have hcalls:=hc W (Kh W) (fun _ _=>none) args.toList (by rw [hng,hlen,hx1];exact Nat.le_refl _) (fun i=>by
  cases hxi:xs[i]? with
  | none =>
   have:ZE xs i = .dead:=by simp [ZE,hxi]
   rw [this]
   trivial
  | some x =>
   have hi:=(List.getElem?_eq_some_iff.1 hxi).1
   obtain ⟨v,hv⟩:∃ v,args.toList[i]? = some v:=⟨_,List.getElem?_eq_getElem (by omega)⟩
   obtain ⟨t,ht⟩:∃ t,fn.params.toList[i]? = some t:=⟨_,List.getElem?_eq_getElem (by omega)⟩
   have h1:ZE xs i=x:=by simp [ZE,hxi]
   have h2:args.toList.getD i undef=v:=by rw [List.getD_eq_getElem?_getD,hv];rfl
   rw [h1,h2]
   exact (hx2 i t x v ht hxi hv).2 _ _ _) (fun _ _ _ _ _ h=>by cases h) (fun _ _ _ h=>by cases h)
 rw [Array.toArray_toList] at hcalls
 refine hcalls.mono ?_
 rintro e W' ⟨v,lim',X',rfl,hst,hol,hrel,_,_,_⟩
 have hv:v = .bool true:=by
  have h:=hrel xs.length
  have h1:ZE (outs++[B true]) xs.length=B true:=by
   simp only [ZE]
   rw [List.getElem?_append_right (by omega),hol]
   simp
  have h2:Wq xs.length args.toList v xs.length=v:=if_pos rfl
  rw [h1,h2] at h
  exact KC h
 subst hv
 have hkept:∀ b,b < W.heap.size→W'.heap[b]? = W.heap[b]?:=fun b hb=>(hst.blk b hb (by rintro ⟨_,_,h⟩;cases h)).1
 have hsame:∀ z∈p++[],W.sameAt W' z:=by
  intro z hz
  have hlt:=hW'.lt z hz
  cases z with
  | cell b off =>
   show W'.cell? ⟨b,off,none⟩=W.cell? ⟨b,off,none⟩
   unfold World.cell?
   rw [hkept b hlt]
  | map b => exact hkept b hlt
 refine ⟨_,rfl,Zf0 (pa:=p) hW' (fun b sp hd=>?_) (fun sp hp=>?_) (fun sp _=>?_) rfl ?_ hst.frz ?_⟩
 ·rw [hs _ (by simpa using hdl),hres]
  exact ⟨[],[],⟨1,by simp [DataW.trod,htb,Value.cells]⟩,rfl,rfl⟩
 ·rw [hs _ (by simpa using hdl),List.append_nil]
  exact ZdB hl _ _ _ _ (fun t ht=>(hpar t ht).2) hA (fun z hz=>hsame z (by simpa using hz)) (fun z hz=>hp z (by simpa using hz))
 ·rw [hs _ (by simpa using hdl),hvars]
  rfl
 ·refine ⟨hst.os,hst.output,fun i hi=>?_⟩
  rw [hkept i hi]
  cases W.heap[i]? with
  | none => rfl
  | some o => cases o <;> simp
 ·exact RowKit.ok_one hres rfl (RowKit.okWide_bool_mk htb true)
end
end Go.AM
end

section
namespace Go.AM
open Go
set_option linter.unusedSimpArgs false
set_option linter.unusedVariables false
def blank:Char:=Char.ofNat 32
theorem ZeG (r:List Char):wordsSigns (blank::r) = []::wordsSigns r:=by
 show wordsSigns (Char.ofNat 32::r)=_
 rw [wordsSigns]
theorem Zef (c:Char) (r:List Char) (h:c≠blank):wordsSigns (c::r)=match wordsSigns r with | w::ws=>(c::w)::ws | []=>[[c]]:=by
 rw [wordsSigns]
 ·rfl
 ·exact h
theorem KM (r:List Char):∀ (w:List Char),(w.all fun c=>c != blank)=true→wordsSigns (w++blank::r)=w::wordsSigns r
 | [], _ => ZeG r
 | c :: w, h => by
  rw [List.all_cons,Bool.and_eq_true] at h
  rw [List.cons_append,Zef c _ (by simpa using h.1),KM r w h.2]
theorem ZdQ {L:List Char} (h1:((L.take 7).all fun c=>c != blank)=true) (h2:(((L.drop 8).take 64).all fun c=>c != blank)=true) (h3:(((L.drop 73).take 3).all fun c=>c != blank)=true)
  (hL : L = L.take 7 ++ blank :: ((L.drop 8).take 64 ++ blank :: ((L.drop 73).take 3 ++ blank :: L.drop 77))) (hm : ((L.take 7 == "harness".toList || L.take 7 == "ownmain".toList) && isSumSigns ((L.drop 8).take 64)) = true)
  (hc : (L.drop 73).take 3 = "cut".toList) : ∃ ws, behindMainWord (wordsSigns L) = "cut".toList :: ws := by
 refine ⟨wordsSigns (L.drop 77),?_⟩
 have h:wordsSigns L=L.take 7::(L.drop 8).take 64::(L.drop 73).take 3::wordsSigns (L.drop 77):=by
  rw [hL,KM _ _ h1,KM _ _ h2,KM _ _ h3,← hL]
 rw [h,behindMainWord,if_pos hm,hc]
theorem enters_of {P : Program} {ws : List (List Char)} (h : behindMainWord (wordsSigns P.initOrder.toList) = "cut".toList :: ws) (h1 : P.laysLater = false) (h2 : P.bearsReflect = false) (h3 : P.doorFits [] = true) : P.mayEnter = true := by
 unfold Program.mayEnter
 rw [h]
 have hs : stripLifts liftWords ("cut".toList :: ws) = ([], "cut".toList :: ws) := by kernel_rfl
 simp only [hs]
 simp [h1,h2,h3]
theorem lifts_of {P : Program} {ws : List (List Char)} (h : behindMainWord (wordsSigns P.initOrder.toList) = "cut".toList :: ws) : P.headLifts = [] := by
 unfold Program.headLifts
 rw [h]
 have hs : stripLifts liftWords ("cut".toList :: ws) = ([], "cut".toList :: ws) := by kernel_rfl
 simp only [hs]
 simp
theorem final_of {P : Program} {ws : List (List Char)} (h : behindMainWord (wordsSigns P.initOrder.toList) = "cut".toList :: ws) : P.liftsFinal = false := by
 unfold Program.liftsFinal
 rw [lifts_of h,h]
 have hs : ("cut".toList == "carried".toList) = false := by decide +kernel
 simp [hs]
theorem make_of {P : Program} {ws : List (List Char)} (h : behindMainWord (wordsSigns P.initOrder.toList) = "cut".toList :: ws) : P.make = some .cut := by
 unfold Program.make
 rw [h]
 simp
end Go.AM
end

section
namespace Go.AM
abbrev LL:Type:=List (List AV)
abbrev E0:LL:=[]
def ZnM (l:List (List AV)):Prop:=∀ e∈l,∃ n:Int,0≤n∧n≤255∧e = [.val (.int .u8 n)]
def Yt (a b:List (List AV)) (k:Nat):Prop:=(a.length+b.length)*(k+1)≤ZX
def ZqO (a:Int) (k:Nat):Prop:=0≤a∧a.toNat*(k+1)≤ZX
instance (l:List (List AV)):Decidable (ZnM l):=Zfd l
instance (a b:List (List AV)) (k:Nat):Decidable (Yt a b k):=inferInstanceAs (Decidable ((a.length+b.length)*(k+1)≤ZX))
instance (a:Int) (k:Nat):Decidable (ZqO a k):=inferInstanceAs (Decidable (0≤a∧a.toNat*(k+1)≤ZX))
instance (l:List (List AV)):Decidable (l≠[]):=ZgO l
theorem CQ:(∀ a b:Int,(cop .lss a b=true)=(a < b))∧(∀ a b:Int,(cop .lss a b=false)=(b≤a))∧(∀ a b:Int,(cop .leq a b=true)=(a≤b))∧(∀ a b:Int,(cop .leq a b=false)=(b < a))∧
  (∀ a b:Int,(cop .gtr a b=true)=(b < a))∧(∀ a b:Int,(cop .gtr a b=false)=(a≤b))∧(∀ a b:Int,(cop .geq a b=true)=(b≤a))∧(∀ a b:Int,(cop .geq a b=false)=(a < b))∧
  (∀ a b:Int,(cop .eql a b=true)=(a=b))∧(∀ a b:Int,(cop .eql a b=false)=(a≠b))∧(∀ a b:Int,(cop .neq a b=true)=(a≠b))∧(∀ a b:Int,(cop .neq a b=false)=(a=b))∧
  (∀ b:Bool,(¬b=true)=(b=false))∧(∀ b:Bool,(¬b=false)=(b=true))∧(∀ b:Bool,((!b)=true)=(b=false))∧(∀ b:Bool,((!b)=false)=(b=true))∧
  (∀ a b:Bool,((a&&b)=true)=(a=true∧b=true))∧(∀ a b:Bool,((a||b)=true)=(a=true∨b=true))∧(∀ {p:Prop} [Decidable p],(decide p=true)=p)∧(∀ {p:Prop} {_:Decidable p},decide p=false↔¬p)∧
  ((false=true)=False)∧((true=false)=False)∧(∀ {α β:Type} (a:α) (f:α→Option β),(some a).bind f=f a)∧(∀ {α:Type} (x y:α),(some x=some y)=(x=y))∧
  (∀ p:Prop,(False↔p) = ¬p)∧(∀ p:Prop,(True↔p)=p)∧(∀ p:Prop,(p↔False) = ¬p)∧(∀ p:Prop,(p↔True)=p):=
 ⟨Jp,Jf,Jh,Jm,Jk,Jq,Jo,Je,Jg,Jn,Ji,Jl,Bool.not_eq_true,Bool.not_eq_false,Bool.not_eq_true',Bool.not_eq_false',Bool.and_eq_true,Bool.or_eq_true,
  @decide_eq_true_eq,@decide_eq_false_iff_not,Bool.false_eq_true,Bool.true_eq_false,@Option.bind_some,@Option.some.injEq,false_iff,true_iff,iff_false,iff_true⟩
theorem YX {α:Type} {c:Prop} [Decidable c] {a b x:α} (h1:c→a=x) (h2:¬ c→b=x):(if c then a else b)=x:=by
 by_cases h:c
 ·rw [if_pos h];exact h1 h
 ·rw [if_neg h];exact h2 h
def STree.next:STree→STree
 | .branch _ t _ => t
 | .req _ t => t
 | .elem _ _ _ _ t => t
 | .nilq _ _ t => t
 | .call _ _ _ _ _ _ t => t
 | .loop _ _ _ t => t
 | t => t
def STree.other:STree→STree
 | .branch _ _ e => e
 | t => t
def STree.nexts:Nat→STree→STree
 | 0, t => t
 | k + 1, t => STree.nexts k t.next
def STree.go:STree→List Nat→STree
 | t, [] => t
 | t, 0 :: p => t.next.go p
 | t, 1 :: p => t.other.go p
 | t, k :: p => (STree.nexts k t).go p
@[reducible] def d2 {α β γ:Type} (r:α×β×γ):γ:=r.2.2
@[reducible] def d4 {α β γ δ ε:Type} (r:α×β×γ×δ×ε):ε:=r.2.2.2.2
@[reducible] def d8 {a b c d e f g h i:Type} (r:a×b×c×d×e×f×g×h×i):i:=d4 (d4 r)
@[reducible] def d16 {a b c d e f g h i j k l m n o p q:Type} (r:a×b×c×d×e×f×g×h×i×j×k×l×m×n×o×p×q):q:=d8 (d8 r)
def AP.hp:AP→HP
 | .c s => .c s
 | .agg l => .agg l
 | .box l => .box l
 | .gbox l => .gbox l
 | .clo g ds => .clo g ds
 | .ref j q => .mref j q
 | .dead => .dead
def VX:List AP→Nat→List SV
 | [], _ => []
 | a :: r, n => ZiS a.hp n :: VX r (n + a.n)
def Zmd:List AP→Nat
 | [] => 0
 | a :: r => a.n + Zmd r
def apsFine (l:List AP):Bool:=l.all fun a=>a.hp.fine
theorem ZjU (a:AP) (us:List V) (j:Nat):ZhI a us j=KS a.hp us j:=by cases a<;>rfl
theorem Zbk:∀ (l:List AP) (n:Nat) (us:List V),apsFine l=true→(VX l n).map (SV.den (Znm us))=YR l us n
 | [], _, _, _ => rfl
 | a :: r, n, us, h => by
  simp only [apsFine,List.all_cons,Bool.and_eq_true] at h
  rw [VX,List.map_cons,YR,ZjU,Zip (m:=n) h.1 (ρ:=Znm us) (us:=us) (fun j _=>rfl),Zbk r (n+a.n) us h.2]
theorem ZdJ:∀ (l:List AP) (n:Nat),∀ x∈VX l n,x.bd (n+Zmd l)
 | [], _ => by simp [VX]
 | a :: r, n => by
  intro x hx
  simp only [VX,List.mem_cons] at hx
  rcases hx with rfl | hx
  ·have hb:(ZiS a.hp n).bd (n+a.n):=by
    cases a with
    | c s => cases s <;> exact Nat.lt_succ_self n
    | agg l => exact JG l n
    | box l => exact JI l n
    | gbox l => exact JI l n
    | clo g ds => trivial
    | ref j q => trivial
    | dead => trivial
   exact SV.bd_mono (by simp only [Zmd];omega) _ hb
  ·have:=ZdJ r (n+a.n) x hx
   rw [Zmd,← Nat.add_assoc]
   exact this
section
variable {P:Program}
theorem fun_ok {Φ : List (FuncId × Fun)} {E : Env} (hm : P.follows .mixedOrders = true) (hps : PlainSound P E.plain) {f : FuncId} {fn : Func} {S : Fun} {n : Nat} {T : STree} (hf : P.funcs[f]? = some fn) (hname : (fn.name == "runtime.NumGoroutine") = false)
  (hfine:apsFine S.args=true) (hn:Zmd S.args=n) (eq:Zoz P E fn (VX S.args 0) n=T) (hΦ:Zhh P Φ) (hg:∀ vs,S.g vs=T.run P Φ S.args S.res (fun _ _=>none) (Znm vs)):S.Ok P f:=by
 intro vs r h
 rw [hg] at h
 have:=callOk_ofR (R:=fun x os=>K2 P (os++[x]) (ZM S.args (ZaZ _ r) (Zec S.res)++[YF S.res (ZaZ _ r) 0])) hm hps hf hname (args:=VX S.args 0) (n:=n) (ρ:=Znm vs)
  (fun a ha=>by have:=ZdJ S.args 0 a ha;rwa [Nat.zero_add,hn] at this) (fun _ _ h=>h) (by rw [eq];exact Ws hΦ (fun _ _ h=>h) T _ _ _ (fun _ _ h=>by cases h) h)
 rw [Zbk S.args 0 vs hfine] at this
 exact this
end
end Go.AM
end

section
namespace Go.AM
section
variable {P:Program} {H:Type} {enc:TypeId×Value→H} {w:World} {sp:Nat→Bool} {held:Bool}
end
end Go.AM
end

section
set_option linter.unusedVariables false
set_option linter.unusedSimpArgs false
namespace Go.AM
open Go.Shelf Go.RowKit Go.Lib
variable {P:Program}
theorem Yk (w:World) (dT sT ty elem:TypeId) (inf:TypeInfo) (g o dLen dCap:Nat) (a:Addr) (sLen sCap n:Nat) (cur:Array Value) (t:TypeId) (cs:List Value)
  (hu:P.underlying dT=some (.slice elem)) (hs:P.info? elem=some inf) (hg:w.heap[g]? = some (.cells cur t (0,0))) (hn:n=Nat.min sLen dLen) (hl:cs.length=n*inf.size)
  (hsrc:∀ j v,cs[j]? = some v→w.cell? (a.add j)=some v) (hfit:o+cs.length≤cur.size) (h1:∀ v∈cs,v.oneCell'=true) :
  (Builtin.copy_ #[dT,sT] ty #[.slice (some ⟨g,o,none⟩) dLen dCap,.slice (some a) sLen sCap]).run P w =
   .ok (goInt n) (w.setRow g (cur.toList.take o++cs++cur.toList.drop (o+cs.length)).toArray):=by
 have hl':=run_loadCells_list (P:=P) w a cs hsrc
 have hst:=run_storeCells_at P g o t cs 0 cur w hg (by simpa using hfit) h1
 rw [hl] at hl'
 simp [Builtin.copy_,run_underlying hu,Builtin.lenOf,Builtin.firstCells,sizeOf,typeInfo,hs,← hn,hl',hst]
theorem ZdC (w:World) {o:Oper} {a:Act} {K:Act→World→Prop} {Q:Exit→Act→World→Prop} (d s:Operand) (t t':TypeId)
  (ho:o.op = .call { callee:=.builtin .copy,args:=#[d,s],argTypes:=#[t,t'] }) (v u:Value) (hd:a.eval d=v) (hs:a.eval s=u) {v':Value} {w':World}
  (hr:(Builtin.copy_ #[t,t'] o.type #[v,u]).run P w = .ok v' w') (h:K (a.put o.dst v') w'):o.wp P a w K Q:=by
 unfold Oper.wp execOp
 simp only [ho,resolve,invoke,builtin,Sem.run_bind,Sem.run_pure,Result.andThen_ok,List.map_toArray,List.map_cons,List.map_nil,hd,hs,hr]
 exact h
theorem Ke (w:World) {ops:Array Oper} {rest:List Oper} {o:Oper} {a:Act} {Q:Exit→Act→World→Prop} (hgd:o.guard=none) (d s:Operand) (t t':TypeId)
  (ho:o.op = .call { callee:=.builtin .copy,args:=#[d,s],argTypes:=#[t,t'] }) (v u:Value) (hd:a.eval d=v) (hs:a.eval s=u) {v':Value} {w':World}
  (hr:(Builtin.copy_ #[t,t'] o.type #[v,u]).run P w = .ok v' w') (h:wpList P ops Q rest (a.put o.dst v') w'):wpList P ops Q (o::rest) a w:=
 wpList_plain hgd fun _ hK=>ZdC w d s t t' ho v u hd hs hr (hK _ _ h)
theorem KY {ops:Array Oper} {o:Oper} {a:Act} {w:World} {K:Act→World→Prop} {Q:Exit→Act→World→Prop} {E:Prop}
  (hg:o.guard=none) (d x:Operand) (dT sT:TypeId) (hop:o.op=Op.call { callee:=Callee.builtin Builtin.copy,args:=#[d,x],argTypes:=#[dT,sT] })
  (v u:Value) (hd:a.eval d=v) (hx:a.eval x=u) {v':Value} {w':World} (hr:(Builtin.copy_ #[dT,sT] o.type #[v,u]).run P w = .ok v' w') (hK:K (a.put o.dst v') w') :
  if Region.wanted o (yielded ops a.tmps)=true then Oper.wp P o a w K Q else E:=by
 have hw:Region.wanted o (yielded ops a.tmps)=true:=by simp [Region.wanted,hg]
 rw [if_pos hw]
 unfold Oper.wp
 simp [execOp,hop,resolve,invoke,builtin,hd,hx,hr,Result.andThen]
 exact hK
def insCode (T B I:TypeId) (fO fR:FuncId):Code:=
  (.seq (.region 0 #[
    ⟨some 6, .assign (.const (.slice none 0 0)), T, "slices.go:136", #[], none⟩] false)
  (.seq (.region 1 #[
    ⟨some 10, .move (.tmp 0), T, "slices.go:137", #[], none⟩,
    ⟨some 11, .move (.tmp 1), I, "slices.go:137", #[], none⟩,
    ⟨some 12, .slice T (.tmp 10) (some (.tmp 11)) none none, T, "slices.go:137", #[⟨0, .data⟩, ⟨1, .data⟩], none⟩] false)
  (.seq (.region 2 #[
    ⟨some 13, .move (.tmp 2), T, "slices.go:139", #[], none⟩,
    ⟨some 14, .call ⟨.builtin .len, #[(.tmp 13)], #[T]⟩, I, "slices.go:139", #[⟨0, .data⟩], none⟩,
    ⟨some 7, .assign (.tmp 14), I, "slices.go:139", #[⟨1, .data⟩, ⟨0, .phase⟩, ⟨1, .phase⟩], none⟩] false)
  (.seq (.seq (.region 3 #[
    ⟨some 15, .move (.tmp 7), I, "slices.go:140", #[], none⟩,
    ⟨some 16, .binOp .eql I (.tmp 15) (.const (.int .i64 0)) I, B, "slices.go:140", #[⟨0, .data⟩], none⟩] false)
  (.cond (.tmp 16)
   (.seq (.region 4 #[
     ⟨some 17, .move (.tmp 0), T, "slices.go:141", #[], none⟩,
     ⟨some 6, .assign (.tmp 17), T, "slices.go:141", #[⟨0, .data⟩, ⟨0, .phase⟩], none⟩] false)
   .ret)
   .skip))
  (.seq (.region 5 #[
    ⟨some 18, .move (.tmp 0), T, "slices.go:143", #[], none⟩,
    ⟨some 19, .call ⟨.builtin .len, #[(.tmp 18)], #[T]⟩, I, "slices.go:143", #[⟨0, .data⟩], none⟩,
    ⟨some 8, .assign (.tmp 19), I, "slices.go:143", #[⟨1, .data⟩, ⟨0, .phase⟩, ⟨1, .phase⟩], none⟩] false)
  (.seq (.seq (.region 6 #[
    ⟨some 20, .move (.tmp 1), I, "slices.go:144", #[], none⟩,
    ⟨some 21, .move (.tmp 8), I, "slices.go:144", #[], none⟩,
    ⟨some 22, .binOp .eql I (.tmp 20) (.tmp 21) I, B, "slices.go:144", #[⟨0, .data⟩, ⟨1, .data⟩], none⟩] false)
  (.cond (.tmp 22)
   (.seq (.region 7 #[
     ⟨some 23, .move (.tmp 0), T, "slices.go:145", #[], none⟩,
     ⟨some 24, .move (.tmp 2), T, "slices.go:145", #[], none⟩,
     ⟨some 25, .call ⟨.builtin .append, #[(.tmp 23), (.tmp 24)], #[T, T]⟩, T, "slices.go:145", #[⟨0, .data⟩, ⟨1, .data⟩], none⟩,
     ⟨some 6, .assign (.tmp 25), T, "slices.go:145", #[⟨2, .data⟩, ⟨2, .chain⟩, ⟨0, .phase⟩, ⟨1, .phase⟩, ⟨2, .phase⟩], none⟩] false)
   .ret)
   .skip))
  (.seq (.seq (.region 8 #[
    ⟨some 26, .move (.tmp 8), I, "slices.go:147", #[], none⟩,
    ⟨some 27, .move (.tmp 7), I, "slices.go:147", #[], none⟩,
    ⟨some 28, .binOp .add I (.tmp 26) (.tmp 27) I, I, "slices.go:147", #[⟨0, .data⟩, ⟨1, .data⟩], none⟩,
    ⟨some 29, .move (.tmp 0), T, "slices.go:147", #[], none⟩,
    ⟨some 30, .call ⟨.builtin .cap, #[(.tmp 29)], #[T]⟩, I, "slices.go:147", #[⟨3, .data⟩], none⟩,
    ⟨some 31, .binOp .gtr I (.tmp 28) (.tmp 30) I, B, "slices.go:147", #[⟨2, .data⟩, ⟨4, .data⟩], none⟩] false)
  (.cond (.tmp 31)
   (.seq (.region 9 #[
     ⟨some 32, .move (.tmp 0), T, "slices.go:152", #[], none⟩,
     ⟨some 33, .move (.tmp 1), I, "slices.go:152", #[], none⟩,
     ⟨some 34, .slice T (.tmp 32) none (some (.tmp 33)) none, T, "slices.go:152", #[⟨0, .data⟩, ⟨1, .data⟩], none⟩,
     ⟨some 35, .move (.tmp 8), I, "slices.go:152", #[], none⟩,
     ⟨some 36, .move (.tmp 7), I, "slices.go:152", #[], none⟩,
     ⟨some 37, .binOp .add I (.tmp 35) (.tmp 36) I, I, "slices.go:152", #[⟨3, .data⟩, ⟨4, .data⟩], none⟩,
     ⟨some 38, .move (.tmp 1), I, "slices.go:152", #[], none⟩,
     ⟨some 39, .binOp .sub I (.tmp 37) (.tmp 38) I, I, "slices.go:152", #[⟨5, .data⟩, ⟨6, .data⟩], none⟩,
     ⟨some 40, .call ⟨.builtin .append, #[(.tmp 34), (.tmp 39)], #[T, I]⟩, T, "slices.go:152", #[⟨2, .data⟩, ⟨7, .data⟩], none⟩,
     ⟨some 9, .assign (.tmp 40), T, "slices.go:152", #[⟨8, .data⟩, ⟨8, .chain⟩, ⟨0, .phase⟩, ⟨1, .phase⟩, ⟨2, .phase⟩, ⟨3, .phase⟩, ⟨4, .phase⟩, ⟨5, .phase⟩, ⟨6, .phase⟩, ⟨7, .phase⟩, ⟨8, .phase⟩], none⟩] false)
   (.seq (.region 10 #[
     ⟨some 41, .move (.tmp 9), T, "slices.go:153", #[], none⟩,
     ⟨some 42, .move (.tmp 1), I, "slices.go:153", #[], none⟩,
     ⟨some 43, .slice T (.tmp 41) (some (.tmp 42)) none none, T, "slices.go:153", #[⟨0, .data⟩, ⟨1, .data⟩], none⟩,
     ⟨some 44, .move (.tmp 2), T, "slices.go:153", #[], none⟩,
     ⟨some 45, .call ⟨.builtin .copy, #[(.tmp 43), (.tmp 44)], #[T, T]⟩, I, "slices.go:153", #[⟨2, .data⟩, ⟨3, .data⟩], none⟩] false)
   (.seq (.region 11 #[
     ⟨some 46, .move (.tmp 9), T, "slices.go:154", #[], none⟩,
     ⟨some 47, .move (.tmp 1), I, "slices.go:154", #[], none⟩,
     ⟨some 48, .move (.tmp 7), I, "slices.go:154", #[], none⟩,
     ⟨some 49, .binOp .add I (.tmp 47) (.tmp 48) I, I, "slices.go:154", #[⟨1, .data⟩, ⟨2, .data⟩], none⟩,
     ⟨some 50, .slice T (.tmp 46) (some (.tmp 49)) none none, T, "slices.go:154", #[⟨0, .data⟩, ⟨3, .data⟩], none⟩,
     ⟨some 51, .move (.tmp 0), T, "slices.go:154", #[], none⟩,
     ⟨some 52, .move (.tmp 1), I, "slices.go:154", #[], none⟩,
     ⟨some 53, .slice T (.tmp 51) (some (.tmp 52)) none none, T, "slices.go:154", #[⟨5, .data⟩, ⟨6, .data⟩], none⟩,
     ⟨some 54, .call ⟨.builtin .copy, #[(.tmp 50), (.tmp 53)], #[T, T]⟩, I, "slices.go:154", #[⟨4, .data⟩, ⟨7, .data⟩], none⟩] true)
   (.seq (.region 12 #[
     ⟨some 55, .move (.tmp 9), T, "slices.go:155", #[], none⟩,
     ⟨some 6, .assign (.tmp 55), T, "slices.go:155", #[⟨0, .data⟩, ⟨0, .phase⟩], none⟩] false)
   .ret))))
   .skip))
  (.seq (.region 13 #[
    ⟨some 56, .move (.tmp 0), T, "slices.go:157", #[], none⟩,
    ⟨some 57, .move (.tmp 8), I, "slices.go:157", #[], none⟩,
    ⟨some 58, .move (.tmp 7), I, "slices.go:157", #[], none⟩,
    ⟨some 59, .binOp .add I (.tmp 57) (.tmp 58) I, I, "slices.go:157", #[⟨1, .data⟩, ⟨2, .data⟩], none⟩,
    ⟨some 60, .slice T (.tmp 56) none (some (.tmp 59)) none, T, "slices.go:157", #[⟨0, .data⟩, ⟨3, .data⟩], none⟩,
    ⟨some 0, .assign (.tmp 60), T, "slices.go:157", #[⟨4, .data⟩, ⟨0, .phase⟩, ⟨1, .phase⟩, ⟨2, .phase⟩, ⟨3, .phase⟩, ⟨4, .phase⟩], none⟩] false)
  (.seq (.seq (.region 14 #[
    ⟨some 61, .move (.tmp 2), T, "slices.go:173", #[], none⟩,
    ⟨some 62, .move (.tmp 0), T, "slices.go:173", #[], none⟩,
    ⟨some 63, .move (.tmp 1), I, "slices.go:173", #[], none⟩,
    ⟨some 64, .move (.tmp 7), I, "slices.go:173", #[], none⟩,
    ⟨some 65, .binOp .add I (.tmp 63) (.tmp 64) I, I, "slices.go:173", #[⟨2, .data⟩, ⟨3, .data⟩], none⟩,
    ⟨some 66, .slice T (.tmp 62) (some (.tmp 65)) none none, T, "slices.go:173", #[⟨1, .data⟩, ⟨4, .data⟩], none⟩,
    ⟨some 67, .call ⟨.value (.func fO), #[(.tmp 61), (.tmp 66)], #[T, T]⟩, B, "slices.go:173", #[⟨0, .data⟩, ⟨5, .data⟩], none⟩,
    ⟨some 68, .unOp .not B (.tmp 67), B, "slices.go:173", #[⟨6, .data⟩], none⟩] false)
  (.cond (.tmp 68)
   (.seq (.region 15 #[
     ⟨some 69, .move (.tmp 0), T, "slices.go:178", #[], none⟩,
     ⟨some 70, .move (.tmp 1), I, "slices.go:178", #[], none⟩,
     ⟨some 71, .move (.tmp 7), I, "slices.go:178", #[], none⟩,
     ⟨some 72, .binOp .add I (.tmp 70) (.tmp 71) I, I, "slices.go:178", #[⟨1, .data⟩, ⟨2, .data⟩], none⟩,
     ⟨some 73, .slice T (.tmp 69) (some (.tmp 72)) none none, T, "slices.go:178", #[⟨0, .data⟩, ⟨3, .data⟩], none⟩,
     ⟨some 74, .move (.tmp 0), T, "slices.go:178", #[], none⟩,
     ⟨some 75, .move (.tmp 1), I, "slices.go:178", #[], none⟩,
     ⟨some 76, .slice T (.tmp 74) (some (.tmp 75)) none none, T, "slices.go:178", #[⟨5, .data⟩, ⟨6, .data⟩], none⟩,
     ⟨some 77, .call ⟨.builtin .copy, #[(.tmp 73), (.tmp 76)], #[T, T]⟩, I, "slices.go:178", #[⟨4, .data⟩, ⟨7, .data⟩], none⟩] true)
   (.seq (.region 16 #[
     ⟨some 78, .move (.tmp 0), T, "slices.go:186", #[], none⟩,
     ⟨some 79, .move (.tmp 1), I, "slices.go:186", #[], none⟩,
     ⟨some 80, .slice T (.tmp 78) (some (.tmp 79)) none none, T, "slices.go:186", #[⟨0, .data⟩, ⟨1, .data⟩], none⟩,
     ⟨some 81, .move (.tmp 2), T, "slices.go:186", #[], none⟩,
     ⟨some 82, .call ⟨.builtin .copy, #[(.tmp 80), (.tmp 81)], #[T, T]⟩, I, "slices.go:186", #[⟨2, .data⟩, ⟨3, .data⟩], none⟩] false)
   (.seq (.region 17 #[
     ⟨some 83, .move (.tmp 0), T, "slices.go:193", #[], none⟩,
     ⟨some 6, .assign (.tmp 83), T, "slices.go:193", #[⟨0, .data⟩, ⟨0, .phase⟩], none⟩] false)
   .ret)))
   .skip))
  (.seq (.region 18 #[
    ⟨some 84, .move (.tmp 0), T, "slices.go:200", #[], none⟩,
    ⟨some 85, .move (.tmp 8), I, "slices.go:200", #[], none⟩,
    ⟨some 86, .slice T (.tmp 84) (some (.tmp 85)) none none, T, "slices.go:200", #[⟨0, .data⟩, ⟨1, .data⟩], none⟩,
    ⟨some 87, .move (.tmp 2), T, "slices.go:200", #[], none⟩,
    ⟨some 88, .call ⟨.builtin .copy, #[(.tmp 86), (.tmp 87)], #[T, T]⟩, I, "slices.go:200", #[⟨2, .data⟩, ⟨3, .data⟩], none⟩] false)
  (.seq (.region 19 #[
    ⟨some 89, .move (.tmp 0), T, "slices.go:207", #[], none⟩,
    ⟨some 90, .move (.tmp 1), I, "slices.go:207", #[], none⟩,
    ⟨some 91, .slice T (.tmp 89) (some (.tmp 90)) none none, T, "slices.go:207", #[⟨0, .data⟩, ⟨1, .data⟩], none⟩,
    ⟨some 92, .move (.tmp 7), I, "slices.go:207", #[], none⟩,
    ⟨some 93, .call ⟨.value (.func fR), #[(.tmp 91), (.tmp 92)], #[T, I]⟩, 0, "slices.go:207", #[⟨2, .data⟩, ⟨3, .data⟩], none⟩] false)
  (.seq (.region 20 #[
    ⟨some 94, .move (.tmp 0), T, "slices.go:214", #[], none⟩,
    ⟨some 6, .assign (.tmp 94), T, "slices.go:214", #[⟨0, .data⟩, ⟨0, .phase⟩], none⟩] false)
  .ret))))))))))))
structure ZaU (P:Program) (T B I e:TypeId) (inf:TypeInfo) (z:Value) (k:Nat):Prop where
 mixed:P.follows .mixedOrders=true
 tT:P.underlying T=some (.slice e)
 tI:P.underlying I=some (.int .i64)
 tB:P.underlying B=some .bool
 ie:P.info? e=some inf
 zero:inf.zero=some z
 zsz:z.cells.size=k
 sz:inf.size=k
 pos:0 < k
structure ZaV (P:Program) (T B I:TypeId) (fO:FuncId) (e:TypeId) (inf:TypeInfo) (z:Value) (k:Nat):Prop extends ZaU P T B I e inf z k where
 fO:∀ args w,(callFunc fO args).run P w=((Extern.SlicesOverlaps.overlaps #[T,T] #[B] args).run P w).andThen fun v w'=>.ok (.value v) w'
theorem ZfG {w:World} {b:Nat} {cur:Array Value} {e:TypeId} {fr:Nat×Nat} (h:w.heap[b]? = some (.cells cur e fr)):w.shape? b=some (e,cur.size):=by simp [World.shape?,h]
theorem ZdO {w:World} {b o:Nat} {cur:Array Value} {e:TypeId} (h:w.heap[b]? = some (.cells cur e (0,0))):w.frozen? ⟨b,o,none⟩=false:=by simp [World.frozen?,h]
def JP (U:List Value) (k n m i:Nat):List Value:=U.take ((i+m)*k)++(U.drop (i*k)).take ((n-i)*k)++U.drop ((i+m)*k+(n-i)*k)
def Zbp (U vs:List Value) (k n m i:Nat):List Value:=
 (JP U k n m i).take (i*k)++vs++(JP U k n m i).drop (i*k+m*k)
theorem KN {w:World} {b:Nat} {cur:Array Value} {e:TypeId} {fr:Nat×Nat} (h:w.heap[b]? = some (.cells cur e fr)) {l:List Value} {q:Nat} (hl:∀ j v,l[j]? = some v→cur[q+j]? = some v) :
  ∀ j v,l[j]? = some v→w.cell? ((⟨b,q,none⟩:Addr).add j)=some v:=fun j v hj=>by
 rw [Jx,ZK h]
 exact hl j v hj
theorem JR {w:World} {b:Nat} {cur cur':Array Value} {t:TypeId} (h:w.heap[b]? = some (.cells cur t (0,0))):(w.setRow b cur').heap[b]? = some (.cells cur' t (0,0)):=setRow_heap w b cur cur' t (0,0) h
set_option maxHeartbeats 4000000 in
set_option maxRecDepth 100000 in
theorem ZiA {T B I:TypeId} {fO fR:FuncId} {e:TypeId} {inf:TypeInfo} {z:Value} {k:Nat} (L:ZaV P T B I fO e inf z k) {f:FuncId} {fn:Func} (hf:P.funcs[f]? = some fn) (hb:fn.body=some (insCode T B I fO fR)) (hnt:fn.ntmps=95) (hrs:fn.results = #[.tmp 6])
  (b n c i vb m vc:Nat) (cur vcur:Array Value) (w:World) (hi:i < n) (hm:0 < m) (hroom:n+m≤c) (hc63:c≤9223372036854775807) (hvb:vb≠b)
  (hg:w.heap[b]? = some (.cells cur e (0,0))) (hcs:cur.size=c*k) (hvg:w.heap[vb]? = some (.cells vcur e (0,0))) (hvs:vcur.size=vc*k) (hmv:m≤vc)
  (h1c:∀ v∈cur.toList.take (n*k),v.oneCell'=true) (h1v:∀ v∈vcur.toList.take (m*k),v.oneCell'=true) :
  Calls P f #[.slice (some ⟨b,0,none⟩) n c,.int .i64 i,.slice (some ⟨vb,0,none⟩) m vc] w fun e' w'=>
   e' = .returned (.slice (some ⟨b,0,none⟩) (n+m) c)∧w'=(w.drew.setRow b (JP cur.toList k n m i).toArray).setRow b (Zbp cur.toList (vcur.toList.take (m*k)) k n m i).toArray:=by
 have mixed:=L.mixed
 have t0:=L.tT;have t1:=L.tI;have t2:=L.tB
 have u0:=run_underlying L.tT;have u1:=run_underlying L.tI;have u2:=run_underlying L.tB
 have zsE:∀ w,(Go.sizeOf e).run P w = .ok k w:=fun w=>by rw [Zj L.ie];rw [Zp L.ie,L.sz]
 have hk:=L.pos
 have hz1:¬ ((m:Int)=0):=by omega
 have hz2:¬ ((i:Int)=(n:Int)):=by omega
 have hn0:(n+m)*k≤c*k:=Nat.mul_le_mul_right _ hroom
 have hn1:(n+m)*k=n*k+m*k:=Nat.add_mul _ _ _
 have hn2:(i+m)*k=i*k+m*k:=Nat.add_mul _ _ _
 have hn3:(n-i)*k=n*k-i*k:=Nat.sub_mul _ _ _
 have hn4:i*k≤n*k:=Nat.mul_le_mul_right _ (by omega)
 have hn5:0 < c*k:=Nat.mul_pos (by omega) hk
 have hn6:m*k≤vc*k:=Nat.mul_le_mul_right _ hmv
 have hov:∀ lb cb W,W.heap[vb]? = w.heap[vb]?→W.heap[b]? = w.heap[b]?→(callFunc fO #[.slice (some ⟨vb,0,none⟩) m vc,.slice (some ⟨b,(i+m)*k,none⟩) lb cb]).run P W = .ok (.value (.bool false)) W:=fun lb cb W h1 h2=>by
  rw [L.fO,Lib.run_overlaps_apart W T B e L.tT k zsE ⟨vb,0,none⟩ ⟨b,(i+m)*k,none⟩ m vc lb cb hvb e e vcur.size cur.size (ZfG (h1.trans hvg)) (ZfG (h2.trans hg)) (by omega) (ZdO (h1.trans hvg)) (ZdO (h1.trans hvg))]
  rfl
 have hcl:cur.toList.length=c*k:=by simpa using hcs
 have hin:i≤n:=by omega
 have hcp1:∀ ty dc sc,(Builtin.copy_ #[T,T] ty #[.slice (some ⟨b,(i+m)*k,none⟩) (n+m-(i+m)) dc,.slice (some ⟨b,i*k,none⟩) (n+m-i) sc]).run P w.drew = .ok (goInt ((n-i:Nat):Int)) (w.drew.setRow b (JP cur.toList k n m i).toArray):=fun ty dc sc=>by
  have hlen:((cur.toList.drop (i*k)).take ((n-i)*k)).length=(n-i)*k:=by rw [List.length_take,List.length_drop,hcl];omega
  have:=Yk (P:=P) w.drew T T ty e inf b ((i+m)*k) (n+m-(i+m)) dc ⟨b,i*k,none⟩ (n+m-i) sc (n-i) cur e ((cur.toList.drop (i*k)).take ((n-i)*k)) L.tT L.ie hg (by simp only [Nat.min_def];split<;>omega) (by rw [hlen,L.sz])
   (KN (w:=w.drew) hg fun j v hj=>by
    rw [List.getElem?_take] at hj
    split at hj
    ·rw [List.getElem?_drop] at hj;simpa using hj
    ·cases hj)
   (by rw [hlen,hcs];omega) (fun v hv=>h1c v (by
    rw [hn3,← List.drop_take] at hv
    exact List.mem_of_mem_drop hv))
  rw [hlen] at this
  exact this
 have hcp2:∀ W,W.heap[b]? = some (.cells (JP cur.toList k n m i).toArray e (0,0))→W.heap[vb]? = w.heap[vb]?→∀ ty dc,(Builtin.copy_ #[T,T] ty #[.slice (some ⟨b,i*k,none⟩) (n+m-i) dc,.slice (some ⟨vb,0,none⟩) m vc]).run P W = .ok (goInt m) (W.setRow b (Zbp cur.toList (vcur.toList.take (m*k)) k n m i).toArray):=fun W h1 h2 ty dc=>by
  have hvl:vcur.toList.length=vc*k:=by simpa using hvs
  have hlen:(vcur.toList.take (m*k)).length=m*k:=by rw [List.length_take,hvl];omega
  have:=Yk (P:=P) W T T ty e inf b (i*k) (n+m-i) dc ⟨vb,0,none⟩ m vc m (JP cur.toList k n m i).toArray e (vcur.toList.take (m*k)) L.tT L.ie h1 (by simp only [Nat.min_def];split<;>omega) (by rw [hlen,L.sz])
   (KN (w:=W) (h2.trans hvg) fun j v hj=>by
    rw [List.getElem?_take] at hj
    split at hj
    ·simpa using hj
    ·cases hj)
   (by
    have:(JP cur.toList k n m i).length=c*k:=by simp only [JP,List.length_append,List.length_take,List.length_drop,hcl];omega
    rw [hlen,List.size_toArray,this];omega) h1v
  rw [hlen] at this
  exact this
 have hw1:IntKind.i64.wrap ((i:Int)+(m:Int))=(i:Int)+(m:Int):=by rw [IntKind.wrap_i64];omega
 have hw2:IntKind.i64.wrap ((n:Int)+(m:Int))=(n:Int)+(m:Int):=by rw [IntKind.wrap_i64];omega
 have hb1:(0:Int)≤(i:Int)+(m:Int):=by omega
 have htn:((i:Int)+(m:Int)).toNat=i+m:=by omega
 have hb2:¬ (c=i+m):=by omega
 have hb3:(i:Int)≤(n:Int)+(m:Int):=by omega
 have hb4:¬ (c=i):=by omega
 have hcp2w:=fun ty dc=>hcp2 (w.drew.setRow b (JP cur.toList k n m i).toArray) (JR (w:=w.drew) hg) (by simp [World.setRow,Array.getElem?_modify,Ne.symm hvb];rfl) ty dc
 have hovw:=fun lb cb=>hov lb cb w rfl rfl
 rw [hn2] at hovw hcp1
 clear hcp2 hov hg hvg hcs hcl hvs h1c h1v
 refine calls_of_wp hf hb ?_
 rw [hnt]
 simp only [List.size_toArray,List.length_cons,List.length_nil,Nat.reduceAdd,Nat.reduceSub,Array.replicate_succ,Array.replicate_zero,List.push_toArray,List.append_toArray,List.nil_append,List.cons_append]
 unfold insCode
 go_wp2_with (simp only [hovw])
 go_region_law_o (refine KY rfl _ _ T T rfl _ _ (by simp [Act.eval,Act.put]) (by simp [Act.eval,Act.put]) (hcp1 _ _ _) ?_)
 go_wp2_with (at_builtin;refine Ke _ rfl _ _ T T rfl _ _ rfl rfl (hcp2w _ _) ?_)
 refine bodyPost_ret (results_tmp hrs _ _ _) rfl ?_
 exact ⟨rfl,rfl⟩
set_option maxHeartbeats 4000000 in
set_option maxRecDepth 100000 in
theorem Zli {T B I:TypeId} {fO fR:FuncId} {e:TypeId} {inf:TypeInfo} {z:Value} {k:Nat} (L:ZaV P T B I fO e inf z k) {f:FuncId} {fn:Func} (hf:P.funcs[f]? = some fn) (hb:fn.body=some (insCode T B I fO fR)) (hnt:fn.ntmps=95) (hrs:fn.results = #[.tmp 6])
  (base:Option Addr) (n c:Nat) (vb:Option Addr) (m vc:Nat) (w w1:World) (v1:Value) (hm:0 < m) (hnc:n≤c)
  (hr:∀ ty,(Builtin.append_ #[T,T] ty #[.slice base n c,.slice vb m vc]).run P w = .ok v1 w1) :
  Calls P f #[.slice base n c,.int .i64 n,.slice vb m vc] w fun e' w'=>e' = .returned v1∧w'=w1:=by
 have mixed:=L.mixed
 have t0:=L.tT;have t1:=L.tI;have t2:=L.tB
 have u0:=run_underlying L.tT;have u1:=run_underlying L.tI;have u2:=run_underlying L.tB
 have zsE:∀ w,(Go.sizeOf e).run P w = .ok k w:=fun w=>by rw [Zj L.ie];rw [Zp L.ie,L.sz]
 have hz1:¬ ((m:Int)=0):=by omega
 refine calls_of_wp hf hb ?_
 rw [hnt]
 simp only [List.size_toArray,List.length_cons,List.length_nil,Nat.reduceAdd,Nat.reduceSub,Array.replicate_succ,Array.replicate_zero,List.push_toArray,List.append_toArray,List.nil_append,List.cons_append]
 unfold insCode
 cases base with
 | none =>
  go_wp2_with (at_builtin;refine Lib.wpList_append_run _ rfl _ _ _ _ rfl _ _ rfl rfl _ _ (hr _) ?_)
  refine bodyPost_ret (results_tmp hrs _ _ _) rfl ?_
  exact ⟨rfl,rfl⟩
 | some a =>
  obtain ⟨ab,ao,asp⟩:=a
  go_wp2_with (at_builtin;refine Lib.wpList_append_run _ rfl _ _ _ _ rfl _ _ rfl rfl _ _ (hr _) ?_)
  all_goals
   refine bodyPost_ret (results_tmp hrs _ _ _) rfl ?_
   exact ⟨rfl,rfl⟩
def Kp (U:List Value) (zc:Array Value) (k n m i G:Nat):Array Value:=(U.take (i*k)).toArray++Builtin.zeroCells zc (n+m-i)++Builtin.zeroCells zc (G-(n+m))
def Y8 (R vs:List Value) (k m i:Nat):List Value:=R.take (i*k)++vs++R.drop (i*k+m*k)
def Zav (R U:List Value) (k n m i:Nat):List Value:=R.take (i*k+m*k)++(U.drop (i*k)).take ((n-i)*k)++R.drop (i*k+m*k+(n-i)*k)
theorem Wt {U:List Value} {zc:Array Value} {k n m i G:Nat} (hz:zc.size=k) (hi:i≤n) (hG:n+m≤G) (hU:i*k≤U.length):(Kp U zc k n m i G).size=G*k:=by
 simp only [Kp,Array.size_append,List.size_toArray,List.length_take,size_zeroCells,hz]
 rw [Nat.min_eq_left hU,← Nat.add_mul,← Nat.add_mul]
 congr 1
 omega
set_option maxHeartbeats 4000000 in
set_option maxRecDepth 100000 in
theorem Zjr {T B I:TypeId} {fO fR:FuncId} {e:TypeId} {inf:TypeInfo} {z:Value} {k:Nat} (L:ZaV P T B I fO e inf z k) {f:FuncId} {fn:Func} (hf:P.funcs[f]? = some fn) (hb:fn.body=some (insCode T B I fO fR)) (hnt:fn.ntmps=95) (hrs:fn.results = #[.tmp 6])
  (b n c i vb m vc:Nat) (cur vcur:Array Value) (w:World) (hi:i < n) (hm:0 < m) (hnc:n≤c) (hroom:c < n+m) (hbig:(n+m)*inf.bytes≤140737488355328) (h62:n+m≤4611686018427387904)
  (hg:w.heap[b]? = some (.cells cur e (0,0))) (hcs:cur.size=c*k) (hvg:w.heap[vb]? = some (.cells vcur e (0,0))) (hvs:vcur.size=vc*k) (hmv:m≤vc)
  (h1c:∀ v∈cur.toList.take (n*k),v.oneCell'=true) (h1v:∀ v∈vcur.toList.take (m*k),v.oneCell'=true) :
  Calls P f #[.slice (some ⟨b,0,none⟩) n c,.int .i64 i,.slice (some ⟨vb,0,none⟩) m vc] w fun e' w'=>
   ∃ G,n+m≤G∧G≤maxLen∧e' = .returned (.slice (some ⟨w.heap.size,0,none⟩) (n+m) G)∧
    w'=(((w.drew.alloc (.cells (Kp cur.toList z.cells k n m i G) e)).setRow w.heap.size (Y8 (Kp cur.toList z.cells k n m i G).toList (vcur.toList.take (m*k)) k m i).toArray).drew).setRow w.heap.size
     (Zav (Y8 (Kp cur.toList z.cells k n m i G).toList (vcur.toList.take (m*k)) k m i) cur.toList k n m i).toArray:=by
 have mixed:=L.mixed
 have t0:=L.tT;have t1:=L.tI;have t2:=L.tB
 have u0:=run_underlying L.tT;have u1:=run_underlying L.tI;have u2:=run_underlying L.tB
 have zsE:∀ w,(Go.sizeOf e).run P w = .ok k w:=fun w=>by rw [Zj L.ie];rw [Zp L.ie,L.sz]
 have hk:=L.pos
 have hz1:¬ ((m:Int)=0):=by omega
 have hz2:¬ ((i:Int)=(n:Int)):=by omega
 have hz3:(c:Int) < (n:Int)+(m:Int):=by omega
 have hn1:(n+m)*k=n*k+m*k:=Nat.add_mul _ _ _
 have hn2:(i+m)*k=i*k+m*k:=Nat.add_mul _ _ _
 have hn3:(n-i)*k=n*k-i*k:=Nat.sub_mul _ _ _
 have hn4:i*k≤n*k:=Nat.mul_le_mul_right _ (by omega)
 have hn5:n*k≤c*k:=Nat.mul_le_mul_right _ hnc
 have hn6:m*k≤vc*k:=Nat.mul_le_mul_right _ hmv
 have hcl:cur.toList.length=c*k:=by simpa using hcs
 have hvl:vcur.toList.length=vc*k:=by simpa using hvs
 have hin:i≤n:=by omega
 have hbw:b < w.heap.size:=(Array.getElem?_eq_some_iff.1 hg).1
 have hvw:vb < w.heap.size:=(Array.getElem?_eq_some_iff.1 hvg).1
 have hkk:(n:Int)+(m:Int)-(i:Int)=((n+m-i:Nat):Int):=by omega
 have hik:i+(n+m-i)=n+m:=by omega
 obtain ⟨G,hG⟩:∃ G,G=grownCap w (n+m) c e:=⟨_,rfl⟩
 have hGn:n+m≤G:=by rw [hG];exact grownCap_ge w _ _ _
 have hGm:G≤maxLen:=by rw [hG];exact grownCap_le_maxLen w (n+m) c e (by unfold maxLen;omega)
 have hG63:G≤9223372036854775807:=by unfold maxLen at hGm;omega
 have hmk:(n+m)*k≤G*k:=Nat.mul_le_mul_right _ hGn
 obtain ⟨R0,hR0⟩:∃ R0,R0=Kp cur.toList z.cells k n m i G:=⟨_,rfl⟩
 have hR0s:R0.size=G*k:=by rw [hR0];exact Wt L.zsz hin hGn (by rw [hcl];omega)
 have hR0l:R0.toList.length=G*k:=by simpa using hR0s
 have hold:(Builtin.firstCells inf.size i (.slice (some ⟨b,0,none⟩) i c)).run P w.drew = .ok (cur.toList.take (i*k)).toArray w.drew:=by
  rw [L.sz]
  exact run_firstCells_some w.drew k i ⟨b,0,none⟩ i c (cur.toList.take (i*k)) (by rw [List.length_take,hcl];omega) (KN (w:=w.drew) hg fun j v hj=>by
   rw [List.getElem?_take] at hj
   split at hj
   ·simpa using hj
   ·cases hj)
 have hrz:∀ ty,(Builtin.append_ #[T,I] ty #[.slice (some ⟨b,0,none⟩) i c,.int .i64 ((n:Int)+(m:Int)-(i:Int))]).run P w =
   .ok (.slice (some ⟨w.heap.size,0,none⟩) (n+m) G) (w.drew.alloc (.cells R0 e)):=fun ty=>by
  have hb0:(n+m-i)*inf.bytes≤(n+m)*inf.bytes:=Nat.mul_le_mul_right _ (by omega)
  have h:=Lib.run_append_grow_zeros w T I ty e inf z .i64 .i64 L.tT L.tI L.ie L.zero (some ⟨b,0,none⟩) i c (cur.toList.take (i*k)) hold (n+m-i) (by omega) (by rw [L.sz];exact hk) (by omega) (by omega) (by omega) (by rw [hik];exact growslice_fits hroom hbig)
  rw [hik,← hG] at h
  rw [hkk,h,hR0]
  rfl
 obtain ⟨R1,hR1⟩:∃ R1,R1=Y8 R0.toList (vcur.toList.take (m*k)) k m i:=⟨_,rfl⟩
 have hvtl:(vcur.toList.take (m*k)).length=m*k:=by rw [List.length_take,hvl];omega
 have hR1l:R1.length=G*k:=by
  rw [hR1]
  simp only [Y8,List.length_append,hvtl,List.length_take,List.length_drop,hR0l]
  omega
 have hcpA:∀ W,W.heap[w.heap.size]? = some (.cells R0 e (0,0))→W.heap[vb]? = w.heap[vb]?→∀ ty dc,(Builtin.copy_ #[T,T] ty #[.slice (some ⟨w.heap.size,i*k,none⟩) (n+m-i) dc,.slice (some ⟨vb,0,none⟩) m vc]).run P W = .ok (goInt m) (W.setRow w.heap.size R1.toArray):=fun W h1 h2 ty dc=>by
  have:=Yk (P:=P) W T T ty e inf w.heap.size (i*k) (n+m-i) dc ⟨vb,0,none⟩ m vc m R0 e (vcur.toList.take (m*k)) L.tT L.ie h1 (by simp only [Nat.min_def];split<;>omega) (by rw [hvtl,L.sz])
   (KN (w:=W) (h2.trans hvg) fun j v hj=>by
    rw [List.getElem?_take] at hj
    split at hj
    ·simpa using hj
    ·cases hj)
   (by rw [hvtl,hR0s];omega) h1v
  rw [hvtl] at this
  rw [this,hR1]
  rfl
 have hcpB:∀ W,W.heap[w.heap.size]? = some (.cells R1.toArray e (0,0))→W.heap[b]? = w.heap[b]?→∀ ty dc sc,(Builtin.copy_ #[T,T] ty #[.slice (some ⟨w.heap.size,i*k+m*k,none⟩) (n+m-(i+m)) dc,.slice (some ⟨b,i*k,none⟩) (n-i) sc]).run P W = .ok (goInt ((n-i:Nat):Int)) (W.setRow w.heap.size (Zav R1 cur.toList k n m i).toArray):=fun W h1 h2 ty dc sc=>by
  have hlen:((cur.toList.drop (i*k)).take ((n-i)*k)).length=(n-i)*k:=by rw [List.length_take,List.length_drop,hcl];omega
  have:=Yk (P:=P) W T T ty e inf w.heap.size (i*k+m*k) (n+m-(i+m)) dc ⟨b,i*k,none⟩ (n-i) sc (n-i) R1.toArray e ((cur.toList.drop (i*k)).take ((n-i)*k)) L.tT L.ie h1 (by simp only [Nat.min_def];split<;>omega) (by rw [hlen,L.sz])
   (KN (w:=W) (h2.trans hg) fun j v hj=>by
    rw [List.getElem?_take] at hj
    split at hj
    ·rw [List.getElem?_drop] at hj;simpa using hj
    ·cases hj)
   (by rw [hlen,List.size_toArray,hR1l];omega) (fun v hv=>h1c v (by
    rw [hn3,← List.drop_take] at hv
    exact List.mem_of_mem_drop hv))
  rw [hlen] at this
  exact this
 have hA0:(w.drew.alloc (.cells R0 e)).heap[w.heap.size]? = some (.cells R0 e (0,0)):=Ka w.drew R0 e
 have hAo:∀ x,x < w.heap.size→(w.drew.alloc (.cells R0 e)).heap[x]? = w.heap[x]?:=fun x hx=>heap_alloc_old w.drew _ hx
 have hcpA':=hcpA (w.alloc (.cells R0 e)).drew hA0 (hAo vb hvw)
 have hcpB':=hcpB ((w.alloc (.cells R0 e)).drew.setRow w.heap.size R1.toArray).drew (JR hA0) (by
  have:((w.drew.alloc (.cells R0 e)).setRow w.heap.size R1.toArray).heap[b]? = (w.drew.alloc (.cells R0 e)).heap[b]?:=by simp [World.setRow,Array.getElem?_modify,Nat.ne_of_gt hbw]
  exact this.trans (hAo b hbw))
 have hw1:IntKind.i64.wrap ((i:Int)+(m:Int))=(i:Int)+(m:Int):=by rw [IntKind.wrap_i64];omega
 have hw2:IntKind.i64.wrap ((n:Int)+(m:Int))=(n:Int)+(m:Int):=by rw [IntKind.wrap_i64];omega
 have hw3:IntKind.i64.wrap ((n:Int)+(m:Int)-(i:Int))=(n:Int)+(m:Int)-(i:Int):=by rw [IntKind.wrap_i64];omega
 have hb1:(0:Int)≤(i:Int)+(m:Int):=by omega
 have htn:((i:Int)+(m:Int)).toNat=i+m:=by omega
 have hb3:(i:Int)≤(n:Int):=by omega
 have hb4:(i:Int)≤(n:Int)+(m:Int):=by omega
 have hGi:¬ (G=i):=by omega
 have hGim:¬ (G=i+m):=by omega
 have hci:¬ (c=i):=by omega
 refine Calls.mono ?_ (fun e' w' h=>⟨G,hGn,hGm,h⟩)
 rw [← hR0,← hR1]
 clear hcpA hcpB hold hg hvg hcs hcl hvs h1c h1v hR0 hR1 hG hvl hR0s hR0l hR1l hvtl hkk hik
 refine calls_of_wp hf hb ?_
 rw [hnt]
 simp only [List.size_toArray,List.length_cons,List.length_nil,Nat.reduceAdd,Nat.reduceSub,Array.replicate_succ,Array.replicate_zero,List.push_toArray,List.append_toArray,List.nil_append,List.cons_append]
 unfold insCode
 go_wp2_with (first
  | (at_builtin; refine Lib.wpList_append_run _ rfl _ _ _ _ rfl _ _ rfl rfl _ _ (hrz _) ?_)
  | (at_builtin; refine Ke _ rfl _ _ T T rfl _ _ rfl rfl (hcpA' _ _) ?_))
 go_region_law_o (refine KY rfl _ _ T T rfl _ _ (by simp [Act.eval,Act.put]) (by simp [Act.eval,Act.put]) (hcpB' _ _ _) ?_)
 go_wp2
 refine bodyPost_ret (results_tmp hrs _ _ _) rfl ?_
 exact ⟨rfl,rfl⟩
def delCode (T B I U:TypeId):Code:=
  (.seq (.region 0 #[
    ⟨some 6, .assign (.const (.slice none 0 0)), T, "slices.go:224", #[], none⟩] false)
  (.seq (.region 1 #[
    ⟨some 8, .move (.tmp 0), T, "slices.go:225", #[], none⟩,
    ⟨some 9, .move (.tmp 1), I, "slices.go:225", #[], none⟩,
    ⟨some 10, .move (.tmp 2), I, "slices.go:225", #[], none⟩,
    ⟨some 11, .move (.tmp 0), T, "slices.go:225", #[], none⟩,
    ⟨some 12, .call ⟨.builtin .len, #[(.tmp 11)], #[T]⟩, I, "slices.go:225", #[⟨3, .data⟩], none⟩,
    ⟨some 13, .slice T (.tmp 8) (some (.tmp 9)) (some (.tmp 10)) (some (.tmp 12)), T, "slices.go:225", #[⟨0, .data⟩, ⟨1, .data⟩, ⟨2, .data⟩, ⟨4, .data⟩], none⟩] false)
  (.seq (.seq (.region 2 #[
    ⟨some 14, .move (.tmp 1), I, "slices.go:227", #[], none⟩,
    ⟨some 15, .move (.tmp 2), I, "slices.go:227", #[], none⟩,
    ⟨some 16, .binOp .eql I (.tmp 14) (.tmp 15) I, B, "slices.go:227", #[⟨0, .data⟩, ⟨1, .data⟩], none⟩] false)
  (.cond (.tmp 16)
   (.seq (.region 3 #[
     ⟨some 17, .move (.tmp 0), T, "slices.go:228", #[], none⟩,
     ⟨some 6, .assign (.tmp 17), T, "slices.go:228", #[⟨0, .data⟩, ⟨0, .phase⟩], none⟩] false)
   .ret)
   .skip))
  (.seq (.region 4 #[
    ⟨some 18, .move (.tmp 0), T, "slices.go:231", #[], none⟩,
    ⟨some 19, .call ⟨.builtin .len, #[(.tmp 18)], #[T]⟩, I, "slices.go:231", #[⟨0, .data⟩], none⟩,
    ⟨some 7, .assign (.tmp 19), I, "slices.go:231", #[⟨1, .data⟩, ⟨0, .phase⟩, ⟨1, .phase⟩], none⟩] false)
  (.seq (.region 5 #[
    ⟨some 20, .move (.tmp 0), T, "slices.go:232", #[], none⟩,
    ⟨some 21, .move (.tmp 1), I, "slices.go:232", #[], none⟩,
    ⟨some 22, .slice T (.tmp 20) none (some (.tmp 21)) none, T, "slices.go:232", #[⟨0, .data⟩, ⟨1, .data⟩], none⟩,
    ⟨some 23, .move (.tmp 0), T, "slices.go:232", #[], none⟩,
    ⟨some 24, .move (.tmp 2), I, "slices.go:232", #[], none⟩,
    ⟨some 25, .slice T (.tmp 23) (some (.tmp 24)) none none, T, "slices.go:232", #[⟨3, .data⟩, ⟨4, .data⟩], none⟩,
    ⟨some 26, .call ⟨.builtin .append, #[(.tmp 22), (.tmp 25)], #[T, T]⟩, T, "slices.go:232", #[⟨2, .data⟩, ⟨5, .data⟩], none⟩,
    ⟨some 0, .assign (.tmp 26), T, "slices.go:232", #[⟨6, .data⟩, ⟨6, .chain⟩, ⟨0, .phase⟩, ⟨1, .phase⟩, ⟨2, .phase⟩, ⟨3, .phase⟩, ⟨4, .phase⟩, ⟨5, .phase⟩, ⟨6, .phase⟩], none⟩] true)
  (.seq (.region 6 #[
    ⟨some 27, .move (.tmp 0), T, "slices.go:233", #[], none⟩,
    ⟨some 28, .move (.tmp 0), T, "slices.go:233", #[], none⟩,
    ⟨some 29, .call ⟨.builtin .len, #[(.tmp 28)], #[T]⟩, I, "slices.go:233", #[⟨1, .data⟩], none⟩,
    ⟨some 30, .move (.tmp 7), I, "slices.go:233", #[], none⟩,
    ⟨some 31, .slice T (.tmp 27) (some (.tmp 29)) (some (.tmp 30)) none, T, "slices.go:233", #[⟨0, .data⟩, ⟨2, .data⟩, ⟨3, .data⟩], none⟩,
    ⟨none, .call ⟨.builtin .clear, #[(.tmp 31)], #[T]⟩, U, "slices.go:233", #[⟨4, .data⟩], none⟩] false)
  (.seq (.region 7 #[
    ⟨some 32, .move (.tmp 0), T, "slices.go:234", #[], none⟩,
    ⟨some 6, .assign (.tmp 32), T, "slices.go:234", #[⟨0, .data⟩, ⟨0, .phase⟩], none⟩] false)
  .ret)))))))
theorem YS (w:World) {ops:Array Oper} {rest:List Oper} {o:Oper} {a:Act} {Q:Exit→Act→World→Prop} (hgd:o.guard=none) (d:Operand) (t:TypeId)
  (ho:o.op = .call { callee:=.builtin .clear,args:=#[d],argTypes:=#[t] }) (v:Value) (hd:a.eval d=v) {v':Value} {w':World}
  (hr:(Builtin.clear_ #[t] o.type #[v]).run P w = .ok v' w') (h:wpList P ops Q rest (a.put o.dst v') w'):wpList P ops Q (o::rest) a w:=
 wpList_plain hgd fun _ hK=>by
  unfold Oper.wp execOp
  simp only [ho,resolve,invoke,builtin,Sem.run_bind,Sem.run_pure,Result.andThen_ok,List.map_toArray,List.map_cons,List.map_nil,hd,hr]
  exact hK _ _ h
theorem Kf {ops:Array Oper} {o:Oper} {a:Act} {w:World} {K:Act→World→Prop} {Q:Exit→Act→World→Prop} {E:Prop}
  (hg:o.guard=none) (d x:Operand) (dT sT:TypeId) (hop:o.op=Op.call { callee:=Callee.builtin Builtin.append,args:=#[d,x],argTypes:=#[dT,sT] })
  (v u:Value) (hd:a.eval d=v) (hx:a.eval x=u) {v':Value} {w':World} (hr:(Builtin.append_ #[dT,sT] o.type #[v,u]).run P w = .ok v' w') (hK:K (a.put o.dst v') w') :
  if Region.wanted o (yielded ops a.tmps)=true then Oper.wp P o a w K Q else E:=by
 have hw:Region.wanted o (yielded ops a.tmps)=true:=by simp [Region.wanted,hg]
 rw [if_pos hw]
 unfold Oper.wp
 simp [execOp,hop,resolve,invoke,builtin,hd,hx,hr,Result.andThen]
 exact hK
def JE (U:List Value) (k n i j:Nat):List Value:=U.take (i*k)++(U.drop (j*k)).take ((n-j)*k)++U.drop (i*k+(n-j)*k)
def Zak (R:List Value) (zc:List Value) (k n q:Nat):List Value:=R.take (q*k)++(List.replicate (n-q) zc).flatten++R.drop (q*k+(n-q)*k)
set_option maxHeartbeats 4000000 in
set_option maxRecDepth 100000 in
theorem ZkO {T B I U e:TypeId} {inf:TypeInfo} {z:Value} {k:Nat} (L:ZaU P T B I e inf z k) {f:FuncId} {fn:Func} (hf:P.funcs[f]? = some fn) (hb:fn.body=some (delCode T B I U)) (hnt:fn.ntmps=33) (hrs:fn.results = #[.tmp 6])
  (b n c i j:Nat) (cur:Array Value) (w:World) (hij:i < j) (hjn:j≤n) (hnc:n≤c) (hc63:c≤9223372036854775807) (hg:w.heap[b]? = some (.cells cur e (0,0))) (hcs:cur.size=c*k)
  (h1c:∀ v∈cur.toList.take (n*k),v.oneCell'=true) (h1z:∀ v∈z.cells.toList,v.oneCell'=true) :
  Calls P f #[.slice (some ⟨b,0,none⟩) n c,.int .i64 i,.int .i64 j] w fun e' w'=>
   e' = .returned (.slice (some ⟨b,0,none⟩) (i+(n-j)) c)∧w'=(w.drew.setRow b (JE cur.toList k n i j).toArray).setRow b (Zak (JE cur.toList k n i j) z.cells.toList k n (i+(n-j))).toArray:=by
 have mixed:=L.mixed
 have t0:=L.tT;have t1:=L.tI;have t2:=L.tB
 have u0:=run_underlying L.tT;have u1:=run_underlying L.tI;have u2:=run_underlying L.tB
 have zsE:∀ w,(Go.sizeOf e).run P w = .ok k w:=fun w=>by rw [Zj L.ie];rw [Zp L.ie,L.sz]
 have hk:=L.pos
 have hn3:(n-j)*k=n*k-j*k:=Nat.sub_mul _ _ _
 have hn4:i*k≤j*k:=Nat.mul_le_mul_right _ (by omega)
 have hn5:n*k≤c*k:=Nat.mul_le_mul_right _ hnc
 have hn6:j*k≤n*k:=Nat.mul_le_mul_right _ hjn
 have hn7:(i+(n-j))*k=i*k+(n-j)*k:=Nat.add_mul _ _ _
 have hn8:(n-(i+(n-j)))*k=n*k-(i+(n-j))*k:=Nat.sub_mul _ _ _
 have hcl:cur.toList.length=c*k:=by simpa using hcs
 have hR1l:(JE cur.toList k n i j).length=c*k:=by simp only [JE,List.length_append,List.length_take,List.length_drop,hcl];omega
 have hlen:((cur.toList.drop (j*k)).take ((n-j)*k)).length=(n-j)*k:=by rw [List.length_take,List.length_drop,hcl];omega
 have h1n:∀ v∈(cur.toList.drop (j*k)).take ((n-j)*k),v.oneCell'=true:=fun v hv=>h1c v (by
    rw [hn3,← List.drop_take] at hv
    exact List.mem_of_mem_drop hv)
 have hap:∀ (A:Addr) sc ty,(n-j≠0→A=⟨b,j*k,none⟩)→(Builtin.append_ #[T,T] ty #[.slice (some ⟨b,0,none⟩) i c,.slice (some A) (n-j) sc]).run P w.drew = .ok (.slice (some ⟨b,0,none⟩) (i+(n-j)) c) (w.drew.setRow b (JE cur.toList k n i j).toArray):=fun A sc ty hA=>by
  have:=run_append_room (P:=P) w.drew T ty e inf L.tT L.ie b i c cur hg A (n-j) sc ((cur.toList.drop (j*k)).take ((n-j)*k)) (by rw [hlen,L.sz]) (fun t u ht=>by
    have hlt:=(List.getElem?_eq_some_iff.1 ht).1
    rw [hlen] at hlt
    have hne:n-j≠0:=by
     intro h
     rw [h] at hlt
     omega
    rw [hA hne]
    refine KN (w:=w.drew) hg (l:=(cur.toList.drop (j*k)).take ((n-j)*k)) (fun t u ht=>?_) t u ht
    rw [List.getElem?_take] at ht
    split at ht
    ·rw [List.getElem?_drop] at ht;simpa using ht
    ·cases ht) h1n (by omega) (by rw [hlen,hcs,L.sz];omega)
  rw [hlen,L.sz] at this
  exact this
 obtain ⟨p,hp⟩:∃ p,n-(i+(n-j))=p+1:=⟨n-(i+(n-j))-1,by omega⟩
 have hclr:∀ ty cc,(Builtin.clear_ #[T] ty #[.slice (some ⟨b,(i+(n-j))*k,none⟩) (n-(i+(n-j))) cc]).run P (w.drew.setRow b (JE cur.toList k n i j).toArray) = .ok (.tuple #[]) ((w.drew.setRow b (JE cur.toList k n i j).toArray).setRow b (Zak (JE cur.toList k n i j) z.cells.toList k n (i+(n-j))).toArray):=fun ty cc=>by
  have:=VL (P:=P) (w:=w.drew.setRow b (JE cur.toList k n i j).toArray) (ty:=ty) (o:=i*k+(n-j)*k) (n:=p) (c:=cc) L.tT L.ie L.zero (JR (w:=w.drew) hg) (by
   have hs:(JE cur.toList k n i j).toArray.size=c*k:=by simpa using hR1l
   rw [hs,← hp,L.zsz,hn8,hn7];omega) h1z
  rw [← hp,L.zsz,← hn7] at this
  exact this
 have hb0:(i:Int)≤(j:Int):=by omega
 have hb1:(j:Int)≤(n:Int):=by omega
 have hb2:¬ ((i:Int)=(j:Int)):=by omega
 have hb3:(i:Int)≤(n:Int):=by omega
 have hb4:(i:Int)+((n:Int)-(j:Int))≤(n:Int):=by omega
 have hb5:((i+(n-j):Nat):Int)≤(n:Int):=by omega
 have hb6:¬ (c=i+(n-j)):=by omega
 have hic:(i:Int)≤(c:Int):=by omega
 have hjc:(j:Int)≤(c:Int):=by omega
 have hnc':(n:Int)≤(c:Int):=by omega
 obtain ⟨zc,hzc⟩:∃ zc,zc=z.cells.toList:=⟨_,rfl⟩
 rw [← hzc] at hclr ⊢
 clear hg hcs hcl h1c h1z hR1l hlen h1n hn8 hp hn3 hn4 hn5 hn6 hn7 hzc
 refine calls_of_wp hf hb ?_
 rw [hnt]
 simp only [List.size_toArray,List.length_cons,List.length_nil,Nat.reduceAdd,Nat.reduceSub,Array.replicate_succ,Array.replicate_zero,List.push_toArray,List.append_toArray,List.nil_append,List.cons_append]
 unfold delCode
 by_cases hcj:c=j
 ·have hnn:n=c:=by omega
  subst hnn
  subst hcj
  have hap':=fun ty=>hap ⟨b,0,none⟩ (n-n) ty (by omega)
  simp only [Nat.sub_self,Nat.add_zero] at hap' hclr hb6 hb5 ⊢
  go_wp2
  go_region_law_o (refine Kf rfl _ _ T T rfl _ _ (by simp [Act.eval,Act.put]) (by simp [Act.eval,Act.put]) (hap' _) ?_)
  go_wp2_with (at_builtin;refine YS _ rfl _ T rfl _ rfl (hclr _ _) ?_)
  refine bodyPost_ret (results_tmp hrs _ _ _) rfl ?_
  exact ⟨rfl,rfl⟩
 ·have hap':=fun ty=>hap ⟨b,j*k,none⟩ (c-j) ty (fun _=>rfl)
  go_wp2
  go_region_law_o (refine Kf rfl _ _ T T rfl _ _ (by simp [Act.eval,Act.put]) (by simp [Act.eval,Act.put]) (hap' _) ?_)
  go_wp2_with (at_builtin;refine YS _ rfl _ T rfl _ rfl (hclr _ _) ?_)
  refine bodyPost_ret (results_tmp hrs _ _ _) rfl ?_
  exact ⟨rfl,rfl⟩
def V4 {α β:Type} (R:α→β→Prop) (A:List α) (B:List β):Prop:=∀ (j:Nat) (z:α) (u:β),A[j]? = some z→B[j]? = some u→R z u
theorem V4.app {α β:Type} {R:α→β→Prop} {A A':List α} {B B':List β} (hl:A.length=B.length) (h:V4 R A B) (h':V4 R A' B'):V4 R (A++A') (B++B'):=by
 intro j z u hz hu
 by_cases hj:j < A.length
 ·rw [List.getElem?_append_left hj] at hz
  rw [List.getElem?_append_left (by omega)] at hu
  exact h j z u hz hu
 ·rw [List.getElem?_append_right (by omega)] at hz
  rw [List.getElem?_append_right (by omega),← hl] at hu
  exact h' _ z u hz hu
theorem V4.take {α β:Type} {R:α→β→Prop} {A:List α} {B:List β} (h:V4 R A B) (n:Nat):V4 R (A.take n) (B.take n):=by
 intro j z u hz hu
 rw [List.getElem?_take] at hz hu
 split at hz
 ·rename_i hj
  rw [if_pos hj] at hu
  exact h j z u hz hu
 ·cases hz
theorem V4.drop {α β:Type} {R:α→β→Prop} {A:List α} {B:List β} (h:V4 R A B) (n:Nat):V4 R (A.drop n) (B.drop n):=by
 intro j z u hz hu
 rw [List.getElem?_drop] at hz hu
 exact h _ z u hz hu
theorem V4.cut {α β:Type} {R:α→β→Prop} {A:List α} {B:List β} (h:V4 R A B) (n:Nat):V4 R A (B.take n):=by
 intro j z u hz hu
 rw [List.getElem?_take] at hu
 split at hu
 ·exact h j z u hz hu
 ·cases hu
theorem V4.ext {α β:Type} {R:α→β→Prop} {A:List α} {B C:List β} (h:V4 R A B) (hl:A.length≤B.length):V4 R A (B++C):=by
 intro j z u hz hu
 have:=(List.getElem?_eq_some_iff.1 hz).1
 rw [List.getElem?_append_left (by omega)] at hu
 exact h j z u hz hu
theorem Ziz {U vs:List Value} {k n m i:Nat} (hi:i≤n) (hU:(n+m)*k≤U.length) :
  Zbp U vs k n m i=U.take (i*k)++vs++((U.drop (i*k)).take ((n-i)*k)++U.drop ((i+m)*k+(n-i)*k)):=by
 have h1:(i+m)*k=i*k+m*k:=Nat.add_mul _ _ _
 have h2:(n+m)*k=n*k+m*k:=Nat.add_mul _ _ _
 have h3:i*k≤n*k:=Nat.mul_le_mul_right _ hi
 have hl:(U.take ((i+m)*k)).length=i*k+m*k:=by rw [List.length_take];omega
 unfold Zbp JP
 congr 1
 ·congr 1
  rw [List.append_assoc,List.take_append_of_le_length (by omega),List.take_take]
  congr 1
  omega
 ·rw [List.append_assoc,List.drop_append_of_le_length (by omega),List.drop_of_length_le (by omega),List.nil_append]
theorem ZgC {U vs R:List Value} {k n m i:Nat} (hv:vs.length=m*k) (hR:i*k+m*k≤R.length) (hRU:R.take (i*k)=U.take (i*k)) :
  Zav (Y8 R vs k m i) U k n m i=U.take (i*k)++vs++((U.drop (i*k)).take ((n-i)*k)++(Y8 R vs k m i).drop (i*k+m*k+(n-i)*k)):=by
 have hl:(R.take (i*k)++vs).length=i*k+m*k:=by rw [List.length_append,List.length_take,hv];omega
 unfold Zav
 rw [List.append_assoc]
 congr 1
 unfold Y8
 rw [List.take_append_of_le_length (by omega),List.take_of_length_le (by omega),hRU]
theorem Zgm {U zc:List Value} {k n i j:Nat} (hij:i≤j) (hj:j≤n) (hU:n*k≤U.length) :
  Zak (JE U k n i j) zc k n (i+(n-j))=U.take (i*k)++(U.drop (j*k)).take ((n-j)*k)++
   ((List.replicate (n-(i+(n-j))) zc).flatten++(JE U k n i j).drop ((i+(n-j))*k+(n-(i+(n-j)))*k)):=by
 have h1:(i+(n-j))*k=i*k+(n-j)*k:=Nat.add_mul _ _ _
 have h2:(n-j)*k=n*k-j*k:=Nat.sub_mul _ _ _
 have h3:i*k≤j*k:=Nat.mul_le_mul_right _ hij
 have h4:j*k≤n*k:=Nat.mul_le_mul_right _ hj
 have hl:(U.take (i*k)++(U.drop (j*k)).take ((n-j)*k)).length=(i+(n-j))*k:=by rw [List.length_append,List.length_take,List.length_take,List.length_drop];omega
 unfold Zak
 rw [List.append_assoc]
 congr 1
 unfold JE
 rw [List.take_append_of_le_length (by omega),List.take_of_length_le (by omega)]
theorem Zb6 {w:World} {lim:Nat→Nat} {x:Bool} {e:TypeId} {xs:List (List AV)} {v:Value} {ob:Option Nat} (h:Z8 P w lim x e xs v ob) (hne:xs≠[]) :
  ∃ b arr cap,ob=some b∧v = .slice (some ⟨b,0,none⟩) xs.length cap∧w.heap[b]? = some (.cells arr e (0,0))∧xs.length≤cap∧cap≤maxLen∧arr.size=cap*P.cellsOf e∧
   (∀ x∈xs,x.length=P.cellsOf e)∧(∀ x∈xs,∀ z∈x,z.isCell=true)∧V4 (Rep w lim) xs.flatten arr.toList∧(∀ b',ob=some b'→x=true→lim b'=0):=by
 rcases h with ⟨us,h1,h2,h3,h4,h5,h6⟩ | ⟨h,_⟩
 ·rcases h1.2 with ⟨hv,hn⟩ | ⟨g,cap,cur,hv,hbg,hg,hnc,hcm,hcs,htake⟩
  ·exact (hne (List.eq_nil_of_length_eq_zero hn)).elim
  ·refine ⟨g,cur,cap,by rw [← h2,hv];rfl,hv,hg,hnc,hcm,hcs,h4,h5,fun j z u hz hu=>h6 j z u hz ?_,fun b' hb' hx=>by rw [h3 b' hb',if_pos hx]⟩
   have hj:=(List.getElem?_eq_some_iff.1 hz).1
   rw [Zh xs _ h4] at hj
   rw [← htake,List.getElem?_take,if_pos hj]
   exact hu
 ·exact (hne h).elim
theorem Zb3 {w:World} {lim:Nat→Nat} {xs:List (List AV)} {us:List Value} (hc:∀ x∈xs,∀ z∈x,z.isCell=true) (h:V4 (Rep w lim) xs.flatten us) (hl:us.length≤xs.flatten.length):∀ v∈us,v.oneCell'=true:=by
 intro v hv
 obtain ⟨j,hj⟩:=List.mem_iff_getElem?.1 hv
 have hlt:=(List.getElem?_eq_some_iff.1 hj).1
 have hz:=List.getElem?_eq_getElem (l:=xs.flatten) (i:=j) (by omega)
 obtain ⟨y,hy1,hy2⟩:=List.mem_flatten.1 (List.getElem_mem (l:=xs.flatten) (n:=j) (by omega))
 exact (h j _ v hz hj).oneCell (hc y hy1 _ hy2)
theorem ZT.trans {w w1 w2:World} {l l1 l2:Nat→Nat} {S S1 S2:Nat→Prop} (h:ZT w l w1 l1 S1) (h':ZT w1 l1 w2 l2 S2) (h1:∀ b,S1 b→S b) (h2:∀ b,S2 b→S b∨w.heap.size≤b):ZT w l w2 l2 S where
 os:=h'.os.trans h.os
 tape:=h'.tape.trans h.tape
 output:=h'.output.trans h.output
 size:=Nat.le_trans h.size h'.size
 frz a ha:=(h'.frz a (Nat.lt_of_lt_of_le ha h.size)).trans (h.frz a ha)
 blk b hb hn:=by
  have k1:=h.blk b hb fun hs=>hn (h1 b hs)
  have k2:=h'.blk b (Nat.lt_of_lt_of_le hb h.size) fun hs=>(h2 b hs).elim hn (fun h=>by omega)
  exact ⟨k2.1.trans k1.1,k2.2.trans k1.2⟩
 ext:=h.ext.trans h'.ext h.size
theorem Zbz (x:Bool) {f:FuncId} {args:List AV} {e:TypeId} {zs:List (List AV)} (hc:Callable P f)
  (h:∀ (w:World) (lim:Nat→Nat) (X:Nat→Nat→Option Nat) (cargs:List Value),cargs.length≤args.length→(∀ i,ZD P w lim X (ZE args) i (ZE args i) (cargs.getD i undef))→Zic X→(∀ i k b,X i k=some b→b < w.heap.size)→
   Calls P f cargs.toArray w fun e' w'=>∃ v lim' ob',e' = .returned v∧Z8 P w' lim' true e zs v ob'∧ZT w lim w' lim' (fun b=>∃ i k,X i k=some b)∧∀ b,ob'=some b→b < w'.heap.size∧(((∃ i k,X i k=some b)∧lim b=0)∨w.heap.size≤b)) :
  Jz P f args (.own x e zs) (List.replicate args.length .dead):=by
 refine ⟨hc,fun w lim X cargs hl hrel hd hs=>?_⟩
 refine (h w lim X cargs (by omega) hrel hd hs).mono ?_
 rintro e' w' ⟨v,lim1,ob',he,ho1,hw1,hb1⟩
 have hx:∃ lim',Z8 P w' lim' x e zs v ob'∧ZT w lim w' lim' (fun b=>∃ i k,X i k=some b):=by
  cases x
  case true=>exact ⟨lim1,ho1,hw1⟩
  case false=>
   cases ob' with
   | none =>
    refine ⟨lim1,?_,hw1⟩
    rcases ho1 with ⟨us,h1,h2,h3,h4,h5,h6⟩ | h
    ·exact .inl ⟨us,h1,h2,fun b hb=>(by cases hb),h4,h5,h6⟩
    ·exact .inr h
   | some b0 =>
    have hl0:lim1 b0=0:=by
     rcases ho1 with ⟨us,h1,h2,h3,_⟩ | ⟨_,h,_⟩
     ·rw [h3 b0 rfl];rfl
     ·cases h
    have hbb:=hb1 b0 rfl
    have hext:Ext w' lim1 w' (KB lim1 b0 (zs.length*P.cellsOf e)):=fun b _=>by
     refine ⟨?_,fun o u _ hu=>hu⟩
     unfold KB
     split
     ·rename_i h;rw [h,hl0];exact Nat.zero_le _
     ·exact Nat.le_refl _
    refine ⟨_,ZaI ho1 hext,⟨hw1.os,hw1.tape,hw1.output,hw1.size,hw1.frz,fun b hb hn=>?_,hw1.ext.trans hext hw1.size⟩⟩
    obtain ⟨k1,k2⟩:=hw1.blk b hb hn
    refine ⟨k1,?_⟩
    have hne:b≠b0:=by
     rintro rfl
     rcases hbb.2 with h1 | h1
     ·exact hn h1.1
     ·omega
    show (if b=b0 then _ else lim1 b)=lim b
    rw [if_neg hne]
    exact k2
 obtain ⟨lim',ho,hw⟩:=hx
 have hb:∀ b,ob'=some b→b < w'.heap.size∧((∃ i k,X i k=some b)∨w.heap.size≤b):=fun b hb=>⟨(hb1 b hb).1,(hb1 b hb).2.imp (·.1) id⟩
 have hat:∀ i,ZE (List.replicate args.length AV.dead++[.own x e zs]) i=if i=args.length then .own x e zs else .dead:=by
  intro i
  unfold ZE
  by_cases hi:i < args.length
  ·rw [List.getElem?_append_left (by simpa using hi),List.getElem?_replicate,if_pos hi,if_neg (by omega)];rfl
  ·rw [List.getElem?_append_right (by simpa using hi),List.length_replicate]
   by_cases hi2:i=args.length
   ·subst hi2
    rw [if_pos rfl,Nat.sub_self]
    rfl
   ·rw [if_neg hi2,List.getElem?_eq_none (by simp;omega)]
    rfl
 refine ⟨v,lim',fun i k=>if i=args.length∧k=0 then ob' else none,he,hw,by simp,fun i=>?_,?_,?_,?_⟩
 ·rw [hat]
  by_cases hi:i=args.length
  ·subst hi
   rw [if_pos rfl]
   show Z8 P w' lim' x e zs _ _
   unfold Wq
   rw [if_pos rfl]
   show Z8 P w' lim' x e zs _ (if args.length=args.length∧0=0 then ob' else none)
   rw [if_pos ⟨rfl,rfl⟩]
   exact ho
  ·rw [if_neg hi]
   trivial
 ·intro d k d' k' b h1 h2
  dsimp only at h1 h2
  split at h1
  ·split at h2
   ·rename_i a1 a2
    exact ⟨a1.1.trans a2.1.symm,a1.2.trans a2.2.symm⟩
   ·cases h2
  ·cases h1
 ·intro i k b h1
  dsimp only at h1
  split at h1
  ·exact hb b h1
  ·cases h1
 ·intro i h1
  rw [hat] at h1
  split at h1<;>simp [AV.isG] at h1
theorem ZgV {w:World} {lim:Nat→Nat} {e:TypeId} {xs:List (List AV)} {v:Value} {ob:Option Nat} {b:Nat} (h:Z8 P w lim true e xs v ob) (hb:ob=some b):lim b=0:=by
 rcases h with ⟨us,h1,h2,h3,_⟩ | ⟨_,h,_⟩
 ·rw [h3 b hb];rfl
 ·rw [h] at hb;cases hb
theorem Zbs {cargs:List Value} (hl:cargs.length≤3) (h:cargs.getD 2 undef≠undef):cargs.toArray = #[cargs.getD 0 undef,cargs.getD 1 undef,cargs.getD 2 undef]:=by
 match cargs,hl,h with
 | [], _, h => exact (h rfl).elim
 | [_], _, h => exact (h rfl).elim
 | [_, _], _, h => exact (h rfl).elim
 | [_, _, _], _, _ => rfl
 | _ :: _ :: _ :: _ :: _, hl, _ => simp at hl
theorem arg_int {w:World} {lim:Nat→Nat} {X:Nat→Nat→Option Nat} {σ:Nat→AV} {d:Nat} {k:IntKind} {z:Int} {v:Value} (h:ZD P w lim X σ d (.val (.int k z)) v):v = .int k z:=KC (show Rep w lim _ v from h)
structure Zrd (P:Program) (T B I:TypeId) (fO fR:FuncId) (f:FuncId):Prop where
 fn : ∃ fn, P.funcs[f]? = some fn ∧ fn.body = some (insCode T B I fO fR) ∧ fn.ntmps = 95 ∧ fn.results = #[.tmp 6] ∧ (fn.name == "runtime.NumGoroutine") = false
theorem Znl (x:Bool) {T B I:TypeId} {fO fR:FuncId} {e:TypeId} {inf:TypeInfo} {z:Value} {k:Nat} (L:ZaV P T B I fO e inf z k) {f:FuncId} (hF:Zrd P T B I fO fR f) {xs ys:List (List AV)} {i:Int}
  (h0:0≤i) (hi:i.toNat≤xs.length) (hys:ys≠[]) (hroom:(xs.length+ys.length)*(inf.bytes+1)≤ZX) :
  Jz P f [.own true e xs,.val (.int .i64 i),.own false e ys] (.own x e (xs.take i.toNat++ys++xs.drop i.toNat)) [.dead,.dead,.dead]:=by
 obtain ⟨fn,hf,hb,hnt,hrs,hname⟩:=hF.fn
 have hce:P.cellsOf e=k:=by rw [Zp L.ie,L.sz]
 have hb1:xs.length+ys.length≤1099511627776:=by
  have:(xs.length+ys.length)*1≤(xs.length+ys.length)*(inf.bytes+1):=Nat.mul_le_mul_left _ (by omega)
  unfold ZX at hroom
  omega
 have hb2:(xs.length+ys.length)*inf.bytes≤1099511627776:=by
  have:(xs.length+ys.length)*inf.bytes≤(xs.length+ys.length)*(inf.bytes+1):=Nat.mul_le_mul_left _ (by omega)
  unfold ZX at hroom
  omega
 have hm0:0 < ys.length:=List.length_pos_iff.2 hys
 refine Zbz x (args:=[.own true e xs,.val (.int .i64 i),.own false e ys]) ⟨fn,hf,hname,by rw [hb];rfl⟩ fun w lim X cargs hl hrel hdist hsize=>?_
 have r0:Z8 P w lim true e xs (cargs.getD 0 undef) (X 0 0):=hrel 0
 have r1:=arg_int (hrel 1)
 have r2:Z8 P w lim false e ys (cargs.getD 2 undef) (X 2 0):=hrel 2
 obtain ⟨vb,vcur,vc,hX2,hv2,hvg,hmv,hvcm,hvs,hyl,hyc,hyr,_⟩:=Zb6 r2 hys
 have hrep2:=Z8.rep r2 false rfl
 rw [Zbs hl (by rw [hv2];simp [undef]),r1]
 have hii:i=((i.toNat:Nat):Int):=by omega
 rw [hii]
 obtain ⟨q,hq⟩:∃ q,q=i.toNat:=⟨_,rfl⟩
 have hqe:(((i.toNat:Nat):Int)).toNat=q:=by omega
 rw [hqe,← hq]
 rw [← hq] at hi
 by_cases hend:q=xs.length
 ·obtain ⟨v',w',lim',ob',hrun,ho,hst,hob⟩:=YQ (ty:=T) L.tT L.ie L.zero (by rw [L.zsz,L.sz]) r0 (.of hrep2) hroom
  have hvform:∃ base cap,cargs.getD 0 undef = .slice base xs.length cap∧xs.length≤cap:=by
   rcases r0 with ⟨us,hr,_⟩ | ⟨rfl,_,a,hv⟩
   ·rcases hr.2 with ⟨hv,hn⟩ | ⟨g,cap,cur,hv,_,_,hnc,_⟩
    ·exact ⟨none,0,by rw [hv,hn],by omega⟩
    ·exact ⟨_,cap,hv,hnc⟩
   ·exact ⟨_,0,hv,Nat.le_refl _⟩
  obtain ⟨base,cap,hv0,hle⟩:=hvform
  rw [hend,hv0,hv2]
  rw [hv0,hv2] at hrun
  have hty:∀ ty,(Builtin.append_ #[T,T] ty #[.slice base xs.length cap,.slice (some ⟨vb,0,none⟩) ys.length vc]).run P w = .ok v' w':=fun ty=>hrun
  refine (Zli L hf hb hnt hrs base xs.length cap _ ys.length vc w w' v' hm0 hle hty).mono ?_
  rintro e' w'' ⟨rfl,rfl⟩
  refine ⟨v',lim',ob',rfl,by rw [List.take_length,List.drop_length,List.append_nil];exact ho,⟨hst.os,hst.tape,hst.output,hst.size,hst.frz,fun b hb hn=>hst.blk b hb fun h=>hn ⟨0,0,h⟩,hst.ext⟩,fun b hb=>?_⟩
  rcases hob with h | h
  ·rw [h] at hb
   exact ⟨Nat.lt_of_lt_of_le (hsize 0 0 b hb) hst.size,.inl ⟨⟨0,0,hb⟩,ZgV r0 hb⟩⟩
  ·subst h
   cases hb
   rcases ho with ⟨us,g1,g2,_⟩ | ⟨_,h,_⟩
   ·exact ⟨(g1.lt _ g2).2,.inr (Nat.le_refl _)⟩
   ·cases h
 ·have hlt:q < xs.length:=by omega
  have hxs:xs≠[]:=by rintro rfl;simp at hlt
  obtain ⟨b,cur,c,hX0,hv0,hg,hnc,hcm,hcs,hxl,hxc,hxr,hlim⟩:=Zb6 r0 hxs
  have hlb:lim b=0:=hlim b hX0 rfl
  have hvb:vb≠b:=by
   rintro rfl
   have:=(hdist 0 0 2 0 vb hX0 hX2).1
   omega
  rw [hce] at hcs hvs hxl hyl
  have hxf:xs.flatten.length=xs.length*k:=Zh xs k hxl
  have hyf:ys.flatten.length=ys.length*k:=Zh ys k hyl
  have hcl:cur.toList.length=c*k:=by simpa using hcs
  have hvl:vcur.toList.length=vc*k:=by simpa using hvs
  have hn5:xs.length*k≤c*k:=Nat.mul_le_mul_right _ hnc
  have hn6:ys.length*k≤vc*k:=Nat.mul_le_mul_right _ hmv
  have hn7:q*k≤xs.length*k:=Nat.mul_le_mul_right _ hi
  have hn8:(xs.length-q)*k=xs.length*k-q*k:=Nat.sub_mul _ _ _
  have hn9:(xs.length+ys.length)*k=xs.length*k+ys.length*k:=Nat.add_mul _ _ _
  have hxt:V4 (Rep w lim) xs.flatten (cur.toList.take (xs.length*k)):=hxr.cut _
  have hyt:V4 (Rep w lim) ys.flatten (vcur.toList.take (ys.length*k)):=hyr.cut _
  have h1c:∀ v∈cur.toList.take (xs.length*k),v.oneCell'=true:=Zb3 hxc hxt (by rw [List.length_take,hxf];omega)
  have h1v:∀ v∈vcur.toList.take (ys.length*k),v.oneCell'=true:=Zb3 hyc hyt (by rw [List.length_take,hyf];omega)
  have hzl:∀ x∈xs.take q++ys++xs.drop q,x.length=k:=by
   intro x hx
   rcases List.mem_append.1 hx with hx | hx
   ·rcases List.mem_append.1 hx with hx | hx
    ·exact hxl x (List.mem_of_mem_take hx)
    ·exact hyl x hx
   ·exact hxl x (List.mem_of_mem_drop hx)
  have hzc:∀ x∈xs.take q++ys++xs.drop q,∀ y∈x,y.isCell=true:=by
   intro x hx
   rcases List.mem_append.1 hx with hx | hx
   ·rcases List.mem_append.1 hx with hx | hx
    ·exact hxc x (List.mem_of_mem_take hx)
    ·exact hyc x hx
   ·exact hxc x (List.mem_of_mem_drop hx)
  have hzn:(xs.take q++ys++xs.drop q).length=xs.length+ys.length:=by
   simp only [List.length_append,List.length_take,List.length_drop]
   omega
  have heach:∀ rest,V4 (Rep w lim) (xs.take q++ys++xs.drop q).flatten (cur.toList.take (q*k)++vcur.toList.take (ys.length*k)++((cur.toList.drop (q*k)).take ((xs.length-q)*k)++rest)):=by
   intro rest
   rw [List.flatten_append,List.flatten_append,YH k xs q hxl,YD k xs q hxl]
   refine V4.app ?_ (V4.app ?_ (hxr.take _) hyt) (V4.ext ((hxr.drop _).cut _) ?_)
   ·simp only [List.length_append,List.length_take,hxf,hyf,hcl,hvl];omega
   ·simp only [List.length_take,hxf,hcl];omega
   ·simp only [List.length_take,List.length_drop,hxf,hcl];omega
  rw [hv0,hv2]
  by_cases hr:xs.length+ys.length≤c
  ·refine (ZiA L hf hb hnt hrs b xs.length c q vb ys.length vc cur vcur w hlt hm0 hr (by unfold maxLen at hcm;omega) hvb hg hcs hvg hvs hmv h1c h1v).mono ?_
   rintro e' w' ⟨rfl,rfl⟩
   have s1:ZT w lim (w.drew.setRow b (JP cur.toList k xs.length ys.length q).toArray) lim (fun x=>x=b):=by
    have:=Z1 (w:=w.drew) (lim:=lim) (cs:=(JP cur.toList k xs.length ys.length q).toArray) hg hlb
    exact ⟨this.os,this.tape,this.output,this.size,this.frz,this.blk,this.ext⟩
   have s2:=Z1 (lim:=lim) (cs:=(Zbp cur.toList (vcur.toList.take (ys.length*k)) k xs.length ys.length q).toArray) (JR (w:=w.drew) (cur':=(JP cur.toList k xs.length ys.length q).toArray) hg) hlb
   have s3:ZT w lim _ lim (fun x=>∃ i j,X i j=some x):=s1.trans s2 (fun x hx=>⟨0,0,by rw [hx];exact hX0⟩) (fun x hx=>.inl ⟨0,0,by rw [hx];exact hX0⟩)
   have hU:(xs.length+ys.length)*k≤cur.toList.length:=by rw [hcl];exact Nat.mul_le_mul_right _ hr
   have heq:=Ziz (vs:=vcur.toList.take (ys.length*k)) hi hU
   refine ⟨_,lim,some b,rfl,?_,s3,fun b' hb'=>?_⟩
   ·have hrow:=Wn (P:=P) (w:=(w.drew.setRow b (JP cur.toList k xs.length ys.length q).toArray).setRow b (Zbp cur.toList (vcur.toList.take (ys.length*k)) k xs.length ys.length q).toArray) (lim:=lim) (e:=e)
     (xs:=xs.take q++ys++xs.drop q) (b:=b) (cap:=c) (JR (JR (w:=w.drew) hg)) hlb (by rw [hzn];exact hr) hcm ?_ (by rw [hce];exact hzl) hzc ?_
    ·rw [hzn] at hrow
     exact hrow
    ·rw [hce,List.size_toArray,heq]
     simp only [List.length_append,List.length_take,List.length_drop,hcl,hvl]
     have:(q+ys.length)*k=q*k+ys.length*k:=Nat.add_mul _ _ _
     have:(xs.length+ys.length)*k≤c*k:=Nat.mul_le_mul_right _ hr
     omega
    ·intro j z u hz hu
     rw [List.getElem?_toArray,heq] at hu
     exact (heach _ j z u hz hu).mono s3.ext
   ·cases hb'
    exact ⟨Nat.lt_of_lt_of_le (hsize 0 0 b hX0) s3.size,.inl ⟨⟨0,0,hX0⟩,hlb⟩⟩
  ·refine (Zjr L hf hb hnt hrs b xs.length c q vb ys.length vc cur vcur w hlt hm0 hnc (by omega) (by omega) (by omega) hg hcs hvg hvs hmv h1c h1v).mono ?_
   rintro e' w' ⟨G,hG1,hG2,rfl,rfl⟩
   obtain ⟨R0,hR0⟩:∃ R0,R0=Kp cur.toList z.cells k xs.length ys.length q G:=⟨_,rfl⟩
   rw [← hR0]
   have hR0s:R0.size=G*k:=by rw [hR0];exact Wt L.zsz hi hG1 (by rw [hcl];omega)
   have hR0l:R0.toList.length=G*k:=by simpa using hR0s
   have hGk:(xs.length+ys.length)*k≤G*k:=Nat.mul_le_mul_right _ hG1
   have hvtl:(vcur.toList.take (ys.length*k)).length=ys.length*k:=by rw [List.length_take,hvl];omega
   have hRU:R0.toList.take (q*k)=cur.toList.take (q*k):=by
    rw [hR0]
    unfold Kp
    rw [Array.toList_append,Array.toList_append]
    rw [List.append_assoc,List.take_append_of_le_length (by simp only [List.length_take,hcl];omega),List.take_of_length_le (by simp only [List.length_take,hcl];omega)]
   have heq:=ZgC (U:=cur.toList) (n:=xs.length) (i:=q) hvtl (by rw [hR0l];omega) hRU
   obtain ⟨W0,hW0⟩:∃ W0,W0=w.drew.alloc (.cells R0 e):=⟨_,rfl⟩
   obtain ⟨l0,hl0⟩:∃ l0,l0=fun x=>if x=w.heap.size then 0 else lim x:=⟨_,rfl⟩
   have s0:ZT w lim W0 l0 (fun x=>∃ i j,X i j=some x):=by
    have:=Yu w.drew lim R0 e 0 (fun x=>∃ i j,X i j=some x)
    rw [hW0,hl0]
    exact ⟨this.os,this.tape,this.output,this.size,this.frz,this.blk,this.ext⟩
   have g0:W0.heap[w.heap.size]? = some (.cells R0 e (0,0)):=by rw [hW0];exact Ka w.drew R0 e
   have hll:l0 w.heap.size=0:=by rw [hl0];exact if_pos rfl
   rw [← hW0]
   obtain ⟨R1,hR1⟩:∃ R1,R1=Y8 R0.toList (vcur.toList.take (ys.length*k)) k ys.length q:=⟨_,rfl⟩
   rw [← hR1] at heq ⊢
   obtain ⟨R2,hR2⟩:∃ R2,R2=Zav R1 cur.toList k xs.length ys.length q:=⟨_,rfl⟩
   rw [← hR2] at heq ⊢
   have hR1l:R1.length=G*k:=by
    rw [hR1]
    simp only [Y8,List.length_append,hvtl,List.length_take,List.length_drop,hR0l]
    omega
   have s1:=Z1 (cs:=R1.toArray) g0 hll
   have g1:((W0.setRow w.heap.size R1.toArray).drew).heap[w.heap.size]? = some (.cells R1.toArray e (0,0)):=JR g0
   have s2:=Z1 (w:=(W0.setRow w.heap.size R1.toArray).drew) (cs:=R2.toArray) g1 hll
   have s12:ZT w lim (W0.setRow w.heap.size R1.toArray).drew l0 (fun x=>∃ i j,X i j=some x):=(s0.trans s1 (fun x hx=>hx) (fun x hx=>.inr (by omega))).drew
   have s3:=s12.trans (S:=fun x=>∃ i j,X i j=some x) s2 (fun x hx=>hx) (fun x hx=>.inr (by omega))
   refine ⟨_,l0,some w.heap.size,rfl,?_,s3,fun b' hb'=>?_⟩
   ·have hrow:=Wn (P:=P) (w:=((W0.setRow w.heap.size R1.toArray).drew).setRow w.heap.size R2.toArray) (lim:=l0) (e:=e)
     (xs:=xs.take q++ys++xs.drop q) (b:=w.heap.size) (cap:=G) (JR g1) hll (by rw [hzn];exact hG1) hG2 ?_ (by rw [hce];exact hzl) hzc ?_
    ·rw [hzn] at hrow
     exact hrow
    ·rw [hce,List.size_toArray,heq]
     simp only [List.length_append,hvtl,List.length_take,List.length_drop,hcl,hR1l]
     omega
    ·intro j z u hz hu
     rw [List.getElem?_toArray,heq] at hu
     exact (heach _ j z u hz hu).mono s3.ext
   ·cases hb'
    exact ⟨Nat.lt_of_lt_of_le (by have:=(Array.getElem?_eq_some_iff.1 g1).1;exact this) s2.size,.inr (Nat.le_refl _)⟩
set_option maxHeartbeats 4000000 in
set_option maxRecDepth 100000 in
theorem Zi2 {T B I U e:TypeId} {inf:TypeInfo} {z:Value} {k:Nat} (L:ZaU P T B I e inf z k) {f:FuncId} {fn:Func} (hf:P.funcs[f]? = some fn) (hb:fn.body=some (delCode T B I U)) (hnt:fn.ntmps=33) (hrs:fn.results = #[.tmp 6])
  (base:Option Addr) (n c i:Nat) (w:World) (hin:i≤n) (hnc:n≤c) :
  Calls P f #[.slice base n c,.int .i64 i,.int .i64 i] w fun e' w'=>e' = .returned (.slice base n c)∧w'=w:=by
 have mixed:=L.mixed
 have t0:=L.tT;have t1:=L.tI;have t2:=L.tB
 have u0:=run_underlying L.tT;have u1:=run_underlying L.tI;have u2:=run_underlying L.tB
 have zsE:∀ w,(Go.sizeOf e).run P w = .ok k w:=fun w=>by rw [Zj L.ie];rw [Zp L.ie,L.sz]
 have hb0:(i:Int)≤(n:Int):=by omega
 have hb1:(n:Int)≤(c:Int):=by omega
 have hb2:(i:Int)≤(c:Int):=by omega
 refine calls_of_wp hf hb ?_
 rw [hnt]
 simp only [List.size_toArray,List.length_cons,List.length_nil,Nat.reduceAdd,Nat.reduceSub,Array.replicate_succ,Array.replicate_zero,List.push_toArray,List.append_toArray,List.nil_append,List.cons_append]
 unfold delCode
 cases base with
 | none =>
  go_wp2
  all_goals
   refine bodyPost_ret (results_tmp hrs _ _ _) rfl ?_
   exact ⟨rfl,rfl⟩
 | some a =>
  obtain ⟨ab,ao,asp⟩:=a
  go_wp2
  all_goals
   refine bodyPost_ret (results_tmp hrs _ _ _) rfl ?_
   exact ⟨rfl,rfl⟩
structure ZpQ (P:Program) (T B I U:TypeId) (z:Value) (f:FuncId):Prop where
 fn : ∃ fn, P.funcs[f]? = some fn ∧ fn.body = some (delCode T B I U) ∧ fn.ntmps = 33 ∧ fn.results = #[.tmp 6] ∧ (fn.name == "runtime.NumGoroutine") = false
 one:∀ v∈z.cells.toList,v.oneCell'=true
theorem ZnN (x:Bool) {T B I U e:TypeId} {inf:TypeInfo} {z:Value} {k:Nat} (L:ZaU P T B I e inf z k) {f:FuncId} (hF:ZpQ P T B I U z f) {xs:List (List AV)} {i j:Int}
  (h0:0≤i) (hij:i≤j) (hj:j.toNat≤xs.length) :
  Jz P f [.own true e xs,.val (.int .i64 i),.val (.int .i64 j)] (.own x e (xs.take i.toNat++xs.drop j.toNat)) [.dead,.dead,.dead]:=by
 obtain ⟨fn,hf,hb,hnt,hrs,hname⟩:=hF.fn
 have hce:P.cellsOf e=k:=by rw [Zp L.ie,L.sz]
 refine Zbz x (args:=[.own true e xs,.val (.int .i64 i),.val (.int .i64 j)]) ⟨fn,hf,hname,by rw [hb];rfl⟩ fun w lim X cargs hl hrel hdist hsize=>?_
 have r0:Z8 P w lim true e xs (cargs.getD 0 undef) (X 0 0):=hrel 0
 have r1:=arg_int (hrel 1)
 have r2:=arg_int (hrel 2)
 rw [Zbs hl (by rw [r2];simp [undef]),r1,r2]
 obtain ⟨p,rfl⟩:∃ p:Nat,i=p:=⟨i.toNat,by omega⟩
 obtain ⟨q,rfl⟩:∃ q:Nat,j=q:=⟨j.toNat,by omega⟩
 rw [Int.toNat_natCast] at hj ⊢
 rw [Int.toNat_natCast]
 have hpq:p≤q:=by omega
 by_cases heq:p=q
 ·subst heq
  have hvform:∃ base cap,cargs.getD 0 undef = .slice base xs.length cap∧xs.length≤cap:=by
   rcases r0 with ⟨us,hr,_⟩ | ⟨rfl,_,a,hv⟩
   ·rcases hr.2 with ⟨hv,hn⟩ | ⟨g,cap,cur,hv,_,_,hnc,_⟩
    ·exact ⟨none,0,by rw [hv,hn],by omega⟩
    ·exact ⟨_,cap,hv,hnc⟩
   ·exact ⟨_,0,hv,Nat.le_refl _⟩
  obtain ⟨base,cap,hv0,hle⟩:=hvform
  rw [hv0] at r0 ⊢
  refine (Zi2 L hf hb hnt hrs base xs.length cap p w hj hle).mono ?_
  rintro e' w' ⟨rfl,rfl⟩
  exact ⟨_,lim,X 0 0,rfl,by rw [List.take_append_drop];exact r0,ZT.refl _ _ _,fun b hb=>⟨hsize 0 0 b hb,.inl ⟨⟨0,0,hb⟩,ZgV r0 hb⟩⟩⟩
 ·have hlt:p < q:=by omega
  have hxs:xs≠[]:=by rintro rfl;simp at hj;omega
  obtain ⟨b,cur,c,hX0,hv0,hg,hnc,hcm,hcs,hxl,hxc,hxr,hlim⟩:=Zb6 r0 hxs
  have hlb:lim b=0:=hlim b hX0 rfl
  rw [hce] at hcs hxl
  have hxf:xs.flatten.length=xs.length*k:=Zh xs k hxl
  have hcl:cur.toList.length=c*k:=by simpa using hcs
  have hn5:xs.length*k≤c*k:=Nat.mul_le_mul_right _ hnc
  have hn7:p*k≤q*k:=Nat.mul_le_mul_right _ hpq
  have hn8:q*k≤xs.length*k:=Nat.mul_le_mul_right _ hj
  have hn9:(xs.length-q)*k=xs.length*k-q*k:=Nat.sub_mul _ _ _
  have h1c:∀ v∈cur.toList.take (xs.length*k),v.oneCell'=true:=Zb3 hxc (hxr.cut _) (by rw [List.length_take,hxf];omega)
  have hzl:∀ x∈xs.take p++xs.drop q,x.length=k:=by
   intro x hx
   rcases List.mem_append.1 hx with hx | hx
   ·exact hxl x (List.mem_of_mem_take hx)
   ·exact hxl x (List.mem_of_mem_drop hx)
  have hzc:∀ x∈xs.take p++xs.drop q,∀ y∈x,y.isCell=true:=by
   intro x hx
   rcases List.mem_append.1 hx with hx | hx
   ·exact hxc x (List.mem_of_mem_take hx)
   ·exact hxc x (List.mem_of_mem_drop hx)
  have hzn:(xs.take p++xs.drop q).length=p+(xs.length-q):=by
   simp only [List.length_append,List.length_take,List.length_drop]
   omega
  have heach:∀ rest,V4 (Rep w lim) (xs.take p++xs.drop q).flatten (cur.toList.take (p*k)++(cur.toList.drop (q*k)).take ((xs.length-q)*k)++rest):=by
   intro rest
   rw [List.flatten_append,YH k xs p hxl,YD k xs q hxl,List.append_assoc]
   refine V4.app ?_ (hxr.take _) (V4.ext ((hxr.drop _).cut _) ?_)
   ·simp only [List.length_take,hxf,hcl];omega
   ·simp only [List.length_take,List.length_drop,hxf,hcl];omega
  rw [hv0]
  refine (ZkO L hf hb hnt hrs b xs.length c p q cur w hlt hj hnc (by unfold maxLen at hcm;omega) hg hcs h1c hF.one).mono ?_
  rintro e' w' ⟨rfl,rfl⟩
  have heq2:=Zgm (U:=cur.toList) (zc:=z.cells.toList) hpq hj (by rw [hcl];exact hn5)
  obtain ⟨R1,hR1⟩:∃ R1,R1=JE cur.toList k xs.length p q:=⟨_,rfl⟩
  rw [← hR1] at heq2 ⊢
  obtain ⟨R2,hR2⟩:∃ R2,R2=Zak R1 z.cells.toList k xs.length (p+(xs.length-q)):=⟨_,rfl⟩
  rw [← hR2] at heq2 ⊢
  have hR1l:R1.length=c*k:=by
   rw [hR1]
   simp only [JE,List.length_append,List.length_take,List.length_drop,hcl]
   omega
  have s1:ZT w lim (w.drew.setRow b R1.toArray) lim (fun x=>x=b):=by
   have:=Z1 (w:=w.drew) (lim:=lim) (cs:=R1.toArray) hg hlb
   exact ⟨this.os,this.tape,this.output,this.size,this.frz,this.blk,this.ext⟩
  have s2:=Z1 (lim:=lim) (cs:=R2.toArray) (JR (w:=w.drew) (cur':=R1.toArray) hg) hlb
  have s3:ZT w lim _ lim (fun x=>∃ i j,X i j=some x):=s1.trans s2 (fun x hx=>⟨0,0,by rw [hx];exact hX0⟩) (fun x hx=>.inl ⟨0,0,by rw [hx];exact hX0⟩)
  refine ⟨_,lim,some b,rfl,?_,s3,fun b' hb'=>?_⟩
  ·have hrow:=Wn (P:=P) (w:=(w.drew.setRow b R1.toArray).setRow b R2.toArray) (lim:=lim) (e:=e)
    (xs:=xs.take p++xs.drop q) (b:=b) (cap:=c) (JR (JR (w:=w.drew) hg)) hlb (by rw [hzn];omega) hcm ?_ (by rw [hce];exact hzl) hzc ?_
   ·rw [hzn] at hrow
    exact hrow
   ·have hfl:((List.replicate (xs.length-(p+(xs.length-q))) z.cells.toList).flatten).length=(xs.length-(p+(xs.length-q)))*k:=by simp [← L.zsz]
    have e1:(p+(xs.length-q))*k=p*k+(xs.length-q)*k:=Nat.add_mul _ _ _
    have e2:(xs.length-(p+(xs.length-q)))*k=xs.length*k-(p+(xs.length-q))*k:=Nat.sub_mul _ _ _
    rw [hce,List.size_toArray,heq2]
    simp only [List.length_append,hfl,List.length_take,List.length_drop,hcl,hR1l]
    omega
   ·intro j z u hz hu
    rw [List.getElem?_toArray,heq2] at hu
    exact (heach _ j z u hz hu).mono s3.ext
  ·cases hb'
   exact ⟨Nat.lt_of_lt_of_le (hsize 0 0 b hX0) s3.size,.inl ⟨⟨0,0,hX0⟩,hlb⟩⟩
def ZpX (bytes:Nat) (xs:LL) (i:Int) (ys:LL):Option LL:=
 ZV (0≤i)<|ZV (i≤(xs.length:Int))<|ZV (ys≠[])<|ZV (Yt xs ys bytes)<|some (xs.take i.toNat++ys++xs.drop i.toNat)
def ZnY (xs:LL) (i j:Int):Option LL:=
 ZV (0≤i)<|ZV (i≤j)<|ZV (j≤(xs.length:Int))<|some (xs.take i.toNat++xs.drop j.toNat)
def Zqr (bytes:Nat):List V→Option LL
 | [.l xs, .i i, .l ys] => ZpX bytes xs i ys
 | _ => none
def ZqV:List V→Option LL
 | [.l xs, .i i, .i j] => ZnY xs i j
 | _ => none
def ZrO (x:Bool) (e:TypeId) (bytes:Nat):Fun where
 args:=[.c (.own true e),.c (.int .i64),.c (.own false e)]
 res:=[.c (.own x e)]
 g:=Zqr bytes
def ZoB (x:Bool) (e:TypeId):Fun where
 args:=[.c (.own true e),.c (.int .i64),.c (.int .i64)]
 res:=[.c (.own x e)]
 g:=ZqV
def insChk (P:Program) (T B I e:TypeId) (bytes:Nat):Bool:=
 (match P.underlying T with | some (.slice e')=>e' == e | _=>false)&&(match P.underlying I with | some (.int k)=>k == .i64 | _=>false)&&(match P.underlying B with | some .bool=>true | _=>false)&&
 match P.info? e with
 | some i => i.bytes == bytes && decide (0 < i.size) && (match i.zero with | some z => z.cells.size == i.size && z.cells.toList.all (fun v => v.oneCell') | none => false)
 | none => false
theorem Zbm {T B I e:TypeId} {bytes:Nat} (hm:P.follows .mixedOrders=true) (h:insChk P T B I e bytes=true) :
  ∃ inf z k,inf.bytes=bytes∧(∀ v∈z.cells.toList,v.oneCell'=true)∧ZaU P T B I e inf z k:=by
 simp only [insChk,Bool.and_eq_true] at h
 obtain ⟨⟨⟨h1,h2⟩,h3⟩,h4⟩:=h
 split at h1
 case h_2=>cases h1
 rename_i e' hT
 rw [beq_iff_eq] at h1
 subst h1
 split at h2
 case h_2=>cases h2
 rename_i kk hI
 rw [beq_iff_eq] at h2
 subst h2
 split at h3
 case h_2=>cases h3
 rename_i hB
 split at h4
 case h_2=>cases h4
 rename_i inf hinf
 simp only [Bool.and_eq_true,beq_iff_eq,decide_eq_true_eq] at h4
 obtain ⟨⟨h5,h6⟩,h7⟩:=h4
 split at h7
 case h_2=>cases h7
 rename_i z hz
 simp only [Bool.and_eq_true,beq_iff_eq,List.all_eq_true] at h7
 exact ⟨inf,z,inf.size,h5,fun v hv=>h7.2 v hv,⟨hm,hT,hI,hB,hinf,hz,h7.1,rfl,h6⟩⟩
def Func.looksIns (fn:Func) (T B I:TypeId) (fO fR:FuncId):Prop:=fn.body=some (insCode T B I fO fR)∧fn.ntmps=95∧fn.results = #[.tmp 6]
theorem insF_ok {x : Bool} {T B I e : TypeId} {bytes : Nat} {f fO fR : FuncId} {fn fo : Func} (hm : P.follows .mixedOrders = true) (hc : insChk P T B I e bytes = true) (hf : P.funcs[f]? = some fn) (hname : (fn.name == "runtime.NumGoroutine") = false)
  (hl : Func.looksIns fn T B I fO fR) (hfo : P.funcs[fO]? = some fo) (ho1 : (fo.name == "runtime.NumGoroutine") = false) (ho2 : fo.body.isNone = true) (ho3 : Extern.findNext fo = none)
  (ho4:Extern.find fo=some (Extern.SlicesOverlaps.overlaps #[T,T] #[B])):(ZrO x e bytes).Ok P f:=by
 obtain ⟨inf,z,k,hb,_,hL⟩:=Zbm hm hc
 have L:ZaV P T B I fO e inf z k:=⟨hL,fun args w=>run_callFunc_extern hfo ho1 ho2 ho3 ho4 args w⟩
 intro vs r h
 have h:Zqr bytes vs=some r:=h
 unfold Zqr at h
 split at h
 case h_2=>cases h
 rename_i xs i ys _
 obtain ⟨h0,h⟩:=Ye h
 obtain ⟨h1,h⟩:=Ye h
 obtain ⟨h2,h⟩:=Ye h
 obtain ⟨h3,h⟩:=Ye h
 cases h
 rw [Yt,← hb] at h3
 exact Znl x L ⟨fn,hf,hl.1,hl.2.1,hl.2.2,hname⟩ h0 (show i.toNat≤xs.length by omega) h2 h3
def Func.looksDel (fn:Func) (T B I U:TypeId):Prop:=fn.body=some (delCode T B I U)∧fn.ntmps=33∧fn.results = #[.tmp 6]
theorem delF_ok {x : Bool} {T B I U e : TypeId} {bytes : Nat} {f : FuncId} {fn : Func} (hm : P.follows .mixedOrders = true) (hc : insChk P T B I e bytes = true) (hf : P.funcs[f]? = some fn) (hname : (fn.name == "runtime.NumGoroutine") = false)
  (hl:Func.looksDel fn T B I U):(ZoB x e).Ok P f:=by
 obtain ⟨inf,z,k,_,hz,L⟩:=Zbm hm hc
 intro vs r h
 have h:ZqV vs=some r:=h
 unfold ZqV at h
 split at h
 case h_2=>cases h
 rename_i xs i j _
 obtain ⟨h0,h⟩:=Ye h
 obtain ⟨h1,h⟩:=Ye h
 obtain ⟨h2,h⟩:=Ye h
 cases h
 exact ZnN x L ⟨⟨fn,hf,hl.1,hl.2.1,hl.2.2,hname⟩,hz⟩ h0 h1 (show j.toNat≤xs.length by omega)
end Go.AM
end
