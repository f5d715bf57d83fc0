/- AmSound, AmSnd2, AmSnd3, AmReg: texts of the proof, put together. -/
import Derived.Test.YtigknndkmlhmfaaM3
import Derived.Orders

section
namespace Go.AM
theorem Zgz {P:Program} {R:AV→List AV→Prop} {A:Nat→List V→Prop} {ρ:Nat→V} {b:BE} {t e:STree} (h:(ZdV b t e).wp P R A ρ) :
  (b.den ρ=true→t.wp P R A ρ)∧(b.den ρ=false→e.wp P R A ρ):=by
 unfold ZdV at h
 split at h
 ·exact ⟨fun _=>h,fun hb=>by simp [BE.den] at hb⟩
 ·exact ⟨fun hb=>by simp [BE.den] at hb,fun _=>h⟩
 ·exact h
theorem Zji (b:BE) (ρ:Nat→V):(Zjl b).den ρ = !b.den ρ:=by unfold Zjl;split<;>rfl
theorem Zma {b:BE} {n:Nat} (h:b.bd n):(Zjl b).bd n:=by
 unfold Zjl
 split
 ·trivial
 ·exact h
theorem ZgG {v:Value} (ρ:Nat→V):(ofC v).map (SC.den ρ)=Zo2 v:=by
 cases v with
 | slice a l c => cases a <;> cases l <;> cases c <;> rfl
 | _ => rfl
theorem Ki (ρ:Nat→V):∀ (vs:List Value),(ZfK vs).map (List.map (SC.den ρ))=Zac vs
 | [] => rfl
 | v :: vs => by
  have h1:=ZgG (v:=v) ρ
  have h2:=Ki ρ vs
  simp only [ZfK,Zac]
  cases hc:ofC v<;>cases hcs:ZfK vs<;>rw [hc] at h1<;>rw [hcs] at h2<;>simp at h1 h2<;>rw [← h1]<;>try rw [← h2]
  ·simp
  ·simp
  ·simp
  ·simp
theorem Znk {v:Value} {c:SC} {n:Nat} (h:ofC v=some c):c.bd n:=by
 unfold ofC at h
 split at h<;>simp at h<;>subst h<;>trivial
theorem Vt {n:Nat} : ∀ {vs:List Value} {cs:List SC},ZfK vs=some cs→∀ c∈cs,c.bd n
 | [], cs, h => by simp [ZfK] at h; subst h; simp
 | v :: vs, cs, h => by
  simp only [ZfK] at h
  split at h
  ·rename_i c cs' hc hcs
   simp at h
   subst h
   intro x hx
   rcases List.mem_cons.1 hx with rfl | hx
   ·exact Znk hc
   ·exact Vt hcs x hx
  ·simp at h
theorem ZoL (v:Value) (ρ:Nat→V):(ofV v).den ρ=ZoD v:=by
 cases v with
 | agg cs =>
  have:=Ki ρ cs.toList
  simp only [ofV,ZoD]
  rw [← this]
  cases ZfK cs.toList<;>rfl
 | slice a l c =>
  have:=ZgG (v:=.slice a l c) ρ
  simp only [ofV,ZoD]
  rw [← this]
  cases ofC (.slice a l c)<;>rfl
 | _ => rfl
theorem Zpn (v:Value) (n:Nat):(ofV v).bd n:=by
 unfold ofV
 split
 ·split
  ·rename_i l hl;exact Vt hl
  ·trivial
 ·split
  ·rename_i c hc;exact Znk (v:=v) hc
  ·trivial
theorem J1 (P:Program) (g:Nat→SV) (ρ:Nat→V) (x:Operand):(Jh P g x).den ρ=Zr P (fun d=>(g d).den ρ) x:=by
 cases x with
 | tmp t =>
  simp only [Jh,Zr]
  cases g t with
  | c x => cases x <;> rfl
  | own x e xs => cases x <;> rfl
  | _ => rfl
 | const v => exact ZoL v ρ
 | global g => rfl
 | func f => rfl
theorem ZF {P:Program} {g:Nat→SV} {n:Nat} (hg:∀ d,(g d).bd n) (x:Operand):(Jh P g x).bd n:=by
 cases x with
 | tmp t =>
  have:=hg t
  simp only [Jh]
  cases hs:g t with
  | own x e xs => rw [hs] at this; cases x <;> first | exact this | trivial
  | _ => rw [hs] at this; first | exact this | trivial
 | const v => exact Zpn v n
 | global g => trivial
 | func f => trivial
theorem Ze {P:Program} {g:Nat→SV} {x:Operand} {y:SV} (ρ:Nat→V) (h:Jh P g x=y):Zr P (fun d=>(g d).den ρ) x=y.den ρ:=by rw [← J1,h]
def Yu (tx:Odr) (P:Program) (R:AV→List AV→Prop) (A:Nat→List V→Prop) (ρ:Nat→V) (g:Nat→SV) (o:Oper) (n:Nat) (k:K):Prop:=
 ∃ ρ' n' x us fp,n≤n'∧(∀ m,m < n→ρ' m=ρ m)∧x.bd n'∧(∀ u∈us,u.2.bd n')∧(k x us fp n').wp P R A ρ'∧
  YY tx P o (fun d=>(g d).den ρ) (x.den ρ') (us.map fun u=>(u.1,u.2.den ρ')) fp
section
variable {tx:Odr} {P:Program} {R:AV→List AV→Prop} {A:Nat→List V→Prop} {ρ:Nat→V} {g:Nat→SV} {o:Oper} {n:Nat} {k:K}
theorem We {x:SV} {us:Ups} {fp:List Nat} (hk:(k x us fp n).wp P R A ρ) (hx:x.bd n) (hus:∀ u∈us,u.2.bd n)
  (hex:JA P o (fun d=>(g d).den ρ) (x.den ρ) (us.map fun u=>(u.1,u.2.den ρ)) fp):Yu tx P R A ρ g o n k:=
 ⟨ρ,n,x,us,fp,Nat.le_refl _,fun _ _=>rfl,hx,hus,hk,hex.t⟩
theorem V4 {x:SV} {us:Ups} {fp:List Nat} (hk:(k x us fp n).wp P R A ρ) (hx:x.bd n) (hus:∀ u∈us,u.2.bd n)
  (hex:YY tx P o (fun d=>(g d).den ρ) (x.den ρ) (us.map fun u=>(u.1,u.2.den ρ)) fp):Yu tx P R A ρ g o n k:=
 ⟨ρ,n,x,us,fp,Nat.le_refl _,fun _ _=>rfl,hx,hus,hk,hex⟩
theorem ZY {x:SV} {fp:List Nat} (hk:(k x [] fp n).wp P R A ρ) (hx:x.bd n) (hex:JA P o (fun d=>(g d).den ρ) (x.den ρ) [] fp):Yu tx P R A ρ g o n k:=
 We hk hx (by simp) hex
def ZdI (ρ:Nat→V):SC→Value
 | .int k e => .int k (e.den ρ)
 | .bool b => .bool (b.den ρ)
 | .str s => .string (s.den ρ)
 | .slice _ _ _ => .slice none 0 0
theorem ZbG (ρ:Nat→V):∀ (L:List Sh) (cs:List SC),V6 L cs=true→YM L (cs.map (ZdI ρ))∧cs.map (SC.den ρ)=(cs.map (ZdI ρ)).map AV.val∧∀ u∈cs.map (ZdI ρ),ZbI u=true
 | [], [], _ => ⟨trivial, rfl, by simp⟩
 | [], _ :: _, h => by simp [V6] at h
 | _ :: _, [], h => by simp [V6] at h
 | s :: L, c :: cs, h => by
  simp only [V6,Bool.and_eq_true] at h
  obtain ⟨h1,h2,h3⟩:=ZbG ρ L cs h.2
  have h0:=h.1
  cases s<;>cases c<;>simp [Zib] at h0
  ·refine ⟨⟨h0,h1⟩,by simp only [List.map_cons,h2];rfl,?_⟩
   intro u hu
   rw [List.map_cons] at hu
   rcases List.mem_cons.1 hu with rfl | hu
   ·rfl
   ·exact h3 u hu
  ·refine ⟨h1,by simp only [List.map_cons,h2];rfl,?_⟩
   intro u hu
   rw [List.map_cons] at hu
   rcases List.mem_cons.1 hu with rfl | hu
   ·rfl
   ·exact h3 u hu
theorem ZbR (ρ:Nat→V):∀ (xs ys:List SC) (e:BE),ZaJ xs ys=some e→e.den ρ=eqV (xs.map (ZdI ρ)) (ys.map (ZdI ρ))
 | [], [], e, h => by simp [ZaJ] at h; subst h; rfl
 | [], _ :: _, e, h => by simp [ZaJ] at h
 | _ :: _, [], e, h => by simp [ZaJ] at h
 | a :: aZ, b :: bs, e, h => by
  simp only [ZaJ] at h
  split at h
  ·rename_i x y hx hy
   simp at h
   subst h
   have ih:=ZbR ρ aZ bs y hy
   cases a<;>cases b<;>simp [ZkU] at hx
   ·obtain ⟨_,rfl⟩:=hx
    simp only [BE.den,List.map_cons,ZdI,eqV,ih,cop]
   ·subst hx
    simp only [BE.den,List.map_cons,ZdI,eqV,ih]
  ·simp at h
theorem Zhw {n:Nat} : ∀ (xs ys:List SC) (e:BE),(∀ c∈xs,c.bd n)→(∀ c∈ys,c.bd n)→ZaJ xs ys=some e→e.bd n
 | [], [], e, _, _, h => by simp [ZaJ] at h; subst h; trivial
 | [], _ :: _, e, _, _, h => by simp [ZaJ] at h
 | _ :: _, [], e, _, _, h => by simp [ZaJ] at h
 | a :: aZ, b :: bs, e, hx, hy, h => by
  simp only [ZaJ] at h
  split at h
  ·rename_i x y hx' hy'
   simp at h
   subst h
   have ih:=Zhw aZ bs y (fun c hc=>hx c (by simp [hc])) (fun c hc=>hy c (by simp [hc])) hy'
   have ha:=hx a (by simp)
   have hb:=hy b (by simp)
   cases a<;>cases b<;>simp [ZkU] at hx'
   ·obtain ⟨_,rfl⟩:=hx'
    exact ⟨⟨ha,hb⟩,ih⟩
   ·subst hx'
    exact ⟨⟨ha,hb⟩,ih⟩
  ·simp at h
theorem Zic {w:World} {lim:Nat→Nat} {us:List Value} {v:Value} (h:Rep w lim (.agg (us.map AV.val)) v):v = .agg us.toArray:=by
 have key:∀ y,Rep w lim y v→y = .agg (us.map AV.val)→v = .agg us.toArray:=by
  intro y hy he
  cases hy with
  | @agg cs vs hl hc hr =>
   injection he with he
   subst he
   have hlen:us.length=vs.length:=by simpa using hl
   have:vs=us:=by
    apply List.ext_getElem hlen.symm
    intro i h1 h2
    exact KN (hr i (.val us[i]) vs[i] (by simp [h2]) (by simp [h1]))
   rw [this]
  | val _ => cases he
  | sliceN => cases he
  | sliceE _ => cases he
  | sliceC _ _ _ _ _ _ _ _ => cases he
  | nest => cases he
 exact key _ h rfl
theorem Zco {T T':TypeId} {x y:Operand} {op:BinOp} {us vs:List Value} {σ:Nat→AV} {L:List Sh} {plain:List TypeId} (hps:VC P plain) (hT:T∈plain) (hL:YA P 8 T=some L) (ho:o.op = .binOp op T x y T')
  (hop:op = .eql∨op = .neq) (hx:Zr P σ x = .agg (us.map AV.val)) (hy:Zr P σ y = .agg (vs.map AV.val)) (hu:YM L us) (hv:YM L vs) :
  JA P o σ (.val (.bool (if op = .eql then eqV us vs else !eqV us vs))) [] []:=by
 refine ZE [] rfl fun c hc σ' tm w lim X hg hfp hsim=>⟨.bool (if op = .eql then eqV us vs else !eqV us vs),?_,.val rfl⟩
 rw [ho] at hg
 have h1:=Zic (J0 hc hsim hx (hg x (by simp [Op.operands])))
 have h2:=Zic (J0 hc hsim hy (hg y (by simp [Op.operands])))
 obtain ⟨p1,p2⟩:=hps T hT
 have p3:=p2 L hL us vs hu hv w
 rcases hop with rfl | rfl
 ·simp only [execOp,ho,h1,h2,Sem.run_bind,run_eqGuard_agg w .eql T x y us.toArray vs.toArray p1,Result.andThen_ok,run_eql_struct,p3]
  simp
 ·simp only [execOp,ho,h1,h2,Sem.run_bind,run_eqGuard_agg w .neq T x y us.toArray vs.toArray p1,Result.andThen_ok,run_neq_struct,p3]
  simp
theorem Zkg {plain:List TypeId} {op:BinOp} {T T':TypeId} {xo yo:Operand} (hps:VC P plain) (hg:∀ d,(g d).bd n) (ho:o.op = .binOp op T xo yo T')
  (h:(bin P plain op T (Jh P g xo) (Jh P g yo) fun v=>k v [] [] n).wp P R A ρ):Yu tx P R A ρ g o n k:=by
 have bx:=ZF (P:=P) hg xo
 have bY:=ZF (P:=P) hg yo
 generalize hx:Jh P g xo=x at h bx
 generalize hy:Jh P g yo=y at h bY
 have sx:=Ze ρ hx
 have sy:=Ze ρ hy
 unfold bin at h
 split at h
 ·rename_i kx a ky b
  have arith:∀ (i:IOp),kx=ky→Zoo op=some i→(i = .quo∨i = .rem→b.den ρ≠0)→(k (.c (.int kx (.bin i kx a b))) [] [] n).wp P R A ρ→Yu tx P R A ρ g o n k:=by
   intro i hk hi hz hk'
   subst hk
   exact ZY hk' ⟨bx,bY⟩ (ZlR ho hi sx sy hz)
  have comp:∀ (i:COp),kx=ky→ZoU op=some i→(k (.c (.bool (.cmp i a b))) [] [] n).wp P R A ρ→Yu tx P R A ρ g o n k:=by
   intro i hk hi hk'
   subst hk
   exact ZY hk' ⟨bx,bY⟩ (ZlE ho hi sx sy)
  split at h
  ·exact ZY h.2 ⟨bx,bY⟩ (ZcZ ho (.inl ⟨rfl,rfl⟩) sx sy h.1)
  ·exact ZY h.2 ⟨bx,bY⟩ (ZcZ ho (.inr ⟨rfl,rfl⟩) sx sy h.1)
  ·split at h
   ·rename_i hk
    split at h<;>first
     | exact h.elim
     | exact arith _ hk rfl (by simp) h
     | exact arith _ hk rfl (fun _ => h.1) h.2
     | exact comp _ hk rfl h
   ·exact h.elim
 ·rename_i a b
  split at h
  ·exact ZY h ⟨bx,bY⟩ (ZhZ (op:=.eql) ho (.inl rfl) sx sy)
  ·exact ZY h ⟨bx,bY⟩ (ZhZ (op:=.neq) ho (.inr rfl) sx sy)
  ·exact h.elim
 ·rename_i a b
  split at h
  ·rename_i hT
   split at h
   ·exact ZY h ⟨bx,bY⟩ (ZfU (op:=.eql) ho hT (.inl rfl) sx sy)
   ·exact ZY h ⟨bx,bY⟩ (ZfU (op:=.neq) ho hT (.inr rfl) sx sy)
   ·exact h.elim
  ·exact h.elim
 ·rename_i xs ys
  split at h
  ·rename_i e hpl he
   simp only [Zki,Bool.and_eq_true,List.contains_iff_mem] at hpl
   obtain ⟨hT,hk⟩:=hpl
   cases hL:YA P 8 T with
   | none => simp [hL] at hk
   | some L =>
    rw [hL] at hk
    simp only [Bool.and_eq_true] at hk
    obtain ⟨u1,u2,u3⟩:=ZbG ρ L xs hk.1
    obtain ⟨v1,v2,v3⟩:=ZbG ρ L ys hk.2
    have hbd:=Zhw xs ys e bx bY he
    have sx':Zr P (fun d=>(g d).den ρ) xo = .agg ((xs.map (ZdI ρ)).map AV.val):=by rw [sx,← u2];rfl
    have sy':Zr P (fun d=>(g d).den ρ) yo = .agg ((ys.map (ZdI ρ)).map AV.val):=by rw [sy,← v2];rfl
    split at h
    ·refine ZY h hbd ?_
     have:=Zco (o:=o) (op:=.eql) hps hT hL ho (.inl rfl) sx' sy' u1 v1
     rw [if_pos rfl,← ZbR ρ xs ys e he] at this
     exact this
    ·refine ZY h hbd ?_
     have:=Zco (o:=o) (op:=.neq) hps hT hL ho (.inr rfl) sx' sy' u1 v1
     rw [if_neg (by simp),← ZbR ρ xs ys e he] at this
     exact this
    ·exact h.elim
  ·exact h.elim
 ·exact h.elim
end
end Go.AM
end

section
namespace Go.AM
theorem ZiC (ρ:Nat→V) (c:SC):(c.den ρ).isCell=true:=by cases c<;>rfl
theorem Vu {x:SV} {cs:List SC} (ρ:Nat→V) (h:x.cells=some cs):(x.den ρ).cells? = some (cs.map (SC.den ρ)):=by
 cases x with
 | c y =>
  simp only [SV.cells,Option.some.injEq] at h
  subst h
  cases y<;>rfl
 | agg ds =>
  simp only [SV.cells,Option.some.injEq] at h
  subst h
  rfl
 | _ => simp [SV.cells] at h
theorem WP {x:SV} {cs:List SC} {n:Nat} (h:x.cells=some cs) (hx:x.bd n):∀ c∈cs,c.bd n:=by
 cases x with
 | c y =>
  simp only [SV.cells,Option.some.injEq] at h
  subst h
  intro c hc
  simp at hc
  subst hc
  exact hx
 | agg ds =>
  simp only [SV.cells,Option.some.injEq] at h
  subst h
  exact hx
 | _ => simp [SV.cells] at h
theorem Zb1 (ρ:Nat→V) (place:Nat→Option (Nat×Nat)):∀ (parts:List (Nat×SV)) (cells out:List SC),ZdF place cells parts=some out→
  ZbA place (cells.map (SC.den ρ)) (parts.map fun p=>(p.1,p.2.den ρ))=some (out.map (SC.den ρ))
 | [], cells, out, h => by simp only [ZdF, Option.some.injEq] at h; subst h; rfl
 | (i, v) :: parts, cells, out, h => by
  simp only [ZdF] at h
  split at h
  ·rename_i off size vc hp hv
   split at h
   ·rename_i hc
    have ih:=Zb1 ρ place parts _ out h
    simp only [List.map_append,List.map_take,List.map_drop] at ih
    simp only [List.map_cons,ZbA,hp,Vu ρ hv]
    rw [if_pos (by simpa using hc)]
    exact ih
   ·cases h
  ·cases h
theorem ZdR {n:Nat} (place:Nat→Option (Nat×Nat)):∀ (parts:List (Nat×SV)) (cells out:List SC),(∀ c∈cells,c.bd n)→(∀ p∈parts,p.2.bd n)→ZdF place cells parts=some out→∀ c∈out,c.bd n
 | [], cells, out, hc, _, h => by simp only [ZdF, Option.some.injEq] at h; subst h; exact hc
 | (i, v) :: parts, cells, out, hc, hp, h => by
  simp only [ZdF] at h
  split at h
  ·rename_i off size vc hpl hv
   split at h
   ·refine ZdR place parts _ out (fun c hcc=>?_) (fun p hp'=>hp p (by simp [hp'])) h
    rcases List.mem_append.1 hcc with h1 | h1
    ·rcases List.mem_append.1 h1 with h1 | h1
     ·exact hc c (List.mem_of_mem_take h1)
     ·exact WP hv (hp (i,v) (by simp)) c h1
    ·exact hc c (List.mem_of_mem_drop h1)
   ·cases h
  ·cases h
theorem Vz (ρ:Nat→V):∀ (cs:List SC),(Zij cs).den ρ=cs.map (SC.den ρ)
 | [] => rfl
 | c :: cs => by simp only [Zij, CE.den, Vz ρ cs, List.map_cons]
theorem Zah {n:Nat} : ∀ (cs:List SC),(∀ c∈cs,c.bd n)→(Zij cs).bd n
 | [], _ => trivial
 | c :: cs, h => ⟨h c (by simp), Zah cs fun x hx => h x (by simp [hx])⟩
theorem Zjk (ρ:Nat→V) (size:Nat) (cs:List SC):∀ (n:Nat),(lOf size cs n).den ρ=Wi size (cs.map (SC.den ρ)) n
 | 0 => rfl
 | n + 1 => by
  simp only [lOf,LE.den,Zjk ρ size cs n,Vz,Wi,List.range_succ,List.map_append,List.map_cons,List.map_nil,List.map_take,List.map_drop]
theorem Znu {m:Nat} (size:Nat) (cs:List SC) (h:∀ c∈cs,c.bd m):∀ (n:Nat),(lOf size cs n).bd m
 | 0 => trivial
 | n + 1 => ⟨Znu size cs h n, Zah _ fun c hc => h c (List.mem_of_mem_drop (List.mem_of_mem_take hc))⟩
theorem Zdq (P:Program) (ρ:Nat→V) (b:BC):(Zdb P b).den ρ=Yq P (b.den ρ):=by
 cases b with
 | c x => cases x <;> rfl
 | own x e l => rfl
 | gone => rfl
theorem Zbe {cs:List BC} (h:Vf cs=true) (ρ:Nat→V):ZaF (cs.map (BC.den ρ)):=by
 intro c hc e xs he
 obtain ⟨b,hb,rfl⟩:=List.mem_map.1 hc
 unfold Vf at h
 rw [List.all_eq_true] at h
 have:=h b hb
 cases b with
 | c x => cases x <;> cases he
 | own x e l =>
  cases x with
  | false => cases he
  | true => cases this
 | gone => cases he
theorem Vs {cs:List BC} (h:K6 cs=true) (ρ:Nat→V):Whole (cs.map (BC.den ρ)):=by
 intro c hc he
 obtain ⟨b,hb,rfl⟩:=List.mem_map.1 hc
 unfold K6 at h
 rw [List.all_eq_true] at h
 have:=h b hb
 cases b with
 | c x => cases x <;> cases he
 | own x e l => cases he
 | gone => cases this
theorem ZjZ {P:Program} {n:Nat} {b:BC} (h:b.bd n):(Zdb P b).bd n:=by
 cases b<;>exact h
theorem ZmK {P:Program} {T:TypeId} {cs:List BC} (ρ:Nat→V) (n:Nat) (h:Zn9 P T=some cs) :
  ∃ i z,P.info? T=some i∧i.zero=some z∧Zny (cs.map (BC.den ρ)) z.cells.toList∧∀ c∈cs,c.bd n:=by
 unfold Zn9 at h
 split at h
 ·rename_i i hi
  split at h
  ·rename_i z hz
   split at h
   ·rename_i sc hsc
    split at h
    ·rename_i hlen
     simp only [Option.some.injEq] at h
     subst h
     have hl:sc.length=z.cells.toList.length:=by
      have h1:=Ki ρ z.cells.toList
      rw [hsc] at h1
      have h2:=(WN (w:=default) (lim:=fun _=>0) h1.symm).1
      simpa using h2
     refine ⟨i,z,hi,hz,⟨by simp [hlen,hl],fun j x u hx hu=>?_⟩,fun c hc=>?_⟩
     ·rw [List.getElem?_map,List.getElem?_zipWith] at hx
      cases h1:(JR P 8 T)[j]? with
      | none => simp [h1] at hx
      | some e =>
       cases h2:sc[j]? with
       | none => simp [h1, h2] at hx
       | some c =>
        simp only [h1,h2,Option.map_some,Option.some.injEq] at hx
        have hcu:ofC u=some c:=by
         have key:∀ (vs:List Value) (cs:List SC) (j:Nat),ZfK vs=some cs→cs[j]? = some c→vs[j]? = some u→ofC u=some c:=by
          intro vs
          induction vs with
          | nil => intro cs j _ _ h; simp at h
          | cons v vs ih =>
           intro cs j h hc hv
           simp only [ZfK] at h
           split at h
           ·rename_i c' cs' hc' hcs'
            simp only [Option.some.injEq] at h
            subst h
            cases j with
            | zero => simp at hc hv; subst hc; subst hv; exact hc'
            | succ j => exact ih cs' j hcs' (by simpa using hc) (by simpa using hv)
           ·cases h
         exact key _ _ j hsc h2 hu
        have hnorm:(∃ e',ZaP e c = .own false e' .nil∧u = .slice none 0 0)∨ZaP e c = .c c:=by
         cases e with
         | none => right; cases c <;> rfl
         | some e =>
          cases c with
          | slice f s l =>
           cases f with
           | false => right; cases l <;> rfl
           | true =>
            cases l with
            | nil =>
             left
             refine ⟨e,rfl,?_⟩
             unfold ofC at hcu
             split at hcu<;>simp at hcu
             rfl
            | _ => right; rfl
          | _ => right; rfl
        rcases hnorm with ⟨e',h3,h4⟩ | h3
        ·rw [h3] at hx
         exact .inr ⟨_,e',hx.symm,h4⟩
        ·rw [h3] at hx
         left
         rw [← ZgG ρ,hcu,← hx]
         rfl
     ·obtain ⟨j,hj⟩:=List.mem_iff_getElem?.1 hc
      rw [List.getElem?_zipWith] at hj
      cases h1:(JR P 8 T)[j]? with
      | none => simp [h1] at hj
      | some e =>
       cases h2:sc[j]? with
       | none => simp [h1, h2] at hj
       | some c' =>
        simp only [h1,h2,Option.some.injEq] at hj
        subst hj
        have hb:c'.bd n:=Vt hsc c' (List.mem_of_getElem? h2)
        unfold ZaP
        split
        ·trivial
        ·exact hb
    ·cases h
   ·cases h
  ·cases h
 ·cases h
theorem Zix (s:Sh) (n:Nat):(Jg s n).bd (n+1):=by cases s<;>exact Nat.lt_succ_self n
theorem Jq:∀ (l:List Sh) (n:Nat),∀ c∈ZB l n,c.bd (n+l.length)
 | [], n, c, h => by simp [ZB] at h
 | s :: ss, n, c, h => by
  rcases List.mem_cons.1 h with rfl | h
  ·exact SC.bd_mono (by simp) _ (Zix s n)
  ·have:=Jq ss (n+1) c h
   exact SC.bd_mono (by simp only [List.length_cons];omega) _ this
theorem ZlJ (s:Sh) (n:Nat):(Zoh s n).bd (n+1):=by cases s<;>exact Nat.lt_succ_self n
theorem JS:∀ (l:List Sh) (n:Nat),∀ c∈Ka l n,c.bd (n+l.length)
 | [], n, c, h => by simp [Ka] at h
 | s :: ss, n, c, h => by
  rcases List.mem_cons.1 h with rfl | h
  ·exact BC.bd_mono (by simp) _ (ZlJ s n)
  ·have:=JS ss (n+1) c h
   exact BC.bd_mono (by simp only [List.length_cons];omega) _ this
theorem Y4:∀ (aZ:List SV) (n:Nat),n≤(Jm aZ n).2.2
 | [], n => Nat.le_refl n
 | a :: aZ, n => by
  cases a with
  | box cs =>
   simp only [Jm]
   exact Nat.le_trans (Nat.le_add_right _ _) (Y4 aZ _)
  | gbox cs =>
   simp only [Jm]
   exact Nat.le_trans (Nat.le_add_right _ _) (Y4 aZ _)
  | _ => exact Y4 aZ n
theorem ZcS:∀ (aZ:List SV) (n:Nat),(Jm aZ n).1.length=aZ.length
 | [], n => rfl
 | a :: aZ, n => by
  cases a<;>simp only [Jm,List.length_cons,ZcS aZ]
theorem Wp:∀ (aZ:List SV) (n:Nat),∀ x∈(Jm aZ n).1,x.bd (Jm aZ n).2.2
 | [], n, x, h => by simp [Jm] at h
 | a :: aZ, n, x, h => by
  cases a with
  | box cs =>
   simp only [Jm] at h ⊢
   rcases List.mem_cons.1 h with rfl | h
   ·intro c hc
    have h1:=JS (cs.map ZlO) n c hc
    exact BC.bd_mono (Y4 aZ _) _ h1
   ·exact Wp aZ _ x h
  | gbox cs =>
   simp only [Jm] at h ⊢
   rcases List.mem_cons.1 h with rfl | h
   ·intro c hc
    have h1:=JS (cs.map ZlO) n c hc
    exact BC.bd_mono (Y4 aZ _) _ h1
   ·exact Wp aZ _ x h
  | _ =>
   simp only [Jm] at h ⊢
   rcases List.mem_cons.1 h with rfl | h
   ·trivial
   ·exact Wp aZ _ x h
theorem Vy:∀ (aZ:List SV) (n i:Nat) (to:Bool) (cs:List BC) (y:SV),aZ[i]? = some (Zlk to cs)→(Jm aZ n).1[i]? = some y→∃ cs',y=Zlk to cs'
 | [], n, i, to, cs, y, h, _ => by simp at h
 | a :: aZ, n, i, to, cs, y, h, h' => by
  cases i with
  | zero =>
   simp only [List.getElem?_cons_zero,Option.some.injEq] at h
   subst h
   cases to with
   | false =>
    simp only [Zlk,Jm,List.getElem?_cons_zero,Option.some.injEq] at h'
    exact ⟨_,h'.symm⟩
   | true =>
    simp only [Zlk,Jm,List.getElem?_cons_zero,Option.some.injEq] at h'
    exact ⟨_,h'.symm⟩
  | succ i =>
   have h1:aZ[i]? = some (Zlk to cs):=by simpa using h
   cases a with
   | box ds => simp only [Jm, List.getElem?_cons_succ] at h'; exact Vy aZ _ i to cs y h1 h'
   | gbox ds => simp only [Jm, List.getElem?_cons_succ] at h'; exact Vy aZ _ i to cs y h1 h'
   | _ => simp only [Jm, List.getElem?_cons_succ] at h'; exact Vy aZ _ i to cs y h1 h'
theorem Zl6 (r:RSh) (n:Nat):(ZoE r n).1.bd (n+(ZoE r n).2.length):=by
 cases r with
 | c s => cases s <;> exact Nat.lt_succ_self n
 | agg l => exact Jq l n
 | box l => exact Jq l n
 | aggo l => exact Jq l n
theorem Wa {P:Program} {fresh:Nat} : ∀ (Ts:List TypeId) (n:Nat) (vs:List TC) (sh:List Sh) (n':Nat),Wr P fresh Ts n=some (vs,sh,n')→n≤n'∧∀ v∈vs,v.bd n'∧v≠.gone
 | [], n, vs, sh, n', h => by
  simp only [Wr,Option.some.injEq,Prod.mk.injEq] at h
  obtain ⟨rfl,rfl,rfl⟩:=h
  exact ⟨Nat.le_refl _,by simp⟩
 | T :: Ts, n, vs, sh, n', h => by
  simp only [Wr] at h
  split at h
  ·rename_i r hr
   split at h
   ·rename_i vs' sh' m hm
    simp only [Option.some.injEq,Prod.mk.injEq] at h
    obtain ⟨rfl,rfl,rfl⟩:=h
    obtain ⟨h1,h2⟩:=Wa Ts _ vs' sh' m hm
    refine ⟨by omega,fun v hv=>?_⟩
    rcases List.mem_cons.1 hv with rfl | hv
    ·exact ⟨TC.bd_mono h1 _ (Zl6 r n),by cases r with | c s=>cases s<;>exact fun h=>(by cases h) | agg l=>exact fun h=>(by cases h) | box l=>exact fun h=>(by cases h) | aggo l=>exact fun h=>(by cases h)⟩
    ·exact h2 v hv
   ·cases h
  ·cases h
theorem Za3 (ρ:Nat→V) (x:TC):(Zqd x).den ρ=x.den ρ:=by cases x<;>rfl
theorem ZnW {n:Nat} {x:TC} (h:x.bd n):(Zqd x).bd n:=by cases x<;>exact h
theorem Zi8 (ρ:Nat→V) (x:TC) (hx:x≠.gone):Zfk (x.den ρ):=by
 cases x with
 | c y => cases y <;> first | exact .inl (.inl ⟨_, rfl⟩) | exact .inl (.inr (.inr ⟨_, _, _, rfl⟩))
 | agg cs => exact .inl (.inr (.inl ⟨_, rfl⟩))
 | own x e l => exact .inr (.inl ⟨_, _, _, rfl⟩)
 | gone => exact (hx rfl).elim
theorem Zgi {P:Program} {fresh:Nat} {Ts:List TypeId} {n n':Nat} {res:SV} {sh:List Sh} (h:Zel P fresh Ts n=some (res,sh,n')) :
  n≤n'∧res.bd n'∧∀ ρ,Zfk (res.den ρ):=by
 unfold Zel at h
 split at h
 ·rename_i x sh' m hm
  simp only [Option.some.injEq,Prod.mk.injEq] at h
  obtain ⟨rfl,rfl,rfl⟩:=h
  obtain ⟨h1,h2⟩:=Wa Ts n [x] sh' m hm
  exact ⟨h1,ZnW (h2 x (by simp)).1,fun ρ=>by rw [Za3];exact Zi8 ρ x (h2 x (by simp)).2⟩
 ·rename_i vs sh' m _ hm
  simp only [Option.some.injEq,Prod.mk.injEq] at h
  obtain ⟨rfl,rfl,rfl⟩:=h
  obtain ⟨h1,h2⟩:=Wa Ts n vs sh' m hm
  exact ⟨h1,fun v hv=>(h2 v hv).1,fun ρ=>.inr (.inr (.inl ⟨_,rfl⟩))⟩
 ·cases h
theorem Zip {P:Program} {E:Env} {f:FuncId} {Ts:List TypeId} {n n':Nat} {res:SV} {sh:List Sh} (h:Zg5 P E f Ts n=some (res,sh,n')) :
  n≤n'∧res.bd n'∧∀ ρ,Zfk (res.den ρ):=by
 unfold Zg5 at h
 split at h
 ·rename_i l _
  simp only [Option.some.injEq,Prod.mk.injEq] at h
  obtain ⟨rfl,rfl,rfl⟩:=h
  exact ⟨Nat.le_add_right _ _,JS l n,fun ρ=>.inr (.inr (.inr (.inr ⟨_,rfl⟩)))⟩
 ·split at h
  ·rename_i l _
   simp only [Option.some.injEq,Prod.mk.injEq] at h
   obtain ⟨rfl,rfl,rfl⟩:=h
   exact ⟨Nat.le_add_right _ _,JS l n,fun ρ=>.inr (.inr (.inr (.inl ⟨_,rfl⟩)))⟩
  ·exact Zgi h
def SAK.den (ρ:Nat→V):SAK→AK
 | .imm x => .imm (x.den ρ)
 | .own t x e l => .own t x e (l.den ρ)
 | .box d fr to cs => .box d fr to (cs.map (BC.den ρ))
 | .clo g ds gs => .clo g ds gs
 | .ref t d q j => .ref t d q j
 | .pad => .pad
theorem Za0 (ρ:Nat→V) (gh:Bool) (cs:List BC):(Zlk gh cs).den ρ=mkB gh (cs.map (BC.den ρ)):=by cases gh<;>rfl
theorem Zno (ρ:Nat→V) (a:SAK):(a.den ρ).av=a.sv.den ρ:=by
 cases a with
 | box d fr to cs => exact (Za0 ρ to cs).symm
 | _ => rfl
theorem ZaX (ρ:Nat→V) (a:SAK):(a.den ρ).slot=a.slot:=by cases a<;>rfl
theorem ZiK {x:SV} {ρ:Nat→V} {b:Bool} {e:TypeId} {ys:List (List AV)} (h:x.den ρ = .own b e ys):∃ l,x = .own b e l:=by
 cases x with
 | own b' e' l => simp only [SV.den, AV.own.injEq] at h; obtain ⟨rfl, rfl, _⟩ := h; exact ⟨l, rfl⟩
 | c y => cases y <;> cases h
 | _ => cases h
theorem Zgs {x:SV} {ρ:Nat→V} {d q:Nat} (h:x.den ρ = .mref d q):x = .mref d q:=by
 cases x with
 | mref d' q' => simp only [SV.den, AV.mref.injEq] at h; obtain ⟨rfl, rfl⟩ := h; rfl
 | c y => cases y <;> cases h
 | _ => cases h
theorem Ze9 {x:SV} {k:Nat} {e:TypeId} {l:LE} (ρ:Nat→V) (h:Jd x k=some (e,l)):Zo (x.den ρ) k=some (e,l.den ρ):=by
 unfold Jd at h
 split at h
 ·simp only [Option.some.injEq,Prod.mk.injEq] at h
  obtain ⟨rfl,rfl⟩:=h
  rfl
 ·rename_i cs q
  split at h
  ·rename_i e' l' hc
   simp only [Option.some.injEq,Prod.mk.injEq] at h
   obtain ⟨rfl,rfl⟩:=h
   simp only [SV.den,Zo,List.getElem?_map,hc]
   rfl
  ·cases h
 ·rename_i cs q
  split at h
  ·rename_i e' l' hc
   simp only [Option.some.injEq,Prod.mk.injEq] at h
   obtain ⟨rfl,rfl⟩:=h
   simp only [SV.den,Zo,List.getElem?_map,hc]
   rfl
  ·cases h
 ·cases h
theorem Zlv {P:Program} {g:Nat→SV} {x:Operand} {a:SAK} (ρ:Nat→V) (h:Zoa P g x=some a):(a.den ρ).ok P (fun d=>(g d).den ρ) (.op x)∧a.sv.isG=false∧∀ h ds gs,a = .clo h ds gs→gs = []:=by
 unfold Zoa at h
 split at h
 ·rename_i t b e l h1 h2
  simp only [Option.some.injEq] at h
  subst h
  have hx:x = .tmp t:=by cases x<;>simp [ZS] at h1;rw [h1]
  subst hx
  simp only [ZS,Option.map_some,Option.some.injEq] at h2
  exact ⟨⟨rfl,by show (g t).den ρ=_;rw [h2];rfl⟩,rfl,fun _ _ _ h=>by cases h⟩
 ·rename_i hno
  split at h
  ·rename_i v hv
   simp only [Option.some.injEq] at h
   subst h
   refine ⟨.inl ⟨Ze ρ hv,?_⟩,rfl,fun _ _ _ h=>by cases h⟩
   cases v<;>first | exact .inl ⟨_,rfl⟩ | exact .inr (.inr ⟨_,_,_,rfl⟩)
  ·rename_i cs hv
   simp only [Option.some.injEq] at h
   subst h
   exact ⟨.inl ⟨Ze ρ hv,.inr (.inl ⟨_,rfl⟩)⟩,rfl,fun _ _ _ h=>by cases h⟩
  ·rename_i d hv
   split at h
   ·rename_i cs hcs
    split at h
    ·simp only [Option.some.injEq] at h
     subst h
     exact ⟨⟨Ze ρ hv,by show (g d).den ρ=_;rw [hcs];rfl,rfl,rfl⟩,rfl,fun _ _ _ h=>by cases h⟩
    ·cases h
   ·cases h
  ·rename_i f ds hv
   simp only [Option.some.injEq] at h
   subst h
   exact ⟨Ze ρ hv,rfl,fun _ _ _ h=>by cases h;rfl⟩
  ·rename_i d q hv
   split at h
   ·rename_i e l hp
    split at h
    ·rename_i h0
     simp only [Option.some.injEq] at h
     subst h
     refine ⟨.inr ⟨d,q,e,l.den ρ,⟨Ze ρ hv,fun t e' ys hx ht=>?_⟩,Ze9 ρ hp,⟨by omega,h0.2⟩,rfl⟩,rfl,fun _ _ _ h=>by cases h⟩
     obtain ⟨l',hl'⟩:=ZiK (show (g t).den ρ=_ from ht)
     subst hx
     exact hno t true e' l' rfl (by simp only [ZS,Option.map_some,hl'])
    ·cases h
   ·cases h
  ·cases h
def Vb (P:Program) (g:Nat→SV) (ρ:Nat→V) (xs:List ZaM) (aZ:List SAK):Prop:=
 xs.length=aZ.length∧∀ (i:Nat) (x:ZaM) (a:SAK),xs[i]? = some x→aZ[i]? = some a→(a.den ρ).ok P (fun d=>(g d).den ρ) x
theorem Vb.append {P:Program} {g:Nat→SV} {ρ:Nat→V} {xs ys:List ZaM} {aZ bs:List SAK} (h:Vb P g ρ xs aZ) (k:Vb P g ρ ys bs):Vb P g ρ (xs++ys) (aZ++bs):=by
 refine ⟨by rw [List.length_append,List.length_append,h.1,k.1],fun i x a hx ha=>?_⟩
 rcases Nat.lt_or_ge i xs.length with hi | hi
 ·rw [List.getElem?_append_left hi] at hx
  rw [List.getElem?_append_left (by rw [← h.1];exact hi)] at ha
  exact h.2 i x a hx ha
 ·rw [List.getElem?_append_right hi] at hx
  rw [List.getElem?_append_right (by rw [← h.1];exact hi),← h.1] at ha
  exact k.2 _ x a hx ha
def Raw (aZ:List SAK):Prop:=∀ a∈aZ,a.sv.isG=false∧∀ h ds gs,a = .clo h ds gs→gs = []
theorem ZlQ {P:Program} {g:Nat→SV} {x:Operand} {a:SAK} (ρ:Nat→V) (h:Zbp g x=some a):(a.den ρ).ok P (fun d=>(g d).den ρ) (.op x)∧a.sv.isG=false∧(∀ h ds gs,a = .clo h ds gs→gs = [])∧∃ t d q j,a = .ref t d q j:=by
 unfold Zbp at h
 split at h
 ·rename_i t d q h1 h2
  simp only [Option.some.injEq] at h
  subst h
  have hx:x = .tmp t:=by cases x<;>simp [ZS] at h1;rw [h1]
  subst hx
  simp only [ZS,Option.map_some,Option.some.injEq] at h2
  exact ⟨⟨rfl,by show (g t).den ρ=_;rw [h2];rfl⟩,rfl,(fun _ _ _ h=>by cases h),t,d,q,0,rfl⟩
 ·cases h
def Zqa (rf:List Nat) (g:Nat→SV) (xs:List Operand) (aZ:List SAK) (i0:Nat):Prop:=∀ (i:Nat) (a:SAK) (x:Operand),xs[i]? = some x→aZ[i]? = some a→(rf.contains (i0+i)&&(Zbp g x).isSome)=true→∃ t d q j,a = .ref t d q j
theorem WS {P:Program} {g:Nat→SV} {rf:List Nat} (ρ:Nat→V):∀ (xs:List Operand) (i0:Nat) (aZ:List SAK),Zbl P g rf xs i0=some aZ→Vb P g ρ (xs.map .op) aZ∧Raw aZ∧Zqa rf g xs aZ i0
 | [], i0, aZ, h => by simp only [Zbl, Option.some.injEq] at h; subst h; exact ⟨⟨rfl, by simp⟩, by simp [Raw], by simp [Zqa]⟩
 | x :: xs, i0, aZ, h => by
  simp only [Zbl] at h
  split at h
  ·rename_i a as' ha has
   simp only [Option.some.injEq] at h
   subst h
   obtain ⟨⟨h1,h2⟩,h3,h4⟩:=WS ρ xs (i0+1) as' has
   obtain ⟨k1,k2,k3,k4⟩:(a.den ρ).ok P (fun d=>(g d).den ρ) (.op x)∧a.sv.isG=false∧(∀ h ds gs,a = .clo h ds gs→gs = [])∧((rf.contains i0&&(Zbp g x).isSome)=true→∃ t d q j,a = .ref t d q j):=by
    split at ha
    ·obtain ⟨k1,k2,k3,k4⟩:=ZlQ (P:=P) ρ ha
     exact ⟨k1,k2,k3,fun _=>k4⟩
    ·rename_i hn
     obtain ⟨k1,k2,k3⟩:=Zlv ρ ha
     exact ⟨k1,k2,k3,fun h=>(hn h).elim⟩
   refine ⟨⟨by simpa using h1,fun i y b hy hb=>?_⟩,fun b hb=>?_,fun i b y hy hb hc=>?_⟩
   ·cases i with
    | zero =>
     simp only [List.map_cons,List.getElem?_cons_zero,Option.some.injEq] at hy hb
     subst hy
     subst hb
     exact k1
    | succ i => exact h2 i y b (by simpa using hy) (by simpa using hb)
   ·rcases List.mem_cons.1 hb with rfl | hb
    ·exact ⟨k2,k3⟩
    ·exact h3 b hb
   ·cases i with
    | zero =>
     simp only [List.getElem?_cons_zero,Option.some.injEq] at hb hy
     subst hb
     subst hy
     exact k4 hc
    | succ i => exact h4 i b y (by simpa using hy) (by simpa using hb) (by rw [Nat.add_assoc, Nat.add_comm 1 i]; exact hc)
  ·cases h
theorem ZlL {g:Nat→SV} {to:Bool} {d:Nat} {a:SAK} (ρ:Nat→V) (h:Zob g to d=some a):∃ fr cs,a = .box d fr to cs∧(g d).den ρ=mkB fr (cs.map (BC.den ρ)):=by
 unfold Zob at h
 split at h
 ·rename_i cs hcs
  split at h
  ·simp only [Option.some.injEq] at h
   exact ⟨false,cs,h.symm,by rw [hcs];rfl⟩
  ·cases h
 ·rename_i cs hcs
  split at h
  ·simp only [Option.some.injEq] at h
   exact ⟨true,cs,h.symm,by rw [hcs];rfl⟩
  ·cases h
 ·cases h
theorem WF {g:Nat→SV} {to:Bool} (ρ:Nat→V):∀ (ds:List Nat) (aZ:List SAK),WO g to ds=some aZ→aZ.length=ds.length∧∀ (i d:Nat),ds[i]? = some d→∃ fr cs,aZ[i]? = some (.box d fr to cs)∧
  (g d).den ρ=mkB fr (cs.map (BC.den ρ))
 | [], aZ, h => by simp only [WO, Option.some.injEq] at h; subst h; exact ⟨rfl, by simp⟩
 | d :: ds, aZ, h => by
  simp only [WO] at h
  split at h
  ·rename_i a as' ha has
   simp only [Option.some.injEq] at h
   subst h
   obtain ⟨h1,h2⟩:=WF ρ ds as' has
   refine ⟨by simp [h1],fun i e he=>?_⟩
   cases i with
   | zero =>
    simp only [List.getElem?_cons_zero,Option.some.injEq] at he
    subst he
    obtain ⟨fr,cs,rfl,k2⟩:=ZlL ρ ha
    exact ⟨fr,cs,rfl,k2⟩
   | succ i => exact h2 i e (by simpa using he)
  ·cases h
theorem ZnM {P:Program} {g:Nat→SV} (ρ:Nat→V) {ds:List Nat} {aZ:List SAK} (h:WO g false ds=some aZ):Vb P g ρ (ds.map .cap) aZ∧Raw aZ:=by
 obtain ⟨h1,h2⟩:=WF ρ ds aZ h
 refine ⟨⟨by simp [h1],fun i x a hx ha=>?_⟩,fun a ha=>?_⟩
 ·rw [List.getElem?_map] at hx
  cases hd:ds[i]? with
  | none => rw [hd] at hx; cases hx
  | some d =>
   rw [hd] at hx
   simp only [Option.map_some,Option.some.injEq] at hx
   subst hx
   obtain ⟨fr,cs,k1,k2⟩:=h2 i d hd
   rw [k1] at ha
   simp only [Option.some.injEq] at ha
   subst ha
   exact ⟨rfl,k2,rfl⟩
 ·obtain ⟨i,hi⟩:=List.mem_iff_getElem?.1 ha
  have hlt:i < ds.length:=by rw [← h1];exact (List.getElem?_eq_some_iff.1 hi).1
  obtain ⟨fr,cs,k1,_⟩:=h2 i _ (List.getElem?_eq_getElem hlt)
  rw [k1] at hi
  simp only [Option.some.injEq] at hi
  subst hi
  exact ⟨rfl,fun _ _ _ h=>by cases h⟩
theorem Zk2 {P:Program} {g:Nat→SV} (ρ:Nat→V) {ds:List Nat} {aZ:List SAK} (h:WO g true ds=some aZ):Vb P g ρ (ds.map fun _=>.ghost) aZ:=by
 obtain ⟨h1,h2⟩:=WF ρ ds aZ h
 refine ⟨by simp [h1],fun i x a hx ha=>?_⟩
 rw [List.getElem?_map] at hx
 cases hd:ds[i]? with
 | none => rw [hd] at hx; cases hx
 | some d =>
  rw [hd] at hx
  simp only [Option.map_some,Option.some.injEq] at hx
  subst hx
  obtain ⟨fr,cs,k1,k2⟩:=h2 i d hd
  rw [k1] at ha
  simp only [Option.some.injEq] at ha
  subst ha
  exact ⟨k2,rfl⟩
theorem Kr:∀ (aZ:List SAK) (h:FuncId) (ds gs:List Nat),SAK.clo h ds gs∈aZ→∀ d∈ds,d∈Zu aZ
 | [], _, _, _, hm, _, _ => by simp at hm
 | a :: aZ, h, ds, gs, hm, d, hd => by
  have htail:d∈Zu aZ→d∈Zu (a::aZ):=by
   intro hx
   cases a with
   | clo _ _ _ => exact List.mem_append.2 (.inr hx)
   | ref _ _ _ _ =>
    simp only [Zu]
    split
    ·exact hx
    ·exact List.mem_cons_of_mem _ hx
   | _ => exact hx
  rcases List.mem_cons.1 hm with rfl | hm
  ·by_cases hx:d∈Zu aZ
   ·exact htail hx
   ·refine List.mem_append.2 (.inl ?_)
    rw [List.mem_eraseDups,List.mem_filter]
    exact ⟨hd,by simpa using hx⟩
  ·exact htail (Kr aZ h ds gs hm d hd)
theorem Y3:∀ (aZ:List SAK) (t d q j:Nat),SAK.ref t d q j∈aZ→d∈Zu aZ
 | [], _, _, _, _, hm => by simp at hm
 | a :: aZ, t, d, q, j, hm => by
  rcases List.mem_cons.1 hm with rfl | hm
  ·simp only [Zu]
   split
   ·rename_i hx;simpa using hx
   ·exact List.mem_cons_self
  ·have hx:=Y3 aZ t d q j hm
   cases a with
   | clo _ _ _ => exact List.mem_append.2 (.inr hx)
   | ref _ _ _ _ =>
    simp only [Zu]
    split
    ·exact hx
    ·exact List.mem_cons_of_mem _ hx
   | _ => exact hx
theorem Zgw:∀ (l:List Nat) (d:Nat),d∈l→l[Zln d l]? = some d
 | [], _, h => by simp at h
 | x :: xs, d, h => by
  unfold Zln
  split
  ·rename_i hx;rw [hx];rfl
  ·rename_i hx
   rcases List.mem_cons.1 h with rfl | h
   ·exact (hx rfl).elim
   ·simpa using Zgw xs d h
theorem Zjy {P:Program} {σ:Nat→AV} {ρ:Nat→V} {base:Nat} {gh:List Nat} {x:ZaM} {a:SAK} (h:(a.den ρ).ok P σ x):((ZaI base gh a).den ρ).ok P σ x:=by
 cases a with
 | clo f ds gs => cases x <;> exact h
 | ref t d q j => cases x <;> exact h
 | _ => exact h
theorem Zae (ρ:Nat→V) {x:SC} (h:Zan x=true):VZ (x.den ρ)=true:=by cases x<;>first | rfl | cases h
theorem Zdd (ρ:Nat→V) {x:SV} (h:Zhy x=true):ZcA (x.den ρ)=true:=by
 have hcs:∀ cs:List SC,cs.all Zan=true→(cs.map (SC.den ρ)).all VZ=true:=by
  intro cs h
  rw [List.all_eq_true] at h ⊢
  intro y hy
  obtain ⟨z,hz,rfl⟩:=List.mem_map.1 hy
  exact Zae ρ (h z hz)
 have hbs:∀ cs:List BC,cs.all Zkn=true→(cs.map (BC.den ρ)).all VZ=true:=by
  intro cs h
  rw [List.all_eq_true] at h ⊢
  intro y hy
  obtain ⟨z,hz,rfl⟩:=List.mem_map.1 hy
  have:=h z hz
  cases z with
  | c w => exact Zae ρ this
  | own _ _ _ => cases this
  | gone => cases this
 cases x with
 | c y => cases y <;> first | rfl | cases h
 | dead => rfl
 | agg cs => exact hcs cs h
 | box cs => exact hbs cs h
 | gbox cs => exact hbs cs h
 | tuple vs =>
  simp only [Zhy,List.all_eq_true] at h
  simp only [SV.den,ZcA,List.all_eq_true]
  intro y hy
  obtain ⟨z,hz,rfl⟩:=List.mem_map.1 hy
  have:=h z hz
  cases z with
  | c w =>
   have h2:=Zae ρ (show Zan w=true from this)
   cases w<;>first | rfl | cases this
  | agg cs => exact hcs cs this
  | own _ _ _ => cases this
  | gone => cases this
 | _ => cases h
theorem ZeP {P:Program} {g:Nat→SV} {rf:List Nat} (ρ:Nat→V):∀ {args:List Operand} {i0 i:Nat} {x:Operand} {d q:Nat},args[i]? = some x→(rf.contains (i0+i)&&(Zbp g x).isSome)=false→Zr P (fun d=>(g d).den ρ) x = .mref d q→(∀ t e' ys,x = .tmp t→(g t).den ρ≠.own true e' ys)→(d,q)∈V9 P g rf args i0
 | [], _, i, _, _, _, hx, _, _, _ => by simp at hx
 | y :: rest, i0, i, x, d, q, hx, hi, h, hno => by
  have hg:Jh P g x = .mref d q:=Zgs (ρ:=ρ) (by rw [J1];exact h)
  unfold V9
  cases i with
  | zero =>
   simp only [List.getElem?_cons_zero,Option.some.injEq] at hx
   subst hx
   rw [if_neg (by rw [Nat.add_zero] at hi;rw [hi];simp)]
   split
   ·rename_i b e l hb
    cases y with
    | tmp t =>
     simp only [ZS,Option.map_some,Option.some.injEq] at hb
     cases b with
     | true => exact (hno t e (l.den ρ) rfl (by rw [hb]; rfl)).elim
     | false => simp only [Jh, hb] at hg; cases hg
    | _ => simp [ZS] at hb
   ·rw [hg]
    exact List.mem_cons_self
  | succ i =>
   have ih:=ZeP (P:=P) (g:=g) (rf:=rf) ρ (args:=rest) (i0:=i0+1) (i:=i) (by simpa using hx) (by rw [Nat.add_assoc,Nat.add_comm 1 i];exact hi) h hno
   split
   ·exact ih
   ·split
    ·exact ih
    ·split
     ·exact List.mem_cons_of_mem _ ih
     ·exact ih
theorem KJ (ρ:Nat→V):∀ (aZ:List SAK),(∀ a∈aZ,a.sv.isG=false)→((aZ.map (SAK.den ρ)).map AK.av).countP AV.isG=0
 | [], _ => rfl
 | a :: aZ, h => by
  have h0:=h a (by simp)
  have:(a.den ρ).av.isG=false:=by
   rw [Zno]
   cases a with
   | imm x => cases x <;> first | rfl | (rename_i y; cases y <;> rfl) | (simp [SAK.sv, SV.isG] at h0)
   | own t x e l => rfl
   | box d fr to cs => cases to <;> first | rfl | (simp [SAK.sv, Zlk, SV.isG] at h0)
   | clo g ds gs => rfl
   | ref t d q j => rfl
   | pad => rfl
  rw [List.map_cons,List.map_cons,List.countP_cons,KJ ρ aZ fun b hb=>h b (by simp [hb]),this]
  rfl
theorem Ziy {P:Program} {g:Nat→SV} (ρ:Nat→V) {xs:List ZaM} {aZ saks:List SAK} {nt:Nat} (hx:Vb P g ρ xs aZ) (hr:Raw aZ) (h:W6 g nt aZ=some saks) :
  ∃ tail,Vb P g ρ (xs++tail) saks∧(∀ x∈tail,x = .pad∨x = .ghost)∧xs.length+((saks.map (SAK.den ρ)).map AK.av).countP AV.isG≤saks.length∧Zpz (saks.map (SAK.den ρ))∧Zqh (saks.map (SAK.den ρ))∧∀ (i t d q j:Nat),aZ[i]? = some (SAK.ref t d q j)→∃ j',saks[i]? = some (SAK.ref t d q j'):=by
 unfold W6 at h
 split at h
 ·rename_i hg
  simp only [Option.some.injEq] at h
  subst h
  refine ⟨[],by rw [List.append_nil];exact hx,by simp,by rw [KJ ρ aZ fun a ha=>(hr a ha).1,hx.1];exact Nat.le_refl _,fun i f ds gs hi=>?_,fun i t d q j hi=>?_,fun i t d q j hi=>⟨j,hi⟩⟩
  case refine_2=>
   rw [List.getElem?_map] at hi
   cases ha:aZ[i]? with
   | none => rw [ha] at hi; cases hi
   | some a =>
    rw [ha] at hi
    simp only [Option.map_some,Option.some.injEq] at hi
    cases a<;>simp only [SAK.den,reduceCtorEq] at hi
    have:=Y3 aZ _ _ _ _ (List.mem_of_getElem? ha)
    rw [hg] at this
    cases this
  rw [List.getElem?_map] at hi
  cases ha:aZ[i]? with
  | none => rw [ha] at hi; cases hi
  | some a =>
   rw [ha] at hi
   simp only [Option.map_some,Option.some.injEq] at hi
   have hm:=List.mem_of_getElem? ha
   cases a<;>simp only [SAK.den,reduceCtorEq] at hi
   rename_i f' ds' gs'
   simp only [AK.clo.injEq] at hi
   obtain ⟨rfl,rfl,rfl⟩:=hi
   have hgs:=(hr _ hm).2 _ _ _ rfl
   have hds:ds' = []:=by
    refine List.eq_nil_iff_forall_not_mem.2 fun d hd=>?_
    have:=Kr aZ f' ds' gs' hm d hd
    rw [hg] at this
    cases this
   subst hgs
   subst hds
   exact ⟨rfl,fun k d j hk=>by simp at hk⟩
 ·split at h
  ·rename_i hle
   cases hc:WO g true (Zu aZ) with
   | none => rw [hc] at h; cases h
   | some gs =>
    rw [hc] at h
    simp only [Option.map_some,Option.some.injEq] at h
    subst h
    obtain ⟨c1,c2⟩:=WF ρ (Zu aZ) gs hc
    have hpad:Vb P g ρ (List.replicate (nt-aZ.length) ZaM.pad) (List.replicate (nt-aZ.length) SAK.pad):=by
     refine ⟨by simp,fun i x a hx ha=>?_⟩
     have h1:=List.mem_of_getElem? hx
     have h2:=List.mem_of_getElem? ha
     rw [(List.mem_replicate.1 h1).2,(List.mem_replicate.1 h2).2]
     trivial
    have hset:Vb P g ρ xs (aZ.map (ZaI nt (Zu aZ))):=by
     refine ⟨by simp [hx.1],fun i x a hxi ha=>?_⟩
     rw [List.getElem?_map] at ha
     cases hai:aZ[i]? with
     | none => rw [hai] at ha; cases ha
     | some b =>
      rw [hai] at ha
      simp only [Option.map_some,Option.some.injEq] at ha
      subst ha
      exact Zjy (hx.2 i x b hxi hai)
    refine ⟨List.replicate (nt-aZ.length) ZaM.pad++(Zu aZ).map fun _=>ZaM.ghost,?_,fun x hx=>?_,?_,fun i f ds js hi=>?_,fun i t d q j hi=>?_,fun i t d q j hi=>?_⟩
    ·rw [← List.append_assoc]
     exact (hset.append hpad).append (Zk2 ρ hc)
    ·rcases List.mem_append.1 hx with hx | hx
     ·exact .inl (List.mem_replicate.1 hx).2
     ·obtain ⟨_,_,rfl⟩:=List.mem_map.1 hx
      exact .inr rfl
    ·have hz1:(((aZ.map (ZaI nt (Zu aZ))).map (SAK.den ρ)).map AK.av).countP AV.isG=0:=KJ ρ _ fun a ha=>by
      obtain ⟨b,hb,rfl⟩:=List.mem_map.1 ha
      have:=(hr b hb).1
      cases b<;>exact this
     have hz2:(((List.replicate (nt-aZ.length) SAK.pad).map (SAK.den ρ)).map AK.av).countP AV.isG=0:=KJ ρ _ fun a ha=>by
      rw [(List.mem_replicate.1 ha).2];rfl
     have hz3:((gs.map (SAK.den ρ)).map AK.av).countP AV.isG≤gs.length:=by
      have:=List.countP_le_length (p:=AV.isG) (l:=(gs.map (SAK.den ρ)).map AK.av)
      simpa using this
     simp only [List.map_append,List.countP_append,List.length_append,List.length_map,List.length_replicate] at hz1 hz2 hz3 ⊢
     rw [hz1,hz2,hx.1]
     omega
    ·rw [List.getElem?_map] at hi
     have hin:∃ a,(aZ.map (ZaI nt (Zu aZ)))[i]? = some a∧a.den ρ = .clo f ds js:=by
      cases hs:(aZ.map (ZaI nt (Zu aZ))++List.replicate (nt-aZ.length) .pad++gs)[i]? with
      | none => rw [hs] at hi; cases hi
      | some a =>
       rw [hs] at hi
       simp only [Option.map_some,Option.some.injEq] at hi
       rcases Nat.lt_or_ge i aZ.length with h1 | h1
       ·rw [List.append_assoc,List.getElem?_append_left (by simpa using h1)] at hs
        exact ⟨a,hs,hi⟩
       ·rw [List.append_assoc,List.getElem?_append_right (by simpa using h1)] at hs
        rcases List.mem_append.1 (List.mem_of_getElem? hs) with hm | hm
        ·rw [(List.mem_replicate.1 hm).2] at hi;cases hi
        ·obtain ⟨k,hk⟩:=List.mem_iff_getElem?.1 hm
         have hlt:k < (Zu aZ).length:=by rw [← c1];exact (List.getElem?_eq_some_iff.1 hk).1
         obtain ⟨fr,cs,e1,_⟩:=c2 k _ (List.getElem?_eq_getElem hlt)
         rw [e1] at hk
         simp only [Option.some.injEq] at hk
         subst hk
         cases hi
     obtain ⟨a,ha,hden⟩:=hin
     rw [List.getElem?_map] at ha
     cases hai:aZ[i]? with
     | none => rw [hai] at ha; cases ha
     | some b =>
      rw [hai] at ha
      simp only [Option.map_some,Option.some.injEq] at ha
      subst ha
      have hm:=List.mem_of_getElem? hai
      cases b<;>simp only [ZaI,SAK.den,reduceCtorEq] at hden
      rename_i f' ds' gs'
      simp only [AK.clo.injEq] at hden
      obtain ⟨rfl,rfl,rfl⟩:=hden
      refine ⟨by simp,fun k d j hk hj=>?_⟩
      rw [List.getElem?_map,hk] at hj
      simp only [Option.map_some,Option.some.injEq] at hj
      subst hj
      have hd:=Kr aZ f' ds' gs' hm d (List.mem_of_getElem? hk)
      obtain ⟨fr,cs,e1,_⟩:=c2 _ d (Zgw _ d hd)
      refine ⟨fr,cs.map (BC.den ρ),?_⟩
      rw [List.getElem?_map,List.getElem?_append_right (by simp;omega)]
      have:nt+Zln d (Zu aZ)-(aZ.map (ZaI nt (Zu aZ))++List.replicate (nt-aZ.length) SAK.pad).length=Zln d (Zu aZ):=by
       simp;omega
      rw [this,e1]
      rfl
    ·rw [List.getElem?_map] at hi
     have hin:∃ a,(aZ.map (ZaI nt (Zu aZ)))[i]? = some a∧a.den ρ = .ref t d q j:=by
      cases hs:(aZ.map (ZaI nt (Zu aZ))++List.replicate (nt-aZ.length) .pad++gs)[i]? with
      | none => rw [hs] at hi; cases hi
      | some a =>
       rw [hs] at hi
       simp only [Option.map_some,Option.some.injEq] at hi
       rcases Nat.lt_or_ge i aZ.length with h1 | h1
       ·rw [List.append_assoc,List.getElem?_append_left (by simpa using h1)] at hs
        exact ⟨a,hs,hi⟩
       ·rw [List.append_assoc,List.getElem?_append_right (by simpa using h1)] at hs
        rcases List.mem_append.1 (List.mem_of_getElem? hs) with hm | hm
        ·rw [(List.mem_replicate.1 hm).2] at hi;cases hi
        ·obtain ⟨k,hk⟩:=List.mem_iff_getElem?.1 hm
         have hlt:k < (Zu aZ).length:=by rw [← c1];exact (List.getElem?_eq_some_iff.1 hk).1
         obtain ⟨fr,cs,e1,_⟩:=c2 k _ (List.getElem?_eq_getElem hlt)
         rw [e1] at hk
         simp only [Option.some.injEq] at hk
         subst hk
         cases hi
     obtain ⟨a,ha,hden⟩:=hin
     rw [List.getElem?_map] at ha
     cases hai:aZ[i]? with
     | none => rw [hai] at ha; cases ha
     | some b =>
      rw [hai] at ha
      simp only [Option.map_some,Option.some.injEq] at ha
      subst ha
      have hm:=List.mem_of_getElem? hai
      cases b<;>simp only [ZaI,SAK.den,reduceCtorEq] at hden
      rename_i t' d' q' j'
      simp only [AK.ref.injEq] at hden
      obtain ⟨rfl,rfl,rfl,rfl⟩:=hden
      have hd:=Y3 aZ _ _ _ _ hm
      obtain ⟨fr,cs,e1,_⟩:=c2 _ _ (Zgw _ _ hd)
      refine ⟨fr,cs.map (BC.den ρ),?_⟩
      rw [List.getElem?_map,List.getElem?_append_right (by simp;omega)]
      have:nt+Zln d' (Zu aZ)-(aZ.map (ZaI nt (Zu aZ))++List.replicate (nt-aZ.length) SAK.pad).length=Zln d' (Zu aZ):=by
       simp;omega
      rw [this,e1]
      rfl
    ·have hlt:=(List.getElem?_eq_some_iff.1 hi).1
     refine ⟨nt+Zln d (Zu aZ),?_⟩
     rw [List.append_assoc,List.getElem?_append_left (by simpa using hlt),List.getElem?_map,hi]
     rfl
  ·cases h
theorem WV:∀ (l:List Nat),Zdn l=true→l.Nodup
 | [], _ => List.nodup_nil
 | x :: xs, h => by
  simp only [Zdn,Bool.and_eq_true,Bool.not_eq_true',List.contains_eq_mem,decide_eq_false_iff_not] at h
  exact List.nodup_cons.2 ⟨h.1,WV xs h.2⟩
theorem ZmV (ρ:Nat→V) (fr to:Bool) (o:SV):(Zqs fr to o).den ρ=reB fr to (o.den ρ):=by
 cases to with
 | true => cases o <;> first | exact Za0 ρ fr _ | rfl | (rename_i x; cases x <;> rfl)
 | false => cases o <;> first | exact Za0 ρ fr _ | rfl | (rename_i x; cases x <;> rfl)
theorem Zoz {fr to:Bool} {o:SV} {n:Nat} (h:o.bd n):(Zqs fr to o).bd n:=by
 unfold Zqs
 split
 ·cases fr<;>exact h
 ·cases fr<;>exact h
 ·trivial
theorem ZeL (ρ ρ':Nat→V):∀ (aZ:List SAK) (os:List SV),Za8 (aZ.map (SAK.den ρ)) (os.map (SV.den ρ'))=(Zak aZ os).map fun u=>(u.1,u.2.den ρ')
 | [], os => by cases os <;> rfl
 | a :: aZ, [] => by cases a <;> rfl
 | a :: aZ, o :: os => by
  cases a<;>simp only [List.map_cons,SAK.den,Za8,Zak,ZeL ρ ρ' aZ os,ZmV]<;>rfl
theorem K0 {n:Nat} : ∀ (aZ:List SAK) (os:List SV),(∀ o∈os,o.bd n)→∀ u∈Zak aZ os,u.2.bd n
 | [], os, _, u, h => by cases os <;> simp [Zak] at h
 | a :: aZ, [], _, u, h => by cases a <;> simp [Zak] at h
 | a :: aZ, o :: os, ho, u, h => by
  cases a with
  | imm x => exact K0 aZ os (fun o' h' => ho o' (by simp [h'])) u h
  | clo _ _ _ => exact K0 aZ os (fun o' h' => ho o' (by simp [h'])) u h
  | pad => exact K0 aZ os (fun o' h' => ho o' (by simp [h'])) u h
  | own t x e l =>
   rcases List.mem_cons.1 h with rfl | h
   ·trivial
   ·exact K0 aZ os (fun o' h'=>ho o' (by simp [h'])) u h
  | ref t x e l =>
   rcases List.mem_cons.1 h with rfl | h
   ·trivial
   ·exact K0 aZ os (fun o' h'=>ho o' (by simp [h'])) u h
  | box d fr to cs =>
   rcases List.mem_cons.1 h with rfl | h
   ·exact Zoz (ho o (by simp))
   ·exact K0 aZ os (fun o' h'=>ho o' (by simp [h'])) u h
end Go.AM
end

section
namespace Go.AM
theorem us1 {t n:Nat} {x:SV} (h:x.bd n):∀ u∈[(t,x)],u.2.bd n:=by
 intro u hu
 rw [List.mem_singleton] at hu
 subst hu
 exact h
theorem us2 {t t' n:Nat} {x y:SV} (h:x.bd n) (h':y.bd n):∀ u∈[(t,x),(t',y)],u.2.bd n:=by
 intro u hu
 rcases List.mem_cons.1 hu with rfl | hu
 ·exact h
 ·exact us1 h' u hu
theorem Jp {g:Nat→SV} {d:Nat} : ∀ (n:Nat) (u:Nat×SV),u∈ZR g d n↔u.2 = .dead∧u.1 < n∧u.1≠d∧ZcV d (g u.1)=true
 | 0, u => by simp [ZR]
 | n + 1, u => by
  have ih:=Jp (g:=g) (d:=d) n u
  have key:∀ p:Prop,(u∈(if n≠d∧ZcV d (g n)=true then (n,SV.dead)::ZR g d n else ZR g d n)↔p)→(u∈ZR g d (n+1)↔p):=fun p h=>h
  apply key
  split
  ·rename_i h
   rw [List.mem_cons,ih]
   constructor
   ·rintro (rfl | ⟨h1,h2,h3⟩)
    ·exact ⟨rfl,Nat.lt_succ_self n,h.1,h.2⟩
    ·exact ⟨h1,by omega,h3⟩
   ·rintro ⟨h1,h2,h3⟩
    by_cases hn:u.1=n
    ·left
     obtain ⟨a,b⟩:=u
     simp only at h1 hn
     rw [h1,hn]
    ·exact .inr ⟨h1,by omega,h3⟩
  ·rename_i h
   rw [ih]
   constructor
   ·rintro ⟨h1,h2,h3⟩
    exact ⟨h1,by omega,h3⟩
   ·rintro ⟨h1,h2,h3,h4⟩
    refine ⟨h1,?_,h3,h4⟩
    by_cases hn:u.1=n
    ·subst hn;exact (h ⟨h3,h4⟩).elim
    ·omega
theorem Zaf (ρ:Nat→V) (d:Nat) (x:SV):ZcV d x=true↔∃ k,Je (x.den ρ) d k:=by
 cases x with
 | mref d' k' =>
  simp only [ZcV,beq_iff_eq]
  constructor
  ·rintro rfl;exact ⟨k',.inl rfl⟩
  ·rintro ⟨k,h | ⟨_,h⟩⟩ <;> cases h
   rfl
 | eref d' k' i s o =>
  simp only [ZcV,beq_iff_eq]
  constructor
  ·rintro rfl;exact ⟨k',.inr ⟨_,rfl⟩⟩
  ·rintro ⟨k,h | ⟨_,h⟩⟩ <;> cases h
   rfl
 | c y =>
  constructor
  ·intro h;cases h
  ·rintro ⟨k,h | ⟨_,h⟩⟩ <;> cases y<;>cases h
 | _ =>
  constructor
  ·intro h;cases h
  ·rintro ⟨k,h | ⟨_,h⟩⟩ <;> cases h
theorem JL {g:Nat→SV} (ρ:Nat→V) {d top:Nat} (htop:∀ i,top≤i→g i = .dead):Kf (fun d=>(g d).den ρ) d ((ZR g d top).map fun u=>(u.1,u.2.den ρ)):=by
 refine ⟨fun u hu=>?_,fun i k hi hr=>?_⟩
 ·obtain ⟨v,hv,rfl⟩:=List.mem_map.1 hu
  obtain ⟨h1,h2,h3,h4⟩:=(Jp top v).1 hv
  exact ⟨h3,by show v.2.den ρ=_;rw [h1];rfl,(Zaf ρ d _).1 h4⟩
 ·have hr':=(Zaf ρ d (g i)).2 ⟨k,hr⟩
  have hlt:i < top:=by
   rcases Nat.lt_or_ge i top with h | h
   ·exact h
   ·rw [htop i h] at hr';cases hr'
  rw [List.map_map]
  exact List.mem_map.2 ⟨(i,.dead),(Jp top (i,.dead)).2 ⟨rfl,hlt,hi,hr'⟩,rfl⟩
theorem Zfi {g:Nat→SV} (ρ:Nat→V) {top:Nat} (htop:∀ i,top≤i→g i = .dead) {txt:Odr} {d:Nat} {us:Ups} (h:Zh3 txt g top d=some us) :
  (∀ u∈us,u.2 = .dead)∧Yd txt (fun d=>(g d).den ρ) d (us.map fun u=>(u.1,u.2.den ρ)):=by
 unfold Zh3 at h
 split at h
 ·simp only [Option.some.injEq] at h
  subst h
  exact ⟨fun u hu=>((Jp top u).1 hu).1,.inl ⟨rfl,JL ρ htop⟩⟩
 ·split at h
  ·rename_i N M K hN
   simp only [Option.some.injEq] at h
   subst h
   exact ⟨fun u hu=>by simp at hu,.inr ⟨N,M,_,rfl,hN,rfl⟩⟩
  ·cases h
theorem ZhH {P:Program} {e:TypeId} {l:LE} (ρ:Nat→V) (h:mvB P e l=true):Mv P e (l.den ρ):=by
 unfold mvB at h
 rcases Bool.or_eq_true_iff.1 h with h | h
 ·rcases Bool.or_eq_true_iff.1 h with h | h
  ·rcases Bool.or_eq_true_iff.1 h with h | h
   ·exact .inl (by simpa using h)
   ·exact .inr (.inl h)
  ·unfold Zhn at h
   split at h
   ·exact .inr (.inr (.inl rfl))
   ·cases h
 ·exact .inr (.inr (.inr (by simpa using h)))
theorem ZlP {P:Program} {res:SV} (ρ:Nat→V) (h:Zod P res=true):∀ e xs,res.den ρ = .own true e xs→Mv P e xs:=by
 intro e xs he
 cases res with
 | own x e' l =>
  simp only [SV.den,AV.own.injEq] at he
  obtain ⟨rfl,rfl,_⟩:=he
  simp only [Zod,Bool.or_eq_true,Bool.not_eq_true',Option.isNone_iff_eq_none] at h
  exact h.imp id fun h=>.inr (.inr h)
 | c y => cases y <;> cases he
 | _ => cases he
theorem Yc {P:Program} {g:Nat→SV} (ρ:Nat→V) {top:Nat} (htop:∀ i,top≤i→g i = .dead) {txt:Odr} {x:Bool} {t:Nat} {e:TypeId} {l:LE} {us:Ups} (ht:g t = .own x e l) (h:Y8 P txt g top t x e l=some us) :
  ∃ us',us=us'∧(us'.map fun u=>(u.1,u.2.den ρ))=(t,Vn P x e (l.den ρ))::(us'.tail.map fun u=>(u.1,u.2.den ρ))∧((x=false∧(us'.tail.map fun u=>(u.1,u.2.den ρ)) = [])∨Yd txt (fun d=>(g d).den ρ) t (us'.tail.map fun u=>(u.1,u.2.den ρ)))∧(x=true→Mv P e (l.den ρ)):=by
 unfold Y8 at h
 split at h
 ·simp only [Option.some.injEq] at h
  subst h
  exact ⟨_,rfl,rfl,.inl ⟨rfl,rfl⟩,fun h=>by cases h⟩
 ·split at h
  case isFalse=>cases h
  rename_i hmv
  split at h
  ·simp only [Option.some.injEq] at h
   subst h
   exact ⟨_,rfl,rfl,.inr (.inl ⟨rfl,JL ρ htop⟩),fun _=>ZhH ρ hmv⟩
  ·rename_i N M K
   split at h
   ·rename_i hN
    simp only [Option.some.injEq] at h
    subst h
    exact ⟨_,rfl,rfl,.inr (.inr ⟨N,M,_,rfl,hN,rfl⟩),fun _=>ZhH ρ hmv⟩
   ·cases h
theorem Yb {P:Program} {g:Nat→SV} {top n:Nat} {txt:Odr} {x:Bool} {t:Nat} {e:TypeId} {l:LE} {us:Ups} (h:Y8 P txt g top t x e l=some us) (hl:l.bd n):∀ u∈us,u.2.bd n:=by
 unfold Y8 at h
 split at h
 ·simp only [Option.some.injEq] at h
  subst h
  exact us1 hl
 ·split at h
  case isFalse=>cases h
  split at h
  ·simp only [Option.some.injEq] at h
   subst h
   intro u hu
   rcases List.mem_cons.1 hu with rfl | hu
   ·trivial
   ·rw [((Jp top u).1 hu).1];trivial
  ·split at h
   ·simp only [Option.some.injEq] at h
    subst h
    exact us1 trivial
   ·cases h
theorem VJ {cs:List BC} {off m:Nat} (h:Vf ((cs.drop off).take m)=true) (ρ:Nat→V):ZaF (((cs.map (BC.den ρ)).drop off).take m):=by
 rw [← List.map_drop,← List.map_take]
 exact Zbe h ρ
theorem Zc9 {cs:List BC} {off m:Nat} (h:K6 ((cs.drop off).take m)=true) (ρ:Nat→V):Whole (((cs.map (BC.den ρ)).drop off).take m):=by
 rw [← List.map_drop,← List.map_take]
 exact Vs h ρ
theorem ZhW {g:Nat→SV} (ρ:Nat→V) {top:Nat} (htop:∀ i,top≤i→g i = .dead) {txt:Odr} {d:Nat} {cs:List BC} {off m:Nat} (h:(Vf ((cs.drop off).take m)||ZdC txt g top d)=true) :
  ZaF (((cs.map (BC.den ρ)).drop off).take m)∨Yd txt (fun d=>(g d).den ρ) d []:=by
 rcases Bool.or_eq_true_iff.1 h with h | h
 ·exact .inl (VJ h ρ)
 ·right
  unfold ZdC at h
  split at h
  ·simp only [List.isEmpty_iff] at h
   refine .inl ⟨rfl,by simp,fun j q hj hr=>?_⟩
   have:=(JL ρ htop (d:=d)).2 j q hj hr
   rw [h] at this
   exact this
  ·exact .inr ⟨_,_,_,rfl,h,rfl⟩
theorem Ks {x:SV} (ρ:Nat→V) (h:x.isG=false):(x.den ρ).isG=false:=by
 cases x with
 | gbox cs => cases h
 | c y => cases y <;> rfl
 | _ => rfl
theorem ZO {x:SV} {k:Nat} {e:TypeId} {l:LE} (ρ:Nat→V) (h:Jd x k=some (e,l)):Zo (x.den ρ) k=some (e,l.den ρ):=by
 unfold Jd at h
 split at h
 ·simp only [Option.some.injEq,Prod.mk.injEq] at h
  obtain ⟨rfl,rfl⟩:=h
  rfl
 ·rename_i cs q
  split at h
  ·rename_i e' l' hc
   simp only [Option.some.injEq,Prod.mk.injEq] at h
   obtain ⟨rfl,rfl⟩:=h
   simp only [SV.den,Zo,List.getElem?_map,hc]
   rfl
  ·cases h
 ·rename_i cs q
  split at h
  ·rename_i e' l' hc
   simp only [Option.some.injEq,Prod.mk.injEq] at h
   obtain ⟨rfl,rfl⟩:=h
   simp only [SV.den,Zo,List.getElem?_map,hc]
   rfl
  ·cases h
 ·cases h
theorem Jv {x:SV} {k n:Nat} {e:TypeId} {l:LE} (h:Jd x k=some (e,l)) (hb:x.bd n):l.bd n:=by
 unfold Jd at h
 split at h
 ·simp only [Option.some.injEq,Prod.mk.injEq] at h
  obtain ⟨rfl,rfl⟩:=h
  exact hb
 ·rename_i cs q
  split at h
  ·rename_i e' l' hc
   simp only [Option.some.injEq,Prod.mk.injEq] at h
   obtain ⟨rfl,rfl⟩:=h
   exact hb _ (List.mem_of_getElem? hc)
  ·cases h
 ·rename_i cs q
  split at h
  ·rename_i e' l' hc
   simp only [Option.some.injEq,Prod.mk.injEq] at h
   obtain ⟨rfl,rfl⟩:=h
   exact hb _ (List.mem_of_getElem? hc)
  ·cases h
 ·cases h
theorem Jl (ρ:Nat→V) (x:SV) (k:Nat) (b:Bool) (e:TypeId) (l:LE):(Z5 x k b e l).den ρ=Zn (x.den ρ) k b e (l.den ρ):=by
 cases x with
 | own x e' l' => cases k <;> rfl
 | box cs =>
  cases k with
  | zero => rfl
  | succ k => simp only [Z5, SV.den, Zn, List.map_set]; rfl
 | c y => cases y <;> rfl
 | _ => cases k <;> rfl
theorem JD {x:SV} {k n:Nat} {b:Bool} {e:TypeId} {l:LE} (hx:x.bd n) (hl:l.bd n):(Z5 x k b e l).bd n:=by
 unfold Z5
 split
 ·exact hl
 ·intro c hc
  rcases List.mem_or_eq_of_mem_set hc with hc | rfl
  ·exact hx c hc
  ·exact hl
 ·exact hx
section
variable {P:Program} {E:Env} {tx:Odr} {tk:Bool} {R:AV→List AV→Prop} {A:Nat→List V→Prop} {ρ:Nat→V} {g:Nat→SV} {o:Oper} {n:Nat} {k:K}
theorem ZnD {x:Operand} (hg:∀ d,(g d).bd n) (htop:∀ i,E.top≤i→g i = .dead) (ho:o.op = .move x) (h:(JZ P E tx tk g o n k).wp P R A ρ):Yu tx P R A ρ g o n k:=by
 have plain:(k (Jh P g x) [] [] n).wp P R A ρ→Yu tx P R A ρ g o n k:=fun hk=>ZY hk (ZF hg x) (by rw [J1];exact ZeZ (.inl ho))
 simp only [JZ,ho] at h
 split at h
 ·rename_i t
  have ht:=hg t
  split at h
  ·rename_i vs hv
   rw [hv] at ht
   exact We h ht (us1 trivial) (Zi1 ho (by rw [hv];rfl))
  ·rename_i b e xs hv
   rw [hv] at ht
   unfold Zep at h
   split at h
   ·split at h
    ·rename_i hb
     obtain rfl:b=true:=by cases b<;>simp_all
     refine plain ?_
     have:Jh P g (.tmp t) = .mref t 0:=by simp only [Jh,hv]
     rw [this]
     exact h
    split at h
    ·rename_i us hus
     obtain ⟨us',rfl,q1,q2,q3⟩:=Yc ρ htop (t:=t) hv hus
     exact V4 h ht (Yb hus ht) (by rw [q1];exact Zft (.inl ho) (by rw [hv];rfl) q2 q3)
    ·exact h.elim
   ·refine plain ?_
    have:Jh P g (.tmp t)=match b with | true=>.mref t 0 | false=>.c (.slice false (P.cellsOf e) xs):=by simp only [Jh,hv];cases b<;>rfl
    rw [this]
    cases b<;>exact h
  ·exact plain h
 ·exact plain h
theorem Zjn {x:Operand} (hg:∀ d,(g d).bd n) (htop:∀ i,E.top≤i→g i = .dead) (ho:o.op = .assign x) (h:(JZ P E tx tk g o n k).wp P R A ρ):Yu tx P R A ρ g o n k:=by
 have plain:(k (Jh P g x) [] [] n).wp P R A ρ→Yu tx P R A ρ g o n k:=fun hk=>ZY hk (ZF hg x) (by rw [J1];exact ZeZ (.inr ho))
 simp only [JZ,ho] at h
 split at h
 ·rename_i t
  have ht:=hg t
  split at h
  ·exact h.elim
  ·rename_i b e xs hv
   rw [hv] at ht
   unfold Zep at h
   split at h
   ·split at h
    ·rename_i hb
     obtain rfl:b=true:=by cases b<;>simp_all
     refine plain ?_
     have:Jh P g (.tmp t) = .mref t 0:=by simp only [Jh,hv]
     rw [this]
     exact h
    split at h
    ·rename_i us hus
     obtain ⟨us',rfl,q1,q2,q3⟩:=Yc ρ htop (t:=t) hv hus
     exact V4 h ht (Yb hus ht) (by rw [q1];exact Zft (.inr ho) (by rw [hv];rfl) q2 q3)
    ·exact h.elim
   ·refine plain ?_
    have:Jh P g (.tmp t)=match b with | true=>.mref t 0 | false=>.c (.slice false (P.cellsOf e) xs):=by simp only [Jh,hv];cases b<;>rfl
    rw [this]
    cases b<;>exact h
  ·exact plain h
 ·split at h
  ·exact ZY h trivial (Zmz ho)
  ·exact h.elim
 ·exact plain h
theorem ZoA {c a b:Operand} (hg:∀ d,(g d).bd n) (ho:o.op = .pick c a b) (h:(JZ P E tx tk g o n k).wp P R A ρ):Yu tx P R A ρ g o n k:=by
 simp only [JZ,ho] at h
 split at h
 ·rename_i v hv
  obtain ⟨h1,h2⟩:=Zgz h
  have hc:=Ze ρ hv
  have hex:=Zlf ho hc
  cases hb:v.den ρ with
  | true =>
   rw [hb,if_pos rfl] at hex
   exact ZY (h1 hb) (ZF hg a) (by rw [J1];exact hex)
  | false =>
   rw [hb,if_neg (by simp)] at hex
   exact ZY (h2 hb) (ZF hg b) (by rw [J1];exact hex)
 ·exact h.elim
theorem ZmR {T:TypeId} (ho:o.op = .alloc T) (h:(JZ P E tx tk g o n k).wp P R A ρ):Yu tx P R A ρ g o n k:=by
 simp only [JZ,ho] at h
 split at h
 ·rename_i cs hcs
  obtain ⟨i,z,h1,h2,h3,h4⟩:=ZmK ρ n hcs
  exact ZY h h4 (ZiR ho h1 h2 h3)
 ·exact h.elim
theorem Zp3 {T:TypeId} {x:Operand} (hg:∀ d,(g d).bd n) (ho:o.op = .box T x) (h:(JZ P E tx tk g o n k).wp P R A ρ):Yu tx P R A ρ g o n k:=by
 simp only [JZ,ho] at h
 split at h
 ·rename_i cs hcs
  refine ZY h (fun c hc=>?_) ?_
  ·obtain ⟨y,hy,rfl⟩:=List.mem_map.1 hc
   exact WP hcs (ZF hg x) y hy
  ·have hd:=Vu ρ hcs
   have:=ZmD ho (J1 P g ρ x).symm hd
   have he:((SV.box (cs.map .c)).den ρ) = .box (cs.map (SC.den ρ)):=by simp only [SV.den,List.map_map];rfl
   rw [he]
   exact this
 ·exact h.elim
theorem Ze8 (parts:Array (Nat×Operand)):(parts.toList.map fun p=>(p.1,Zr P (fun d=>(g d).den ρ) p.2))=(parts.toList.map fun p=>(p.1,Jh P g p.2)).map fun p=>(p.1,p.2.den ρ):=by
 rw [List.map_map]
 refine List.map_congr_left fun p _=>?_
 simp only [Function.comp,J1]
theorem ZhU (hg:∀ d,(g d).bd n) (parts:Array (Nat×Operand)):∀ p∈(parts.toList.map fun p=>(p.1,Jh P g p.2)),p.2.bd n:=by
 intro p hp
 obtain ⟨q,_,rfl⟩:=List.mem_map.1 hp
 exact ZF hg q.2
theorem Zg7 {T:TypeId} {parts:Array (Nat×Operand)} {f t:Nat} {e:TypeId} {l:LE} (hg:∀ d,(g d).bd n) (htop:∀ i,E.top≤i→g i = .dead) (ho:o.op = .build T parts) (hp:ZgW g parts.toList=some (f,t,e,l)) (h:(ZdK P E tx g T f t e l n k).wp P R A ρ):Yu tx P R A ρ g o n k:=by
 have hparts:parts.toList = [(f,.tmp t)]∧g t = .own true e l:=by
  unfold ZgW at hp
  split at hp
  ·split at hp
   ·rename_i h1 _ _ _ h2
    simp only [Option.some.injEq,Prod.mk.injEq] at hp
    obtain ⟨rfl,rfl,rfl,rfl⟩:=hp
    exact ⟨h1,h2⟩
   ·cases hp
  ·cases hp
 obtain ⟨hp1,ht⟩:=hparts
 have hbl:=hg t
 rw [ht] at hbl
 unfold ZdK at h
 split at h
 ·rename_i fs i hT hi
  split at h
  ·rename_i hall
   split at h
   ·rename_i z fd hz hfd
    split at h
    ·rename_i zc us hzc hus
     split at h
     ·rename_i hh
      have h1:=Ki ρ z.cells.toList
      rw [hzc] at h1
      have hz1:Zac z.cells.toList=some (zc.map (SC.den ρ)):=h1.symm
      obtain ⟨us',rfl,q1,q2,q3⟩:=Yc ρ htop (t:=t) ht hus
      refine V4 h (fun c hc=>?_) (Yb hus hbl) ?_
      ·rcases List.mem_or_eq_of_mem_set hc with hc | rfl
       ·obtain ⟨y,hy,rfl⟩:=List.mem_map.1 hc
        exact Vt hzc y hy
       ·exact hbl
      ·have hod:Yd tx (fun d=>(g d).den ρ) t (us.tail.map fun u=>(u.1,u.2.den ρ)):=by
        rcases q2 with ⟨h0,_⟩ | q2
        ·cases h0
        ·exact q2
       have:=ZcG (zc:=zc.map (SC.den ρ)) ho hp1 hT hi hz hz1 hall hfd hh.1 (by simpa using hh.2) (show (fun d=>(g d).den ρ) t = .own true e (l.den ρ) by show (g t).den ρ=_;rw [ht];rfl) hod
       rw [q1]
       have he:(SV.aggo ((zc.map .c).set fd.offset (.own true e l))).den ρ = .aggo ((zc.map (SC.den ρ)).set fd.offset (.own true e (l.den ρ))):=by
        simp only [SV.den,List.map_set,List.map_map]
        rfl
       rw [he]
       exact this
     ·exact h.elim
    ·exact h.elim
   ·exact h.elim
  ·exact h.elim
 ·exact h.elim
theorem ZlB {T:TypeId} {parts:Array (Nat×Operand)} (hg:∀ d,(g d).bd n) (htop:∀ i,E.top≤i→g i = .dead) (ho:o.op = .build T parts) (h:(JZ P E tx tk g o n k).wp P R A ρ):Yu tx P R A ρ g o n k:=by
 simp only [JZ,ho] at h
 split at h
 ·rename_i f t e l hp
  exact Zg7 hg htop ho hp h
 split at h
 ·rename_i fs i hT hi
  split at h
  ·rename_i hall
   split at h
   ·rename_i z hz
    split at h
    ·rename_i zc hzc
     split at h
     ·rename_i cs hcs
      refine ZY h (ZdR _ _ _ _ (Vt hzc) (ZhU hg parts) hcs) ?_
      have h1:=Ki ρ z.cells.toList
      rw [hzc] at h1
      refine ZiY ho hT hi hz h1.symm hall ?_
      rw [Ze8]
      exact Zb1 ρ _ _ _ _ hcs
     ·exact h.elim
    ·exact h.elim
   ·exact h.elim
  ·exact h.elim
 ·exact h.elim
theorem Vj {w:World} {lim:Nat→Nat} {f g:Bool} {s s':Nat} {v:Value} (hg:g=true→f=true) (h:Rep w lim (.slice f s []) v):Rep w lim (.slice g s' []) v:=by
 have key:∀ (y:AV),Rep w lim y v→y = .slice f s []→Rep w lim (.slice g s' []) v:=by
  intro y hy hye
  cases hy with
  | sliceN => exact .sliceN
  | @sliceE f' s2 a cap hf =>
   injection hye with h1 h2 h3
   exact .sliceE fun h=>hf (h1.trans (hg h))
  | @sliceC f' s2 xs b o cap us hs hc hf hle hlim hus hcell hr =>
   injection hye with h1 h2 h3
   subst h3
   exact .sliceE fun h=>by have:=hf (h1.trans (hg h));simpa using this
  | val _ => cases hye
  | agg _ _ _ => cases hye
  | nest => cases hye
 exact key _ h rfl
theorem ZgF {w:World} {lim:Nat→Nat} {f:Bool} {s:Nat} {xs:List (List AV)} {v:Value} (h:Rep w lim (.slice f s xs) v):Rep w lim (.slice false s xs) v:=by
 have key:∀ (y:AV),Rep w lim y v→y = .slice f s xs→Rep w lim (.slice false s xs) v:=by
  intro y hy hye
  cases hy with
  | sliceN => injection hye with h1 h2 h3; subst h3; exact .sliceN
  | @sliceE f' s2 a cap hf => injection hye with h1 h2 h3; subst h3; exact .sliceE fun h => by cases h
  | @sliceC f' s2 xs b o cap us hs hc hf hle hlim hus hcell hr =>
   injection hye with h1 h2 h3
   subst h2
   subst h3
   exact .sliceC hs hc (fun h=>by cases h) hle hlim hus hcell hr
  | val _ => cases hye
  | agg _ _ _ => cases hye
  | nest => cases hye
 exact key _ h rfl
theorem ZlU (ρ:Nat→V) {s:Sh} {c c':SC} (h:Zkh s c=some c'):∀ (w:World) (lim:Nat→Nat) (u:Value),Rep w lim (c.den ρ) u→Rep w lim (c'.den ρ) u:=by
 unfold Zkh at h
 split at h
 ·split at h
  ·simp only [Option.some.injEq] at h
   subst h
   rename_i hk
   subst hk
   exact fun w lim u hr=>ZgF hr
  ·split at h
   ·simp only [Option.some.injEq] at h
    subst h
    exact fun w lim u hr=>Vj (fun h=>by cases h) hr
   ·cases h
 ·simp only [Option.some.injEq] at h
  subst h
  exact fun _ _ _ h=>h
theorem Zmp {n:Nat} {s:Sh} {c c':SC} (h:Zkh s c=some c') (hb:c.bd n):c'.bd n:=by
 unfold Zkh at h
 split at h
 ·split at h
  ·simp only [Option.some.injEq] at h
   subst h
   exact hb
  ·split at h
   ·simp only [Option.some.injEq] at h
    subst h
    trivial
   ·cases h
 ·simp only [Option.some.injEq] at h
  subst h
  exact hb
theorem Ku {n:Nat} : ∀ (l:List Sh) (cs cs':List SC),YO l cs=some cs'→(∀ c∈cs,c.bd n)→∀ c∈cs',c.bd n
 | [], [], _, h, _ => by simp only [YO, Option.some.injEq] at h; subst h; simp
 | [], _ :: _, _, h, _ => by simp [YO] at h
 | _ :: _, [], _, h, _ => by simp [YO] at h
 | s :: ss, c :: cs, r, h, hb => by
  simp only [YO] at h
  split at h
  ·rename_i v vs hv hvs
   simp only [Option.some.injEq] at h
   subst h
   intro x hx
   rcases List.mem_cons.1 hx with rfl | hx
   ·exact Zmp hv (hb c (by simp))
   ·exact Ku ss cs vs hvs (fun y hy=>hb y (by simp [hy])) x hx
  ·cases h
theorem ZfI (ρ:Nat→V):∀ (l:List Sh) (cs cs':List SC),YO l cs=some cs'→cs'.length=cs.length∧∀ (i:Nat) (c:SC),cs'[i]? = some c→∃ c0,cs[i]? = some c0∧∀ (w:World) (lim:Nat→Nat) (u:Value),Rep w lim (c0.den ρ) u→Rep w lim (c.den ρ) u
 | [], [], _, h => by simp only [YO, Option.some.injEq] at h; subst h; exact ⟨rfl, by simp⟩
 | [], _ :: _, _, h => by simp [YO] at h
 | _ :: _, [], _, h => by simp [YO] at h
 | s :: ss, c :: cs, r, h => by
  simp only [YO] at h
  split at h
  ·rename_i v vs hv hvs
   simp only [Option.some.injEq] at h
   subst h
   obtain ⟨h1,h2⟩:=ZfI ρ ss cs vs hvs
   refine ⟨by simp [h1],fun i x hx=>?_⟩
   cases i with
   | zero =>
    simp only [List.getElem?_cons_zero,Option.some.injEq] at hx
    subst hx
    exact ⟨c,rfl,ZlU ρ hv⟩
   | succ i => exact h2 i x (by simpa using hx)
  ·cases h
theorem Vw (ρ:Nat→V) (l:List Sh) (cs cs':List SC) (h:YO l cs=some cs'):(cs'.map (SC.den ρ)).length=(cs.map (SC.den ρ)).length∧
  ∀ (w:World) (lim:Nat→Nat) (us:List Value),Yf w lim (cs.map (SC.den ρ)) us→Yf w lim (cs'.map (SC.den ρ)) us:=by
 obtain ⟨h1,h2⟩:=ZfI ρ l cs cs' h
 refine ⟨by simp [h1],fun w lim us hr=>⟨by rw [← hr.1];simp [h1],fun x hx=>?_,fun i x u hx hu=>?_⟩⟩
 ·obtain ⟨y,_,rfl⟩:=List.mem_map.1 hx
  exact ZiC ρ y
 ·rw [List.getElem?_map] at hx
  cases hc:cs'[i]? with
  | none => rw [hc] at hx; cases hx
  | some c =>
   rw [hc] at hx
   simp only [Option.map_some,Option.some.injEq] at hx
   subst hx
   obtain ⟨c0,g1,g2⟩:=h2 i c hc
   exact g2 w lim u (hr.2.2 i _ u (by rw [List.getElem?_map,g1];rfl) hu)
theorem Zgc (ρ:Nat→V) (s:Sh) (c:SC):(∀ n,c.bd n→(Zo4 s c).bd n)∧((c.den ρ).isCell=true→((Zo4 s c).den ρ).isCell=true)∧∀ (w:World) (lim:Nat→Nat) (u:Value),Rep w lim (c.den ρ) u→Rep w lim ((Zo4 s c).den ρ) u:=by
 unfold Zo4
 split
 ·exact ⟨fun _ h=>h,fun _=>rfl,fun w lim u h=>Vj (fun h=>h) h⟩
 ·exact ⟨fun _ h=>h,fun h=>h,fun _ _ _ h=>h⟩
theorem ZgR (ρ:Nat→V):∀ (l:List Sh) (cs:List SC),(ZlW l cs).length=cs.length∧∀ (i:Nat) (c:SC),(ZlW l cs)[i]? = some c→∃ c0 s,cs[i]? = some c0∧(c=c0∨c=Zo4 s c0)
 | [], cs => by cases cs <;> exact ⟨rfl, fun i c h => ⟨c, .bool, h, .inl rfl⟩⟩
 | s :: ss, [] => ⟨rfl, fun i c h => by simp [ZlW] at h⟩
 | s :: ss, c :: cs => by
  obtain ⟨h1,h2⟩:=ZgR ρ ss cs
  refine ⟨by simp [ZlW,h1],fun i x hx=>?_⟩
  cases i with
  | zero =>
   simp only [ZlW,List.getElem?_cons_zero,Option.some.injEq] at hx
   exact ⟨c,s,rfl,.inr hx.symm⟩
  | succ i => exact h2 i x (by simpa [ZlW] using hx)
theorem Zpp {n:Nat} (P:Program) (T:TypeId) {vc:List SC} (h:∀ c∈vc,c.bd n):∀ c∈nrm P T vc,c.bd n:=by
 unfold nrm
 split
 ·rename_i sh _
  intro c hc
  obtain ⟨i,hi⟩:=List.mem_iff_getElem?.1 hc
  obtain ⟨c0,s,h0,e | e⟩:=(ZgR (fun _=>.i 0) sh vc).2 i c hi
  ·rw [e];exact h c0 (List.mem_of_getElem? h0)
  ·rw [e];exact (Zgc (fun _=>.i 0) s c0).1 n (h c0 (List.mem_of_getElem? h0))
 ·exact h
theorem ZpM (ρ:Nat→V) (P:Program) (T:TypeId) (vc:List SC):((nrm P T vc).map (SC.den ρ)).length=(vc.map (SC.den ρ)).length∧
  ∀ (w:World) (lim:Nat→Nat) (us:List Value),Yf w lim (vc.map (SC.den ρ)) us→Yf w lim ((nrm P T vc).map (SC.den ρ)) us:=by
 unfold nrm
 split
 ·rename_i sh _
  obtain ⟨h1,h2⟩:=ZgR ρ sh vc
  have hat:∀ (i:Nat) (x:AV),((ZlW sh vc).map (SC.den ρ))[i]? = some x→∃ x0,(vc.map (SC.den ρ))[i]? = some x0∧(x0.isCell=true→x.isCell=true)∧∀ (w:World) (lim:Nat→Nat) (u:Value),Rep w lim x0 u→Rep w lim x u:=by
   intro i x hx
   rw [List.getElem?_map] at hx
   obtain ⟨c,hc,rfl⟩:=Option.map_eq_some_iff.1 hx
   obtain ⟨c0,s,h0,e | e⟩:=h2 i c hc
   ·subst e
    exact ⟨_,by rw [List.getElem?_map,h0];rfl,fun h=>h,fun _ _ _ h=>h⟩
   ·subst e
    exact ⟨_,by rw [List.getElem?_map,h0];rfl,(Zgc ρ s c0).2.1,(Zgc ρ s c0).2.2⟩
  refine ⟨by simp [h1],fun w lim us hr=>⟨by rw [← hr.1];simp [h1],fun x hx=>?_,fun i x u hx hu=>?_⟩⟩
  ·obtain ⟨i,hi⟩:=List.mem_iff_getElem?.1 hx
   obtain ⟨x0,h0,h3,_⟩:=hat i x hi
   exact h3 (hr.2.1 x0 (List.mem_of_getElem? h0))
  ·obtain ⟨x0,h0,_,h4⟩:=hat i x hx
   exact h4 w lim u (hr.2.2 i x0 u h0 hu)
 ·exact ⟨rfl,fun _ _ _ h=>h⟩
theorem Zgv (o:BC) (x:SC):Zmr o x = .c x∨∃ e s,Zmr o x = .own true e .nil∧x = .slice true s .nil:=by
 unfold Zmr
 split
 ·exact .inr ⟨_,_,rfl,rfl⟩
 ·exact .inl rfl
theorem ZcX:∀ (os:List BC) (xs:List SC),(YN os xs).length=xs.length
 | [], xs => by simp [YN]
 | _ :: _, [] => rfl
 | _ :: os, _ :: xs => by simp [YN, ZcX os xs]
theorem WC:∀ (os:List BC) (xs:List SC) (i:Nat) (y:BC),(YN os xs)[i]? = some y→∃ x,xs[i]? = some x∧(y = .c x∨∃ e s,y = .own true e .nil∧x = .slice true s .nil)
 | [], xs, i, y, h => by
  simp only [YN,List.getElem?_map] at h
  obtain ⟨x,hx,rfl⟩:=Option.map_eq_some_iff.1 h
  exact ⟨x,hx,.inl rfl⟩
 | _ :: _, [], i, y, h => by simp [YN] at h
 | o :: _, x :: _, 0, y, h => by
  simp only [YN,List.getElem?_cons_zero,Option.some.injEq] at h
  subst h
  exact ⟨x,rfl,Zgv o x⟩
 | o :: os, x :: xs, i + 1, y, h => by
  simp only [YN,List.getElem?_cons_succ] at h
  obtain ⟨x',h1,h2⟩:=WC os xs i y h
  exact ⟨x',by simpa using h1,h2⟩
theorem Zks {n:Nat} (os:List BC) (xs:List SC) (h:∀ c∈xs,c.bd n):∀ c∈YN os xs,c.bd n:=by
 intro c hc
 obtain ⟨i,hi⟩:=List.mem_iff_getElem?.1 hc
 obtain ⟨x,h1,rfl | ⟨e,s,rfl,rfl⟩⟩:=WC os xs i c hi
 ·exact h x (List.mem_of_getElem? h1)
 ·trivial
theorem Zn6 {P:Program} (ρ:Nat→V) (os:List BC) {vc0:List AV} {xs:List SC}
  (h:(xs.map (SC.den ρ)).length=vc0.length∧∀ (w:World) (lim:Nat→Nat) (us:List Value),Yf w lim vc0 us→Yf w lim (xs.map (SC.den ρ)) us) :
  ((YN os xs).map (BC.den ρ)).length=vc0.length∧∀ (w:World) (lim:Nat→Nat) (us:List Value),Yf w lim vc0 us→
   (∀ z∈(YN os xs).map (BC.den ρ),WZ z)∧∀ (j:Nat) (z:AV) (u:Value),((YN os xs).map (BC.den ρ))[j]? = some z→us[j]? = some u→JW P w lim none z u:=by
 refine ⟨by rw [List.length_map,ZcX,← h.1,List.length_map],fun w lim us hr=>?_⟩
 have hr:=h.2 w lim us hr
 refine ⟨fun z hz=>?_,fun j z u hz hu=>?_⟩
 ·obtain ⟨y,hy,rfl⟩:=List.mem_map.1 hz
  obtain ⟨i,hi⟩:=List.mem_iff_getElem?.1 hy
  obtain ⟨x,h1,rfl | ⟨e,s,rfl,rfl⟩⟩:=WC os xs i y hi
  ·exact .inl (hr.2.1 _ (List.mem_map.2 ⟨x,List.mem_of_getElem? h1,rfl⟩))
  ·exact .inr (.inl ⟨_,_,_,rfl⟩)
 ·rw [List.getElem?_map] at hz
  obtain ⟨y,hy,rfl⟩:=Option.map_eq_some_iff.1 hz
  obtain ⟨x,h1,he⟩:=WC os xs j y hy
  have hx:(xs.map (SC.den ρ))[j]? = some (x.den ρ):=by rw [List.getElem?_map,h1];rfl
  have hc:=hr.2.1 _ (List.mem_of_getElem? hx)
  have hrep:=hr.2.2 j _ u hx hu
  rcases he with rfl | ⟨e,s,rfl,rfl⟩
  ·show JW P w lim none (x.den ρ) u
   cases hxd:x.den ρ<;>rw [hxd] at hc hrep<;>simp [AV.isCell] at hc<;>exact hrep
  ·exact Za4 (s:=s) hrep
theorem Zeq {T:TypeId} {len:Nat} {parts:Array (Nat×Operand)} (hg:∀ d,(g d).bd n) (ho:o.op = .buildSlice T len parts) (h:(JZ P E tx tk g o n k).wp P R A ρ):Yu tx P R A ρ g o n k:=by
 simp only [JZ,ho] at h
 split at h
 ·rename_i e hT
  split at h
  ·rename_i i hi
   split at h
   ·rename_i z hz
    split at h
    ·rename_i zc hzc
     split at h
     ·rename_i hh
      split at h
      ·rename_i cs sh hcs hsh
       split at h
       ·rename_i cs' hcs'
        have hb:∀ c∈cs,c.bd n:=ZdR _ _ _ _ (fun c hc=>by
         obtain ⟨l,hl,hc⟩:=List.mem_flatten.1 hc
         rw [(List.mem_replicate.1 hl).2] at hc
         exact Vt hzc c hc) (ZhU hg parts) hcs
        refine ZY h (x:=.own _ e _) (Znu _ _ (Ku _ _ _ hcs' hb) _) ?_
        have h1:=Ki ρ z.cells.toList
        rw [hzc] at h1
        have h2:=Zb1 ρ _ _ _ _ hcs
        rw [← Ze8,List.map_flatten,List.map_replicate] at h2
        have:=Zba (E.exO o) ho hT hi hz h1.symm hh.1 hh.2.1 hh.2.2.1 hh.2.2.2 h2 (Vw ρ _ _ _ hcs')
        rw [← Zjk] at this
        exact this
       ·exact h.elim
      ·exact h.elim
     ·exact h.elim
    ·exact h.elim
   ·exact h.elim
  ·exact h.elim
 ·exact h.elim
theorem Zhh (ρ:Nat→V) (x:SC):Yq P (x.den ρ)=x.den ρ:=by cases x<;>rfl
theorem Zfa {a:Operand} {p:Nat×Nat×TypeId×LE×IE×Nat×Nat} (h:ZcP P g a=some p):∃ d q e l i s off,p=(d,q,e,l,i,s,off)∧Jh P g a = .eref d q i s off∧Jd (g d) q=some (e,l)∧Zg P e=true:=by
 unfold ZcP at h
 split at h
 ·rename_i d q i s off ha
  split at h
  ·rename_i e l hp
   split at h
   ·rename_i hd
    simp only [Option.some.injEq] at h
    exact ⟨d,q,e,l,i,s,off,h.symm,ha,hp,hd⟩
   ·cases h
  ·cases h
 ·cases h
theorem Ve:∀ (l:List Sh) (n:Nat),(ZB l n).length=l.length
 | [], _ => rfl
 | s :: l, n => by simp only [ZB, List.length_cons, Ve l]
theorem Zh7 {xs:List (List AV)} {i off m:Nat} {c:List AV} (h:(Ziz (Kz xs i off m) off m)[i]? = some c) (hc:c.length=m):∃ row,xs[i]? = some row∧c=((row.drop off).take m).map Zaq∧(0 < m→off+m≤row.length):=by
 unfold Ziz Kz at h
 rw [List.getElem?_map,List.getElem?_modify] at h
 cases hr:xs[i]? with
 | none => rw [hr] at h; cases h
 | some row =>
  rw [hr] at h
  simp only [Option.map_eq_map,Option.map_some,Option.some.injEq,↓reduceIte] at h
  refine ⟨row,rfl,?_,?_⟩
  ·rcases Nat.lt_or_ge off row.length with hlt | hge
   ·have hl:(row.take off).length=off:=by rw [List.length_take];omega
    rw [List.append_assoc,List.drop_append_of_le_length (by omega),List.drop_of_length_le (by omega),List.nil_append] at h
    have hm:(List.map Zaq (List.take m (List.drop off row))).length≤m:=by simp;omega
    rcases Nat.lt_or_ge (row.length-off) m with h1 | h1
    ·have hd:row.drop (off+m) = []:=List.drop_of_length_le (by omega)
     rw [hd,List.append_nil] at h
     rw [← h,List.take_of_length_le hm]
    ·have hm':(List.map Zaq (List.take m (List.drop off row))).length=m:=by simp;omega
     rw [List.take_append_of_le_length (by omega),List.take_of_length_le (by omega)] at h
     exact h.symm
   ·have hd:row.drop off = []:=List.drop_of_length_le hge
    rw [hd,List.take_nil,List.map_nil,List.append_nil,List.take_of_length_le hge,List.drop_of_length_le (show row.length≤off+m by omega),List.append_nil,hd,List.take_nil] at h
    rw [← h,hd,List.take_nil,List.map_nil]
  ·intro hm
   rw [← h] at hc
   simp only [List.length_take,List.length_drop,List.length_append,List.length_map] at hc
   omega
theorem ZcN {T:TypeId} {a:Operand} {agg:Bool} {d q:Nat} {e:TypeId} {l:LE} {i:IE} {off:Nat} (hg:∀ d,(g d).bd n) (ho:o.op = .load T a) (ha:Jh P g a = .eref d q i (P.cellsOf (bT e)) off) (hp:Jd (g d) q=some (e,l)) (hdp:Zg P e=true) (hfit:off+P.cellsOf T≤P.cellsOf (bT e)) (h0:0 < P.cellsOf T)
  (hng:(g d).isG=false) (hT:Z0 P T=some agg) (h:(ZdZ P g T agg d q e l i off n k).wp P R A ρ):Yu tx P R A ρ g o n k:=by
 unfold ZdZ at h
 split at h
 case h_2=>exact h.elim
 rename_i sh hsh
 split at h
 case isFalse=>exact h.elim
 rename_i hl
 obtain ⟨hl,hag⟩:=hl
 obtain ⟨vs,w1,w2,w3⟩:=h
 have hbl:=Jv hp (hg d)
 have hbi:=ZF (P:=P) hg a
 rw [ha] at hbi
 have hbi:i.bd n:=hbi
 obtain ⟨row,r1,r2,r3⟩:=Zh7 w2 (by rw [List.length_map,Ve,hl])
 have r3:=r3 h0
 have hat:=ZO ρ hp
 have hbd:=Jq sh n
 have hle:n≤n+sh.length:=Nat.le_add_right _ _
 have hld:∀ x:LE,x.bd n→x.den (bind ρ n vs)=x.den ρ:=fun x hx=>LE.den_congr (YB ρ n vs) x hx
 have hlb:(LE.fn (.dfz1 off (P.cellsOf T)) l i .nil .nil).bd n:=⟨hbl,hbi,trivial,trivial⟩
 have hup:((Z5 (g d) q true e (.fn (.dfz1 off (P.cellsOf T)) l i .nil .nil)).den (bind ρ n vs))=Zn ((g d).den ρ) q true e (Kz (l.den ρ) (i.den ρ).toNat off (P.cellsOf T)):=by
  rw [Jl,SV.den_congr (YB ρ n vs) (g d) (hg d),hld _ hlb]
  rfl
 refine ⟨bind ρ n vs,n+sh.length,_,_,[d],hle,YB ρ n vs,?_,?_,w3,?_⟩
 ·cases agg with
  | true => exact hbd
  | false =>
   show SV.bd _ (match ZB sh n with | [x]=>.c x | _=>.dead)
   split
   ·rename_i x hx;exact hbd x (by rw [hx];simp)
   ·trivial
 ·intro u hu
  rw [List.mem_singleton] at hu
  subst hu
  exact SV.bd_mono hle _ (JD (hg d) hlb)
 ·rw [List.map_cons,List.map_nil]
  show YY tx P o _ _ [(d,(Z5 (g d) q true e (.fn (.dfz1 off (P.cellsOf T)) l i .nil .nil)).den (bind ρ n vs))] [d]
  rw [hup]
  cases agg with
  | true =>
   have:=WK ho hT (Ze ρ ha) (show Zo ((fun d=>(g d).den ρ) d) q=_ from hat) (Ks ρ hng) r1 hfit hdp
   rw [← r2] at this
   exact this.t
  | false =>
   have hl1:sh.length=1:=by rcases hag with h | h;cases h;exact h
   obtain ⟨s1,rfl⟩:=List.length_eq_one_iff.1 hl1
   have hT1:P.cellsOf T=1:=by rw [← hl];rfl
   rw [hT1] at r2 r3 hfit ⊢
   obtain ⟨x,hx⟩:∃ x,row[off]? = some x:=⟨row[off]'(by omega),List.getElem?_eq_getElem (by omega)⟩
   have e1:(row.drop off).take 1 = [x]:=by rw [List.take_one,List.head?_drop,hx];rfl
   rw [e1] at r2
   have:=VX ho hT (Ze ρ ha) (show Zo ((fun d=>(g d).den ρ) d) q=_ from hat) (Ks ρ hng) r1 hx hfit hdp
   simp only [ZB,List.map_cons,List.map_nil,List.cons.injEq,and_true] at r2
   rw [← r2] at this
   exact this.t
theorem ZnB {xs:List (List AV)} {i:Int} {o' s:Nat} {e:TypeId} (h:qop (.nst o' s e) xs i=true):∃ row ys,xs[i.toNat]? = some row∧row[o']? = some (.nest s true e ys)∧Wg xs i.toNat o'=ys:=by
 simp only [qop] at h
 cases hr:xs[i.toNat]? with
 | none => rw [hr] at h; cases h
 | some row =>
  rw [hr] at h
  simp only [Option.bind_some] at h
  split at h
  ·rename_i s' e' ys hz
   simp only [Bool.and_eq_true,beq_iff_eq] at h
   obtain ⟨rfl,rfl⟩:=h
   exact ⟨row,ys,rfl,hz,by simp only [Wg,hr,Option.bind_some,hz]⟩
  ·cases h
theorem KU {l:LE} {i:IE} : ∀ (cs:List BC) (j:Nat) {t:STree},(ZaV P l i cs j t).wp P R A ρ→t.wp P R A ρ∧∀ (k:Nat) (x:Bool) (e:TypeId) (v:LE),cs[k]? = some (.own x e v)→qop (.nst (j+k) (P.cellsOf e) e) (l.den ρ) (i.den ρ)=true
 | [], j, t, h => ⟨h, fun k x e v hk => by simp at hk⟩
 | .own x e v :: cs, j, t, h => by
  obtain ⟨h1,h2⟩:=h
  obtain ⟨g1,g2⟩:=KU cs (j+1) h2
  refine ⟨g1,fun k x' e' v' hk=>?_⟩
  cases k with
  | zero =>
   simp only [List.getElem?_cons_zero,Option.some.injEq,BC.own.injEq] at hk
   obtain ⟨_,rfl,_⟩:=hk
   exact h1
  | succ k => rw [show j + (k + 1) = j + 1 + k by omega]; exact g2 k x' e' v' (by simpa using hk)
 | .c _ :: cs, j, t, h => by
  obtain ⟨g1,g2⟩:=KU cs (j+1) h
  refine ⟨g1,fun k x' e' v' hk=>?_⟩
  cases k with
  | zero => simp at hk
  | succ k => rw [show j + (k + 1) = j + 1 + k by omega]; exact g2 k x' e' v' (by simpa using hk)
 | .gone :: cs, j, t, h => by
  obtain ⟨g1,g2⟩:=KU cs (j+1) h
  refine ⟨g1,fun k x' e' v' hk=>?_⟩
  cases k with
  | zero => simp at hk
  | succ k => rw [show j + (k + 1) = j + 1 + k by omega]; exact g2 k x' e' v' (by simpa using hk)
theorem Zoq {z:AV} {v:Value} (h:AV.val v=Zaq z):Zj2 z = .val v∧ZpH z=true:=by
 unfold Zaq at h
 split at h
 ·cases h
 ·subst h;exact ⟨rfl,rfl⟩
theorem WE:∀ (sh:List Sh) (es:List (Option TypeId)) (n:Nat) (cs:List BC),Z4 P sh es n=some cs→cs.length=sh.length
 | [], es, n, cs, h => by
  simp only [Z4,Option.some.injEq] at h
  subst h;rfl
 | s :: ss, es, n, cs, h => by
  have other:∀ r,Z4 P ss es.tail (n+1)=some r→∀ c:BC,cs=c::r→cs.length=(s::ss).length:=fun r hr c hcs=>by
   subst hcs
   rw [List.length_cons,List.length_cons,WE ss es.tail (n+1) r hr]
  cases s with
  | slice s =>
   simp only [Z4] at h
   split at h
   ·rename_i e r he hr2
    split at h
    ·simp only [Option.some.injEq] at h
     exact other r hr2 _ h.symm
    ·cases h
   ·cases h
  | own x e => simp [Z4] at h
  | int k => simp only [Z4] at h; obtain ⟨r, h1, h2⟩ := Option.map_eq_some_iff.1 h; exact other r h1 _ h2.symm
  | bool => simp only [Z4] at h; obtain ⟨r, h1, h2⟩ := Option.map_eq_some_iff.1 h; exact other r h1 _ h2.symm
  | str => simp only [Z4] at h; obtain ⟨r, h1, h2⟩ := Option.map_eq_some_iff.1 h; exact other r h1 _ h2.symm
theorem Vm:∀ (sh:List Sh) (es:List (Option TypeId)) (n:Nat) (cs:List BC) (row:List AV),Z4 P sh es n=some cs→(ZB sh n).map (SC.den ρ)=row.map Zaq→
  (∀ (k:Nat) (x:Bool) (e:TypeId) (v:LE),cs[k]? = some (.own x e v)→∃ ys,row[k]? = some (.nest (P.cellsOf e) true e ys))→cs.map (BC.den ρ)=row.map Zj2∧(∀ z∈row,ZpH z=true)∧∀ c∈cs,c.bd (n+sh.length)
 | [], es, n, cs, row, h, hr, _ => by
  simp only [Z4,Option.some.injEq] at h
  subst h
  have:row = []:=by
   cases row with
   | nil => rfl
   | cons z r => simp [ZB] at hr
  subst this
  exact ⟨rfl,by simp,by simp⟩
 | s :: ss, es, n, cs, row, h, hr, hn => by
  obtain ⟨z,row',rfl⟩:∃ z row',row=z::row':=by
   cases row with
   | nil => simp [ZB] at hr
   | cons z r => exact ⟨z, r, rfl⟩
  simp only [ZB,List.map_cons,List.cons.injEq] at hr
  obtain ⟨hz,hr⟩:=hr
  have other:∀ r,Z4 P ss es.tail (n+1)=some r→cs = .c (Jg s n)::r→(∃ v,(Jg s n).den ρ = .val v)→(Jg s n).bd (n+1)→
    cs.map (BC.den ρ)=(z::row').map Zj2∧(∀ z'∈z::row',ZpH z'=true)∧∀ c∈cs,c.bd (n+(s::ss).length):=fun r hr2 hcs ⟨v,hv⟩ hb=>by
   subst hcs
   obtain ⟨g1,g2,g3⟩:=Vm ss es.tail (n+1) r row' hr2 hr fun k x e v hk=>by simpa using hn (k+1) x e v (by simpa using hk)
   obtain ⟨q1,q2⟩:=Zoq (hv.symm.trans hz)
   refine ⟨?_,?_,fun c hc=>?_⟩
   ·simp only [List.map_cons,g1,q1,BC.den,hv]
   ·intro z' hz'
    rcases List.mem_cons.1 hz' with rfl | hz'
    ·exact q2
    ·exact g2 z' hz'
   ·rcases List.mem_cons.1 hc with rfl | hc
    ·exact SC.bd_mono (by simp) _ hb
    ·have:=g3 c hc
     rw [List.length_cons,show n+(ss.length+1)=n+1+ss.length by omega]
     exact this
  cases s with
  | slice s =>
   simp only [Z4] at h
   split at h
   ·rename_i e r he hr2
    split at h
    ·rename_i hs
     simp only [Option.some.injEq] at h
     subst h
     obtain ⟨ys,hys⟩:=hn 0 true e (.var n) rfl
     simp only [List.getElem?_cons_zero,Option.some.injEq] at hys
     subst hys
     obtain ⟨g1,g2,g3⟩:=Vm ss es.tail (n+1) r row' hr2 hr fun k x e v hk=>by simpa using hn (k+1) x e v (by simpa using hk)
     refine ⟨?_,?_,fun c hc=>?_⟩
     ·simp only [List.map_cons,g1]
      have hz':AV.slice false s ((ρ n).list) = .slice false (P.cellsOf e) ys:=hz
      cases hz'
      rfl
     ·intro z' hz'
      rcases List.mem_cons.1 hz' with rfl | hz'
      ·rfl
      ·exact g2 z' hz'
     ·rcases List.mem_cons.1 hc with rfl | hc
      ·show n < n+(ss.length+1)
       omega
      ·have:=g3 c hc
       rw [List.length_cons,show n+(ss.length+1)=n+1+ss.length by omega]
       exact this
    ·cases h
   ·cases h
  | own x e => simp [Z4] at h
  | int k =>
   simp only [Z4] at h
   obtain ⟨r,h1,h2⟩:=Option.map_eq_some_iff.1 h
   exact other r h1 h2.symm ⟨_,rfl⟩ (Nat.lt_succ_self n)
  | bool =>
   simp only [Z4] at h
   obtain ⟨r,h1,h2⟩:=Option.map_eq_some_iff.1 h
   exact other r h1 h2.symm ⟨_,rfl⟩ (Nat.lt_succ_self n)
  | str =>
   simp only [Z4] at h
   obtain ⟨r,h1,h2⟩:=Option.map_eq_some_iff.1 h
   exact other r h1 h2.symm ⟨_,rfl⟩ (Nat.lt_succ_self n)
theorem ZgD {T:TypeId} {a:Operand} {d q:Nat} {e:TypeId} {l:LE} {i:IE} (hg:∀ d,(g d).bd n) (ho:o.op = .load T a) (ha:Jh P g a = .eref d q i (P.cellsOf (bT e)) 0) (hp:Jd (g d) q=some (e,l)) (hdp:Zg P e=true) (h0:0 < P.cellsOf T)
  (hng:(g d).isG=false) (hT:Z0 P T=some true) (h:(ZdY P g T d q e l i n k).wp P R A ρ):Yu tx P R A ρ g o n k:=by
 unfold ZdY at h
 split at h
 case h_2=>exact h.elim
 rename_i sh hsh
 split at h
 case h_2=>exact h.elim
 rename_i cs hcs
 split at h
 case isFalse=>exact h.elim
 rename_i hl
 obtain ⟨hl,hTe⟩:=hl
 obtain ⟨h,hnq⟩:=KU cs 0 h
 obtain ⟨vs,w1,w2,w3⟩:=h
 have hbl:=Jv hp (hg d)
 have hbi:=ZF (P:=P) hg a
 rw [ha] at hbi
 have hbi:i.bd n:=hbi
 obtain ⟨row,r1,r2,r3⟩:=Zh7 w2 (by rw [List.length_map,Ve,hl])
 have hat:=ZO ρ hp
 have hle:n≤n+sh.length:=Nat.le_add_right _ _
 have hld:∀ x:LE,x.bd n→x.den (bind ρ n vs)=x.den ρ:=fun x hx=>LE.den_congr (YB ρ n vs) x hx
 have hlb:(LE.fn .dlft l i .nil .nil).bd n:=⟨hbl,hbi,trivial,trivial⟩
 have hup:((Z5 (g d) q true e (.fn .dlft l i .nil .nil)).den (bind ρ n vs))=Zn ((g d).den ρ) q true e (Zm7 (l.den ρ) (i.den ρ).toNat):=by
  rw [Jl,SV.den_congr (YB ρ n vs) (g d) (hg d),hld _ hlb]
  rfl
 obtain ⟨k1,k2,k3⟩:=Vm (ρ:=bind ρ n vs) sh (JR P 8 T) n cs (row.take (P.cellsOf T)) hcs (by rw [r2,List.drop_zero]) fun k x e' v hk=>by
  obtain ⟨row2,ys,m1,m2,_⟩:=ZnB (hnq k x e' v hk)
  rw [r1] at m1
  cases m1
  rw [Nat.zero_add] at m2
  have hk2:k < cs.length:=(List.getElem?_eq_some_iff.1 hk).1
  rw [WE sh _ _ _ hcs,hl] at hk2
  exact ⟨ys,by rw [List.getElem?_take,if_pos hk2];exact m2⟩
 refine ⟨bind ρ n vs,n+sh.length,.aggo cs,_,[d],hle,YB ρ n vs,k3,?_,w3,?_⟩
 ·intro u hu
  rw [List.mem_singleton] at hu
  subst hu
  exact SV.bd_mono hle _ (JD (hg d) hlb)
 ·rw [List.map_cons,List.map_nil]
  show YY tx P o _ (.aggo (cs.map (BC.den (bind ρ n vs)))) [(d,(Z5 (g d) q true e (.fn .dlft l i .nil .nil)).den (bind ρ n vs))] [d]
  rw [hup,k1]
  have:=VR ho hT (Ze ρ ha) (show Zo ((fun d=>(g d).den ρ) d) q=_ from hat) (Ks ρ hng) r1 hTe hdp k2
  rw [Zlr r1]
  exact this.t
theorem Zgd {T:TypeId} {a:Operand} {all:Bool} {p:Nat×Nat×TypeId×LE×IE×Nat×Nat} (hg:∀ d,(g d).bd n) (ho:o.op = .load T a) (hp:ZcP P g a=some p) (h:(Zen P all tk g T p n k).wp P R A ρ):Yu tx P R A ρ g o n k:=by
 obtain ⟨d,q,e,l,i,s,off,rfl,ha,hpl,hdp⟩:=Zfa hp
 have hbl:=Jv hpl (hg d)
 have hbi:=ZF (P:=P) hg a
 rw [ha] at hbi
 have hbi:i.bd n:=hbi
 have hat:=ZO ρ hpl
 simp only [Zen] at h
 split at h
 case isFalse=>exact h.elim
 rename_i hh
 obtain ⟨rfl,hfit,h0,hng⟩:=hh
 split at h
 ·rename_i hT
  split at h
  ·split at h
   ·rename_i hoff
    subst hoff
    exact ZgD hg ho ha hpl hdp h0 hng hT h
   ·exact h.elim
  ·exact ZcN hg ho ha hpl hdp hfit h0 hng hT h
 ·rename_i hT
  split at h
  ·rename_i _ e' hTe
   obtain ⟨q1,q2,h⟩:=h
   obtain ⟨row,ys,m1,m2,m3⟩:=ZnB q2
   refine We h (show LE.bd n _ from ⟨hbl,hbi,trivial,trivial⟩) (us1 (JD (hg d) ⟨hbl,hbi,trivial,trivial⟩)) ?_
   have:=ZcK ho hT (Ze ρ ha) (show Zo ((fun d=>(g d).den ρ) d) q=_ from hat) (Ks ρ hng) m1 m2 hdp
   rw [← m3] at this
   rw [List.map_cons,List.map_nil]
   show JA P o _ _ [(d,(Z5 (g d) q true e (.fn (.dput off (P.cellsOf e') false e') l i .nil .nil)).den ρ)] [d]
   rw [Jl]
   exact this
  ·exact ZcN hg ho ha hpl hdp hfit h0 hng hT h
 ·exact h.elim
theorem Zlb (ρ:Nat→V) (c:SC):Znv (c.den ρ)=true:=by cases c<;>rfl
theorem ZfV {T:TypeId} {a x:Operand} {p:Nat×Nat×TypeId×LE×IE×Nat×Nat} (hg:∀ d,(g d).bd n) (htop:∀ i,E.top≤i→g i = .dead) (ho:o.op = .store T a x) (hp:ZcP P g a=some p) (h:(ZbD P E tx g T x p n k).wp P R A ρ):Yu tx P R A ρ g o n k:=by
 obtain ⟨d,q,e,l,i,s,off,rfl,ha,hpl,hdp⟩:=Zfa hp
 have hbl:=Jv hpl (hg d)
 have hbi:=ZF (P:=P) hg a
 rw [ha] at hbi
 have hbi:i.bd n:=hbi
 have hat:=ZO ρ hpl
 simp only [ZbD] at h
 split at h
 case isFalse=>exact h.elim
 rename_i hh
 obtain ⟨rfl,hfit,h0,hng⟩:=hh
 split at h
 ·rename_i t e' ys h1 h2
  have hx:x = .tmp t:=by cases x<;>simp [ZS] at h1;rw [h1]
  subst hx
  simp only [ZS,Option.map_some,Option.some.injEq] at h2
  have ht:=hg t
  rw [h2] at ht
  split at h
  case h_2=>exact h.elim
  rename_i us hus
  split at h
  case isFalse=>exact h.elim
  rename_i hh2
  obtain ⟨hT1,hem,hdt⟩:=hh2
  obtain ⟨r1,r2,h⟩:=h
  have r1':0≤i.den ρ:=r1
  have r2':i.den ρ < ((l.den ρ).length:Int):=r2
  obtain ⟨us',rfl,q1,q2,q3⟩:=Yc ρ htop (t:=t) h2 hus
  have q2:=q2.resolve_left fun h=>by cases h.1
  refine V4 h trivial (fun u hu=>?_) ?_
  ·rcases List.mem_append.1 hu with hu | hu
   ·exact Yb hus ht u hu
   ·rw [List.mem_singleton] at hu
    subst hu
    exact JD (hg d) ⟨hbl,hbi,ht,trivial⟩
  ·have:=ZbW (T':=tx) (ys:=ys.den ρ) ho (Ze ρ ha) (show Zo ((fun d=>(g d).den ρ) d) q=_ from hat) (Ks ρ hng) (show (fun d=>(g d).den ρ) t = .own true e' (ys.den ρ) by show (g t).den ρ=_;rw [h2];rfl) hT1 (show (i.den ρ).toNat < _ by omega) (by omega) hdp hem q2 hdt
   rw [List.map_append,q1]
   simp only [List.map_cons,List.map_nil,Jl]
   exact this
 ·split at h
  case h_2=>exact h.elim
  rename_i vc sh hvc hsh
  split at h
  case h_2=>exact h.elim
  rename_i vc' hvc'
  split at h
  case isFalse=>exact h.elim
  rename_i hn
  obtain ⟨r1,r2,h⟩:=h
  have r1':0≤i.den ρ:=r1
  have r2':i.den ρ < ((l.den ρ).length:Int):=r2
  have hbv:=Ku _ _ _ hvc' (WP hvc (ZF (P:=P) hg x))
  refine We h trivial (us1 (JD (hg d) ⟨hbl,hbi,Zah _ hbv⟩)) ?_
  have:=Zcf (vc:=vc.map (SC.den ρ)) (vc':=vc'.map (SC.den ρ)) ho (Ze ρ ha) (show Zo ((fun d=>(g d).den ρ) d) q=_ from hat) (Ks ρ hng) (J1 P g ρ x).symm (Vu ρ hvc) (by simpa using hn) (by omega) (show (i.den ρ).toNat < _ by omega) hfit (Vw ρ _ _ _ hvc') (fun z hz=>by obtain ⟨c,_,rfl⟩:=List.mem_map.1 hz;exact Zlb ρ c) hdp
  rw [← Vz] at this
  simp only [List.map_cons,List.map_nil,Jl]
  exact this
theorem ZgU {T:TypeId} {a:Operand} {fgt:Bool} {d off:Nat} {cs:List BC} (hg:∀ d,(g d).bd n) (htop:∀ i,E.top≤i→g i = .dead) (ho:o.op = .load T a) (hT:Z0 P T=some true) (ha:Jh P g a = .ptr d off) (hd:g d = .box cs) (h:(ZdB P E tx fgt g T d off cs n k).wp P R A ρ):Yu tx P R A ρ g o n k:=by
 unfold ZdB at h
 have hb0:=hg d
 rw [hd] at hb0
 have hb0:∀ c∈cs,c.bd n:=hb0
 have he0:(cs.map ZlA).map (BC.den ρ)=(cs.map (BC.den ρ)).map ZjQ:=by
  rw [List.map_map,List.map_map]
  refine List.map_congr_left fun c _=>?_
  cases c with
  | c x => cases x <;> rfl
  | own _ _ _ => rfl
  | gone => rfl
 split at h
 ·split at h
  case isFalse=>exact h.elim
  rename_i hh
  obtain ⟨rfl,hl,hw⟩:=hh
  refine ZY h (fun c hc=>?_) ?_
  ·obtain ⟨y,hy,rfl⟩:=List.mem_map.1 hc
   have:=hb0 y hy
   cases y<;>first | exact this | trivial
  ·have:=ZaE (cs:=cs.map (BC.den ρ)) ho hT (Ze ρ ha) (show (fun d=>(g d).den ρ) d = .box (cs.map (BC.den ρ)) by show (g d).den ρ=_;rw [hd];rfl) (by simpa using hl) (Vs hw ρ)
   rw [← he0] at this
   exact this
 split at h
 case h_2=>exact h.elim
 rename_i us hus
 split at h
 case isFalse=>exact h.elim
 rename_i hh
 obtain ⟨rfl,hl,hw⟩:=hh
 obtain ⟨q1,q2⟩:=Zfi ρ htop hus
 have hb:=hg d
 rw [hd] at hb
 have hb:∀ c∈cs,c.bd n:=hb
 refine V4 h hb (fun u hu=>?_) ?_
 ·rcases List.mem_append.1 hu with hu | hu
  ·rw [q1 u hu];trivial
  ·rw [List.mem_singleton] at hu
   subst hu
   intro c hc
   obtain ⟨y,hy,rfl⟩:=List.mem_map.1 hc
   have:=hb y hy
   cases y<;>first | exact this | trivial
 ·have:=Zcy (T':=tx) (cs:=cs.map (BC.den ρ)) ho hT (Ze ρ ha) (show (fun d=>(g d).den ρ) d = .box (cs.map (BC.den ρ)) by show (g d).den ρ=_;rw [hd];rfl) (by simpa using hl) (Vs hw ρ) q2
  rw [List.map_append]
  have he:(cs.map ZlA).map (BC.den ρ)=(cs.map (BC.den ρ)).map ZjQ:=by
   rw [List.map_map,List.map_map]
   refine List.map_congr_left fun c _=>?_
   cases c with
   | c x => cases x <;> rfl
   | own _ _ _ => rfl
   | gone => rfl
  simp only [List.map_cons,List.map_nil,SV.den,he]
  exact this
theorem Zfc {sh:Sh} (ρ:Nat→V):∀ (cs:List BC) (a l:LE),Zgp sh cs a=some l→l.den ρ=a.den ρ++cs.map (fun c=>[c.den ρ])∧∀ c∈cs,∃ x,c = .c x
 | [], a, l, h => by
  simp only [Zgp,Option.some.injEq] at h
  subst h
  simp
 | .c x :: r, a, l, h => by
  simp only [Zgp] at h
  split at h
  ·obtain ⟨h1,h2⟩:=Zfc ρ r _ l h
   refine ⟨?_,fun c hc=>?_⟩
   ·rw [h1]
    simp [LE.den,CE.den,BC.den]
   ·rcases List.mem_cons.1 hc with rfl | hc
    ·exact ⟨x,rfl⟩
    ·exact h2 c hc
  ·cases h
 | .own _ _ _ :: _, _, _, h => by simp [Zgp] at h
 | .gone :: _, _, _, h => by simp [Zgp] at h
theorem Zm0 {T:TypeId} {a:Operand} {d off m:Nat} {i:IE} (hg:∀ d,(g d).bd n) (ho:o.op = .load T a) (hT:Z0 P T=some false) (ha:Jh P g a = .vptr d off m i) (h:(ZoS g d off m i n k).wp P R A ρ):Yu tx P R A ρ g o n k:=by
 unfold ZoS at h
 split at h
 case h_2=>exact h.elim
 rename_i cs hcs
 split at h
 case h_2=>exact h.elim
 rename_i sh hsh
 split at h
 case h_2=>exact h.elim
 rename_i l hl
 obtain ⟨vs,w1,w2,w3⟩:=h
 obtain ⟨e1,e2⟩:=Zfc ρ _ _ l hl
 have e1:l.den ρ=((cs.drop off).take m).map (fun c=>[c.den ρ]):=by rw [e1];rfl
 rw [e1,List.getElem?_map] at w2
 cases hc:((cs.drop off).take m)[(i.den ρ).toNat]? with
 | none => rw [hc] at w2; cases w2
 | some c =>
  rw [hc] at w2
  simp only [Option.map_some,Option.some.injEq,ZB,List.map_cons,List.map_nil,List.cons.injEq,and_true] at w2
  obtain ⟨x,rfl⟩:=e2 c (List.mem_of_getElem? hc)
  rw [List.getElem?_take] at hc
  split at hc
  case isFalse=>cases hc
  rw [List.getElem?_drop] at hc
  have hd:(fun d=>(g d).den ρ) d = .box (cs.map (BC.den ρ)):=by show (g d).den ρ=_;rw [hcs];rfl
  have hx:(cs.map (BC.den ρ))[off+(i.den ρ).toNat]? = some (x.den ρ):=by rw [List.getElem?_map,hc];rfl
  have hga:Zr P (fun d=>(g d).den ρ) a = .ptr d (off+(i.den ρ).toNat):=by have:=Ze ρ ha;exact this
  have:=YH (o:=o) (T:=T) ho hT hga hd hx (fun e xs h=>by cases x<;>cases h) (fun h=>by cases x<;>cases h)
  rw [Zhh] at this
  have w2:x.den ρ=(Jg sh n).den (bind ρ n vs):=w2
  rw [w2] at this
  refine ⟨bind ρ n vs,n+1,.c (Jg sh n),[],[d],Nat.le_succ n,YB ρ n vs,?_,by simp,w3,this.t⟩
  exact Jq [sh] n _ (by simp [ZB])
theorem Zoe {T:TypeId} {a:Operand} (hg:∀ d,(g d).bd n) (htop:∀ i,E.top≤i→g i = .dead) (ho:o.op = .load T a) (h:(JZ P E tx tk g o n k).wp P R A ρ):Yu tx P R A ρ g o n k:=by
 have ba:=ZF (P:=P) hg a
 simp only [JZ,ho] at h
 split at h
 ·rename_i p hp
  exact Zgd hg ho hp h
 split at h
 ·rename_i d off hT ha
  split at h
  ·rename_i cs hcs
   split at h
   ·rename_i hle
    have hb:=hg d
    rw [hcs] at hb
    refine V4 h (fun c hc=>?_) (by simp) ?_
    ·obtain ⟨y,hy,rfl⟩:=List.mem_map.1 hc
     exact ZjZ (hb y (List.mem_of_mem_drop (List.mem_of_mem_take hy)))
    ·have:YY tx P o (fun d=>(g d).den ρ) (.agg (((((cs.map (BC.den ρ)).drop off).take (P.cellsOf T))).map (Yq P))) [] (fpL tx d off (P.cellsOf T)):=by
      unfold fpL
      split
      ·rename_i hk
       simp only [Bool.and_eq_true,decide_eq_true_eq,List.all_eq_true,List.mem_range] at hk
       exact WR (cs:=cs.map (BC.den ρ)) ho hT (Ze ρ ha) (by rw [hcs];rfl) (by simpa using hle.1) (VJ hle.2.1 ρ) (Zc9 hle.2.2 ρ) hk.1 hk.2
      ·exact (WT (cs:=cs.map (BC.den ρ)) ho hT (Ze ρ ha) (by rw [hcs];rfl) (by simpa using hle.1) (VJ hle.2.1 ρ) (Zc9 hle.2.2 ρ)).t
     have he:(SV.agg (((cs.drop off).take (P.cellsOf T)).map (Zdb P))).den ρ = .agg (((((cs.map (BC.den ρ)).drop off).take (P.cellsOf T))).map (Yq P)):=by
      simp only [SV.den,List.map_map,← List.map_take,← List.map_drop]
      congr 1
      exact List.map_congr_left fun b _=>Zdq P ρ b
     rw [he]
     exact this
   ·exact ZgU hg htop ho hT ha hcs h
  ·exact h.elim
 ·rename_i d off hT ha
  split at h
  ·rename_i cs hcs
   have hb:=hg d
   rw [hcs] at hb
   have hd:(fun d=>(g d).den ρ) d = .box (cs.map (BC.den ρ)):=by show (g d).den ρ=_;rw [hcs];rfl
   split at h
   ·rename_i b e xs hx
    have hx':(cs.map (BC.den ρ))[off]? = some (.own b e (xs.den ρ)):=by rw [List.getElem?_map,hx];rfl
    have hbx:=hb _ (List.mem_of_getElem? hx)
    split at h
    ·split at h
     ·rename_i us _ hus
      obtain ⟨q1,q2⟩:=Zfi ρ htop hus
      split at h
      case isFalse=>exact h.elim
      rename_i hmv
      refine V4 h hbx (fun u hu=>?_) ?_
      ·rcases List.mem_append.1 hu with hu | hu
       ·rw [q1 u hu];trivial
       ·rw [List.mem_singleton] at hu
        subst hu
        intro c hc
        rcases List.mem_or_eq_of_mem_set hc with hc | rfl
        ·exact hb c hc
        ·trivial
      ·have:=Zcz (T':=tx) ho hT (Ze ρ ha) hd hx' q2 (ZhH ρ hmv)
       rw [List.map_append]
       simp only [List.map_cons,List.map_nil,SV.den,List.map_set]
       exact this
     ·have:YY tx P o (fun d=>(g d).den ρ) (.mref d (off+1)) [] (fpL tx d off 1):=by
       unfold fpL
       split
       ·rename_i hk
        simp only [Bool.and_eq_true,decide_eq_true_eq,List.all_eq_true,List.mem_range] at hk
        exact Wo ho hT (Ze ρ ha) hd hx' (by simpa using hk.2 0 (by omega))
       ·exact (Ws ho hT (Ze ρ ha) hd hx').t
      exact V4 h trivial (by simp) this
    ·split at h
     ·refine We h hbx (us1 (fun c hc=>?_)) ?_
      ·rcases List.mem_or_eq_of_mem_set hc with hc | rfl
       ·exact hb c hc
       ·exact hbx
      ·have:=Zd1 ho hT (Ze ρ ha) hd hx'
       simp only [List.map_cons,List.map_nil,SV.den,List.map_set]
       exact this
     ·exact ZY h hbx (YH ho hT (Ze ρ ha) hd hx' (fun e xs h=>by cases h) (fun h=>by cases h))
   ·rename_i x hx
    have hx':(cs.map (BC.den ρ))[off]? = some (x.den ρ):=by rw [List.getElem?_map,hx];rfl
    have:YY tx P o (fun d=>(g d).den ρ) (Yq P (x.den ρ)) [] (fpL tx d off 1):=by
     unfold fpL
     split
     ·rename_i hk
      simp only [Bool.and_eq_true,decide_eq_true_eq,List.all_eq_true,List.mem_range] at hk
      exact V1 ho hT (Ze ρ ha) hd hx' (fun e xs h=>by cases x<;>cases h) (fun h=>by cases x<;>cases h) (by simpa using hk.2 0 (by omega))
     ·exact (YH ho hT (Ze ρ ha) hd hx' (fun e xs h=>by cases x<;>cases h) (fun h=>by cases x<;>cases h)).t
    rw [Zhh] at this
    exact V4 h (hb _ (List.mem_of_getElem? hx)) (by simp) this
   ·exact h.elim
   ·exact h.elim
  ·exact h.elim
 ·rename_i agg d q i s off hT ha
  split at h
  ·rename_i e l hp
   split at h
   ·rename_i sh hsh
    split at h
    ·rename_i hh
     obtain ⟨rfl,h2,h3,h4,hnm⟩:=hh
     obtain ⟨vs,w1,w2,w3⟩:=h
     have hbd:=Jq sh n
     have hat:=ZO ρ hp
     have hlen:(ZB sh n).length=P.cellsOf e:=by
      have hsl:∀ (l:List Sh) (n:Nat),(ZB l n).length=l.length:=by
       intro l
       induction l with
       | nil => intro n; rfl
       | cons s l ih => intro n; simp only [ZB, List.length_cons, ih]
      rw [hsl,h2]
     refine ⟨bind ρ n vs,n+sh.length,_,[],[d],Nat.le_add_right _ _,YB ρ n vs,?_,by simp,w3,?_⟩
     ·cases agg with
      | true => exact fun c hc => hbd c (List.mem_of_mem_drop (List.mem_of_mem_take hc))
      | false =>
       show SV.bd _ (match (ZB sh n)[off]? with | some x=>.c x | none=>.dead)
       split
       ·rename_i x hx;exact hbd x (List.mem_of_getElem? hx)
       ·trivial
     ·cases agg with
      | true =>
       have:=Wt ho hT (Ze ρ ha) (show Zo ((fun d=>(g d).den ρ) d) q=_ from hat) w2 h3 hnm
       rw [← List.map_drop,← List.map_take] at this
       exact this.t
      | false =>
       have hon:P.cellsOf T=1∨off < (ZB sh n).length:=.inr (by omega)
       have hlt:off < (ZB sh n).length:=by omega
       show YY tx P o _ ((match (ZB sh n)[off]? with | some x=>SV.c x | none=>.dead).den (bind ρ n vs)) _ _
       rw [List.getElem?_eq_getElem hlt]
       exact (VW ho hT (Ze ρ ha) (show Zo ((fun d=>(g d).den ρ) d) q=_ from hat) w2 (by omega) (by rw [List.getElem?_map,List.getElem?_eq_getElem hlt];rfl) hnm).t
    ·exact h.elim
   ·exact h.elim
  ·exact h.elim
 ·rename_i cs hT ha
  rw [ha] at ba
  split at h
  ·rename_i hle
   refine ZY h (fun c hc=>ba c (List.mem_of_mem_take hc)) ?_
   have:=ZcH (cs:=cs.map (SC.den ρ)) ho hT (Ze ρ ha) (by simpa using hle)
   rw [← List.map_take] at this
   exact this
  ·exact h.elim
 ·rename_i cs hT ha
  rw [ha] at ba
  split at h
  ·rename_i x rest
   exact ZY h (ba x (by simp)) (Zbm (cs:=rest.map (SC.den ρ)) ho hT (Ze ρ ha))
  ·exact h.elim
 ·rename_i d off m i hT ha
  exact Zm0 hg ho hT ha h
 ·exact h.elim
theorem ZjO (ρ:Nat→V) (v:SC) {w:World} {lim:Nat→Nat} {us:List Value} (h:Yf w lim [v.den ρ] us):(∀ z∈[(Zef v).den ρ],WZ z)∧∀ (j:Nat) (z:AV) (u:Value),[(Zef v).den ρ][j]? = some z→us[j]? = some u→JW P w lim none z u:=by
 have key:∀ u,Rep w lim (v.den ρ) u→JW P w lim none ((Zef v).den ρ) u:=fun u hr=>by
  cases v with
  | slice f s l =>
   show Rep w lim (.slice false s (l.den ρ)) u
   have hr:Rep w lim (.slice f s (l.den ρ)) u:=hr
   generalize l.den ρ=xs at hr
   cases hr with
   | sliceN => exact .sliceN
   | sliceE h => exact .sliceE fun h => by cases h
   | sliceC hs hc hf hle hlim hus hcell hh => exact .sliceC hs hc (fun h => by cases h) hle hlim hus hcell hh
  | int k e => exact hr
  | bool b => exact hr
  | str s => exact hr
 refine ⟨fun z hz=>?_,fun j z u hz hu=>?_⟩
 ·rw [List.mem_singleton] at hz
  subst hz
  exact .inl (by cases v<;>rfl)
 ·match j,hz with
  | 0, hz =>
   simp only [List.getElem?_cons_zero,Option.some.injEq] at hz
   subst hz
   exact key u (h.2.2 0 _ u rfl hu)
theorem ZnS {i:IE} {j kk:Nat} {v c c':SC} (hk:i.den ρ=(kk:Int)) (h:Zqn i j v c=some c'):c'.den ρ=if j=kk then (Zef v).den ρ else c.den ρ:=by
 unfold Zqn at h
 split at h
 ·rename_i b b'
  simp only [Option.some.injEq] at h
  subst h
  simp only [SC.den,BE.den,IE.den,hk,cop,Zef]
  by_cases hjk:j=kk
  ·subst hjk;simp
  ·have:((kk:Int) == (j:Int))=false:=by simp;omega
   simp [hjk,this]
 ·rename_i f s l s' l'
  split at h
  ·rename_i hs
   simp only [Option.some.injEq] at h
   subst h
   subst hs
   simp only [SC.den,LE.den,lop,hk,Zef]
   by_cases hjk:j=kk
   ·subst hjk;simp
   ·have:¬ ((kk:Int)=(j:Int)):=by omega
    simp [hjk,this]
  ·cases h
 ·cases h
theorem ZjF {i:IE} {v:SC} {kk:Nat} (hk:i.den ρ=(kk:Int)):∀ (cs:List BC) (j:Nat) (r:List BC),Zf7 i v j cs=some r→r.length=cs.length∧∀ q,(r.map (BC.den ρ))[q]? = if j+q=kk∧q < cs.length then some ((Zef v).den ρ) else (cs.map (BC.den ρ))[q]?
 | [], j, r, h => by
  simp only [Zf7,Option.some.injEq] at h
  subst h
  simp
 | .c c :: cs, j, r, h => by
  simp only [Zf7] at h
  split at h
  ·rename_i c' r' h1 h2
   simp only [Option.some.injEq] at h
   subst h
   obtain ⟨g1,g2⟩:=ZjF hk cs (j+1) r' h2
   refine ⟨by simp [g1],fun q=>?_⟩
   cases q with
   | zero =>
    simp only [List.map_cons,List.getElem?_cons_zero,Nat.add_zero,List.length_cons,Nat.zero_lt_succ,and_true,BC.den,ZnS hk h1]
    split<;>rfl
   | succ q =>
    simp only [List.map_cons,List.getElem?_cons_succ,List.length_cons,Nat.add_lt_add_iff_right,g2 q]
    rw [show j+1+q=j+(q+1) by omega]
  ·cases h
 | .own _ _ _ :: _, _, _, h => by simp [Zf7] at h
 | .gone :: _, _, _, h => by simp [Zf7] at h
theorem Znb {i:IE} {v:SC} : ∀ (cs:List BC) (j:Nat) (r:List BC),Zf7 i v j cs=some r→∀ c∈cs,∃ x,c = .c x
 | [], _, _, _, c, hc => by cases hc
 | .c c :: cs, j, r, h, x, hx => by
  simp only [Zf7] at h
  split at h
  ·rename_i c' r' h1 h2
   rcases List.mem_cons.1 hx with rfl | hx
   ·exact ⟨c,rfl⟩
   ·exact Znb cs (j+1) r' h2 x hx
  ·cases h
 | .own _ _ _ :: _, _, _, h, _, _ => by simp [Zf7] at h
 | .gone :: _, _, _, h, _, _ => by simp [Zf7] at h
theorem ZkP {i:IE} {v:SC} {n:Nat} (hi:i.bd n) (hv:v.bd n):∀ (cs:List BC) (j:Nat) (r:List BC),Zf7 i v j cs=some r→(∀ c∈cs,c.bd n)→∀ c∈r,c.bd n
 | [], j, r, h, _ => by
  simp only [Zf7,Option.some.injEq] at h
  subst h
  simp
 | .c c :: cs, j, r, h, hb => by
  simp only [Zf7] at h
  split at h
  ·rename_i c' r' h1 h2
   simp only [Option.some.injEq] at h
   subst h
   intro x hx
   rcases List.mem_cons.1 hx with rfl | hx
   ·have hc:SC.bd n c:=hb (.c c) (by simp)
    show SC.bd n c'
    unfold Zqn at h1
    split at h1
    ·simp only [Option.some.injEq] at h1
     subst h1
     exact ⟨⟨⟨hi,trivial⟩,hv⟩,⟨hi,trivial⟩,hc⟩
    ·split at h1
     ·simp only [Option.some.injEq] at h1
      subst h1
      exact ⟨hc,hi,hv,trivial⟩
     ·cases h1
    ·cases h1
   ·exact ZkP hi hv cs (j+1) r' h2 (fun c hc=>hb c (by simp [hc])) x hx
  ·cases h
 | .own _ _ _ :: _, _, _, h, _ => by simp [Zf7] at h
 | .gone :: _, _, _, h, _ => by simp [Zf7] at h
theorem ZjM {T:TypeId} {a x:Operand} {d off m:Nat} {i:IE} (hg:∀ d,(g d).bd n) (ho:o.op = .store T a x) (ha:Jh P g a = .vptr d off m i) (h:(ZjH P g T x d off m i n k).wp P R A ρ):Yu tx P R A ρ g o n k:=by
 have bx:=ZF (P:=P) hg x
 have bi:=ZF (P:=P) hg a
 rw [ha] at bi
 have bi:i.bd n:=bi
 unfold ZjH at h
 split at h
 case h_2=>exact h.elim
 rename_i cs hcs
 split at h
 case h_2=>exact h.elim
 rename_i v hv
 split at h
 case h_2=>exact h.elim
 rename_i r hr
 split at h
 case isFalse=>exact h.elim
 rename_i hh
 obtain ⟨hT1,hfit⟩:=hh
 obtain ⟨r1,r2,h⟩:=h
 have r1':0≤i.den ρ:=r1
 have r2':i.den ρ < (m:Int):=r2
 rw [hv] at bx
 have bx:v.bd n:=bx
 have hb:=hg d
 rw [hcs] at hb
 have hb:∀ c∈cs,c.bd n:=hb
 obtain ⟨kk,hk⟩:∃ kk:Nat,i.den ρ=(kk:Int):=⟨(i.den ρ).toNat,by omega⟩
 have hkm:kk < m:=by omega
 obtain ⟨g1,g2⟩:=ZjF hk _ 0 r hr
 have hml:((cs.drop off).take m).length=m:=by simp;omega
 have hd:(fun d=>(g d).den ρ) d = .box (cs.map (BC.den ρ)):=by show (g d).den ρ=_;rw [hcs];rfl
 have hga:Zr P (fun d=>(g d).den ρ) a = .ptr d (off+kk):=by have:=Ze ρ ha;simpa [SV.den,hk] using this
 have hset:(cs.take off++r++cs.drop (off+m)).map (BC.den ρ)=(cs.map (BC.den ρ)).take (off+kk)++[(Zef v).den ρ]++(cs.map (BC.den ρ)).drop (off+kk+1):=by
  rw [Wz _ _ _ (by rw [List.length_map];omega)]
  apply List.ext_getElem?
  intro q
  rw [List.map_append,List.map_append,List.getElem?_set]
  have l1:((cs.take off).map (BC.den ρ)).length=off:=by simp;omega
  have l2:(r.map (BC.den ρ)).length=m:=by rw [List.length_map,g1,hml]
  rcases Nat.lt_or_ge q off with hq | hq
  ·rw [List.append_assoc,List.getElem?_append_left (by omega),List.map_take,List.getElem?_take,if_pos hq,if_neg (by omega)]
  ·rw [List.append_assoc,List.getElem?_append_right (by omega),l1]
   rcases Nat.lt_or_ge (q-off) m with hq2 | hq2
   ·rw [List.getElem?_append_left (by omega),g2,hml,Nat.zero_add]
    by_cases hqk:q-off=kk
    ·rw [if_pos ⟨hqk,hq2⟩,if_pos (by omega),if_pos (by rw [List.length_map];omega)]
    ·rw [if_neg (by omega),if_neg (by omega),List.map_take,List.map_drop,List.getElem?_take,if_pos hq2,List.getElem?_drop,show off+(q-off)=q by omega]
   ·rw [List.getElem?_append_right (by omega),l2,List.map_drop,List.getElem?_drop,if_neg (by omega),show off+m+(q-off-m)=q by omega]
 have hplain:ZaF (((cs.map (BC.den ρ)).drop (off+kk)).take 1):=fun c hc e xs he=>by
  have hc2:=List.mem_of_mem_take hc
  obtain ⟨q,hq⟩:=List.mem_iff_getElem?.1 hc
  have hq0:q=0:=by
   have:=(List.getElem?_eq_some_iff.1 hq).1
   simp at this
   omega
  subst hq0
  rw [List.getElem?_take,if_pos (by omega),List.getElem?_drop,Nat.add_zero,List.getElem?_map] at hq
  have hin:=Znb _ 0 r hr
  cases hcc:cs[off+kk]? with
  | none => rw [hcc] at hq; cases hq
  | some c0 =>
   rw [hcc] at hq
   simp only [Option.map_some,Option.some.injEq] at hq
   have hmem:c0∈(cs.drop off).take m:=List.mem_of_getElem? (i:=kk) (by rw [List.getElem?_take,if_pos hkm,List.getElem?_drop];exact hcc)
   obtain ⟨y,rfl⟩:=hin c0 hmem
   rw [← hq] at he
   cases y<;>cases he
 refine V4 h trivial (us1 fun c hc=>?_) ?_
 ·rcases List.mem_append.1 hc with hc | hc
  ·rcases List.mem_append.1 hc with hc | hc
   ·exact hb c (List.mem_of_mem_take hc)
   ·exact ZkP bi bx _ 0 r hr (fun c hc=>hb c (List.mem_of_mem_drop (List.mem_of_mem_take hc))) c hc
  ·exact hb c (List.mem_of_mem_drop hc)
 ·have:=ZcO (T':=tx) (vc:=[(Zef v).den ρ]) (vc0:=[v.den ρ]) (y:=v.den ρ) ho hga hd (by have:=(J1 P g ρ x).symm;rw [hv] at this;exact this) (by cases v<;>rfl) (by rw [hT1];rfl) (by omega) (by rw [List.length_map,hT1];omega) (.inl (by rw [hT1];exact hplain)) ⟨rfl,fun w lim us hrel=>ZjO ρ v hrel⟩
  rw [hT1,← hset] at this
  simp only [List.map_cons,List.map_nil,SV.den]
  exact this
theorem Zl5 {T:TypeId} {a x:Operand} (hg:∀ d,(g d).bd n) (htop:∀ i,E.top≤i→g i = .dead) (ho:o.op = .store T a x) (h:(JZ P E tx tk g o n k).wp P R A ρ):Yu tx P R A ρ g o n k:=by
 have bx:=ZF (P:=P) hg x
 simp only [JZ,ho] at h
 split at h
 ·rename_i p hp
  exact ZfV hg htop ho hp h
 split at h
 ·rename_i d off ha
  split at h
  ·rename_i cs hcs
   have hb:=hg d
   rw [hcs] at hb
   have hd:(fun d=>(g d).den ρ) d = .box (cs.map (BC.den ρ)):=by show (g d).den ρ=_;rw [hcs];rfl
   split at h
   ·rename_i t b e xs h1 h2
    have hx:x = .tmp t:=by cases x<;>simp [ZS] at h1;rw [h1]
    subst hx
    simp only [ZS,Option.map_some,Option.some.injEq] at h2
    have ht:=hg t
    rw [h2] at ht
    split at h
    ·rename_i us hus
     split at h
     ·rename_i hh
      obtain ⟨us',rfl,q1,q2,q3⟩:=Yc ρ htop (t:=t) h2 hus
      refine V4 h trivial (fun u hu=>?_) ?_
      ·rcases List.mem_append.1 hu with hu | hu
       ·exact Yb hus ht u hu
       ·rw [List.mem_singleton] at hu
        subst hu
        intro c hc
        rcases List.mem_or_eq_of_mem_set hc with hc | rfl
        ·exact hb c hc
        ·exact ht
      ·have:=ZcF (T':=tx) (e:=e) (xs:=xs.den ρ) ho (Ze ρ ha) hd (by show (g t).den ρ=_;rw [h2];rfl) hh.1 (by simpa using hh.2.1) (ZhW ρ htop hh.2.2) q2
       rw [List.map_append,q1]
       simp only [List.map_cons,List.map_nil,SV.den,List.map_set]
       exact this
     ·exact h.elim
    ·exact h.elim
   ·rename_i t vc h1 h2
    have hx:x = .tmp t:=by cases x<;>simp [ZS] at h1;rw [h1]
    subst hx
    simp only [ZS,Option.map_some,Option.some.injEq] at h2
    have ht:=hg t
    rw [h2] at ht
    split at h
    ·rename_i hh
     refine We h trivial (us2 trivial (fun c hc=>?_)) ?_
     ·rcases List.mem_append.1 hc with hc | hc
      ·rcases List.mem_append.1 hc with hc | hc
       ·exact hb c (List.mem_of_mem_take hc)
       ·exact ht c hc
      ·exact hb c (List.mem_of_mem_drop hc)
     ·have:=ZbL (vc:=vc.map (BC.den ρ)) ho (Ze ρ ha) hd (show (fun d=>(g d).den ρ) t = .aggo (vc.map (BC.den ρ)) by show (g t).den ρ=_;rw [h2];rfl) (by simpa using hh.1) (by omega) (by simpa using hh.2.2.1) (VJ hh.2.2.2 ρ)
      have he:(SV.box (cs.take off++vc++cs.drop (off+P.cellsOf T))).den ρ = .box ((cs.map (BC.den ρ)).take off++vc.map (BC.den ρ)++(cs.map (BC.den ρ)).drop (off+P.cellsOf T)):=by
       simp only [SV.den,List.map_append,List.map_take,List.map_drop]
      simp only [List.map_cons,List.map_nil,he]
      exact this
    ·exact h.elim
   ·split at h
    ·rename_i vc hvc
     split at h
     ·rename_i hh
      refine V4 h trivial (fun u hu=>?_) ?_
      ·rw [List.mem_singleton] at hu;subst hu;intro c hc
       rcases List.mem_append.1 hc with hc | hc
       ·rcases List.mem_append.1 hc with hc | hc
        ·exact hb c (List.mem_of_mem_take hc)
        ·exact Zks _ _ (Zpp P T (WP hvc bx)) c hc
       ·exact hb c (List.mem_of_mem_drop hc)
      ·have:=ZcO (vc:=(YN (cs.drop off) (nrm P T vc)).map (BC.den ρ)) ho (Ze ρ ha) hd (J1 P g ρ x).symm (Vu ρ hvc) (by simpa using hh.1) (by omega) (by simpa using hh.2.2.1) (ZhW ρ htop hh.2.2.2) (Zn6 ρ (cs.drop off) (ZpM ρ P T vc))
       have he:(SV.box (cs.take off++YN (cs.drop off) (nrm P T vc)++cs.drop (off+P.cellsOf T))).den ρ = .box ((cs.map (BC.den ρ)).take off++(YN (cs.drop off) (nrm P T vc)).map (BC.den ρ)++(cs.map (BC.den ρ)).drop (off+P.cellsOf T)):=by
        simp only [SV.den,List.map_append,List.map_take,List.map_drop]
       simp only [List.map_cons,List.map_nil,he]
       exact this
     ·exact h.elim
    ·exact h.elim
  ·exact h.elim
 ·rename_i d q i s off ha
  split at h
  ·rename_i e l vc hp hvc
   have hpt:=ZF (P:=P) hg a
   rw [ha] at hpt
   have hat:=ZO ρ hp
   split at h
   ·rename_i sh hsh
    split at h
    ·rename_i vc' hvc'
     split at h
     ·rename_i hh
      obtain ⟨r1,r2,h⟩:=h
      have r1':0≤i.den ρ:=r1
      have r2':i.den ρ < ((l.den ρ).length:Int):=r2
      have hbv:=Ku _ _ _ hvc' (WP hvc bx)
      refine We h trivial (us1 (JD (hg d) ⟨Jv hp (hg d),hpt,Zah _ hbv⟩)) ?_
      obtain ⟨h1,h2,h3,h4,h5,hnm⟩:=hh
      subst h1
      have:=Zcm (vc:=vc.map (SC.den ρ)) (vc':=vc'.map (SC.den ρ)) ho (Ze ρ ha) (show Zo ((fun d=>(g d).den ρ) d) q=_ from hat) (Ks ρ h5) (J1 P g ρ x).symm (Vu ρ hvc) (by simpa using h2) (by omega) (by omega) h4 (Vw ρ _ _ _ hvc') hnm
      rw [← Vz] at this
      simp only [List.map_cons,List.map_nil,Jl]
      exact this
     ·exact h.elim
    ·exact h.elim
   ·exact h.elim
  ·exact h.elim
 ·rename_i d off m i ha
  exact ZjM hg ho ha h
 ·exact h.elim
theorem Zg3 {x:Operand} (hg:∀ d,(g d).bd n) (ho:o.op = .nilCheck x) (h:(JZ P E tx tk g o n k).wp P R A ρ):Yu tx P R A ρ g o n k:=by
 have bx:=ZF (P:=P) hg x
 simp only [JZ,ho] at h
 split at h
 ·rename_i d off hx
  exact ZY h trivial (KY ho (Ze ρ hx) (.inl ⟨_,_,rfl⟩))
 ·rename_i cs hx
  rw [hx] at bx
  exact ZY h bx (KY ho (Ze ρ hx) (.inr (.inl ⟨_,rfl⟩)))
 ·rename_i d q i s off hx
  rw [hx] at bx
  split at h
  ·rename_i e l hpl
   split at h
   ·rename_i hm
    exact ZY h bx (KY ho (Ze ρ hx) (.inr (.inr ⟨_,_,_,_,_,rfl,ZO ρ hpl,hm,by simp⟩)))
   ·exact h.elim
  ·exact h.elim
 ·exact h.elim
theorem ZoB {op:UnOp} {T:TypeId} {x:Operand} (hg:∀ d,(g d).bd n) (ho:o.op = .unOp op T x) (h:(JZ P E tx tk g o n k).wp P R A ρ):Yu tx P R A ρ g o n k:=by
 have bx:=ZF (P:=P) hg x
 simp only [JZ,ho] at h
 split at h
 ·rename_i b hx
  rw [hx] at bx
  refine ZY h (Zma bx) ?_
  have:=Zlz ho (Ze ρ hx)
  rw [← Zji] at this
  exact this
 ·rename_i kd e hx
  rw [hx] at bx
  exact ZY h ⟨trivial,bx⟩ (Zml ho (Ze ρ hx))
 ·rename_i kd e hx
  rw [hx] at bx
  exact ZY h ⟨trivial,bx⟩ (ZiQ ho (Ze ρ hx))
 ·exact h.elim
theorem Zi6 {S T:TypeId} {x:Operand} (hg:∀ d,(g d).bd n) (ho:o.op = .convert S T x) (h:(JZ P E tx tk g o n k).wp P R A ρ):Yu tx P R A ρ g o n k:=by
 have bx:=ZF (P:=P) hg x
 simp only [JZ,ho] at h
 split at h
 ·rename_i hS hT hx
  rw [hx] at bx
  exact ZY h bx (Zju ho hS hT (Ze ρ hx))
 ·rename_i hS hT hx
  rw [hx] at bx
  split at h
  ·rename_i he
   split at h
   ·rename_i hs
    subst hs
    exact ZY h.2 bx (Zit ho hS he hT (Ze ρ hx) h.1)
   ·exact h.elim
  ·exact h.elim
 ·exact h.elim
theorem Ze7 {T:TypeId} {x:Operand} {f:Nat} (hg:∀ d,(g d).bd n) (ho:o.op = .fieldAddr T x f) (h:(JZ P E tx tk g o n k).wp P R A ρ):Yu tx P R A ρ g o n k:=by
 have bx:=ZF (P:=P) hg x
 simp only [JZ,ho] at h
 split at h
 ·rename_i hf hx
  exact ZY h trivial (ZcC ho hf (Ze ρ hx))
 ·rename_i off cs hf hx
  rw [hx] at bx
  refine ZY h (fun c hc=>bx c (List.mem_of_mem_drop hc)) ?_
  have:=Zbv (cs:=cs.map (SC.den ρ)) ho hf (Ze ρ hx)
  rw [← List.map_drop] at this
  exact this
 ·rename_i off d q i s off' hf hx
  rw [hx] at bx
  split at h
  ·rename_i e l hpl
   split at h
   ·rename_i hm
    refine ZY h bx ?_
    have:=Zb9 ho hf (Ze ρ hx) (ZO ρ hpl) hm
    rw [Nat.add_assoc] at this
    exact this
   ·exact h.elim
  ·exact h.elim
 ·exact h.elim
theorem Zme {T:TypeId} {x:Operand} {f:Nat} (hg:∀ d,(g d).bd n) (ho:o.op = .field T x f) (h:(JZ P E tx tk g o n k).wp P R A ρ):Yu tx P R A ρ g o n k:=by
 have bx:=ZF (P:=P) hg x
 simp only [JZ,ho] at h
 split at h
 ·rename_i off agg sz cs hf hs hx
  rw [hx] at bx
  split at h
  ·rename_i hh
   have hx':Zr P (fun d=>(g d).den ρ) x = .agg (cs.map (SC.den ρ)):=Ze ρ hx
   cases agg with
   | true =>
    simp only at h
    refine ZY h (fun c hc=>bx c (List.mem_of_mem_drop (List.mem_of_mem_take hc))) ?_
    have:=Za9 (y:=.agg (((cs.map (SC.den ρ)).drop off).take sz)) ho hf hs hx' (by simpa using hh.1) hh.2 (.inl ⟨rfl,rfl⟩)
    rw [← List.map_drop,← List.map_take] at this
    exact this
   | false =>
    simp only at h
    split at h
    ·rename_i c hc
     refine ZY h (bx c (List.mem_of_getElem? hc)) ?_
     exact Za9 (y:=c.den ρ) ho hf hs hx' (by simpa using hh.1) hh.2 (.inr ⟨rfl,by simp [hc],by cases c<;>rfl⟩)
    ·exact h.elim
  ·exact h.elim
 ·exact h.elim
theorem Zhv {ix:IE} {d off s m:Nat} {kk:SV→STree} : ∀ (j:Nat),j≤m→(ZnQ ix d off s m kk j).wp P R A ρ→∃ i:Nat,i < m∧ix.den ρ=(i:Int)∧(kk (.ptr d (off+i*s))).wp P R A ρ
 | 0, _, h => h.elim
 | 1, hj, h => by
  obtain ⟨h1,h2,h3⟩:=h
  have h1':((m-1:Nat):Int)≤ix.den ρ:=h1
  have h2':ix.den ρ≤((m-1:Nat):Int):=h2
  exact ⟨m-1,by omega,by omega,h3⟩
 | j + 2, hj, h => by
  obtain ⟨h1,h2⟩:=h
  by_cases he:ix.den ρ=((m-(j+2):Nat):Int)
  ·exact ⟨m-(j+2),by omega,he,h1 (by simp [BE.den,IE.den,cop,he])⟩
  ·exact Zhv (j+1) (by omega) (h2 (by simp [BE.den,IE.den,cop,he]))
theorem ZeU {T:TypeId} {x i:Operand} (hg:∀ d,(g d).bd n) (ho:o.op = .indexAddr T x i) (h:(JZ P E tx tk g o n k).wp P R A ρ):Yu tx P R A ρ g o n k:=by
 simp only [JZ,ho] at h
 split at h
 ·rename_i hT hx hi
  split at h
  ·rename_i sh hsh
   split at h
   ·rename_i hh
    obtain ⟨vs,h1,h2,h3⟩:=h
    exact ⟨bind ρ n vs,n+sh.length,.eptr (ZB sh n),[],[],Nat.le_add_right _ _,YB ρ n vs,Jq sh n,by simp,h3,
     (ZiE ho hT hh.1 (by omega) (Ze ρ hx) (Ze ρ hi) h1 h2).t⟩
   ·exact h.elim
  ·exact h.elim
 ·rename_i m e d off kd ix hT hx hi
  split at h
  ·rename_i hh
   split at h
   ·rename_i z
    split at h
    ·rename_i hz
     exact ZY h trivial (Kp (kd:=kd) (z:=z) ho hT (by omega) (Ze ρ hx) (Ze ρ hi) hz.1 hz.2)
    ·exact h.elim
   ·split at h
    ·rename_i hv
     obtain ⟨r1,r2,h⟩:=h
     have r1':0≤ix.den ρ:=r1
     have r2':ix.den ρ < (m:Int):=r2
     have:=Kp (kd:=kd) (z:=ix.den ρ) ho hT (by omega) (Ze ρ hx) (Ze ρ hi) r1' r2'
     rw [hv.2,Nat.mul_one] at this
     have bi:=ZF (P:=P) hg i
     rw [hi] at bi
     exact ZY h bi this
    obtain ⟨i',h1,h2,h3⟩:=Zhv m (Nat.le_refl _) h
    have:=Kp (kd:=kd) (z:=(i':Int)) ho hT (by omega) (Ze ρ hx) (by rw [← h2];exact Ze ρ hi) (by omega) (by omega)
    rw [Int.toNat_natCast] at this
    exact ZY h3 trivial this
  ·exact h.elim
 ·rename_i e d q kd ix hT hx hi
  split at h
  ·rename_i e' l hp
   split at h
   ·rename_i hh
    obtain ⟨rfl,h0,hnm⟩:=hh
    obtain ⟨r1,r2,h⟩:=h
    have r1':0≤ix.den ρ:=r1
    have r2':ix.den ρ < ((l.den ρ).length:Int):=r2
    have bi:=ZF (P:=P) hg i
    rw [hi] at bi
    exact ZY h bi (Zcc ho hT (by omega) (Ze ρ hx) (show Zo ((fun d=>(g d).den ρ) d) q=_ from ZO ρ hp) rfl (Ze ρ hi) r1' (by omega) hnm)
   ·exact h.elim
  ·exact h.elim
 ·exact h.elim
theorem Zon {T:TypeId} {a b:Operand} (hg:∀ d,(g d).bd n) (ho:o.op = .makeSlice T a b) (h:(JZ P E tx tk g o n k).wp P R A ρ):Yu tx P R A ρ g o n k:=by
 simp only [JZ,ho] at h
 split at h
 ·rename_i m m' ha hb
  split at h
  ·rename_i e hT
   have bm:=ZF (P:=P) hg a
   rw [ha] at bm
   split at h
   ·rename_i i hi
    split at h
    ·rename_i z hz
     split at h
     ·rename_i zc sh hzc hsh
      split at h
      ·rename_i zc' hzc'
       split at h
       ·rename_i hzs
        have h1:=Ki ρ z.cells.toList
        rw [hzc] at h1
        obtain ⟨r1,r2,r3,h⟩:=h
        have r2':m.den ρ≤m'.den ρ:=r2
        have r3':m'.den ρ≤m.den ρ:=r3
        have hmm:m'.den ρ=m.den ρ:=by omega
        refine ZY h (x:=.own (!(E.exO o)) e _) ⟨bm,Zah _ (Ku _ _ _ hzc' (Vt hzc))⟩ ?_
        have hb':Zr P (fun d=>(g d).den ρ) b = .val (.int .i64 (m.den ρ)):=by rw [← hmm];exact Ze ρ hb
        have:=Zkm (!(E.exO o)) (zc:=zc.map (SC.den ρ)) (zc':=zc'.map (SC.den ρ)) ho hT hi hz hzs.1 h1.symm (Ze ρ ha) hb' r1.1 r1.2 hzs.2 (Vw ρ _ _ _ hzc')
        rw [← Vz] at this
        exact this
       ·exact h.elim
      ·exact h.elim
     ·exact h.elim
    ·exact h.elim
   ·exact h.elim
  ·exact h.elim
 ·exact h.elim
theorem Zm2 {T:TypeId} {x:Operand} {lo hi mx:Option Operand} (hg:∀ d,(g d).bd n) (htop:∀ i,E.top≤i→g i = .dead) (ho:o.op = .slice T x lo hi mx) (h:(JZ P E tx tk g o n k).wp P R A ρ):Yu tx P R A ρ g o n k:=by
 have bx:=ZF (P:=P) hg x
 simp only [JZ,ho] at h
 split at h
 ·rename_i e full s xs hT hx
  rw [hx] at bx
  have sx:=Ze ρ hx
  split at h
  ·rename_i hh
   have hs0:P.cellsOf e≠0:=by omega
   unfold ZjI at h
   split at h
   ·rename_i k1 k2 h1 h2 h3
    cases lo with
    | some y => simp at h1
    | none =>
     cases hi with
     | none => simp at h2
     | some y =>
      cases mx with
      | none => simp at h3
      | some z =>
       simp only [Option.map_some,Option.some.injEq] at h2 h3
       exact ZY h trivial (Zie ho hT hs0 sx (Ze ρ h2) (Ze ρ h3))
   ·rename_i h1 h2 h3
    cases lo with
    | some y => simp at h1
    | none =>
     cases hi with
     | some y => simp at h2
     | none =>
      cases mx with
      | some z => simp at h3
      | none =>
       have:=ZaY (l:=0) (h:=(xs.den ρ).length) (f':=full) ho hT hh.1 hs0 sx (Nat.zero_le _) (Nat.le_refl _) (.inl ⟨rfl,rfl⟩) (.inl ⟨rfl,rfl⟩) (fun h=>⟨h,rfl⟩)
       rw [List.take_length,List.drop_zero] at this
       exact ZY h bx this
   ·rename_i kl l h1 h2 h3
    cases lo with
    | none => simp at h1
    | some y =>
     cases hi with
     | some y => simp at h2
     | none =>
      cases mx with
      | some z => simp at h3
      | none =>
       simp only [Option.map_some,Option.some.injEq] at h1
       have by1:=ZF (P:=P) hg y
       rw [h1] at by1
       obtain ⟨r1,r2,h⟩:=h
       have r1':0≤l.den ρ:=r1
       have r2':l.den ρ≤((xs.den ρ).length:Int):=r2
       have sy:=Ze ρ h1
       have e1:((l.den ρ).toNat:Int)=l.den ρ:=Int.toNat_of_nonneg r1'
       have:=ZaY (l:=(l.den ρ).toNat) (h:=(xs.den ρ).length) (f':=full) ho hT hh.1 hs0 sx (by omega) (Nat.le_refl _) (.inr ⟨y,kl,rfl,by rw [e1];exact sy⟩) (.inl ⟨rfl,rfl⟩) (fun h=>⟨h,rfl⟩)
       rw [List.take_length] at this
       exact ZY h ⟨bx,by1⟩ this
   ·rename_i kl l h1 h2 h3
    cases lo with
    | some y => simp at h1
    | none =>
     cases hi with
     | none => simp at h2
     | some y =>
      cases mx with
      | some z => simp at h3
      | none =>
       simp only [Option.map_some,Option.some.injEq] at h2
       have by1:=ZF (P:=P) hg y
       rw [h2] at by1
       obtain ⟨r1,r2,h⟩:=h
       have r1':0≤l.den ρ:=r1
       have r2':l.den ρ≤((xs.den ρ).length:Int):=r2
       have sy:=Ze ρ h2
       have e1:((l.den ρ).toNat:Int)=l.den ρ:=Int.toNat_of_nonneg r1'
       have:=ZaY (l:=0) (h:=(l.den ρ).toNat) (f':=false) ho hT hh.1 hs0 sx (Nat.zero_le _) (by omega) (.inl ⟨rfl,rfl⟩) (.inr ⟨y,kl,rfl,by rw [e1];exact sy⟩) (fun h=>by simp at h)
       rw [List.drop_zero] at this
       exact ZY h ⟨bx,by1⟩ this
   ·rename_i kl l kh hb h1 h2 h3
    cases lo with
    | none => simp at h1
    | some y =>
     cases hi with
     | none => simp at h2
     | some z =>
      cases mx with
      | some z => simp at h3
      | none =>
       simp only [Option.map_some,Option.some.injEq] at h1 h2
       have by1:=ZF (P:=P) hg y
       rw [h1] at by1
       have by2:=ZF (P:=P) hg z
       rw [h2] at by2
       obtain ⟨r1,r2,r3,h⟩:=h
       have r1':0≤l.den ρ:=r1
       have r2':l.den ρ≤hb.den ρ:=r2
       have r3':hb.den ρ≤((xs.den ρ).length:Int):=r3
       have sy:=Ze ρ h1
       have sz:=Ze ρ h2
       have e1:((l.den ρ).toNat:Int)=l.den ρ:=Int.toNat_of_nonneg r1'
       have e2:((hb.den ρ).toNat:Int)=hb.den ρ:=Int.toNat_of_nonneg (by omega)
       have:=ZaY (l:=(l.den ρ).toNat) (h:=(hb.den ρ).toNat) (f':=false) ho hT hh.1 hs0 sx (by omega) (by omega) (.inr ⟨y,kl,rfl,by rw [e1];exact sy⟩) (.inr ⟨z,kh,rfl,by rw [e2];exact sz⟩) (fun h=>by simp at h)
       exact ZY h ⟨⟨bx,by2⟩,by1⟩ this
   ·exact h.elim
  ·exact h.elim
 ·rename_i e d q hT hx
  split at h
  ·rename_i k1 k2 h2 h3
   split at h
   ·rename_i e' l' hp
    split at h
    ·rename_i h0
     cases hi with
     | none => simp at h2
     | some y =>
      cases mx with
      | none => simp at h3
      | some z =>
       simp only [Option.map_some,Option.some.injEq] at h2 h3
       exact ZY h trivial (Zbd ho hT (by omega) (Ze ρ hx) (Ze ρ h2) (Ze ρ h3) (show Zo ((fun d=>(g d).den ρ) d) q=_ from ZO ρ hp) h0.2)
    ·exact h.elim
   ·exact h.elim
  split at h
  case isFalse=>exact h.elim
  rename_i hq0
  subst hq0
  split at h
  ·rename_i kh hv e' l hhi hd _
   have hb:=hg d
   rw [hd] at hb
   split at h
   ·rename_i us hus
    split at h
    ·rename_i hh
     obtain ⟨rfl,h0,hnm⟩:=hh
     cases hi with
     | none => simp at hhi
     | some z =>
      simp only [Option.map_some,Option.some.injEq] at hhi
      have bz:=ZF (P:=P) hg z
      rw [hhi] at bz
      obtain ⟨r1,r2,h⟩:=h
      have r1':0≤hv.den ρ:=r1
      have r2':hv.den ρ≤((l.den ρ).length:Int):=r2
      have e1:((hv.den ρ).toNat:Int)=hv.den ρ:=Int.toNat_of_nonneg r1'
      obtain ⟨us',rfl,q1,q2,q3⟩:=Yc ρ htop (t:=d) hd hus
      have hod:Yd tx (fun d=>(g d).den ρ) d (us.tail.map fun u=>(u.1,u.2.den ρ)):=by
       rcases q2 with ⟨h0,_⟩ | q2
       ·cases h0
       ·exact q2
      refine V4 h ⟨hb,bz⟩ (Yb hus hb) ?_
      rw [q1]
      exact ZgO (h:=(hv.den ρ).toNat) ho hT (by omega) (Ze ρ hx) (show (fun d=>(g d).den ρ) d = .own true e' (l.den ρ) by show (g d).den ρ=_;rw [hd];rfl) (by rw [e1];exact Ze ρ hhi) (by omega) hod hnm
    ·exact h.elim
   ·exact h.elim
  ·exact h.elim
 ·exact h.elim
theorem ZiT {x:Operand} {i:Nat} (hg:∀ d,(g d).bd n) (ho:o.op = .extract x i) (h:(JZ P E tx tk g o n k).wp P R A ρ):Yu tx P R A ρ g o n k:=by
 simp only [JZ,ho] at h
 split at h
 ·rename_i t vs h1 h2
  have hx:x = .tmp t:=by cases x<;>simp [ZS] at h1;rw [h1]
  subst hx
  simp only [ZS,Option.map_some,Option.some.injEq] at h2
  have hb:=hg t
  rw [h2] at hb
  have ht:(fun d=>(g d).den ρ) t = .tuple (vs.map (TC.den ρ)):=by show (g t).den ρ=_;rw [h2];rfl
  split at h
  ·rename_i b e xs hv
   have hv':(vs.map (TC.den ρ))[i]? = some (.own b e (xs.den ρ)):=by rw [List.getElem?_map,hv];rfl
   have hbx:=hb _ (List.mem_of_getElem? hv)
   split at h
   case isFalse=>exact h.elim
   rename_i hmv
   have hmv':b=true→Mv P e (xs.den ρ):=fun hb=>ZhH ρ (by rw [hb] at hmv;simpa using hmv)
   refine We h hbx (us1 (fun c hc=>?_)) ?_
   ·rcases List.mem_or_eq_of_mem_set hc with hc | rfl
    ·exact hb c hc
    ·cases b<;>first | exact hbx | trivial
   ·have:=ZaL (P:=P) (σ:=fun d=>(g d).den ρ) ho ht hv' hmv'
    simp only [List.map_cons,List.map_nil,SV.den,List.map_set]
    cases b<;>exact this
  ·rename_i y hv
   have hv':(vs.map (TC.den ρ))[i]? = some (y.den ρ):=by rw [List.getElem?_map,hv];rfl
   refine ZY h (hb _ (List.mem_of_getElem? hv)) (ZaB (σ:=fun d=>(g d).den ρ) ho ht hv' ?_ ?_ ?_ ?_ ?_)
   ·cases y<;>rfl
   all_goals first
    | (intro d p; cases y <;> simp [SV.den, SC.den])
    | (intro d; cases y <;> simp [SV.den, SC.den])
    | (cases y <;> simp [SV.den, SC.den])
  ·rename_i cs hv
   have hv':(vs.map (TC.den ρ))[i]? = some (.agg (cs.map (SC.den ρ))):=by rw [List.getElem?_map,hv];rfl
   exact ZY h (hb _ (List.mem_of_getElem? hv)) (ZaB (σ:=fun d=>(g d).den ρ) ho ht hv' rfl (fun _ _ h=>by cases h) (fun _ h=>by cases h) (fun h=>by cases h) (fun h=>by cases h))
  ·exact h.elim
  ·exact h.elim
 ·exact h.elim
theorem ZpW {c:Call} (hg:∀ d,(g d).bd n) (ho:o.op = .call c) (hc:c.callee = .builtin .len) (h:(JZ P E tx tk g o n k).wp P R A ρ):Yu tx P R A ρ g o n k:=by
 simp only [JZ,ho,hc] at h
 split at h
 ·rename_i x T hargs hts
  have bx:=ZF (P:=P) hg x
  split at h
  ·rename_i d q hx
   split at h
   ·rename_i e e' l hT hp
    split at h
    ·rename_i hnm
     exact ZY h (Jv hp (hg d)) (Zes ho hc hargs hts hT (Ze ρ hx) (show Zo ((fun d=>(g d).den ρ) d) q=_ from ZO ρ hp) hnm)
    ·exact h.elim
   ·exact h.elim
  ·unfold Zps at h
   split at h
   ·rename_i hT hx
    rw [hx] at bx
    exact ZY h bx (Zcw ho hc hargs hts hT (Ze ρ hx))
   ·rename_i hT hx
    rw [hx] at bx
    exact ZY h bx (ZfJ ho hc hargs hts hT (Ze ρ hx))
   ·exact h.elim
 ·exact h.elim
theorem Zoi {c:Call} (hg:∀ d,(g d).bd n) (ho:o.op = .call c) (hc:c.callee = .builtin .copy) (h:(JZ P E tx tk g o n k).wp P R A ρ):Yu tx P R A ρ g o n k:=by
 simp only [JZ,ho,hc] at h
 split at h
 ·rename_i x y T T' hargs hts
  split at h
  ·rename_i e d q f s ys hT hx hy
   split at h
   ·rename_i e' l hp
    split at h
    ·rename_i hh
     obtain ⟨rfl,h1,rfl,h5,hnm⟩:=hh
     have by1:=ZF (P:=P) hg y
     rw [hy] at by1
     refine We h trivial (us1 (JD (hg d) ⟨Jv hp (hg d),by1⟩)) ?_
     simp only [List.map_cons,List.map_nil,Jl]
     exact ZcD (f:=f) ho hc hargs hts hT h1 (Ze ρ hx) (show Zo ((fun d=>(g d).den ρ) d) q=_ from ZO ρ hp) (Ks ρ h5) (Ze ρ hy) hnm
    ·exact h.elim
   ·exact h.elim
  ·exact h.elim
 ·exact h.elim
theorem Zbf {c:Call} {T:TypeId} {x y:Operand} (src:Option Nat) {xv:SV} {ex:Bool} (hg:∀ d,(g d).bd n) (htop:∀ i,E.top≤i→g i = .dead) (ho:o.op = .call c) (hc:c.callee = .builtin .append) (hargs:c.args.toList = [x,y])
  (hts:c.argTypes.toList = [T,T]) (hsrc:∀ t,src=some t→x = .tmp t∧xv=g t) (hnone:src=none→xv=Jh P g x)
  (h:(Za2 P T tx g E.top ex src xv (Jh P g y) fun v us=>k v us [] n).wp P R A ρ):Yu tx P R A ρ g o n k:=by
 have bY:=ZF (P:=P) hg y
 have hxv:xv.bd n:=by
  cases src with
  | none => rw [hnone rfl]; exact ZF hg x
  | some t => rw [(hsrc t rfl).2]; exact hg t
 unfold Za2 at h
 split at h
 ·rename_i e hT
  split at h
  ·rename_i i hi
   split at h
   ·rename_i z hz
    split at h
    ·rename_i hh
     split at h
     ·rename_i b e' xs f s ys hy
      rw [hy] at bY
      split at h
      ·rename_i t
       obtain ⟨rfl,hx⟩:=hsrc t rfl
       split at h
       ·rename_i us hus
        split at h
        ·rename_i he
         obtain ⟨rfl,rfl⟩:=he
         obtain ⟨us',rfl,q1,q2,q3⟩:=Yc ρ htop (t:=t) hx.symm hus
         refine V4 h.2 ⟨hxv,bY⟩ (Yb hus hxv) ?_
         rw [q1]
         exact ZbF (σ:=fun d=>(g d).den ρ) ho hc hargs hts hT hi hz hh.1 (by show (g t).den ρ=_;rw [← hx];rfl) (Ze ρ hy) h.1 q2 hh.2.2
        ·exact h.elim
       ·exact h.elim
      ·exact h.elim
     ·rename_i s0 f s ys hy
      rw [hy] at bY
      split at h
      ·rename_i he
       subst he
       refine We h.2 bY (by simp) ?_
       have hx:Zr P (fun d=>(g d).den ρ) x = .slice true s0 []:=by
        cases src with
        | none => exact Ze ρ (hnone rfl).symm
        | some t =>
         obtain ⟨rfl,hx⟩:=hsrc t rfl
         simp only [Zr,← hx]
         rfl
       exact ZaH (σ:=fun d=>(g d).den ρ) ex ho hc hargs hts hT hi hz hh.1 hx (Ze ρ hy) h.1 hh.2.2
      ·exact h.elim
     ·exact h.elim
    ·exact h.elim
   ·exact h.elim
  ·exact h.elim
 ·exact h.elim
theorem Zaz {c:Call} {T:TypeId} {x y:Operand} (src:Option Nat) {xv:SV} {ex:Bool} {d q:Nat} (hg:∀ d,(g d).bd n) (htop:∀ i,E.top≤i→g i = .dead) (ho:o.op = .call c) (hc:c.callee = .builtin .append) (hargs:c.args.toList = [x,y])
  (hts:c.argTypes.toList = [T,T]) (hy:Jh P g y = .mref d q) (hsrc:∀ t,src=some t→x = .tmp t∧xv=g t) (hnone:src=none→xv=Jh P g x)
  (h:(Wy P T tx g E.top ex src xv (Jd (g d) q) fun v us=>k v us [d] n).wp P R A ρ):Yu tx P R A ρ g o n k:=by
 have hxv:xv.bd n:=by
  cases src with
  | none => rw [hnone rfl]; exact ZF hg x
  | some t => rw [(hsrc t rfl).2]; exact hg t
 unfold Wy at h
 split at h
 ·rename_i e hT
  split at h
  ·rename_i i hi
   split at h
   ·rename_i z hz
    split at h
    ·rename_i hh
     split at h
     ·rename_i b e' xs e2 ys hp
      split at h
      ·rename_i t
       obtain ⟨rfl,hx⟩:=hsrc t rfl
       split at h
       ·rename_i us hus
        split at h
        ·rename_i he
         obtain ⟨rfl,rfl⟩:=he
         obtain ⟨us',rfl,q1,q2,q3⟩:=Yc ρ htop (t:=t) hx.symm hus
         refine V4 h.2 ⟨hxv,Jv hp (hg d)⟩ (Yb hus hxv) ?_
         rw [q1]
         exact VO (σ:=fun d=>(g d).den ρ) ho hc hargs hts hT hi hz hh.1 (by show (g t).den ρ=_;rw [← hx];rfl) (Ze ρ hy) (show Zo ((fun d=>(g d).den ρ) d) q=_ from ZO ρ hp) h.1 q2 hh.2.2
        ·exact h.elim
       ·exact h.elim
      ·exact h.elim
     ·rename_i s0 e' ys hp
      split at h
      ·rename_i he
       subst he
       have hx':Zr P (fun d=>(g d).den ρ) x = .slice true s0 []:=by
        cases src with
        | none => exact Ze ρ (hnone rfl).symm
        | some t =>
         obtain ⟨rfl,hx⟩:=hsrc t rfl
         simp only [Zr,← hx]
         rfl
       refine ZY h.2 (Jv hp (hg d)) ?_
       exact Vp (σ:=fun d=>(g d).den ρ) ex ho hc hargs hts hT hi hz hh.1 hx' (Ze ρ hy) (show Zo ((fun d=>(g d).den ρ) d) q=_ from ZO ρ hp) h.1 hh.2.2
      ·exact h.elim
     ·exact h.elim
    ·exact h.elim
   ·exact h.elim
  ·exact h.elim
 ·exact h.elim
theorem Zjo {c:Call} (hg:∀ d,(g d).bd n) (htop:∀ i,E.top≤i→g i = .dead) (ho:o.op = .call c) (hc:c.callee = .builtin .append) (h:(JZ P E tx tk g o n k).wp P R A ρ):Yu tx P R A ρ g o n k:=by
 simp only [JZ,ho,hc] at h
 split at h
 ·rename_i x y T T' hargs hts
  split at h
  ·rename_i hTT
   subst hTT
   split at h
   ·rename_i d q hy
    split at h
    ·rename_i t ht
     have hx:x = .tmp t:=by cases x<;>simp [ZS] at ht;rw [ht]
     exact Zaz (some t) hg htop ho hc hargs hts hy (fun t' ht'=>by simp only [Option.some.injEq] at ht';subst ht';exact ⟨hx,rfl⟩) (fun h=>by cases h) h
    ·exact Zaz none hg htop ho hc hargs hts hy (fun t' ht'=>by cases ht') (fun _=>rfl) h
   split at h
   ·rename_i t ht
    have hx:x = .tmp t:=by cases x<;>simp [ZS] at ht;rw [ht]
    exact Zbf (some t) hg htop ho hc hargs hts (fun t' ht'=>by simp only [Option.some.injEq] at ht';subst ht';exact ⟨hx,rfl⟩) (fun h=>by cases h) h
   ·exact Zbf none hg htop ho hc hargs hts (fun t' ht'=>by cases ht') (fun _=>rfl) h
  ·exact h.elim
 ·exact h.elim
theorem Znf {c:Call} {ka kb:IntKind} {a b:IE} (h:c.args.toList.map (Jh P g) = [.c (.int ka a),.c (.int kb b)]) :
  ∃ x y,c.args.toList = [x,y]∧Jh P g x = .c (.int ka a)∧Jh P g y = .c (.int kb b):=by
 cases hl:c.args.toList with
 | nil => simp [hl] at h
 | cons x l =>
  cases l with
  | nil => simp [hl] at h
  | cons y l =>
   cases l with
   | nil => simp only [hl, List.map_cons, List.map_nil, List.cons.injEq, and_true] at h; exact ⟨x, y, rfl, h.1, h.2⟩
   | cons z l => simp [hl] at h
theorem Zpt {c:Call} (hg:∀ d,(g d).bd n) (ho:o.op = .call c) (hc:c.callee = .builtin .min) (h:(JZ P E tx tk g o n k).wp P R A ρ):Yu tx P R A ρ g o n k:=by
 simp only [JZ,ho,hc] at h
 split at h
 ·rename_i ka a kb b hl
  obtain ⟨x,y,h1,h2,h3⟩:=Znf hl
  split at h
  ·rename_i he
   subst he
   have b1:=ZF (P:=P) hg x
   have b2:=ZF (P:=P) hg y
   rw [h2] at b1
   rw [h3] at b2
   exact ZY h ⟨b1,b2⟩ (ZbK (mn:=true) ho hc h1 (Ze ρ h2) (Ze ρ h3))
  ·exact h.elim
 ·exact h.elim
theorem Zpf {c:Call} (hg:∀ d,(g d).bd n) (ho:o.op = .call c) (hc:c.callee = .builtin .max) (h:(JZ P E tx tk g o n k).wp P R A ρ):Yu tx P R A ρ g o n k:=by
 simp only [JZ,ho,hc] at h
 split at h
 ·rename_i ka a kb b hl
  obtain ⟨x,y,h1,h2,h3⟩:=Znf hl
  split at h
  ·rename_i he
   subst he
   have b1:=ZF (P:=P) hg x
   have b2:=ZF (P:=P) hg y
   rw [h2] at b1
   rw [h3] at b2
   exact ZY h ⟨b1,b2⟩ (ZbK (mn:=false) ho hc h1 (Ze ρ h2) (Ze ρ h3))
  ·exact h.elim
 ·exact h.elim
theorem Zfv (ρ:Nat→V) (l:List SAK):(l.map (SAK.den ρ)).filterMap AK.slot=l.filterMap SAK.slot:=by
 rw [List.filterMap_map]
 congr 1
 funext a
 exact ZaX ρ a
theorem Zgx {c:Call} {f:FuncId} {ds rf:List Nat} {aZ:List SAK} (htop:∀ i,E.top≤i→g i = .dead) (ho:o.op = .call c) (hc:(c.callee = .value (.func f)∧ds = [])∨∃ t,c.callee = .value (.tmp t)∧(g t).den ρ = .clo f ds)
  (ha:Vb P g ρ (c.args.toList.map ZaM.op++ds.map ZaM.cap) aZ) (hraw:Raw aZ) (hrf:∀ (i:Nat) (x:Operand),c.args.toList[i]? = some x→(rf.contains i&&(Zbp g x).isSome)=true→∃ t d q j,aZ[i]? = some (SAK.ref t d q j)) (h:(ZeC P E tx g f (V9 P g rf c.args.toList 0) (W6 g (ZqB P f) aZ) n k).wp P R A ρ):Yu tx P R A ρ g o n k:=by
 unfold ZeC at h
 split at h
 ·rename_i saks Ts hs _
  split at h
  ·rename_i hnd0
   obtain ⟨hnd,hfree⟩:=hnd0
   split at h
   ·rename_i res sh n' hr
    obtain ⟨q1,q2,q3⟩:=Zip hr
    dsimp only at h
    split at h
    case isFalse=>exact h.elim
    rename_i hbo0
    obtain ⟨hbo,hrnm⟩:=hbo0
    obtain ⟨vs,h1,h2⟩:=h
    obtain ⟨tail,a1,a2,a3,a4,a5,a6⟩:=Ziy ρ ha hraw hs
    have hlen:((Jm (saks.map SAK.sv) n').1).length=saks.length:=by rw [ZcS,List.length_map]
    refine ⟨bind ρ n vs,(Jm (saks.map SAK.sv) n').2.2,res,Zak saks (Jm (saks.map SAK.sv) n').1,saks.filterMap SAK.slot++(V9 P g rf c.args.toList 0).map (·.1),Nat.le_trans q1 (Y4 _ _),YB ρ n vs,SV.bd_mono (Y4 _ _) _ q2,
     K0 _ _ (Wp _ _),h2,?_⟩
    have:=Zjv (T:=tx) (((V9 P g rf c.args.toList 0).head?.getD (0,0)).1) (((V9 P g rf c.args.toList 0).head?.getD (0,0)).2) ((V9 P g rf c.args.toList 0).map (·.1)) (P:=P) (σ:=fun d=>(g d).den ρ) (aks:=saks.map (SAK.den ρ)) (res:=res.den (bind ρ n vs)) (outs:=(Jm (saks.map SAK.sv) n').1.map (SV.den (bind ρ n vs))) (tail:=tail) ho hc (by simpa using a1.1)
     (fun i x a hx hi=>?_) a2 (by simpa using a3) a4 a5
     (by rw [Zfv];exact WV _ hnd) (by simp [hlen]) (fun i d fr to cs y hi hy=>?_) (q3 _) (ZlP _ hrnm) (fun i t e xs hi=>?_) (fun i d fr to cs hi=>?_) (fun i x hx hz d q hxm hno=>?_) ?_
    ·rw [ZeL,Zfv] at this
     exact this
    ·rw [List.getElem?_map] at hi
     cases hsi:saks[i]? with
     | none => simp [hsi] at hi
     | some a0 =>
      simp only [hsi,Option.map_some,Option.some.injEq] at hi
      subst hi
      exact a1.2 i x a0 hx hsi
    ·rw [List.getElem?_map] at hi hy
     cases hsi:saks[i]? with
     | none => simp [hsi] at hi
     | some a =>
      cases hyi:(Jm (saks.map SAK.sv) n').1[i]? with
      | none => simp [hyi] at hy
      | some y0 =>
       simp only [hsi,hyi,Option.map_some,Option.some.injEq] at hi hy
       subst hy
       cases a with
       | box d0 fr0 to0 cs0 =>
        simp only [SAK.den,AK.box.injEq] at hi
        obtain ⟨rfl,rfl,rfl,rfl⟩:=hi
        obtain ⟨cs',rfl⟩:=Vy (saks.map SAK.sv) n' i to0 cs0 y0 (by rw [List.getElem?_map,hsi];rfl) hyi
        exact ⟨_,Za0 _ _ _⟩
       | _ => cases hi
    ·rw [List.getElem?_map] at hi
     cases hsi:saks[i]? with
     | none => simp [hsi] at hi
     | some a =>
      simp only [hsi,Option.map_some,Option.some.injEq] at hi
      cases a with
      | own t0 x0 e0 l0 =>
       simp only [SAK.den,AK.own.injEq] at hi
       obtain ⟨rfl,rfl,rfl,_⟩:=hi
       unfold ZdM at hfree
       rw [List.all_eq_true] at hfree
       have hf:=hfree _ (List.mem_of_getElem? hsi)
       cases tx with
       | any N M K => exact .inr ⟨N, M, K, rfl, hf, rfl⟩
       | text =>
       simp only [List.isEmpty_iff] at hf
       refine .inl ⟨rfl,by simp,fun j q _ hr=>?_⟩
       have hda:=(JL ρ htop (d:=t0)).2 j q
       by_cases hj:j=t0
       ·subst hj
        have hok:=a1.2 i
        have hlt:=(List.getElem?_eq_some_iff.1 hsi).1
        obtain ⟨x,hx⟩:∃ x,(c.args.toList.map ZaM.op++ds.map ZaM.cap++tail)[i]? = some x:=⟨_,List.getElem?_eq_getElem (by rw [a1.1];exact hlt)⟩
        have hk:=hok x _ hx hsi
        cases x with
        | op y =>
         have h1:(g j).den ρ = .own true e0 (l0.den ρ):=hk.2
         have hr':Je ((g j).den ρ) j q:=hr
         rw [h1] at hr'
         rcases hr' with h2 | ⟨_,h2⟩ <;> cases h2
        | _ => exact hk.elim
       ·have:=hda hj hr
        rw [hf] at this
        cases this
      | _ => cases hi
    ·rw [List.getElem?_map] at hi
     cases hsi:saks[i]? with
     | none => simp [hsi] at hi
     | some a =>
      simp only [hsi,Option.map_some,Option.some.injEq] at hi
      cases a with
      | box t0 fr0 to0 cs0 =>
       simp only [SAK.den,AK.box.injEq] at hi
       obtain ⟨rfl,rfl,rfl,rfl⟩:=hi
       unfold ZdM at hfree
       rw [List.all_eq_true] at hfree
       have hf0:=hfree _ (List.mem_of_getElem? hsi)
       rcases Bool.or_eq_true_iff.1 hf0 with hpl | hf
       ·exact .inl (Zbe hpl ρ)
       ·right
        cases tx with
        | any N M K =>
         rcases Bool.or_eq_true_iff.1 hf with hf | hf
         ·exact .inl (.inr ⟨N,M,K,rfl,hf,rfl⟩)
         ·refine .inr fun σ' hrl j q hr=>?_
          cases hM:M t0 with
          | none => rw [hM] at hf; cases hf
          | some t =>
           rw [hM] at hf
           simp only at hf
           by_cases hj:t=j
           ·subst hj
            rw [List.any_eq_true] at hf
            obtain ⟨b,hb,hbt⟩:=hf
            cases b with
            | ref t1 _ _ _ =>
             have h4:t1=t:=by simpa using hbt
             exact ⟨_,List.mem_map.2 ⟨_,hb,rfl⟩,by rw [ZaX];show some t1=some t;rw [h4]⟩
            | _ => cases hbt
           ·exact (hrl.1 t0 j q (by simp [Odr.nr,hM,hj]) hr).elim
        | text =>
        refine .inr fun σ' hrl j q hr=>?_
        have hrl':σ'=fun d=>(g d).den ρ:=hrl
        rw [hrl'] at hr
        have hda:=(JL ρ htop (d:=t0)).2 j q
        by_cases hj:j=t0
        ·subst hj
         have hok:=a1.2 i
         have hlt:=(List.getElem?_eq_some_iff.1 hsi).1
         obtain ⟨x,hx⟩:∃ x,(c.args.toList.map ZaM.op++ds.map ZaM.cap++tail)[i]? = some x:=⟨_,List.getElem?_eq_getElem (by rw [a1.1];exact hlt)⟩
         have hk:=hok x _ hx hsi
         have hr':Je ((g j).den ρ) j q:=hr
         have hb0:∃ fr cs,(g j).den ρ=mkB fr cs:=by
          cases x with
          | op y => exact ⟨false, _, hk.2.1⟩
          | cap d' => exact ⟨_, _, hk.2.1⟩
          | ghost => exact ⟨_, _, hk.1⟩
          | pad => exact hk.elim
         obtain ⟨fr,cs,hb0⟩:=hb0
         rw [hb0] at hr'
         cases fr<;>rcases hr' with h2 | ⟨_,h2⟩ <;> cases h2
        ·have hm:=hda hj hr
         rw [List.all_eq_true] at hf
         obtain ⟨u,hu,huj⟩:=List.mem_map.1 hm
         obtain ⟨u0,hu0,rfl⟩:=List.mem_map.1 hu
         have h3:=hf u0 hu0
         rw [List.any_eq_true] at h3
         obtain ⟨b,hb,hbt⟩:=h3
         cases b with
         | ref t1 _ _ _ =>
          refine ⟨_,List.mem_map.2 ⟨_,hb,rfl⟩,?_⟩
          have h4:t1=u0.1:=by simpa using hbt
          rw [ZaX]
          show some t1=some j
          rw [h4];exact congrArg some huj
         | _ => cases hbt
      | _ => cases hi
    ·have hnrf:(rf.contains (0+i)&&(Zbp g x).isSome)=false:=by
      rw [Nat.zero_add]
      cases hc':(rf.contains i&&(Zbp g x).isSome) with
      | false => rfl
      | true =>
       obtain ⟨t1,d1,q1,j1,h1'⟩:=hrf i x hx hc'
       obtain ⟨j2,h2'⟩:=a6 i t1 d1 q1 j1 h1'
       obtain ⟨z,hz⟩:=hz
       rw [List.getElem?_map,h2'] at hz
       cases hz
     have hm:=ZeP (P:=P) (g:=g) ρ hx hnrf hxm hno
     generalize V9 P g rf c.args.toList 0=bs at hm hbo
     cases bs with
     | nil => cases hm
     | cons p r =>
      simp only [Zpa,Bool.and_eq_true,List.all_eq_true,decide_eq_true_eq,Bool.not_eq_true',List.contains_eq_mem,decide_eq_false_iff_not] at hbo
      obtain ⟨⟨⟨b1,b2⟩,b3⟩,b4⟩:=hbo
      have hp:d=p.1∧q=p.2:=by
       rcases List.mem_cons.1 hm with h0 | h0
       ·rw [← h0];exact ⟨rfl,rfl⟩
       ·exact b1 _ h0
      refine ⟨hp.1,hp.2,by simp,fun a ha hs=>b2 ?_,fun i=>?_⟩
      ·obtain ⟨a0,ha0,rfl⟩:=List.mem_map.1 ha
       rw [ZaX] at hs
       exact List.mem_filterMap.2 ⟨a0,ha0,hs⟩
      ·simp only [ZM]
       rcases Nat.lt_or_ge i ((Jm (saks.map SAK.sv) n').1.map (SV.den (bind ρ n vs))).length with hi | hi
       ·rw [List.getElem?_append_left hi,List.getElem?_map]
        cases hy:(Jm (saks.map SAK.sv) n').1[i]? with
        | none => rfl
        | some y => exact Zdd _ (b4 y (List.mem_of_getElem? hy))
       ·rw [List.getElem?_append_right hi]
        cases hj:i-((Jm (saks.map SAK.sv) n').1.map (SV.den (bind ρ n vs))).length with
        | zero => exact Zdd _ b3
        | succ j => rfl
    ·have he:(saks.map (SAK.den ρ)).map AK.av=(saks.map SAK.sv).map (SV.den ρ):=by
      rw [List.map_map,List.map_map]
      exact List.map_congr_left fun a _=>Zno ρ a
     rw [he]
     exact h1
   ·exact h.elim
  ·exact h.elim
 ·exact h.elim
theorem ZgN {d:Nat} {u:Nat×SV} {n:Nat} (ρ:Nat→V) (hu:u∈ZR g d n):u.2 = .dead∧∃ d k,Je ((g u.1).den ρ) d k:=by
 obtain ⟨h1,_,_,h4⟩:=(Jp n u).1 hu
 obtain ⟨k,hk⟩:=(Zaf ρ d (g u.1)).1 h4
 exact ⟨h1,d,k,hk⟩
theorem Zf9 {rf:List Nat} {args:List Operand} {u:Nat×SV} (ρ:Nat→V) (hu:u∈ZaZ E tx g rf args):u.2 = .dead∧∃ d k,Je ((g u.1).den ρ) d k:=by
 unfold ZaZ at hu
 split at hu
 ·obtain ⟨p,_,hp⟩:=List.mem_flatMap.1 (List.mem_filter.1 hu).1
  split at hp
  ·split at hp
   ·exact ZgN ρ hp
   ·cases hp
  ·cases hp
 ·cases hu
theorem ZfC (kl:Ups):(fun d=>(ZfW kl g d).den ρ)=Ju (fun d=>(g d).den ρ) ((kl.map fun u=>(u.1,SV.dead.den ρ))):=by
 funext d
 rw [Kt _ _ _ (fun u hu=>by obtain ⟨v,_,rfl⟩:=List.mem_map.1 hu;rfl)]
 unfold ZfW
 by_cases h:(kl.any fun u=>u.1 == d)=true
 ·rw [if_pos h,if_pos]
  ·rfl
  ·rw [List.any_eq_true] at h
   obtain ⟨u,hu,he⟩:=h
   rw [List.map_map]
   exact List.mem_map.2 ⟨u,hu,by simpa using he⟩
 ·rw [if_neg h,if_neg]
  rw [List.map_map]
  intro hm
  obtain ⟨u,hu,he⟩:=List.mem_map.1 hm
  exact h (List.any_eq_true.2 ⟨u,hu,by simpa using he⟩)
theorem Zk1 (kl:Ups) (hkl:∀ u∈kl,u.2 = .dead∧(∃ d k,Je ((g u.1).den ρ) d k)∧u.1∉K2 o) (h:Yu .text P R A ρ (ZfW kl g) o n (fun x us fp n'=>k x (kl++us) fp n')):Yu .text P R A ρ g o n k:=by
 obtain ⟨ρ',n',x,us,fp,h1,h2,h3,h4,h5,h6⟩:=h
 refine ⟨ρ',n',x,kl++us,fp,h1,h2,h3,fun u hu=>?_,h5,?_⟩
 ·rcases List.mem_append.1 hu with hu | hu
  ·rw [(hkl u hu).1];trivial
  ·exact h4 u hu
 intro c hc σ' tm w lim X _ _ hT hsim next Q hn
 have hT':σ'=fun d=>(g d).den ρ:=hT
 subst hT'
 have hmap:(kl.map fun u=>(u.1,u.2.den ρ'))=kl.map fun u=>(u.1,SV.dead.den ρ):=List.map_congr_left fun u hu=>by rw [(hkl u hu).1];rfl
 obtain ⟨X',hs,_⟩:=Sim.drops (kl.map fun u=>(u.1,SV.dead.den ρ)) hsim fun u hu=>by
  obtain ⟨v,hv,rfl⟩:=List.mem_map.1 hu
  obtain ⟨_,⟨d,q,hr⟩,_⟩:=hkl v hv
  obtain ⟨g1,g2,g3⟩:=Yw hr
  refine ⟨rfl,g2,Yl hsim (fun he=>?_) g3⟩
  rw [he] at hr
  rcases hr with hr | ⟨_,hr⟩ <;> cases hr
 rw [← ZfC] at hs
 refine h6 c hc _ tm w lim X' (fun _ _=>.inl rfl) (fun _ _=>rfl) rfl hs next Q fun v w' ha=>hn v w' ?_
 rw [List.map_append,hmap,KR,← ZfC]
 exact ha
theorem Zfm:∀ (l:List SV) (ds:List Nat),ZdA l=some ds→l.length=ds.length∧∀ (i d:Nat),ds[i]? = some d→l[i]? = some (.ptr d 0)
 | [], ds, h => by simp only [ZdA, Option.some.injEq] at h; subst h; exact ⟨rfl, by simp⟩
 | x :: l, ds, h => by
  unfold ZdA at h
  split at h
  ·rename_i heq;cases heq
  ·rename_i d r heq
   simp only [List.cons.injEq] at heq
   obtain ⟨rfl,rfl⟩:=heq
   cases hr:ZdA l with
   | none => rw [hr] at h; cases h
   | some es =>
    rw [hr] at h
    simp only [Option.map_some,Option.some.injEq] at h
    subst h
    obtain ⟨h1,h2⟩:=Zfm l es hr
    refine ⟨by simp [h1],fun i e he=>?_⟩
    cases i with
    | zero => simp only [List.getElem?_cons_zero, Option.some.injEq] at he ⊢; rw [he]
    | succ i => simpa using h2 i e (by simpa using he)
  ·cases h
theorem ZgC {fn:Fn} {first captured:Array Operand} (ho:o.op = .makeFunc fn first captured) (h:(JZ P E tx tk g o n k).wp P R A ρ):Yu tx P R A ρ g o n k:=by
 simp only [JZ,ho] at h
 split at h
 ·rename_i f ds hf hds
  split at h
  ·rename_i hall
   obtain ⟨h1,h2⟩:=Zfm _ _ hds
   refine ZY h trivial (ZdG ho hf (by simpa using h1) fun i x d hx hd=>?_)
   have h3:=h2 i d hd
   rw [List.getElem?_map,hx] at h3
   simp only [Option.map_some,Option.some.injEq] at h3
   rw [List.all_eq_true] at hall
   have h4:=hall d (List.mem_of_getElem? hd)
   refine ⟨Ze ρ h3,?_⟩
   show ∃ cs,(g d).den ρ = .box cs
   split at h4
   ·rename_i cs hcs;rw [hcs];exact ⟨_,rfl⟩
   ·cases h4
  ·exact h.elim
 ·exact h.elim
theorem Zkb {P:Program} (w:World) (d:Nat) {t e:TypeId} (a:Addr) (h:P.underlying t=some (.pointer e)):(Op.equalIn (d+1) t (.pointer (some a)) (.pointer none)).run P w = .ok false w:=by
 simp [Op.equalIn,run_underlying h]
theorem Zbc {P:Program} {o:Oper} {σ:Nat→AV} {op:BinOp} {T T' e:TypeId} {x:Operand} {d off:Nat} (ho:o.op = .binOp op T x (.const (.pointer none)) T') (hT:P.underlying T=some (.pointer e))
  (hop:op = .eql∨op = .neq) (hx:Zr P σ x = .ptr d off):JA P o σ (.val (.bool (if op = .eql then false else true))) [] []:=by
 refine ZE [] rfl fun c hc σ' tm w lim X hg _ hsim=>⟨.bool (if op = .eql then false else true),?_,.val rfl⟩
 rw [ho] at hg
 obtain ⟨b,cs,_,_,hv⟩:=J0 hc hsim hx (hg x (by simp [Op.operands]))
 have hc0:Act.eval ⟨tm,[]⟩ (.const (.pointer none)) = .pointer none:=rfl
 have he:(Op.equal T (.pointer (some ⟨b,off,none⟩)) (.pointer none)).run P w = .ok false w:=Zkb w 9999 _ hT
 rcases hop with rfl | rfl<;>simp [execOp,ho,hv,hc0,eqGuard,binOp,he]
theorem ZlG {op:BinOp} {T T':TypeId} {x y:Operand} (hps:EnvSound P E) (hg:∀ d,(g d).bd n) (ho:o.op = .binOp op T x y T') (h:(JZ P E tx tk g o n k).wp P R A ρ):Yu tx P R A ρ g o n k:=by
 simp only [JZ,ho] at h
 split at h
 ·rename_i b hb
  unfold Znt at hb
  split at hb
  ·rename_i d off e hx hT
   split at hb
   ·simp only [Option.some.injEq] at hb
    subst hb
    exact ZY h trivial (Zbc (op:=.eql) ho hT (.inl rfl) (Ze ρ hx))
   ·simp only [Option.some.injEq] at hb
    subst hb
    exact ZY h trivial (Zbc (op:=.neq) ho hT (.inr rfl) (Ze ρ hx))
   ·cases hb
  ·cases hb
 ·exact Zkg hps.1 hg ho h
theorem ZhT {l:List (List AV)} {k:Int} (h:Zll .any l k=true):∃ kvs tl,l = [.slice false 2 kvs::tl]:=by
 unfold Zll at h
 split at h
 ·exact ⟨_,_,rfl⟩
 ·cases h
theorem ZjR {l:List (List AV)} {k:Int} (h:Zll .full l k=true):∃ kvs,l = [[.slice false 2 kvs]]:=by
 unfold Zll at h
 split at h
 ·rename_i kvs tl
  obtain rfl:tl = []:=by simpa using h
  exact ⟨_,rfl⟩
 ·cases h
theorem ZjG {l:List (List AV)} {k:Int} (h:Zll .at l k=true):∃ kvs tl,l = [.slice false 2 kvs::tl]∧∀ x∈tl,x = .val (.int .i64 k):=by
 unfold Zll at h
 split at h
 ·rename_i kvs tl
  refine ⟨_,_,rfl,fun x hx=>?_⟩
  have:=List.all_eq_true.1 (show tl.all (ZnK k)=true from h) x hx
  unfold ZnK at this
  split at this
  ·rename_i z
   have hz:z=k:=by simpa using this
   rw [hz]
  ·cases this
 ·cases h
theorem ZjY {l:List (List AV)} {k:Int} (h:Zll .keys l k=true):∃ kvs,l = [[.slice false 2 kvs]]∧kvs.length≤1048576∧∀ r∈kvs,Zci r=true:=by
 unfold Zll at h
 split at h
 ·rename_i kvs tl
  have h':tl.isEmpty=true∧kvs.length≤1048576∧kvs.all Zci=true:=by simpa using h
  obtain rfl:tl = []:=by simpa using h'.1
  exact ⟨_,rfl,h'.2.1,List.all_eq_true.1 h'.2.2⟩
 ·cases h
theorem Zil {T:TypeId} {x:Option Operand} (ho:o.op = .makeMap T x) (h:(JZ P E tx tk g o n k).wp P R A ρ):Yu tx P R A ρ g o n k:=by
 simp only [JZ,ho] at h
 split at h
 ·rename_i et het
  exact ZY h (show (LE.bd n _) from ⟨trivial,trivial,trivial⟩) (Zfe ho het)
 ·rename_i hks
  split at h
  ·rename_i z hz
   split at h
   ·rename_i hlt
    exact ZY h (show (LE.bd n _) from ⟨trivial,trivial,trivial⟩) (Zeh ho hz hks hlt)
   ·exact h.elim
  ·exact h.elim
 ·exact h.elim
theorem ZlV {z:Value} {sh:Sh} (hk:ZbC z=some sh):∃ zc,ofC z=some zc∧zc.bd n∧∀ ρ,zc.den ρ = .val z:=by
 cases z<;>simp [ZbC] at hk
 ·exact ⟨_,rfl,trivial,fun _=>rfl⟩
 ·exact ⟨_,rfl,trivial,fun _=>rfl⟩
theorem Zjt {l:List (List AV)} {i:Int} (h:qop .mapv l i=true):∃ kvs,l = [[.slice false 2 kvs]]:=by
 simp only [qop] at h
 split at h
 ·exact ⟨_,rfl⟩
 ·cases h
theorem ZiF {T:TypeId} {m kx:Operand} {ok:Bool} {z:Value} (hg:∀ d,(g d).bd n) (ho:o.op = .lookup T m kx ok) (hz:Kq P T=some z) (h:(Zgl P g T m kx ok z n k).wp P R A ρ):Yu tx P R A ρ g o n k:=by
 unfold Zgl at h
 split at h
 case h_2=>exact h.elim
 rename_i d ke hks hm hk
 split at h
 case h_2=>exact h.elim
 rename_i zc sh e l hzc hsh hd
 split at h
 case isFalse=>exact h.elim
 rename_i hh
 obtain ⟨he,hlt,h0⟩:=hh
 obtain ⟨hq,vs,w1,w2,w3⟩:=h
 obtain ⟨kvs,hkv⟩:=Zjt hq
 obtain ⟨zc',hzc',hzb,hzd⟩:=ZlV (n:=n) hsh
 rw [hzc] at hzc'
 cases hzc'
 have hd':(g d).den ρ = .own true e [[.slice false 2 kvs]]:=by rw [hd];show AV.own true e (l.den ρ)=_;rw [hkv]
 have hrow:Zbx [[.slice false 2 kvs]] (ke.den ρ) [.val z]=(Zbx (l.den ρ) (ke.den ρ) [zc.den ρ]):=by rw [hkv,hzd]
 have w2':(Zbx [[.slice false 2 kvs]] (ke.den ρ) [.val z])[0]? = some ((ZB [sh,.bool] n).map (SC.den (bind ρ n vs))):=by rw [hrow];exact w2
 have hform:∃ a,Zbx [[.slice false 2 kvs]] (ke.den ρ) [.val z] = [a]:=by
  unfold Zbx
  split<;>exact ⟨_,rfl⟩
 obtain ⟨a,ha⟩:=hform
 rw [ha] at w2'
 simp only [List.getElem?_cons_zero,Option.some.injEq,ZB,List.map_cons,List.map_nil] at w2'
 subst w2'
 have hval:∃ u,(Jg sh n).den (bind ρ n vs) = .val u:=by
  cases z<;>simp [ZbC] at hsh<;>subst hsh<;>exact ⟨_,rfl⟩
 obtain ⟨u,hu⟩:=hval
 rw [hu] at ha
 have ha:Zbx [[.slice false 2 kvs]] (ke.den ρ) [.val z] = [[.val u,.val (.bool (bind ρ n vs (n+1)).bool)]]:=ha
 have hsb:(Jg sh n).bd (n+2):=by
  cases z<;>simp [ZbC] at hsh<;>subst hsh<;>(show n < n+2;omega)
 cases ok with
 | false =>
  refine ⟨bind ρ n vs,n+2,.c (Jg sh n),[],[d],Nat.le_add_right _ _,YB ρ n vs,hsb,by simp,w3,?_⟩
  have:=ZeH ho hz hks hlt (Ze ρ hm) (show (fun d=>(g d).den ρ) d=_ from hd') h0 he (Ze ρ hk) ha
  rw [← hu] at this
  exact this.t
 | true =>
  refine ⟨bind ρ n vs,n+2,.tuple [.c (Jg sh n),.c (.bool (.var (n+1)))],[],[d],Nat.le_add_right _ _,YB ρ n vs,?_,by simp,w3,?_⟩
  ·intro c hc
   rcases List.mem_cons.1 hc with rfl | hc
   ·exact hsb
   ·rw [List.mem_singleton] at hc;subst hc;show n+1 < n+2;omega
  ·have:=ZbT ho hz hks hlt (Ze ρ hm) (show (fun d=>(g d).den ρ) d=_ from hd') h0 he (Ze ρ hk) ha
   rw [← hu] at this
   exact this.t
theorem Zio {T:TypeId} {m kx v:Operand} {z:Value} (hg:∀ d,(g d).bd n) (ho:o.op = .insert T m kx v∨o.op = .mapUpdate T m kx v) (hz:Kq P T=some z) (h:(Zd2 P g T m kx v z n k).wp P R A ρ):Yu tx P R A ρ g o n k:=by
 unfold Zd2 at h
 split at h
 case h_2=>exact h.elim
 rename_i d ke hks hm hk
 split at h
 case h_2=>exact h.elim
 rename_i sh c e l hsh hv hd
 split at h
 case isFalse=>exact h.elim
 rename_i hh
 obtain ⟨he,hlt,h0,hkd⟩:=hh
 obtain ⟨hq,h⟩:=h
 obtain ⟨kvs,hkv⟩:=Zjt hq
 have bk:=ZF (P:=P) hg kx
 rw [hk] at bk
 have bv:=ZF (P:=P) hg v
 rw [hv] at bv
 have hl:=hg d
 rw [hd] at hl
 have hd':(g d).den ρ = .own true e [[.slice false 2 kvs]]:=by rw [hd];show AV.own true e (l.den ρ)=_;rw [hkv]
 have hval:∃ u,c.den ρ = .val u∧J2 u z=true:=by
  cases z<;>simp [ZbC] at hsh<;>subst hsh<;>cases c<;>simp [Zib] at hkd
  ·exact ⟨_,rfl,rfl⟩
  ·subst hkd;exact ⟨_,rfl,by simp [J2]⟩
 obtain ⟨u,hu,hsk⟩:=hval
 refine We h trivial (us1 (show LE.bd n _ from ⟨hl,bk,trivial,bv,trivial⟩)) ?_
 have:=Zfh ho hz hks hlt (Ze ρ hm) (show (fun d=>(g d).den ρ) d=_ from hd') h0 he (Ze ρ hk) (show Zr P (fun d=>(g d).den ρ) v = .val u by rw [← hu];exact Ze ρ hv) hsk
 rw [← hkv,← hu] at this
 exact this
theorem Zlh {T:TypeId} {m kx:Operand} {ok:Bool} (hg:∀ d,(g d).bd n) (ho:o.op = .lookup T m kx ok) (h:(JZ P E tx tk g o n k).wp P R A ρ):Yu tx P R A ρ g o n k:=by
 have bk:=ZF (P:=P) hg kx
 simp only [JZ,ho] at h
 split at h
 ·rename_i z hz
  exact ZiF hg ho hz h
 cases ok with
 | true => exact h.elim
 | false =>
  simp only [Zh2] at h
  split at h
  ·rename_i et d ke het hm hk
   rw [hk] at bk
   split at h
   ·rename_i e l hd
    have hl:=hg d
    rw [hd] at hl
    split at h
    ·rename_i hh
     obtain ⟨h1,h2,h3⟩:=hh
     have hd':(g d).den ρ = .own true e (l.den ρ):=by rw [hd];rfl
     split at h
     ·obtain ⟨hq,h⟩:=h
      obtain ⟨kvs,hkv⟩:=ZjR hq
      refine We h (show LE.bd n _ from ⟨hl,bk⟩) (us1 (show LE.bd n _ from ⟨hl,bk⟩)) ?_
      have:=ZaK ho het h3 (Ze ρ hm) (by rw [hd',hkv]) h2 h1 (Ze ρ hk)
      rw [← hkv] at this
      exact this
     ·obtain ⟨hq,h⟩:=h
      obtain ⟨kvs,tl,hkv⟩:=ZhT hq
      refine ZY h (show LE.bd n _ from ⟨hl,bk⟩) ?_
      have:=ZgX ho het h3 (Ze ρ hm) (by rw [hd',hkv]) h2 h1 (Ze ρ hk)
      rw [← hkv] at this
      exact this
    ·exact h.elim
   ·exact h.elim
  ·exact h.elim
theorem ZeS {T:TypeId} {m kx v:Operand} (hg:∀ d,(g d).bd n) (ho:o.op = .insert T m kx v∨o.op = .mapUpdate T m kx v) (h:(JZ P E tx tk g o n k).wp P R A ρ):Yu tx P R A ρ g o n k:=by
 have bk:=ZF (P:=P) hg kx
 cases hz:Kq P T with
 | some z => exact Zio hg ho hz (by rcases ho with ho | ho <;> simpa only [JZ, ho, hz] using h)
 | none =>
 have h:(ZaS P g T m kx v n k).wp P R A ρ:=by rcases ho with ho | ho<;>simpa only [JZ,ho,hz] using h
 unfold ZaS at h
 split at h
 ·rename_i et d ke het hm hk
  rw [hk] at bk
  split at h
  ·rename_i e l hd
   have hl:=hg d
   rw [hd] at hl
   split at h
   ·rename_i hh
    obtain ⟨h1,h2⟩:=hh
    have hd':(g d).den ρ = .own true e (l.den ρ):=by rw [hd];rfl
    split at h
    ·rename_i t et' ys hsl hgt
     have hv:v = .tmp t:=by cases v<;>simp_all [ZS]
     rw [hsl] at hgt
     have hgt:g t = .own false et' ys:=by simpa using hgt
     have hy:=hg t
     rw [hgt] at hy
     split at h
     ·rename_i hee
      subst hee
      obtain ⟨hq,h⟩:=h
      obtain ⟨kvs,tl,hkv,htl⟩:=ZjG hq
      subst hv
      refine We h trivial (us2 hy (show LE.bd n _ from ⟨hl,bk,hy⟩)) ?_
      have:=ZgE ho het (Ze ρ hm) (by rw [hd',hkv]) h2 h1 (Ze ρ hk) htl (show (fun d=>(g d).den ρ) t = .own false et' (ys.den ρ) by show (g t).den ρ=_;rw [hgt];rfl)
      rw [← hkv] at this
      exact this
     ·exact h.elim
    ·split at h
     ·rename_i s hgv
      obtain ⟨hq,h⟩:=h
      obtain ⟨kvs,tl,hkv,htl⟩:=ZjG hq
      refine We h trivial (us1 (show LE.bd n _ from ⟨hl,bk,trivial⟩)) ?_
      have:=Zbu ho het (Ze ρ hm) (by rw [hd',hkv]) h2 h1 (Ze ρ hk) htl (Ze ρ hgv)
      rw [← hkv] at this
      exact this
     ·exact h.elim
   ·exact h.elim
  ·exact h.elim
 ·exact h.elim
theorem ZjK {f:FuncId} {args:List Operand} {d:Nat} {gf:FuncId} {l:LE} (h:ZhM P E g f args=some (d,gf,l)) :
  ∃ x p e,args = [x]∧p∈E.ks∧p.1=f∧p.2.2=gf∧Jh P g x = .mref d 0∧g d = .own true e l∧P.cellsOf e=0∧(Jj P (e-1048576)).isSome=true:=by
 unfold ZhM at h
 split at h
 ·cases h
 ·split at h
  ·rename_i x p hp
   split at h
   ·rename_i d' hx
    split at h
    ·rename_i e l' hd
     split at h
     ·rename_i hm
      simp only [Option.some.injEq,Prod.mk.injEq] at h
      obtain ⟨rfl,rfl,rfl⟩:=h
      refine ⟨x,p,e,rfl,List.mem_of_find?_eq_some hp,?_,rfl,hx,hd,hm.2,hm.1⟩
      simpa using List.find?_some hp
     ·cases h
    ·cases h
   ·cases h
  ·cases h
theorem Zg0 {f:FuncId} {args:List Operand} {d:Nat} {l:LE} (h:ZaW P E g f args=some (d,l)) :
  ∃ x p e,args = [x]∧p∈E.ks∧p.2.1=f∧Jh P g x = .eref d 0 (.lit 0) 0 p.2.2∧g d = .own true e l∧P.cellsOf e=0∧(Jj P (e-1048576)).isSome=true:=by
 unfold ZaW at h
 split at h
 ·cases h
 ·split at h
  ·rename_i x
   split at h
   ·rename_i d' gf hx
    split at h
    ·rename_i e l' hd
     split at h
     ·rename_i hm
      simp only [Option.some.injEq,Prod.mk.injEq] at h
      obtain ⟨rfl,rfl⟩:=h
      obtain ⟨p,hp,hpq⟩:=List.any_eq_true.1 hm.2.2
      simp only [Bool.and_eq_true,beq_iff_eq] at hpq
      exact ⟨x,p,e,rfl,hp,hpq.1,by rw [hpq.2];exact hx,hd,hm.2.1,hm.1⟩
     ·cases h
    ·cases h
   ·cases h
  ·cases h
theorem Zof {c:Call} {f:FuncId} {d:Nat} {gf:FuncId} {l:LE} (hps:EnvSound P E) (ho:o.op = .call c) (hc:c.callee = .value (.func f)) (hit:ZhM P E g f c.args.toList=some (d,gf,l))
  (h:(STree.req (.mq .any l (.lit 0)) (k (.eref d 0 (.lit 0) 0 gf) [] [d] n)).wp P R A ρ):Yu tx P R A ρ g o n k:=by
 obtain ⟨x,p,e,h1,h2,rfl,rfl,h5,h6,h7,h8⟩:=ZjK hit
 obtain ⟨hq,h⟩:=h
 obtain ⟨kvs,tl,hkv⟩:=ZhT hq
 refine ZY h trivial ?_
 have:=Zky (d:=d) hps.2.1 h2 ho hc h1 (Ze ρ h5) (by show (g d).den ρ=_;rw [h6];show AV.own true e (l.den ρ)=_;rw [hkv]) h7 h8
 simpa [SV.den,IE.den] using this
theorem ZjB {c:Call} {f:FuncId} {d:Nat} {l:LE} (hps:EnvSound P E) (hg:∀ d,(g d).bd n) (ho:o.op = .call c) (hc:c.callee = .value (.func f)) (hit:ZaW P E g f c.args.toList=some (d,l))
  (h:(STree.req (.mq .keys l (.lit 0)) (k (.c (.slice false 1 (.mkeys l))) [] [d] n)).wp P R A ρ):Yu tx P R A ρ g o n k:=by
 obtain ⟨x,p,e,h1,h2,rfl,h5,h6,h7,h8⟩:=Zg0 hit
 obtain ⟨hq,h⟩:=h
 obtain ⟨kvs,hkv,hlen,hfine⟩:=ZjY hq
 have hl:=hg d
 rw [h6] at hl
 refine ZY h (show LE.bd n _ from hl) ?_
 have hx:Zr P (fun d=>(g d).den ρ) x = .eref d 0 p.2.2:=by have:=Ze ρ h5;simpa [SV.den,IE.den] using this
 have:=Zgb (d:=d) hps.2.1 h2 ho hc h1 hx (by show (g d).den ρ=_;rw [h6];show AV.own true e (l.den ρ)=_;rw [hkv]) h7 h8 hlen hfine
 rw [← hkv] at this
 exact this
theorem Zi4 {f:FuncId} {args:List Operand} {d:Nat} {e:TypeId} {l:LE} (h:ZdW P E g f args=some (d,e,l)) :
  ∃ x,args = [x]∧f∈E.srt∧Jh P g x = .mref d 0∧g d = .own true e l∧P.cellsOf e=1∧Zm P e=false:=by
 unfold ZdW at h
 split at h
 ·cases h
 ·rename_i hf
  split at h
  ·rename_i x
   split at h
   ·rename_i d' hx
    split at h
    ·rename_i e' l' hd _
     split at h
     ·rename_i hm
      simp only [Option.some.injEq,Prod.mk.injEq] at h
      obtain ⟨rfl,rfl,rfl⟩:=h
      exact ⟨x,rfl,by simpa using hf,hx,hd,hm.1,hm.2⟩
     ·cases h
    ·cases h
   ·cases h
  ·cases h
theorem Zpu {c:Call} {f:FuncId} {d:Nat} {e:TypeId} {l:LE} (hps:EnvSound P E) (hg:∀ d,(g d).bd n) (ho:o.op = .call c) (hc:c.callee = .value (.func f)) (hit:ZdW P E g f c.args.toList=some (d,e,l))
  (h:(STree.req (.lq .ints l (.lit 0)) (k .dead [(d,.own true e (.fn .dsort l (.lit 0) .nil .nil))] [d] n)).wp P R A ρ):Yu tx P R A ρ g o n k:=by
 obtain ⟨x,h1,h2,h3,h4,h5,h6⟩:=Zi4 hit
 obtain ⟨hq,h⟩:=h
 have hq:((l.den ρ).all ZeE&&decide ((l.den ρ).length≤1048576))=true:=hq
 rw [Bool.and_eq_true,decide_eq_true_eq] at hq
 obtain ⟨zs,hz⟩:=ZjS hq.1
 have hl:=hg d
 rw [h4] at hl
 have hl:l.bd n:=hl
 refine We h trivial (us1 (show LE.bd n _ from ⟨hl,trivial,trivial,trivial⟩)) ?_
 have:=ZmW (d:=d) (σ:=fun d=>(g d).den ρ) hps.2.2 h2 ho hc h1 (Ze ρ h3) (by show (g d).den ρ=_;rw [h4];show AV.own true e (l.den ρ)=_;rw [hz]) h5 h6 (by have:=hq.2;rw [hz,List.length_map] at this;exact this)
 rw [← hz] at this
 exact this
theorem ZiA (hps:EnvSound P E) (hg:∀ d,(g d).bd n) (htop:∀ i,E.top≤i→g i = .dead) (h:(JZ P E tx tk g o n k).wp P R A ρ):Yu tx P R A ρ g o n k:=by
 cases ho:o.op with
 | move x => exact ZnD hg htop ho h
 | assign x => exact Zjn hg htop ho h
 | pick c a b => exact ZoA hg ho h
 | alloc T => exact ZmR ho h
 | box T x => exact Zp3 hg ho h
 | build T parts => exact ZlB hg htop ho h
 | buildSlice T len parts => exact Zeq hg ho h
 | load T a => exact Zoe hg htop ho h
 | store T a x => exact Zl5 hg htop ho h
 | nilCheck x => exact Zg3 hg ho h
 | binOp op T x y T' => exact ZlG hps hg ho h
 | unOp op T x => exact ZoB hg ho h
 | convert S T x => exact Zi6 hg ho h
 | fieldAddr T x f => exact Ze7 hg ho h
 | field T x f => exact Zme hg ho h
 | indexAddr T x i => exact ZeU hg ho h
 | makeSlice T a b => exact Zon hg ho h
 | makeFunc fn first captured => exact ZgC ho h
 | makeMap T x => exact Zil ho h
 | lookup T m kx ok => exact Zlh hg ho h
 | insert T m kx v => exact ZeS hg (.inl ho) h
 | mapUpdate T m kx v => exact ZeS hg (.inr ho) h
 | slice T x lo hi mx => exact Zm2 hg htop ho h
 | extract x i => exact ZiT hg ho h
 | call c =>
  cases hc:c.callee with
  | builtin b =>
   cases b with
   | len => exact ZpW hg ho hc h
   | append => exact Zjo hg htop ho hc h
   | copy => exact Zoi hg ho hc h
   | min => exact Zpt hg ho hc h
   | max => exact Zpf hg ho hc h
   | _ => simp only [JZ, ho, hc] at h; exact h.elim
  | value x =>
   cases x with
   | func f =>
    simp only [JZ,ho,hc] at h
    split at h
    ·rename_i hit
     exact Zof hps ho hc hit h
    split at h
    ·rename_i hit
     exact ZjB hps hg ho hc hit h
    split at h
    ·rename_i hit
     exact Zpu hps hg ho hc hit h
    split at h
    case h_2=>
     rename_i hkl
     split at h
     case isFalse=>exact h.elim
     rename_i hall
     rw [List.all_eq_true] at hall
     cases htx:tx with
     | any N M => exact (hkl (by rw [htx]; rfl)).elim
     | text =>
     subst htx
     refine Zk1 (ZaZ E .text g (E.rfs f) c.args.toList) (fun u hu=>?_) ?_
     ·obtain ⟨k1,k2⟩:=Zf9 ρ hu
      exact ⟨k1,k2,by simpa using hall u hu⟩
     ·split at h
      ·rename_i aZ has
       obtain ⟨h1,h2,h3⟩:=WS ρ _ _ _ has
       refine Zgx (ds:=[]) (fun i hi=>by unfold ZfW;split;rfl;exact htop i hi) ho (.inl ⟨hc,rfl⟩) (by simpa using h1) h2 (fun i x hx hci=>?_) h
       have hl:i < aZ.length:=by rw [← h1.1,List.length_map];exact (List.getElem?_eq_some_iff.1 hx).1
       obtain ⟨t,d,q,j,e⟩:=h3 i _ x hx (List.getElem?_eq_getElem hl) (by rw [Nat.zero_add];exact hci)
       exact ⟨t,d,q,j,by rw [List.getElem?_eq_getElem hl,e]⟩
      ·exact h.elim
    split at h
    ·rename_i aZ has
     obtain ⟨h1,h2,h3⟩:=WS ρ _ _ _ has
     refine Zgx (ds:=[]) htop ho (.inl ⟨hc,rfl⟩) (by simpa using h1) h2 (fun i x hx hci=>?_) h
     have hl:i < aZ.length:=by rw [← h1.1,List.length_map];exact (List.getElem?_eq_some_iff.1 hx).1
     obtain ⟨t,d,q,j,e⟩:=h3 i _ x hx (List.getElem?_eq_getElem hl) (by rw [Nat.zero_add];exact hci)
     exact ⟨t,d,q,j,by rw [List.getElem?_eq_getElem hl,e]⟩
    ·exact h.elim
   | tmp t =>
    simp only [JZ,ho,hc] at h
    split at h
    ·rename_i f ds aZ ht has
     obtain ⟨h1,h2,_⟩:=WS ρ _ _ _ has
     split at h
     ·rename_i cs hcs
      obtain ⟨k1,k2⟩:=ZnM (P:=P) ρ hcs
      refine Zgx (ds:=ds) htop ho (.inr ⟨t,hc,by rw [ht];rfl⟩) (h1.append k1) (fun a ha=>?_) (fun i _ _ hi=>by simp at hi) h
      rcases List.mem_append.1 ha with ha | ha
      ·exact h2 a ha
      ·exact k2 a ha
     ·exact h.elim
    ·exact h.elim
   | _ => simp only [JZ, ho, hc] at h; exact h.elim
  | _ => simp only [JZ, ho, hc] at h; exact h.elim
 | _ => simp only [JZ, ho] at h; exact h.elim
end
end Go.AM
end

section
namespace Go.AM
structure Stp where
 F:List Nat
 ups:List (Nat×AV)
def ZnJ (T:Odr) (P:Program) (nt:Nat) (ops:Array Oper) (B:Nat→Prop) (i:Nat) (pre:Nat→AV) (s:Stp):Prop:=
 (∀ u∈s.ups,u.1∈s.F)∧(∀ u∈s.ups,B u.1→ZcQ u.2)∧(∀ u∈s.ups,∀ d k,T.nr d u.1=true→¬ Je u.2 d k)∧(∀ u∈s.ups,∀ j,T.kp u.1 j=true→Ji u.2 j=Ji (pre u.1) j)∧
 ∀ (c:Ctx),c.P=P→c.nt=nt→∀ (σ':Nat→AV) (tm:Array Value) (w:World) (lim:Nat→Nat) (X:Nat→Nat→Option Nat),
  (∀ d∈s.F,σ' d=pre d)→(∀ d,B d→ZcQ (σ' d))→T.rel pre σ'→Sim c σ' tm w lim X→∀ (Q:Exit→Act→World→Prop) (K:Act→World→Prop),
   (∀ tm' w' lim' X',Sim c (Ju σ' s.ups) tm' w' lim' X'→K ⟨tm',[]⟩ w')→wpOp P ops Q i K ⟨tm,[]⟩ w
def Ze6 (T:Odr) (P:Program) (nt:Nat) (ops:Array Oper) (B:Nat→Prop):Nat→(Nat→AV)→List Stp→Prop
 | _, _, [] => True
 | i, σ, s :: ss => ZnJ T P nt ops B i σ s ∧ Ze6 T P nt ops B (i + 1) (Ju σ s.ups) ss
theorem ZdP {B:Nat→Prop} : ∀ (us:List (Nat×AV)) (σ:Nat→AV),(∀ u∈us,B u.1→ZcQ u.2)→(∀ d,B d→ZcQ (σ d))→∀ d,B d→ZcQ (Ju σ us d)
 | [], _, _, h, d, hd => h d hd
 | (e, x) :: us, σ, hu, h, d, hd => by
  refine ZdP us (upd σ e x) (fun u h'=>hu u (by simp [h'])) (fun d hd=>?_) d hd
  by_cases he:d=e
  ·subst he;rw [ZC];exact hu (d,x) (by simp) hd
  ·rw [Zf _ _ he];exact h d hd
def ZeQ (σ:Nat→AV):List Stp→(Nat→AV)
 | [] => σ
 | s :: ss => ZeQ (Ju σ s.ups) ss
section
variable {T:Odr} {P:Program} {nt:Nat} {ops:Array Oper} {B:Nat→Prop} {Q:Exit→Act→World→Prop} {c:Ctx}
theorem Zda (hc:c.P=P) (hn:c.nt=nt):∀ (ss:List Stp) (i:Nat) (σ:Nat→AV) (tm:Array Value) (w:World) (lim:Nat→Nat) (X:Nat→Nat→Option Nat),
  Ze6 .text P nt ops B i σ ss→(∀ d,B d→ZcQ (σ d))→Sim c σ tm w lim X→(∀ tm' w' lim' X',Sim c (ZeQ σ ss) tm' w' lim' X'→Q .normal ⟨tm',[]⟩ w')→wpOps P ops Q (List.range' i ss.length) ⟨tm,[]⟩ w
 | [], i, σ, tm, w, lim, X, _, _, hs, hk => by
  show Q .normal ⟨tm,[]⟩ w
  exact hk tm w lim X hs
 | s :: ss, i, σ, tm, w, lim, X, h, hb, hs, hk => by
  rw [List.length_cons,List.range'_succ,wpOps_cons]
  exact h.1.2.2.2.2 c hc hn σ tm w lim X (fun _ _=>rfl) hb rfl hs Q _ fun tm' w' lim' X' hs'=>Zda hc hn ss (i+1) _ tm' w' lim' X' h.2 (ZdP _ _ h.1.2.1 hb) hs' hk
def W2:List (Nat×AV)→Nat→Option AV
 | [], _ => none
 | (e, x) :: us, d => match W2 us d with | some y => some y | none => if d = e then some x else none
theorem Js:∀ (us:List (Nat×AV)) (σ:Nat→AV) (d:Nat),Ju σ us d=(W2 us d).getD (σ d)
 | [], σ, d => rfl
 | (e, x) :: us, σ, d => by
  simp only [Ju,W2,Js us]
  cases W2 us d with
  | some y => rfl
  | none =>
   by_cases h:d=e
   ·subst h;simp [upd]
   ·simp [upd,h]
theorem Y0:∀ (us:List (Nat×AV)) (d:Nat),d∉us.map (·.1)→W2 us d=none
 | [], d, _ => rfl
 | (e, x) :: us, d, h => by
  simp only [List.map_cons,List.mem_cons,not_or] at h
  simp only [W2,Y0 us d h.2,if_neg h.1]
theorem VD:∀ (us:List (Nat×AV)) (d:Nat),d∈us.map (·.1)→∃ x,W2 us d=some x
 | [], d, h => by simp at h
 | (e, x) :: us, d, h => by
  simp only [W2]
  cases hl:W2 us d with
  | some y => exact ⟨y, rfl⟩
  | none =>
   simp only [List.map_cons,List.mem_cons] at h
   rcases h with h | h
   ·subst h;exact ⟨x,by simp⟩
   ·obtain ⟨y,hy⟩:=VD us d h;rw [hl] at hy;cases hy
def comp (S:Nat→Bool):Nat→(Nat→AV)→List Stp→(Nat→AV)
 | _, σ, [] => σ
 | i, σ, s :: ss => comp S (i + 1) (if S i = true then Ju σ s.ups else σ) ss
theorem ZhA (S:Nat→Bool):∀ (ss:List Stp) (i:Nat) (σ:Nat→AV),(∀ j,i≤j→j < i+ss.length→S j=true)→comp S i σ ss=ZeQ σ ss
 | [], _, _, _ => rfl
 | s :: ss, i, σ, h => by
  simp only [comp,ZeQ,h i (Nat.le_refl _) (by simp),if_true]
  exact ZhA S ss (i+1) _ fun j h1 h2=>h j (by omega) (by simp only [List.length_cons];omega)
theorem ZbB (S:Nat→Bool):∀ (ss:List Stp) (i:Nat) (σ:Nat→AV),(∀ j,i≤j→j < i+ss.length→S j=false)→comp S i σ ss=σ
 | [], _, _, _ => rfl
 | s :: ss, i, σ, h => by
  simp only [comp,h i (Nat.le_refl _) (by simp),Bool.false_eq_true,if_false]
  exact ZbB S ss (i+1) _ fun j h1 h2=>h j (by omega) (by simp only [List.length_cons];omega)
theorem VG {d:Nat} (S T:Nat→Bool):∀ (ss:List Stp) (i:Nat) (σ τ:Nat→AV),σ d=τ d→(∀ (j:Nat) (s:Stp),ss[j]? = some s→d∈s.ups.map (·.1)→S (i+j)=T (i+j))→comp S i σ ss d=comp T i τ ss d
 | [], _, _, _, h, _ => h
 | s :: ss, i, σ, τ, h, hS => by
  simp only [comp]
  refine VG S T ss (i+1) _ _ ?_ fun j s' hs' hd=>by
   have:=hS (j+1) s' (by simpa using hs') hd
   rw [show i+1+j=i+(j+1) by omega]
   exact this
  by_cases hd:d∈s.ups.map (·.1)
  ·have h0:=hS 0 s rfl hd
   rw [Nat.add_zero] at h0
   rw [h0]
   split
   ·rw [Js,Js,h]
   ·exact h
  ·have hl:=Y0 s.ups d hd
   split<;>split<;>first
    | (rw [Js, Js, hl]; exact h)
    | (rw [Js, hl]; exact h)
    | exact h
theorem ZbX:∀ (ss:List Stp) (i:Nat) (σ:Nat→AV) (m:Nat),comp (fun j=>decide (j < i+m)) i σ ss=ZeQ σ (ss.take m)
 | [], i, σ, m => by simp [comp, ZeQ]
 | s :: ss, i, σ, 0 => by
  rw [List.take_zero]
  exact ZbB _ (s::ss) i σ fun j h1 _=>by simp;omega
 | s :: ss, i, σ, m + 1 => by
  simp only [comp,List.take_succ_cons,ZeQ,decide_eq_true_eq]
  rw [if_pos (by omega),← ZbX ss (i+1)]
  congr 1
  funext j
  rw [show i+1+m=i+(m+1) by omega]
theorem Zk0 (S:Nat→Bool):∀ (ss:List Stp) (i:Nat) (σ:Nat→AV),(∀ s∈ss,∀ u∈s.ups,B u.1→ZcQ u.2)→(∀ d,B d→ZcQ (σ d))→∀ d,B d→ZcQ (comp S i σ ss d)
 | [], _, _, _, h, d, hd => h d hd
 | s :: ss, i, σ, hu, h, d, hd => by
  simp only [comp]
  refine Zk0 S ss (i+1) _ (fun s' hs'=>hu s' (by simp [hs'])) (fun d hd=>?_) d hd
  split
  ·exact ZdP _ _ (hu s (by simp)) h d hd
  ·exact h d hd
theorem Ze4:∀ (ss:List Stp) (i:Nat) (σ:Nat→AV),Ze6 T P nt ops B i σ ss→∀ s∈ss,∀ u∈s.ups,B u.1→ZcQ u.2
 | [], _, _, _, s, hs => by simp at hs
 | s0 :: ss, i, σ, h, s, hs => by
  rcases List.mem_cons.1 hs with rfl | hs
  ·exact h.1.2.1
  ·exact Ze4 ss (i+1) _ h.2 s hs
theorem Zi7:∀ (us:List (Nat×AV)) (σ:Nat→AV),(∀ u∈us,∀ d k,T.nr d u.1=true→¬ Je u.2 d k)→(∀ d i k,T.nr d i=true→¬ Je (σ i) d k)→∀ d i k,T.nr d i=true→¬ Je (Ju σ us i) d k
 | [], _, _, h => h
 | (e, x) :: us, σ, hu, h => by
  refine Zi7 us (upd σ e x) (fun u h'=>hu u (by simp [h'])) fun d i k hd=>?_
  by_cases he:i=e
  ·subst he;rw [ZC];exact hu (i,x) (by simp) d k hd
  ·rw [Zf _ _ he];exact h d i k hd
theorem Zk9 (S:Nat→Bool):∀ (ss:List Stp) (i:Nat) (σ:Nat→AV),(∀ s∈ss,∀ u∈s.ups,∀ d k,T.nr d u.1=true→¬ Je u.2 d k)→(∀ d i k,T.nr d i=true→¬ Je (σ i) d k)→∀ d j k,T.nr d j=true→¬ Je (comp S i σ ss j) d k
 | [], _, _, _, h => h
 | s :: ss, i, σ, hu, h => by
  simp only [comp]
  refine Zk9 S ss (i+1) _ (fun s' hs'=>hu s' (by simp [hs'])) ?_
  split
  ·exact Zi7 _ _ (hu s (by simp)) h
  ·exact h
theorem ZhR:∀ (ss:List Stp) (i:Nat) (σ:Nat→AV),Ze6 T P nt ops B i σ ss→∀ s∈ss,∀ u∈s.ups,∀ d k,T.nr d u.1=true→¬ Je u.2 d k
 | [], _, _, _, s, hs => by simp at hs
 | s0 :: ss, i, σ, h, s, hs => by
  rcases List.mem_cons.1 hs with rfl | hs
  ·exact h.1.2.2.1
  ·exact ZhR ss (i+1) _ h.2 s hs
theorem Zeb {τ:Nat→AV} : ∀ (us:List (Nat×AV)) (σ:Nat→AV),(∀ u∈us,∀ j,T.kp u.1 j=true→Ji u.2 j=Ji (τ u.1) j)→(∀ d j,T.kp d j=true→Ji (σ d) j=Ji (τ d) j)→∀ d j,T.kp d j=true→Ji (Ju σ us d) j=Ji (τ d) j
 | [], _, _, h => h
 | (e, x) :: us, σ, hu, h => by
  refine Zeb us (upd σ e x) (fun u h'=>hu u (by simp [h'])) fun d j hd=>?_
  by_cases he:d=e
  ·subst he;rw [ZC];exact hu (d,x) (by simp) j hd
  ·rw [Zf _ _ he];exact h d j hd
theorem Zkk (S:Nat→Bool):∀ (ss:List Stp) (i:Nat) (τ σ:Nat→AV),(∀ s∈ss,∀ u∈s.ups,∀ j,T.kp u.1 j=true→Ji u.2 j=Ji (τ u.1) j)→(∀ d j,T.kp d j=true→Ji (σ d) j=Ji (τ d) j)→∀ d j,T.kp d j=true→Ji (comp S i σ ss d) j=Ji (τ d) j
 | [], _, _, _, _, h => h
 | s :: ss, i, τ, σ, hu, h => by
  simp only [comp]
  refine Zkk S ss (i+1) τ _ (fun s' hs'=>hu s' (by simp [hs'])) ?_
  split
  ·exact Zeb _ _ (hu s (by simp)) h
  ·exact h
theorem Zjj:∀ (ss:List Stp) (τ σ:Nat→AV),(∀ s∈ss,∀ u∈s.ups,∀ j,T.kp u.1 j=true→Ji u.2 j=Ji (τ u.1) j)→(∀ d j,T.kp d j=true→Ji (σ d) j=Ji (τ d) j)→∀ d j,T.kp d j=true→Ji (ZeQ σ ss d) j=Ji (τ d) j
 | [], _, _, _, h => h
 | s :: ss, τ, σ, hu, h => by
  simp only [ZeQ]
  exact Zjj ss τ _ (fun s' hs'=>hu s' (by simp [hs'])) (Zeb _ _ (hu s (by simp)) h)
theorem Zd7:∀ (ss:List Stp) (i:Nat) (σ:Nat→AV),Ze6 T P nt ops B i σ ss→∀ s∈ss,∀ u∈s.ups,∀ j,T.kp u.1 j=true→Ji u.2 j=Ji (σ u.1) j
 | [], _, _, _, s, hs => by simp at hs
 | s0 :: ss, i, σ, h, s, hs => by
  rcases List.mem_cons.1 hs with rfl | hs
  ·exact h.1.2.2.2.1
  ·intro u hu j hj
   rw [Zd7 ss (i+1) _ h.2 s hs u hu j hj]
   exact Zeb s0.ups σ (τ:=σ) h.1.2.2.2.1 (fun _ _ _=>rfl) u.1 j hj
theorem Zh9:∀ (ss:List Stp) (i:Nat) (σ:Nat→AV),Ze6 T P nt ops B i σ ss→∀ (j:Nat) (s:Stp),ss[j]? = some s→ZnJ T P nt ops B (i+j) (ZeQ σ (ss.take j)) s
 | [], _, _, _, j, s, h => by simp at h
 | s0 :: ss, i, σ, hc, 0, s, h => by
  simp only [List.getElem?_cons_zero,Option.some.injEq] at h
  subst h
  exact hc.1
 | s0 :: ss, i, σ, hc, j + 1, s, h => by
  have:=Zh9 ss (i+1) _ hc.2 j s (by simpa using h)
  rw [show i+(j+1)=i+1+j by omega]
  exact this
theorem ZjW (hc:c.P=P) (hn:c.nt=nt) {N:Nat→Bool} {M:Nat→Option Nat} {K:List (Nat×Nat)} {ss:List Stp} {σ:Nat→AV} (hch:Ze6 (.any N M K) P nt ops B 0 σ ss) (hN:∀ d i k,(Odr.any N M K).nr d i=true→¬ Je (σ i) d k) (hpb:∀ d,B d→ZcQ (σ d)) (hlen:ss.length=ops.size)
  (hlow:∀ (i:Nat) (o:Oper),ops[i]? = some o→∀ e∈o.after,Region.binds .any e=true→e.on < i)
  (hind:∀ (i j:Nat) (a b:Stp),ss[i]? = some a→ss[j]? = some b→j < i→(∃ S:Nat→Prop,(∀ k o,ops[k]? = some o→S k→∀ e∈o.after,Region.binds .any e=true→S e.on)∧S i∧¬ S j)→
   (∀ d∈b.ups.map (·.1),d∉a.F)∧∀ d∈a.ups.map (·.1),d∉b.F) (hfin:∀ tm' w' lim' X',Sim c (ZeQ σ ss) tm' w' lim' X'→Q .normal ⟨tm',[]⟩ w') :
  ∀ (fuel:Nat) (listed:Array Bool) (tm:Array Value) (w:World) (lim:Nat→Nat) (X:Nat→Nat→Option Nat),listed.size=ops.size→
   (∀ k o,ops[k]? = some o→listed.getD k false=true→∀ e∈o.after,Region.binds .any e=true→listed.getD e.on false=true)→
   ((List.range ops.size).countP (fun i=>!listed.getD i false)≤fuel)→
   Sim c (comp (fun i=>listed.getD i false) 0 σ ss) tm w lim X→wpAny P .any ops Q fuel listed ⟨tm,[]⟩ w:=by
 -- where nothing is ready, all is done
 have hdone:∀ (listed:Array Bool),listed.size=ops.size→Region.ready .any ops listed = []→∀ j,j < ops.size→listed.getD j false=true:=by
  intro listed hsz hr j
  induction j using Nat.strongRecOn with
  | _ j ih =>
   intro hj
   cases hl:listed.getD j false with
   | true => rfl
   | false =>
    have:j∈Region.ready .any ops listed:=by
     rw [mem_ready]
     refine ⟨?_,ops[j],Array.getElem?_eq_getElem hj,fun e he hb=>?_⟩
     ·simp only [Array.getD,hsz,hj,dite_true] at hl ⊢
      exact hl
     ·have hlt:=hlow j _ (Array.getElem?_eq_getElem hj) e he hb
      exact ih e.on hlt (by omega)
    rw [hr] at this
    cases this
 have hend:∀ (listed:Array Bool) (tm:Array Value) (w:World) (lim:Nat→Nat) (X:Nat→Nat→Option Nat),listed.size=ops.size→Region.ready .any ops listed = []→
   Sim c (comp (fun i=>listed.getD i false) 0 σ ss) tm w lim X→Q .normal ⟨tm,[]⟩ w:=by
  intro listed tm w lim X hsz hr hs
  rw [ZhA _ ss 0 σ fun j _ h2=>hdone listed hsz hr j (by omega)] at hs
  exact hfin tm w lim X hs
 intro fuel
 induction fuel with
 | zero =>
  intro listed tm w lim X hsz hcl hcnt hs
  have hall:∀ j,j < ops.size→listed.getD j false=true:=by
   intro j hj
   have h0:(List.range ops.size).countP (fun i=>!listed.getD i false)=0:=by omega
   have:=(List.countP_eq_zero.1 h0) j (by simpa using hj)
   simpa using this
  have hr:Region.ready .any ops listed = []:=by
   refine List.eq_nil_iff_forall_not_mem.2 fun j hj=>?_
   obtain ⟨h1,o,h2,_⟩:=mem_ready.1 hj
   have hlt:=(Array.getElem?_eq_some_iff.1 h2).1
   have:=hall j hlt
   simp only [Array.getD,hsz,hlt,dite_true] at h1 this
   rw [h1] at this
   cases this
  exact ⟨hr,hend listed tm w lim X hsz hr hs⟩
 | succ fuel ih =>
  intro listed tm w lim X hsz hcl hcnt hs
  refine ⟨fun hr=>hend listed tm w lim X hsz hr hs,fun i hi=>?_⟩
  obtain ⟨h1,o,h2,h3⟩:=mem_ready.1 hi
  have hlt:=(Array.getElem?_eq_some_iff.1 h2).1
  have hun:listed.getD i false=false:=by
   simp only [Array.getD,hsz,hlt,dite_true] at h1 ⊢
   exact h1
  obtain ⟨s,hsi⟩:∃ s,ss[i]? = some s:=⟨_,List.getElem?_eq_getElem (by omega)⟩
  have hst:=Zh9 ss 0 σ hch i s hsi
  rw [Nat.zero_add] at hst
  have hset:∀ j,(listed.setIfInBounds i true).getD j false=if j=i then true else listed.getD j false:=by
   intro j
   by_cases hji:j=i
   ·subst hji
    simp [Array.getD,hsz,hlt]
   ·rw [if_neg hji,getD_set_ne false (Ne.symm hji)]
  -- i is not before what is listed
  have hnot:∀ j,listed.getD j false=true→∃ S:Nat→Prop,(∀ k o,ops[k]? = some o→S k→∀ e∈o.after,Region.binds .any e=true→S e.on)∧S j∧¬ S i:=
   fun j hj=>⟨fun k=>listed.getD k false=true,hcl,hj,by simp [hun]⟩
  -- what is not listed is not before i
  have hnot':∀ j,j≠i→listed.getD j false=false→∃ S:Nat→Prop,(∀ k o,ops[k]? = some o→S k→∀ e∈o.after,Region.binds .any e=true→S e.on)∧S i∧¬ S j:=by
   intro j hji hj
   refine ⟨fun k=>k=i∨listed.getD k false=true,fun k o' hk hS e he hb=>?_,.inl rfl,by simp [hji,hj]⟩
   rcases hS with rfl | hS
   ·rw [h2] at hk
    cases hk
    exact .inr (h3 e he hb)
   ·exact .inr (hcl k o' hk hS e he hb)
  have hpre:∀ d∈s.F,comp (fun i=>listed.getD i false) 0 σ ss d=ZeQ σ (ss.take i) d:=by
   intro d hd
   rw [← ZbX ss 0 σ i]
   refine VG _ _ ss 0 σ σ rfl fun j s' hj hdj=>?_
   simp only [Nat.zero_add]
   rcases Nat.lt_trichotomy j i with hlt' | rfl | hgt
   ·simp only [hlt',decide_true]
    cases hl:listed.getD j false with
    | true => rfl
    | false => exact (((hind i j s s' hsi hj hlt' (hnot' j (by omega) hl)).1 d hdj) hd).elim
   ·simp [hun]
   ·have hf:decide (j < i)=false:=by simp;omega
    rw [hf]
    cases hl:listed.getD j false with
    | false => rfl
    | true => exact (((hind j i s' s hj hsi hgt (hnot j hl)).2 d hdj) hd).elim
  refine hst.2.2.2.2 c hc hn _ tm w lim X hpre (Zk0 _ ss 0 σ (Ze4 ss 0 σ hch) hpb) ⟨Zk9 _ ss 0 σ (ZhR ss 0 σ hch) hN,fun d j hd=>(Zkk _ ss 0 σ σ (Zd7 ss 0 σ hch) (fun _ _ _=>rfl) d j hd).trans (Zjj (ss.take i) σ σ (fun s' hs'=>Zd7 ss 0 σ hch s' (List.mem_of_mem_take hs')) (fun _ _ _=>rfl) d j hd).symm⟩ hs Q _ fun tm' w' lim' X' hs'=>?_
  refine ih (listed.setIfInBounds i true) tm' w' lim' X' (by simpa using hsz) ?_ ?_ ?_
  ·intro k o' hk hl e he hb
   rw [hset] at hl ⊢
   by_cases hei:e.on=i
   ·simp [hei]
   ·rw [if_neg hei]
    by_cases hki:k=i
    ·subst hki
     rw [h2] at hk
     cases hk
     exact h3 e he hb
    ·rw [if_neg hki] at hl
     exact hcl k o' hk hl e he hb
  ·have hlt2:(List.range ops.size).countP (fun j=>!(listed.setIfInBounds i true).getD j false) < (List.range ops.size).countP (fun j=>!listed.getD j false):=by
    have key:∀ (l:List Nat),i∈l→l.countP (fun j=>!(listed.setIfInBounds i true).getD j false) < l.countP (fun j=>!listed.getD j false):=by
     have hle:∀ (l:List Nat),l.countP (fun j=>!(listed.setIfInBounds i true).getD j false)≤l.countP (fun j=>!listed.getD j false):=by
      intro l
      refine List.countP_mono_left fun j _ hj=>?_
      rw [hset] at hj
      split at hj
      ·simp at hj
      ·exact hj
     intro l
     induction l with
     | nil => intro h; cases h
     | cons x l ihl =>
      intro h
      rw [List.countP_cons,List.countP_cons]
      by_cases hx:x=i
      ·subst hx
       have h1:(listed.setIfInBounds x true).getD x false=true:=by rw [hset,if_pos rfl]
       have:=hle l
       rw [h1,hun]
       simp only [Bool.not_true,Bool.not_false,Bool.false_eq_true,if_false,if_true]
       omega
      ·have:=ihl (by rcases List.mem_cons.1 h with h | h;exact (hx h.symm).elim;exact h)
       rw [hset x,if_neg hx]
       omega
    exact key _ (by simpa using hlt)
   omega
  ·have he:comp (fun j=>(listed.setIfInBounds i true).getD j false) 0 σ ss=Ju (comp (fun i=>listed.getD i false) 0 σ ss) s.ups:=by
    funext d
    rw [Js]
    by_cases hd:d∈s.ups.map (·.1)
    ·have hdF:d∈s.F:=by
      obtain ⟨u,hu,rfl⟩:=List.mem_map.1 hd
      exact hst.1 u hu
     -- nothing behind i that is listed writes d
     rw [VG (d:=d) _ (fun j=>decide (j < i+1)) ss 0 σ σ rfl fun j s' hj hdj=>?_]
     ·have:=ZbX ss 0 σ (i+1)
      rw [Nat.zero_add] at this
      rw [this,List.take_add_one,hsi]
      have happ:∀ (l:List Stp) (τ:Nat→AV),ZeQ τ (l++[s])=Ju (ZeQ τ l) s.ups:=by
       intro l
       induction l with
       | nil => intro τ; rfl
       | cons x l ihl => intro τ; exact ihl _
      show ZeQ σ (ss.take i++[s]) d=_
      rw [happ,Js]
      obtain ⟨x,hx⟩:=VD s.ups d hd
      rw [hx]
      rfl
     ·rw [Nat.zero_add,hset]
      rcases Nat.lt_trichotomy j i with hlt' | rfl | hgt
      ·have:decide (j < i+1)=true:=by simp;omega
       rw [this,if_neg (by omega)]
       cases hl:listed.getD j false with
       | true => rfl
       | false => exact (((hind i j s s' hsi hj hlt' (hnot' j (by omega) hl)).1 d hdj) hdF).elim
      ·simp
      ·have:decide (j < i+1)=false:=by simp;omega
       rw [this,if_neg (by omega)]
       cases hl:listed.getD j false with
       | false => rfl
       | true => exact (((hind j i s' s hj hsi hgt (hnot j hl)).2 d hdj) hdF).elim
    ·rw [Y0 s.ups d hd]
     refine VG _ _ ss 0 σ σ rfl fun j s' hj hdj=>?_
     rw [Nat.zero_add,hset]
     by_cases hji:j=i
     ·subst hji
      rw [hsi] at hj
      cases hj
      exact (hd hdj).elim
     ·rw [if_neg hji]
   rw [he]
   exact hs'
end
theorem Zd0 {ops:Array Oper} {S:Nat→Prop} (hS:∀ k o,ops[k]? = some o→S k→∀ e∈o.after,Region.binds .any e=true→S e.on) (i j:Nat) (hi:S i)
  (hb:((Region.before ops).getD i 0).testBit j=true):S j:=by
 have inner:∀ (acc:Array Nat),(∀ i j,S i→(acc.getD i 0).testBit j=true→S j)→∀ (l:List Edge),(∀ e∈l,Region.binds .any e=true→S e.on)→∀ (s:Nat),(∀ j,s.testBit j=true→S j)→
   ∀ j,(l.foldl (fun s e=>if Region.binds .any e then s||| 2^e.on||| acc.getD e.on 0 else s) s).testBit j=true→S j:=by
  intro acc hacc l
  induction l with
  | nil => intro _ s hs j hj; exact hs j hj
  | cons e l ih =>
   intro hl s hs j hj
   rw [List.foldl_cons] at hj
   refine ih (fun e' he'=>hl e' (by simp [he'])) _ ?_ j hj
   intro j' hj'
   split at hj'
   ·rename_i hbd
    have hon:=hl e (by simp) hbd
    rw [Nat.testBit_or,Nat.testBit_or,Nat.testBit_two_pow,Bool.or_eq_true,Bool.or_eq_true,decide_eq_true_eq] at hj'
    rcases hj' with (h | h) | h
    ·exact hs j' h
    ·rw [← h];exact hon
    ·exact hacc e.on j' hon h
   ·exact hs j' hj'
 have outer:∀ (l:List Oper) (acc:Array Nat),(∀ j,l[j]? = ops[acc.size+j]?)→(∀ i j,S i→(acc.getD i 0).testBit j=true→S j)→
   ∀ i j,S i→((l.foldl (fun acc o=>acc.push (o.after.foldl (fun s e=>if Region.binds .any e then s||| 2^e.on||| acc.getD e.on 0 else s) 0)) acc).getD i 0).testBit j=true→S j:=by
  intro l
  induction l with
  | nil => intro acc _ hacc i j hi hj; exact hacc i j hi hj
  | cons o l ih =>
   intro acc hl hacc i j hi hj
   rw [List.foldl_cons] at hj
   refine ih _ (fun j=>?_) ?_ i j hi hj
   ·have:=hl (j+1)
    simp only [List.getElem?_cons_succ,Array.size_push] at this ⊢
    rw [this]
    congr 1
    omega
   ·intro i' j' hi' hj'
    have h0:ops[acc.size]? = some o:=by simpa using (hl 0).symm
    by_cases h:i' < acc.size
    ·refine hacc i' j' hi' ?_
     simp only [Array.getD,Array.size_push,h,dite_true] at hj' ⊢
     rw [dif_pos (by omega)] at hj'
     simp only [Array.getInternal_eq_getElem,Array.getElem_push,h,dite_true] at hj' ⊢
     exact hj'
    ·by_cases h':i'=acc.size
     ·subst h'
      have:(acc.push (o.after.foldl (fun s e=>if Region.binds .any e then s||| 2^e.on||| acc.getD e.on 0 else s) 0)).getD acc.size 0=o.after.foldl (fun s e=>if Region.binds .any e then s||| 2^e.on||| acc.getD e.on 0 else s) 0:=by
       simp [Array.getD]
      rw [this,← Array.foldl_toList] at hj'
      exact inner acc hacc o.after.toList (fun e he hb=>hS acc.size o h0 hi' e (by simpa using he) hb) 0 (by simp) j' hj'
     ·have:(acc.push (o.after.foldl (fun s e=>if Region.binds .any e then s||| 2^e.on||| acc.getD e.on 0 else s) 0)).getD i' 0=0:=by
       simp only [Array.getD,Array.size_push]
       rw [dif_neg (by omega)]
      rw [this] at hj'
      simp at hj'
 have:=outer ops.toList #[] (fun j=>by simp) (fun i j _ h=>by simp at h) i j hi
 apply this
 rw [Array.foldl_toList]
 exact hb
end Go.AM
end
