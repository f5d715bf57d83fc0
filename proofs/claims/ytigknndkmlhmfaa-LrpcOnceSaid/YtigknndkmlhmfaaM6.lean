/- AmRet, AmRun, AmSem, AmIns, AmGrow, LSh, LSs: texts of the proof, put together. -/
import Derived.Test.YtigknndkmlhmfaaM5
import Derived.WalkKit
import Derived.Lib.Walk
import Derived.Lib.SliceRun
import Derived.Lib.AppendZerosOnto
import Derived.Lib.Overlaps
import Derived.Laws.Externs
import Derived.Laws.IdiomCopy
import Derived.Shelf.RegionOpenPlain
import Derived.Shelf.Spec.SlicesGrow
import Derived.Shelf.SortM.Plain
import Derived.Shelf.SortM.SortNone
import Derived.Test.YtigknndkmlhmfaaProg
import Derived.Sort.OwnSortedInts
import Derived.KernelRfl

section
namespace Go.AM
section
variable {P:Program} {E:Env}
def Zdr (P:Program) (g:Nat→SV) (rs:List ResultVar):Option SV:=
 match rs with
 | [r] => (KF P g r).map Zqd
 | rs => (Va P g rs).map .tuple
theorem ZgQ {g:Nat→SV} {rs:List ResultVar} {r:SV} (h:ZlS P g rs=some r) :
  (∃ t T cs,rs = [.cell t T]∧Z0 P T=some true∧g t = .box cs∧cs.length=P.cellsOf T∧K6 cs=true∧r = .aggo cs)∨Zdr P g rs=some r:=by
 unfold ZlS at h
 split at h
 ·rename_i r0
  split at h
  ·rename_i cs hcs
   cases h
   unfold Zkp at hcs
   split at hcs
   ·rename_i t T
    split at hcs
    ·rename_i cs1 hT hg
     split at hcs
     ·rename_i hh
      cases hcs
      exact .inl ⟨t,T,_,rfl,hT,hg,hh.1,hh.2.2,rfl⟩
     ·cases hcs
    ·cases hcs
   ·cases hcs
  ·exact .inr h
 ·rename_i hne
  refine .inr ?_
  unfold Zdr
  split
  ·rename_i r1
   exact (hne r1 rfl).elim
  ·exact h
theorem Zjx {a:SV} {ρ:Nat→V} (h:ZcB P a=true):∀ e xs,a.den ρ = .own true e xs→Zm P e=false:=by
 intro e xs he
 cases a with
 | own x e' l =>
  simp only [SV.den,AV.own.injEq] at he
  obtain ⟨rfl,rfl,_⟩:=he
  simpa [ZcB] using h
 | c y => cases y <;> cases he
 | _ => cases he
theorem Zau {cs:List BC} {ρ:Nat→V} {k:Nat} {e:TypeId} {xs:List (List AV)} (h:(cs.all fun c=>match c with | .own true e _=>!Zg P e | _=>true)=true)
  (ho:(match (cs.map (BC.den ρ))[k]? with | some (.own true e xs)=>some (e,xs) | _=>none)=some (e,xs)):Zg P e=false:=by
 rw [List.getElem?_map] at ho
 cases hc:cs[k]? with
 | none => rw [hc] at ho; cases ho
 | some c =>
  rw [hc] at ho
  have h1:=List.all_eq_true.1 h c (List.mem_of_getElem? hc)
  cases c with
  | c y => cases y <;> cases ho
  | gone => cases ho
  | own x e' l =>
   cases x with
   | false => cases ho
   | true =>
    simp only [Option.map_some,BC.den,Option.some.injEq,Prod.mk.injEq] at ho
    rw [← ho.1]
    simpa using h1
theorem Zdl {a:SV} {ρ:Nat→V} (h:ZcB P a=true) {k:Nat} {e:TypeId} {xs:List (List AV)} (ho:ZX (a.den ρ) k=some (e,xs)):Zg P e=false:=by
 cases a with
 | own x e' l =>
  cases x with
  | false => cases k <;> cases ho
  | true =>
   cases k with
   | zero =>
    simp only [SV.den,ZX,Option.some.injEq,Prod.mk.injEq] at ho
    rw [← ho.1]
    exact ZT (by simpa [ZcB] using h)
   | succ k => cases ho
 | box cs => cases k with | zero => cases ho | succ k => exact Zau (ρ := ρ) h ho
 | gbox cs => cases k with | zero => cases ho | succ k => exact Zau (ρ := ρ) h ho
 | tuple _ => cases h
 | aggo _ => cases h
 | c y => cases y <;> (cases k <;> cases ho)
 | _ => cases k <;> cases ho
theorem Zbk {s:Tr} {r:ResultVar} {x:TC} (h:KF P (gE E s) r=some x):Z6 r < E.top:=by
 rcases Nat.lt_or_ge (Z6 r) E.top with hlt | hge
 ·exact hlt
 ·have hd:gE E s (Z6 r) = .dead:=Zbw s _ hge
  cases r with
  | tmp t => simp only [Z6] at hd; simp only [KF, hd] at h; cases h
  | cell t T =>
   simp only [Z6] at hd
   simp only [KF,hd] at h
   cases hT:Z0 P T with
   | none => rw [hT] at h; cases h
   | some b => rw [hT] at h; cases b <;> cases h
theorem Zcd {s:Tr} : ∀ (rs:List ResultVar) (xs:List TC),Va P (gE E s) rs=some xs→∀ r∈rs,Z6 r < E.top
 | [], _, _, r, hr => by cases hr
 | r0 :: rs, xs, h, r, hr => by
  simp only [Va] at h
  split at h
  ·rename_i x xs' hx hxs
   rcases List.mem_cons.1 hr with rfl | hr
   ·exact Zbk hx
   ·exact Zcd rs xs' hxs r hr
  ·cases h
theorem Zde {s:Tr} {ρ:Nat→V} {r:ResultVar} {x:TC} (h:KF P (gE E s) r=some x) {e:TypeId} {xs:List (List AV)} (hx:x.den ρ = .own true e xs):ZX (ZW E s ρ (Z6 r)) (Wx r)=some (e,xs):=by
 cases r with
 | tmp t =>
  simp only [KF] at h
  split at h
  ·rename_i y hy
   cases h
   cases y<;>cases hx
  ·cases h;cases hx
  ·rename_i b e' l hy
   cases h
   simp only [TC.den,AV.own.injEq] at hx
   obtain ⟨rfl,rfl,rfl⟩:=hx
   simp only [Z6,Wx,ZW,hy]
   rfl
  ·cases h
 | cell t T =>
  simp only [KF] at h
  split at h
  ·split at h
   ·cases h;cases hx
   ·cases h
  ·rename_i bx e' l hT hy
   cases h
   simp only [TC.den,AV.own.injEq] at hx
   obtain ⟨rfl,rfl,rfl⟩:=hx
   simp only [Z6,Wx,ZW,hy]
   rfl
  ·rename_i y hT hy
   cases h
   cases y<;>cases hx
  ·cases h
theorem ZcT {s:Tr} {ρ:Nat→V} : ∀ (rs:List ResultVar) (xs:List TC),Va P (gE E s) rs=some xs→∀ (i:Nat) (x:TC) (e:TypeId) (ys:List (List AV)),xs[i]? = some x→x.den ρ = .own true e ys→∃ r,rs[i]? = some r∧ZX (ZW E s ρ (Z6 r)) (Wx r)=some (e,ys)
 | [], xs, h, i, x, e, ys, hx, _ => by
  simp only [Va,Option.some.injEq] at h
  subst h
  simp at hx
 | r0 :: rs, xs, h, i, x, e, ys, hx, ho => by
  simp only [Va] at h
  split at h
  ·rename_i x0 xs' h0 hxs
   cases h
   cases i with
   | zero =>
    simp only [List.getElem?_cons_zero,Option.some.injEq] at hx
    subst hx
    exact ⟨r0,rfl,Zde h0 ho⟩
   | succ i =>
    obtain ⟨r,h1,h2⟩:=ZcT rs xs' hxs i x e ys (by simpa using hx) ho
    exact ⟨r,by simpa using h1,h2⟩
  ·cases h
theorem callOk_ofR {R : AV → List AV → Prop} (hm : P.follows .mixedOrders = true) (hps : EnvSound P E) {f : FuncId} {fn : Func} (hf : P.funcs[f]? = some fn) (hname : (fn.name == "runtime.NumGoroutine") = false) {args : List SV} {n : Nat} {ρ : Nat → V}
  (hargs:∀ a∈args,a.bd n) {res:AV} {outs:List AV} (hR:∀ r os,R r os→K1 P (os++[r]) (outs++[res])) (h:(Zqw P E fn args n).wp P R (fun _ _=>False) ρ):JM P f (args.map (SV.den ρ)) res outs:=by
 unfold Zqw at h
 split at h
 case h_2=>exact h.elim
 rename_i code hbody
 dsimp only at h
 split at h
 case isFalse=>exact h.elim
 rename_i hh
 obtain ⟨hnt,hnm,hal,hng,haf,hanm⟩:=hh
 have hat:=VY args 0 haf
 have hngb:args.length < ngN:=Nat.lt_of_le_of_lt (Nat.le_trans hal hnt) (by decide)
 refine ⟨⟨fn,hf,hname,by rw [hbody];rfl⟩,by rw [List.length_map];exact hngb,?_⟩
 intro w lim X cargs hcl hrel hdist hsize hxfar
 rw [List.length_map] at hxfar
 rw [List.length_map] at hcl
 have hgl:∀ (aZ:List SV) (i:Nat),Jr E aZ i=true→i+aZ.length≤E.nt+((aZ.map (SV.den ρ)).countP AV.isG)∨aZ.length≤(aZ.map (SV.den ρ)).countP AV.isG:=by
  intro aZ
  induction aZ with
  | nil => intro i _; exact .inr (Nat.zero_le _)
  | cons a aZ ih =>
   intro i hf
   have h0:=VY (a::aZ) i hf 0 a rfl
   have hd:(a.den ρ).isG=a.isG:=by cases a<;>first | rfl | (rename_i x;cases x<;>rfl)
   rw [List.map_cons,List.countP_cons,hd,List.length_cons]
   by_cases hg:a.isG=true
   ·rw [if_pos hg]
    rcases ih (i+1) (KM hf) with h1 | h1
    ·left;omega
    ·right;omega
   ·rw [if_neg hg]
    have h2:i < E.nt:=by
     rcases Nat.lt_or_ge i E.nt with h | h
     ·exact h
     ·exact (hg (h0.2.2 (by simpa using h))).elim
    rcases ih (i+1) (KM hf) with h1 | h1
    ·left;omega
    ·left;omega
 have hcn:cargs.length≤E.nt:=by
  rcases hgl args 0 haf with h1 | h1<;>omega
 have hcd:∀ d,d < args.length→(∃ a,args[d]? = some a):=fun d hd=>⟨_,List.getElem?_eq_getElem hd⟩
 refine calls_of_wp hf hbody ?_
 let c:Ctx:=⟨P,w,lim,fun b=>∃ i k,X i k=some b,E.nt,fun d=>match args[d]? with | some (.box _)=>some (cargs.getD d undef) | _=>none,fun d=>match args[d]? with | some (.gbox _)=>X d 0 | _=>none⟩
 have hlow:KL E (Vi args 0):=by
  unfold KL
  rw [List.all_eq_true]
  intro u hu
  have:=Zc2 args 0 E.top (by omega) u hu
  simpa using this
 have hσ:ZW E (Jn (Vi args 0) (.leaf .dead)) ρ=ZM (args.map (SV.den ρ)):=by
  rw [JG hnt ρ _ _ hlow]
  funext d
  rw [Zc7,Nat.zero_add,Nat.sub_zero]
  split
  ·rfl
  ·rename_i hd
   have h1:ZW E (.leaf .dead) ρ d = .dead:=by
    simp only [ZW,gE]
    split<;>rfl
   have h2:(args.map (SV.den ρ))[d]? = none:=List.getElem?_eq_none (by rw [List.length_map];omega)
   rw [h1]
   simp only [ZM,h2]
   rfl
 have htm:∀ d,(cargs.toArray++Array.replicate (fn.ntmps-cargs.toArray.size) undef).getD d undef=cargs.getD d undef:=by
  intro d
  rw [List.getD_eq_getElem?_getD,Array.getD_eq_getD_getElem?,Array.getElem?_append]
  simp only [List.size_toArray,List.getElem?_toArray]
  split
  ·rfl
  ·rename_i h1
   rw [List.getElem?_eq_none (by omega),Array.getElem?_replicate]
   split<;>rfl
 have hpin:∀ d v,c.pin d=some v→(∃ cs,args[d]? = some (.box cs))∧v=cargs.getD d undef:=by
  intro d v hv
  have hv':(match args[d]? with | some (.box _)=>some (cargs.getD d undef) | _=>none)=some v:=hv
  split at hv'
  ·rename_i cs hcs
   simp only [Option.some.injEq] at hv'
   exact ⟨⟨cs,hcs⟩,hv'.symm⟩
  ·cases hv'
 have hsim:Sim c (ZW E (Jn (Vi args 0) (.leaf .dead)) ρ) (cargs.toArray++Array.replicate (fn.ntmps-cargs.toArray.size) undef) w lim X:=by
  rw [hσ]
  have hG:∀ d,(ZM (args.map (SV.den ρ)) d).isG=true↔∃ cs,args[d]? = some (.gbox cs):=by
   intro d
   cases ha:args[d]? with
   | none =>
    have h2:(args.map (SV.den ρ))[d]? = none:=by rw [List.getElem?_map,ha];rfl
    simp only [ZM,h2]
    exact ⟨fun h=>(by cases h),fun ⟨_,h⟩=>(by cases h)⟩
   | some a =>
    have h2:ZM (args.map (SV.den ρ)) d=a.den ρ:=by simp only [ZM,List.getElem?_map,ha];rfl
    rw [h2]
    cases a with
    | gbox cs => exact ⟨fun _ => ⟨cs, rfl⟩, fun _ => rfl⟩
    | c x => exact ⟨fun h => (by cases x <;> cases h), fun ⟨_, h⟩ => (by cases h)⟩
    | _ => exact ⟨fun h => (by cases h), fun ⟨_, h⟩ => (by cases h)⟩
  refine ⟨fun d=>by rw [htm d];exact hrel d,?_,fun d hd=>?_,fun d hd=>?_,hdist,fun d k b hb=>⟨hsize d k b hb,.inl ⟨d,k,hb⟩⟩,⟨rfl,rfl,rfl,Nat.le_refl _,fun _ _=>rfl,fun _ _ _=>⟨rfl,rfl⟩,Ext.refl w lim⟩,fun d v hv=>?_,fun d e xs hdo=>?_,fun d b hb=>?_,Nat.le_trans (Nat.le_trans (Nat.le_add_right _ _) hnt) (by decide),fun d hd=>?_,fun d k e xs b m1 m2 _=>?_,fun b m b' hb=>?_⟩
  ·show _=E.nt
   simp
   omega
  ·cases ha:args[d]? with
   | none =>
    left
    have h2:(args.map (SV.den ρ))[d]? = none:=by rw [List.getElem?_map,ha];rfl
    simp only [ZM,h2]
    rfl
   | some a =>
    right
    have h3:=(hat d a ha).2.2 (by rw [Nat.zero_add];exact hd)
    refine (hG d).2 ?_
    cases a<;>simp [SV.isG] at h3
    exact ⟨_,ha⟩
  ·obtain ⟨cs,hcs⟩:=(hG d).1 hd
   have:=(hat d _ hcs).2.1 rfl
   rwa [Nat.zero_add] at this
  ·obtain ⟨⟨cs,hcs⟩,rfl⟩:=hpin d v hv
   refine ⟨htm d,cs.map (BC.den ρ),?_⟩
   simp only [ZM,List.getElem?_map,hcs]
   rfl
  ·cases ha:args[d]? with
   | none =>
    have h2:(args.map (SV.den ρ))[d]? = none:=by rw [List.getElem?_map,ha];rfl
    simp only [ZM,h2] at hdo
    cases hdo
   | some a =>
    have h2:ZM (args.map (SV.den ρ)) d=a.den ρ:=by simp only [ZM,List.getElem?_map,ha];rfl
    rw [h2] at hdo
    rw [List.all_eq_true] at hanm
    exact .noMap (Zjx (hanm a (List.mem_of_getElem? ha)) e xs hdo)
  ·have hb':(match args[d]? with | some (.gbox _)=>X d 0 | _=>none)=some b:=hb
   split at hb'
   ·rename_i cs hcs
    exact ⟨hb',(hG d).2 ⟨cs,hcs⟩⟩
   ·cases hb'
  ·have h2:(args.map (SV.den ρ))[d]? = none:=List.getElem?_eq_none (by rw [List.length_map];omega)
   simp only [ZM,h2]
   rfl
  ·exfalso
   cases ha:args[d]? with
   | none =>
    have h2:(args.map (SV.den ρ))[d]? = none:=by rw [List.getElem?_map,ha];rfl
    simp only [ZM,h2,Option.getD_none] at m1
    cases k<;>cases m1
   | some a =>
    have h2:ZM (args.map (SV.den ρ)) d=a.den ρ:=by simp only [ZM,List.getElem?_map,ha];rfl
    rw [h2] at m1
    rw [List.all_eq_true] at hanm
    have h3:=Zdl (hanm a (List.mem_of_getElem? ha)) m1
    have m2':Zg P e=true:=m2
    rw [h3] at m2'
    cases m2'
  ·rw [hxfar _ (by omega)] at hb;cases hb
 have hfin:∀ s' n' ρ' (A':Nat→List V→Prop),K8 E s' n'→((match Zjg (gE E s') args fn.results.toList with
   | some (_, cs) => if (YW (gE E s') args 0).all (ZcB P) = true then .ret (.box cs) (YW (gE E s') args 0) else .stuck 125
   | none =>
   match ZlS P (gE E s') fn.results.toList with
   | some r => if Zal args fn.results.toList = true ∧ (YW (gE E s') args 0).all (ZcB P) = true then STree.ret r (YW (gE E s') args 0) else .stuck 124
   | none => .stuck 120) : STree).wp P R A' ρ' → ∀ tm' w' lim' X', Sim c (ZW E s' ρ') tm' w' lim' X' → ∃ v, (results fn tm').run P w' = .ok v w' ∧
    ∃ v1 lim1 X1,Ending.returned v = .returned v1∧ZN w lim w' lim1 (fun b=>∃ i k,X i k=some b)∧outs.length=(args.map (SV.den ρ)).length∧
     (∀ i,ZP P w' lim1 X1 (ZM (outs++[res])) i (ZM (outs++[res]) i) (W3 (args.map (SV.den ρ)).length cargs v1 i))∧ZkF X1∧
     (∀ i k b,X1 i k=some b→b < w'.heap.size∧((∃ i k,X i k=some b)∨w.heap.size≤b))∧(∀ i,(ZM (outs++[res]) i).isG=true→(ZM (args.map (SV.den ρ)) i).isG=true∧X1 i 0=X i 0)∧V5 P outs∧ZpP P w' lim1 X1 res (args.map (SV.den ρ)).length:=by
  intro s' n' ρ' A' _ h' tm' w' lim' X' hsim'
  obtain ⟨r,SRC,hA,hB,hval,hG0,h',hnd,hlo,hD⟩:∃ (r:SV) (SRC:Nat→Nat→Option (Nat×Nat)),(∀ i,i < args.length→∀ k,SRC i k=if (args[i]?).map SV.isBx=some true then some (i,k) else none)∧
    (∀ i k i' k' p,SRC i k=some p→SRC i' k'=some p→i=i'∧k=k')∧
    (∃ v,(results fn tm').run P w' = .ok v w'∧ZP P w' lim' (fun i k=>(SRC i k).bind fun p=>X' p.1 p.2) (ZM ((YW (gE E s') args 0).map (SV.den ρ')++[r.den ρ'])) args.length (r.den ρ') v)∧
    (r.den ρ').isG=false∧(STree.ret r (YW (gE E s') args 0)).wp P R A' ρ'∧(YW (gE E s') args 0).all (ZcB P)=true∧(∀ i k p,SRC i k=some p→p.1 < ngN)∧
    ∀ k e xs,ZX (r.den ρ') k=some (e,xs)→∀ p,SRC args.length k=some p→ZX (ZW E s' ρ' p.1) p.2=some (e,xs):=by
   split at h'
   ·rename_i d0 cs hbr
    unfold Zjg at hbr
    split at hbr
    case h_2=>cases hbr
    rename_i t hrs
    split at hbr
    case h_2=>cases hbr
    rename_i d1 hgt
    split at hbr
    case h_2=>cases hbr
    rename_i cs1 hgd
    split at hbr
    case isFalse=>cases hbr
    rename_i hna
    simp only [Option.some.injEq,Prod.mk.injEq] at hbr
    obtain ⟨rfl,rfl⟩:=hbr
    split at h'
    case isFalse=>exact h'.elim
    rename_i hndl
    have hd1:d1 < ngN:=by
     rcases Nat.lt_or_ge d1 E.top with hlt | hge
     ·exact Nat.lt_of_lt_of_le hlt (Nat.le_trans hnt (by decide))
     ·rw [Zbw s' _ hge] at hgd;cases hgd
    have hnb:∀ a,args[d1]? = some a→a.isBx=true→False:=by
     intro a ha hax
     rw [ha] at hna
     cases a<;>simp [SV.isBx] at hax<;>cases hna
    refine ⟨.box cs1,fun i k=>if i < args.length then (if (args[i]?).map SV.isBx=some true then some (i,k) else none) else if i=args.length then some (d1,k) else none,fun i hi k=>if_pos hi,?_,?_,rfl,h',hndl,fun i k p hp=>?_,fun k e xs ho p hp=>?_⟩
    rotate_left 2
    ·dsimp only at hp
     split at hp
     ·split at hp
      ·cases hp;dsimp only;omega
      ·cases hp
     ·split at hp
      ·cases hp;exact hd1
      ·cases hp
    ·dsimp only at hp
     rw [if_neg (Nat.lt_irrefl _),if_pos rfl] at hp
     cases hp
     show ZX (ZW E s' ρ' d1) k=_
     have e2:ZW E s' ρ' d1 = .box (cs1.map (BC.den ρ')):=by simp only [ZW,hgd];rfl
     rw [e2]
     exact ho
    ·intro i k i' k' p h1 h2
     dsimp only at h1 h2
     split at h1
     ·split at h1
      ·rename_i hi hb
       simp only [Option.some.injEq] at h1
       subst h1
       obtain ⟨a,ha,hax⟩:=Option.map_eq_some_iff.1 hb
       split at h2
       ·split at h2
        ·simp only [Option.some.injEq,Prod.mk.injEq] at h2;exact ⟨h2.1.symm,h2.2.symm⟩
        ·cases h2
       ·split at h2
        ·simp only [Option.some.injEq,Prod.mk.injEq] at h2
         exact (hnb a (by rw [h2.1];exact ha) hax).elim
        ·cases h2
      ·cases h1
     ·split at h1
      ·rename_i hi
       simp only [Option.some.injEq] at h1
       subst h1
       split at h2
       ·split at h2
        ·rename_i hi' hb
         simp only [Option.some.injEq,Prod.mk.injEq] at h2
         obtain ⟨a,ha,hax⟩:=Option.map_eq_some_iff.1 hb
         exact (hnb a (by rw [← h2.1];exact ha) hax).elim
        ·cases h2
       ·split at h2
        ·rename_i hi'
         simp only [Option.some.injEq,Prod.mk.injEq] at h2
         exact ⟨by rw [hi,hi'],h2.2.symm⟩
        ·cases h2
      ·cases h1
    ·have ht:=hsim'.rel t
     have hd:=hsim'.rel d1
     have e1:ZW E s' ρ' t = .ptr d1 0:=by simp only [ZW,hgt];rfl
     have e2:ZW E s' ρ' d1 = .box (cs1.map (BC.den ρ')):=by simp only [ZW,hgd];rfl
     rw [e1] at ht
     rw [e2] at hd
     obtain ⟨b,cs',hb,_,hv⟩:=ht
     have hp:ZI P w' lim' (X' d1) (cs1.map (BC.den ρ')) (tm'.getD d1 undef):=hd
     obtain ⟨b',hb',hv'⟩:=Y1 hp
     rw [hb] at hb'
     simp only [Option.some.injEq] at hb'
     subst hb'
     refine ⟨tm'.getD t undef,?_,?_⟩
     ·exact KO (vs:=[tm'.getD t undef]) (by rw [hrs];rfl) fun i r' v' hr' hv2=>by
       rw [hrs] at hr'
       cases i with
       | zero =>
        simp only [List.getElem?_cons_zero,Option.some.injEq] at hr' hv2
        subst hr'
        subst hv2
        rfl
       | succ i => simp at hr'
     ·show ZI P w' lim' (fun k=>((if args.length < args.length then (if (args[args.length]?).map SV.isBx=some true then some (args.length,k) else none) else if args.length=args.length then some (d1,k) else none:Option (Nat×Nat)).bind fun p=>X' p.1 p.2)) (cs1.map (BC.den ρ')) (tm'.getD t undef)
      have e3:(fun k=>((if args.length < args.length then (if (args[args.length]?).map SV.isBx=some true then some (args.length,k) else none) else if args.length=args.length then some (d1,k) else none:Option (Nat×Nat)).bind fun p=>X' p.1 p.2))=X' d1:=by
       funext k
       rw [if_neg (Nat.lt_irrefl _),if_pos rfl];rfl
      rw [e3,hv,← hv']
      exact hp
   ·split at h'
    case h_2=>exact h'.elim
    rename_i r hr
    split at h'
    case isFalse=>exact h'.elim
    rename_i hfine
    obtain ⟨hfine,hndl⟩:=hfine
    rcases ZgQ hr with ⟨t,T,cs,hrs,hT,hgt,hcl2,hwh,rfl⟩ | hr
    ·-- a struct that owns what its cells own
     have htn:t < ngN:=by
      rcases Nat.lt_or_ge t E.top with hlt | hge
      ·exact Nat.lt_of_lt_of_le hlt (Nat.le_trans hnt (by decide))
      ·rw [Zbw s' _ hge] at hgt;cases hgt
     have hna:∀ a,args[t]? = some a→a.isBx=true→False:=by
      intro a ha hax
      have h1:Zal args [.cell t T]=true:=by rw [← hrs];exact hfine
      simp only [Zal,Bool.and_eq_true,List.all_cons,List.all_nil,Bool.and_true,Z6] at h1
      have h2:=h1.2
      rw [ha] at h2
      cases a<;>simp [SV.isBx] at hax<;>cases h2
     have e2:ZW E s' ρ' t = .box (cs.map (BC.den ρ')):=by simp only [ZW,hgt];rfl
     refine ⟨.aggo cs,fun i k=>if i < args.length then (if (args[i]?).map SV.isBx=some true then some (i,k) else none) else if i=args.length then (if k=0 then none else some (t,k)) else none,fun i hi k=>if_pos hi,?_,?_,rfl,h',hndl,fun i k p hp=>?_,fun k e xs ho p hp=>?_⟩
     ·intro i k i' k' p h1 h2
      dsimp only at h1 h2
      split at h1
      ·split at h1
       ·rename_i hi hb
        cases h1
        obtain ⟨a,ha,hax⟩:=Option.map_eq_some_iff.1 hb
        split at h2
        ·split at h2
         ·cases h2;exact ⟨rfl,rfl⟩
         ·cases h2
        ·split at h2
         ·split at h2
          ·cases h2
          ·simp only [Option.some.injEq,Prod.mk.injEq] at h2
           exact (hna a (by rw [h2.1];exact ha) hax).elim
         ·cases h2
       ·cases h1
      ·split at h1
       ·rename_i hi
        split at h1
        ·cases h1
        ·cases h1
         split at h2
         ·split at h2
          ·rename_i hi' hb
           simp only [Option.some.injEq,Prod.mk.injEq] at h2
           obtain ⟨a,ha,hax⟩:=Option.map_eq_some_iff.1 hb
           exact (hna a (by rw [← h2.1];exact ha) hax).elim
          ·cases h2
         ·split at h2
          ·rename_i hi'
           split at h2
           ·cases h2
           ·simp only [Option.some.injEq,Prod.mk.injEq] at h2
            exact ⟨by rw [hi,hi'],h2.2.symm⟩
          ·cases h2
       ·cases h1
     ·have hd:=hsim'.rel t
      rw [e2] at hd
      obtain ⟨b,arr,ty,g1,g2,g3,g4,g5,g6,g7⟩:=(show ZI P w' lim' (X' t) (cs.map (BC.den ρ')) (tm'.getD t undef) from hd)
      have hal:arr.toList.length=cs.length:=by simpa using g4
      refine ⟨.agg arr.toList.toArray,?_,?_⟩
      ·exact KO (vs:=[.agg arr.toList.toArray]) (by rw [hrs];rfl) fun i r' v' hr' hv'=>by
        rw [hrs] at hr'
        cases i with
        | zero =>
         simp only [List.getElem?_cons_zero,Option.some.injEq] at hr' hv'
         subst hr'
         subst hv'
         obtain ⟨i,hi⟩:=Zab hT
         have hl2:=run_loadCells_list (P:=P) w' ⟨b,0,none⟩ arr.toList (fun j v hj=>by rw [JC,Zs g3,Nat.zero_add];simpa using hj)
         rw [hal,hcl2] at hl2
         simp [Vq,g2,asAddr,loadVar,VF hT,Zx hi,hl2]
        | succ i => simp at hr'
      ·refine ⟨arr.toList,rfl,by rw [hal,List.length_map],⟨g6,fun u hu=>?_⟩,fun j x u hx hu=>?_⟩
       ·obtain ⟨j,hj⟩:=List.mem_iff_getElem?.1 hu
        have hlt:j < (cs.map (BC.den ρ')).length:=by rw [List.length_map,← hal];exact (List.getElem?_eq_some_iff.1 hj).1
        have hr:=g7 j _ u (List.getElem?_eq_getElem hlt) (by simpa using hj)
        rcases g6 _ (List.getElem_mem hlt) with hx | ⟨x,e,xs,hx⟩ | hx
        ·generalize (cs.map (BC.den ρ'))[j]=y at hr hx
         cases y<;>simp [AV.isCell] at hx<;>exact Rep.oneCell hr rfl
        ·rw [hx] at hr
         exact (ZQ.cells1 (show ZQ P w' lim' x e xs u _ from hr)).2
        ·exact (Vs hwh ρ' _ (List.getElem_mem hlt) hx).elim
       ·show JW P w' lim' ((if args.length < args.length then (if (args[args.length]?).map SV.isBx=some true then some (args.length,j+1) else none) else if args.length=args.length then (if j+1=0 then none else some (t,j+1)) else none:Option (Nat×Nat)).bind fun p=>X' p.1 p.2) x u
        rw [if_neg (Nat.lt_irrefl _),if_pos rfl,if_neg (by omega)]
        exact g7 j x u hx (by simpa using hu)
     ·dsimp only at hp
      split at hp
      ·split at hp
       ·cases hp;dsimp only;omega
       ·cases hp
      ·split at hp
       ·split at hp
        ·cases hp
        ·cases hp;exact htn
       ·cases hp
     ·dsimp only at hp
      rw [if_neg (Nat.lt_irrefl _),if_pos rfl] at hp
      split at hp
      ·cases hp
      ·cases hp
       show ZX (ZW E s' ρ' t) k=_
       rw [e2]
       cases k with
       | zero => cases ho
       | succ k => exact ho
    have hlo0:∀ i k p,ZeB args fn.results.toList i k=some p→p.1 < ngN:=by
     intro i k p hp
     have hrs:∀ r∈fn.results.toList,Z6 r < ngN:=by
      intro r0 hr0
      have:Z6 r0 < E.top:=by
       unfold Zdr at hr
       split at hr
       ·rename_i r1 hrs
        rw [hrs,List.mem_singleton] at hr0
        subst hr0
        obtain ⟨x,hx,_⟩:=Option.map_eq_some_iff.1 hr
        exact Zbk hx
       ·obtain ⟨xs,hx,_⟩:=Option.map_eq_some_iff.1 hr
        exact Zcd _ _ hx r0 hr0
      exact Nat.lt_of_lt_of_le this (Nat.le_trans hnt (by decide))
     unfold ZeB at hp
     split at hp
     ·split at hp
      ·cases hp;dsimp only;omega
      ·cases hp
     ·split at hp
      ·split at hp
       ·rename_i r1 hr1
        split at hp
        ·cases hp;exact hrs r1 (by rw [hr1];simp)
        ·cases hp
       ·split at hp
        ·cases hp
        ·obtain ⟨r1,hr1,rfl⟩:=Option.map_eq_some_iff.1 hp
         exact hrs r1 (List.mem_of_getElem? hr1)
      ·cases hp
    have hD0:∀ k e xs,ZX (r.den ρ') k=some (e,xs)→∀ p,ZeB args fn.results.toList args.length k=some p→ZX (ZW E s' ρ' p.1) p.2=some (e,xs):=by
     intro k e xs ho p hp
     have hrow:∀ k,ZeB args fn.results.toList args.length k=match fn.results.toList with
       | [r] => if k = 0 then some (Z6 r, Wx r) else none
       | rs => match k with | 0 => none | k + 1 => (rs[k]?).map fun r => (Z6 r, Wx r) := by
      intro k
      unfold ZeB
      rw [if_neg (Nat.lt_irrefl _),if_pos rfl]
      all_goals rfl
     rw [hrow] at hp
     unfold Zdr at hr
     split at hr
     ·rename_i r1 hrs
      obtain ⟨x,hx,rfl⟩:=Option.map_eq_some_iff.1 hr
      rw [hrs] at hp
      dsimp only at hp
      split at hp
      ·rename_i hk
       subst hk
       cases hp
       rw [Za3] at ho
       refine Zde hx ?_
       cases x with
       | c y => cases y <;> cases ho
       | agg cs => cases ho
       | gone => cases ho
       | own b e' l =>
        cases b with
        | false => cases ho
        | true =>
         simp only [TC.den,ZX,Option.some.injEq,Prod.mk.injEq] at ho ⊢
         obtain ⟨rfl,rfl⟩:=ho
         rfl
      ·cases hp
     ·rename_i hne
      obtain ⟨xs1,hx,rfl⟩:=Option.map_eq_some_iff.1 hr
      split at hp
      ·rename_i r1 hr1;exact (hne r1 hr1).elim
      ·cases k with
       | zero => cases hp
       | succ k =>
        obtain ⟨r1,hr1,rfl⟩:=Option.map_eq_some_iff.1 hp
        simp only [SV.den,ZX] at ho
        split at ho
        ·rename_i e1 ys1 hk
         simp only [Option.some.injEq,Prod.mk.injEq] at ho
         obtain ⟨rfl,rfl⟩:=ho
         rw [List.getElem?_map] at hk
         obtain ⟨x,hxk,hxd⟩:=Option.map_eq_some_iff.1 hk
         obtain ⟨r2,h1,h2⟩:=ZcT (ρ:=ρ') _ _ hx k x e1 ys1 hxk hxd
         rw [hr1] at h1
         cases h1
         exact h2
        ·cases ho
    refine ⟨r,ZeB args fn.results.toList,fun i hi k=>?_,fun i k i' k' p h1 h2=>ZmM hfine h1 h2,?_,?_,h',hndl,hlo0,hD0⟩
    ·unfold ZeB;rw [if_pos hi]
    ·generalize (YW (gE E s') args 0).map (SV.den ρ')=outs0
     have hrow:∀ k,ZeB args fn.results.toList args.length k=match fn.results.toList with
       | [r] => if k = 0 then some (Z6 r, Wx r) else none
       | rs => match k with | 0 => none | k + 1 => (rs[k]?).map fun r => (Z6 r, Wx r) := by
      intro k
      unfold ZeB
      rw [if_neg (Nat.lt_irrefl _),if_pos rfl]
      all_goals rfl
     unfold Zdr at hr
     split at hr
     ·rename_i r0 hrs
      cases hx:KF P (gE E s') r0 with
      | none => simp [hx] at hr
      | some x =>
       simp only [hx,Option.map_some,Option.some.injEq] at hr
       subst hr
       rw [Za3]
       obtain ⟨v,h1,h2⟩:=Zfd (c:=c) rfl hsim' hx
       refine ⟨v,?_,Zgk ?_⟩
       ·exact KO (vs:=[v]) (by rw [hrs];rfl) fun i r' v' hr' hv'=>by
         rw [hrs] at hr'
         cases i with
         | zero =>
          simp only [List.getElem?_cons_zero,Option.some.injEq] at hr' hv'
          subst hr'
          subst hv'
          exact h1
         | succ i => simp at hr'
       ·show JW P w' lim' ((ZeB args fn.results.toList args.length 0).bind fun p=>X' p.1 p.2) _ v
        rw [hrow,hrs]
        exact h2
     ·rename_i hne
      cases hx:Va P (gE E s') fn.results.toList with
      | none => simp [hx] at hr
      | some xs =>
       simp only [hx,Option.map_some,Option.some.injEq] at hr
       subst hr
       obtain ⟨vs,g1,g2,g3⟩:=Zfo (c:=c) rfl hsim' _ _ hx
       have hne1:∀ v,vs≠[v]:=by
        intro v hv
        rw [hv] at g1
        obtain ⟨r',hr'⟩:=List.length_eq_one_iff.1 g1
        exact hne r' hr'
       refine ⟨.tuple vs.toArray,?_,?_⟩
       ·have:=KO g1 fun i r' v' hr' hv'=>(g3 i r' v' hr' hv').1
        rw [this]
        rcases vs with _ | ⟨v,_ | ⟨u,l⟩⟩
        ·rfl
        ·exact (hne1 v rfl).elim
        ·rfl
       ·refine ⟨vs,rfl,by simp [g2],fun i y u hy hu=>?_⟩
        rw [List.getElem?_map] at hy
        cases hxi:xs[i]? with
        | none => simp [hxi] at hy
        | some x =>
         simp only [hxi,Option.map_some,Option.some.injEq] at hy
         subst hy
         obtain ⟨r',hr'⟩:∃ r',fn.results.toList[i]? = some r':=⟨_,List.getElem?_eq_getElem (by rw [g1];exact (List.getElem?_eq_some_iff.1 hu).1)⟩
         have h3:=(g3 i r' u hr' hu).2 x hxi
         have hsrc:ZeB args fn.results.toList args.length (i+1)=some (Z6 r',Wx r'):=by
          rw [hrow]
          split
          ·rename_i r1 hr1;exact (hne r1 hr1).elim
          ·simp [hr']
         show JW P w' lim' ((ZeB args fn.results.toList args.length (i+1)).bind fun p=>X' p.1 p.2) _ u
         rw [hsrc]
         exact h3
    ·unfold Zdr at hr
     split at hr
     ·obtain ⟨x,_,rfl⟩:=Option.map_eq_some_iff.1 hr
      rw [Za3]
      cases x with
      | c y => cases y <;> rfl
      | _ => rfl
     ·obtain ⟨x,_,rfl⟩:=Option.map_eq_some_iff.1 hr
      rfl
  obtain ⟨res0,hres⟩:∃ y,SV.den ρ' r=y:=⟨_,rfl⟩
  obtain ⟨outs0,houts⟩:∃ y,(YW (gE E s') args 0).map (SV.den ρ')=y:=⟨_,rfl⟩
  have hww:=hR _ _ h'
  rw [hres,houts] at hww
  suffices hz:∃ v,(results fn tm').run P w' = .ok v w'∧
    ∃ v1 lim1 X1,Ending.returned v = .returned v1∧ZN w lim w' lim1 (fun b=>∃ i k,X i k=some b)∧outs0.length=(args.map (SV.den ρ)).length∧
     (∀ i,ZP P w' lim1 X1 (ZM (outs0++[res0])) i (ZM (outs0++[res0]) i) (W3 (args.map (SV.den ρ)).length cargs v1 i))∧ZkF X1∧
     (∀ i k b,X1 i k=some b→b < w'.heap.size∧((∃ i k,X i k=some b)∨w.heap.size≤b))∧(∀ i,(ZM (outs0++[res0]) i).isG=true→(ZM (args.map (SV.den ρ)) i).isG=true∧X1 i 0=X i 0)∧V5 P outs0∧ZpP P w' lim1 X1 res0 (args.map (SV.den ρ)).length by
   obtain ⟨v,hrun,v1,lim1,X1,he,hst,hol,hr,hd,hin,hgh,hnl,hnr⟩:=hz
   obtain ⟨X3,k1,k3,k2,k4⟩:=Zc5 hr hww
   have hX3:∀ i k b,X3 i k=some b→X1 i k=some b:=by
    intro i k b hb
    rcases k1 i k with e | e
    ·rw [← e];exact hb
    ·rw [e] at hb;cases hb
   have hll:outs0.length=outs.length:=by have:=hww.1;simpa using this
   refine ⟨v,hrun,v1,lim1,X3,he,hst,by rw [← hll,hol],k2,ZeR hd k1,fun i k b hb=>hin i k b (hX3 i k b hb),fun i hi=>?_,ZgT hww hnl,fun k e xs b m1 m2 m3=>?_⟩
   ·obtain ⟨m1,m2⟩:=hgh i (Zee hww hi)
    exact ⟨m1,by rw [k3 i (W5 hi),m2]⟩
   ·have hal2:outs0.length=args.length:=by rw [hol,List.length_map]
    rw [← Zfq (aZ:=outs) (x:=res)] at m1
    have h1:=Zbg hww m1 m2
    rw [← hll,Zfq] at h1
    rw [k4 _ (by simp;omega)]
    exact hnr k e xs b h1 m2 (hX3 _ _ _ m3)
  rw [hres,houts] at hval
  obtain ⟨v,hv1,hv2⟩:=hval
  have hol:outs0.length=args.length:=by rw [← houts,List.length_map,ZfA]
  have hrt:∀ i,W3 (args.map (SV.den ρ)).length cargs v i=if i=args.length then v else cargs.getD i undef:=by
   intro i
   unfold W3
   rw [List.length_map]
  have hout:∀ i,i < args.length→ZM (outs0++[res0]) i=match args[i]? with | some a=>if a.isBx=true then ZW E s' ρ' i else .dead | none=>.dead:=by
   intro i hi
   simp only [ZM]
   rw [List.getElem?_append_left (by omega),← houts,List.getElem?_map,Zhl,Nat.zero_add]
   have:=List.getElem?_eq_getElem hi
   rw [this]
   simp only [Option.map_some,Option.getD_some]
   split<;>rfl
  have hgpn:∀ i cs,args[i]? = some (.gbox cs)→X' i 0=X i 0∧(ZW E s' ρ' i).isG=true:=by
   intro i cs hcs
   have hri:=hrel i
   have h2:ZM (args.map (SV.den ρ)) i = .gbox (cs.map (BC.den ρ)):=by simp only [ZM,List.getElem?_map,hcs];rfl
   rw [h2] at hri
   obtain ⟨v',hp⟩:=hri
   obtain ⟨b,hb,_⟩:=Y1 hp
   obtain ⟨g1,g2⟩:=hsim'.gpin i b (by show (match args[i]? with | some (.gbox _)=>X i 0 | _=>none)=_;rw [hcs];exact hb)
   exact ⟨by rw [g1,hb],g2⟩
  obtain ⟨SRC2,hS2⟩:∃ SRC2:Nat→Nat→Option (Nat×Nat),SRC2=fun i k=>if ngN≤i then some (i,k) else SRC i k:=⟨_,rfl⟩
  have hSlo:∀ i,i < ngN→∀ k,SRC2 i k=SRC i k:=fun i hi k=>by rw [hS2];exact if_neg (by omega)
  have hShi:∀ i,ngN≤i→∀ k,SRC2 i k=some (i,k):=fun i hi k=>by rw [hS2];exact if_pos hi
  have hA:∀ i,i < args.length→∀ k,SRC2 i k=if (args[i]?).map SV.isBx=some true then some (i,k) else none:=fun i hi k=>(hSlo i (by omega) k).trans (hA i hi k)
  have hB2:∀ i k i' k' p,SRC2 i k=some p→SRC2 i' k'=some p→i=i'∧k=k':=fun i k i' k' p h1 h2=>by
   rcases Nat.lt_or_ge i ngN with hi | hi<;>rcases Nat.lt_or_ge i' ngN with hi' | hi'
   ·rw [hSlo i hi] at h1;rw [hSlo i' hi'] at h2;exact hB i k i' k' p h1 h2
   ·rw [hSlo i hi] at h1;rw [hShi i' hi'] at h2;cases h2;have:=hlo i k _ h1;dsimp only at this;omega
   ·rw [hShi i hi] at h1;rw [hSlo i' hi'] at h2;cases h1;have:=hlo i' k' _ h2;dsimp only at this;omega
   ·rw [hShi i hi] at h1;rw [hShi i' hi'] at h2;cases h1;cases h2;exact ⟨rfl,rfl⟩
  have hdlt:∀ d,ZM (outs0++[res0]) d≠.dead→d < ngN:=fun d hd=>by
   rcases Nat.lt_or_ge d ngN with h | h
   ·exact h
   ·refine (hd ?_).elim
    have:(outs0++[res0])[d]? = none:=List.getElem?_eq_none (by simp;omega)
    simp only [ZM,this]
    rfl
  have hv2:ZP P w' lim' (fun i k=>(SRC2 i k).bind fun p=>X' p.1 p.2) (ZM (outs0++[res0])) args.length res0 v:=by
   have hrow:∀ i,i < ngN→(fun k=>(SRC2 i k).bind fun p=>X' p.1 p.2)=fun k=>(SRC i k).bind fun p=>X' p.1 p.2:=fun i hi=>by
    funext k;rw [hSlo i hi]
   have hat:∀ i,i < ngN→∀ k,(SRC2 i k).bind (fun p=>X' p.1 p.2)=(SRC i k).bind fun p=>X' p.1 p.2:=fun i hi k=>by rw [hSlo i hi]
   refine hv2.chg (hrow _ (by omega)) (fun d' cs hd'=>⟨⟨cs,hd'⟩,hat d' (hdlt d' (by rw [hd'];exact fun h=>by cases h)) 0⟩) (fun d' hd'=>⟨hd',hat d' (hdlt d' (by intro h;rw [h] at hd';cases hd')) 0⟩) fun d' k hr=>⟨Kl.refl _ _,?_⟩
   obtain ⟨p,hp⟩:=ZfN hv2 hr
   exact hat d' (hdlt d' (by intro h;rw [h] at hp;cases hp)) k
  have hlow2:∀ k p,SRC2 args.length k=some p→SRC args.length k=some p:=fun k p hp=>by rw [← hSlo _ hngb];exact hp
  refine ⟨v,hv1,v,lim',fun i k=>(SRC2 i k).bind fun p=>X' p.1 p.2,rfl,⟨hsim'.frm.os,hsim'.frm.tape,hsim'.frm.output,hsim'.frm.size,hsim'.frm.frz,hsim'.frm.blk,hsim'.frm.ext⟩,by rw [hol,List.length_map],fun i=>?_,fun d k d' k' b hb hb'=>?_,fun i k b hb=>?_,fun i hi=>?_,fun i k e xs hi=>?_,fun k e xs b m1 m2 m3=>?_⟩
  ·rw [hrt]
   rcases Nat.lt_trichotomy i args.length with hi | hi | hi
   ·rw [if_neg (by omega),hout i hi]
    obtain ⟨a,ha⟩:=hcd i hi
    rw [ha]
    dsimp only
    have hrow:a.isBx=true→(fun k=>(SRC2 i k).bind fun p=>X' p.1 p.2)=X' i:=by
     intro hbx
     funext k
     rw [hA i hi k,ha,if_pos (by simp [hbx])]
     rfl
    cases a with
    | box cs =>
     rw [if_pos (show (SV.box cs).isBx=true from rfl)]
     obtain ⟨p1,cs',p2⟩:=hsim'.pin i (cargs.getD i undef) (by show (match args[i]? with | some (.box _)=>some (cargs.getD i undef) | _=>none)=_;rw [ha])
     have hrl:=hsim'.rel i
     rw [p2,p1] at hrl
     rw [p2]
     show ZI P w' lim' (fun k=>(SRC2 i k).bind fun p=>X' p.1 p.2) cs' _
     rw [hrow rfl]
     exact hrl
    | gbox cs =>
     rw [if_pos (show (SV.gbox cs).isBx=true from rfl)]
     obtain ⟨_,g2⟩:=hgpn i cs ha
     have hrl:=hsim'.rel i
     generalize ZW E s' ρ' i=x at g2 hrl
     cases x<;>simp [AV.isG] at g2
     obtain ⟨v',hrl⟩:=hrl
     refine ⟨v',?_⟩
     show ZI P w' lim' (fun k=>(SRC2 i k).bind fun p=>X' p.1 p.2) _ v'
     rw [hrow rfl]
     exact hrl
    | _ => exact trivial
   ·subst hi
    have hout:ZM (outs0++[res0]) args.length=res0:=by
     simp only [ZM]
     rw [List.getElem?_append_right (by omega),hol]
     simp
    rw [if_pos rfl,hout]
    exact hv2
   ·have hout:ZM (outs0++[res0]) i = .dead:=by
     simp only [ZM]
     rw [List.getElem?_eq_none (by simp;omega)]
     rfl
    rw [hout]
    trivial
  ·cases hp:SRC2 d k with
   | none => simp [hp] at hb
   | some p =>
    cases hp':SRC2 d' k' with
    | none => simp [hp'] at hb'
    | some p' =>
     simp only [hp,hp',Option.bind_some] at hb hb'
     obtain ⟨e1,e2⟩:=hsim'.dist _ _ _ _ b hb hb'
     have:p=p':=Prod.ext e1 e2
     subst this
     exact hB2 _ _ _ _ _ hp hp'
  ·cases hp:SRC2 i k with
   | none => simp [hp] at hb
   | some p =>
    simp only [hp,Option.bind_some] at hb
    exact hsim'.ours _ _ b hb
  ·rcases Nat.lt_trichotomy i args.length with hl | hl | hl
   ·rw [hout i hl] at hi
    obtain ⟨a,ha⟩:=hcd i hl
    rw [ha] at hi
    dsimp only at hi
    cases a with
    | gbox cs =>
     obtain ⟨g1,g2⟩:=hgpn i cs ha
     refine ⟨by simp only [ZM,List.getElem?_map,ha];rfl,?_⟩
     show (SRC2 i 0).bind (fun p=>X' p.1 p.2)=X i 0
     rw [hA i hl 0,ha,if_pos (show (some (SV.gbox cs)).map SV.isBx=some true from rfl)]
     exact g1
    | box cs =>
     obtain ⟨p1,cs',p2⟩:=hsim'.pin i (cargs.getD i undef) (by show (match args[i]? with | some (.box _)=>some (cargs.getD i undef) | _=>none)=_;rw [ha])
     rw [if_pos (show (SV.box cs).isBx=true from rfl),p2] at hi
     cases hi
    | _ => cases hi
   ·subst hl
    have hres0:ZM (outs0++[res0]) args.length=res0:=by
     simp only [ZM]
     rw [List.getElem?_append_right (by omega),hol]
     simp
    rw [hres0,← hres,hG0] at hi
    cases hi
   ·have:ZM (outs0++[res0]) i = .dead:=by
     simp only [ZM]
     rw [List.getElem?_eq_none (by simp;omega)]
     rfl
    rw [this] at hi
    cases hi
  ·cases hd:Zg P e with
   | false => rfl
   | true =>
    exfalso
    rw [← houts] at hi
    cases hg:(YW (gE E s') args 0)[i]? with
    | none =>
     have h2:((YW (gE E s') args 0).map (SV.den ρ'))[i]? = none:=by rw [List.getElem?_map,hg];rfl
     simp only [ZM,h2,Option.getD_none] at hi
     cases k<;>cases hi
    | some a =>
     have h2:ZM ((YW (gE E s') args 0).map (SV.den ρ')) i=a.den ρ':=by simp only [ZM,List.getElem?_map,hg];rfl
     rw [h2] at hi
     rw [Zdl (List.all_eq_true.1 hnd a (List.mem_of_getElem? hg)) hi] at hd
     cases hd
  ·rw [List.length_map] at m3
   have m3':(SRC2 args.length k).bind (fun p=>X' p.1 p.2)=some b:=m3
   cases hp:SRC2 args.length k with
   | none => rw [hp] at m3'; cases m3'
   | some p =>
    rw [hp] at m3'
    rw [← hres] at m1
    have h1:=hD k e xs m1 p (hlow2 k p hp)
    have h2:=hsim'.nst p.1 p.2 e xs b h1 m2 m3'
    have h3:(fun k=>(SRC2 (ngN+b) k).bind fun p=>X' p.1 p.2)=X' (ngN+b):=by
     funext k
     rw [hShi _ (Nat.le_add_right _ _)]
     rfl
    show VN P w' lim' e xs b (fun k=>(SRC2 (ngN+b) k).bind fun p=>X' p.1 p.2)
    rw [h3]
    exact h2
 refine ZmH hm hps hnt (c:=c) rfl rfl (fun d v hv=>?_) (fun d b hb=>?_) code 0 n _ _ _ _ _ ρ _ w lim X _ ?_ h hsim ?_ ?_ ?_
 ·obtain ⟨⟨cs,hcs⟩,_⟩:=hpin d v hv
  have:=(hat d _ hcs).1 cs rfl
  rwa [Nat.zero_add] at this
 ·have hb':(match args[d]? with | some (.gbox _)=>X d 0 | _=>none)=some b:=hb
  split at hb'
  ·rename_i cs hcs
   have h1:=(hat d _ hcs).2.1 rfl
   have h2:=(List.getElem?_eq_some_iff.1 hcs).1
   exact ⟨by omega,by omega⟩
  ·cases hb'
 ·refine JB hnt _ _ hlow (fun d=>?_) (Zfb args 0 hargs)
  unfold gE
  split<;>trivial
 ·intro s' n' ρ' A' _ hs' h' tm' w' lim' X' hsim'
  obtain ⟨g1,lim2,X2,g2⟩:=ZdQ (P:=P) (E:=E) hnt rfl (id:=1000000) (ops:=#[]) hs' hsim'
  obtain ⟨v,h1,h2⟩:=hfin _ n' ρ' A' g1 h' tm' w' lim2 X2 g2
  exact ⟨rfl,v,h1,h2⟩
 ·intro id s' n' ρ' A' _ hs' h'
  exact h'.elim
 ·intro s' n' ρ' A' _ hs' h' tm' w' lim' X' hsim'
  obtain ⟨g1,lim2,X2,g2⟩:=ZdQ (P:=P) (E:=E) hnt rfl (id:=1000000) (ops:=#[]) hs' hsim'
  obtain ⟨v,h1,h2⟩:=hfin _ n' ρ' A' g1 h' tm' w' lim2 X2 g2
  exact ⟨rfl,v,h1,h2⟩
end
end Go.AM
end

section
namespace Go.AM
@[reducible] def Sh.T:Sh→Type
 | .int _ => Int
 | .bool => Bool
 | .str => ByteArray
 | .slice _ => List (List AV)
 | .own _ _ => List (List AV)
@[reducible] def ShsT:List Sh→Type
 | [] => Unit
 | [s] => s.T
 | s :: t :: r => s.T × ShsT (t :: r)
def Sh.toV:(s:Sh)→s.T→V
 | .int _, z => .i z
 | .bool, z => .b z
 | .str, z => .s z
 | .slice _, z => .l z
 | .own _ _, z => .l z
def Sh.ofV:(s:Sh)→V→Option s.T
 | .int _, .i z => some z
 | .bool, .b z => some z
 | .str, .s z => some z
 | .slice _, .l z => some z
 | .own _ _, .l z => some z
 | _, _ => none
def Zcx:(l:List Sh)→ShsT l→List V
 | [], _ => []
 | [s], x => [s.toV x]
 | s :: t :: r, x => s.toV x.1 :: Zcx (t :: r) x.2
def Zns:(l:List Sh)→List V→Option (ShsT l)
 | [], [] => some ()
 | [], _ :: _ => none
 | [s], [v] => s.ofV v
 | [_], [] => none
 | [_], _ :: _ :: _ => none
 | _ :: _ :: _, [] => none
 | s :: t :: r, v :: vs => match s.ofV v, Zns (t :: r) vs with | some a, some b => some (a, b) | _, _ => none
theorem ZkS {s:Sh} {v:V} {x:s.T} (h:s.ofV v=some x):s.toV x=v:=by
 cases s<;>cases v<;>simp [Sh.ofV] at h<;>subst h<;>rfl
theorem ZfH:∀ (l:List Sh) (vs:List V) (x:ShsT l),Zns l vs=some x→Zcx l x=vs
 | [], [], _, _ => rfl
 | [], _ :: _, _, h => by simp [Zns] at h
 | [s], [v], x, h => by simp only [Zcx, ZkS (show s.ofV v = some x from h)]
 | [_], [], _, h => by simp [Zns] at h
 | [_], _ :: _ :: _, _, h => by simp [Zns] at h
 | _ :: _ :: _, [], _, h => by simp [Zns] at h
 | s :: t :: r, v :: vs, x, h => by
  simp only [Zns] at h
  split at h
  ·rename_i a b ha hb
   simp only [Option.some.injEq] at h
   subst h
   simp only [Zcx,ZkS ha,ZfH (t::r) vs b hb]
  ·cases h
def Sh.ofE:(s:Sh)→AV→Option s.T
 | .int k, .val (.int k' z) => if k' = k then some z else none
 | .bool, .val (.bool b) => some b
 | .str, .val (.string b) => some b
 | .slice s, .slice false s' xs => if s' = s then some xs else none
 | _, _ => none
def Zld:(l:List Sh)→List AV→Option (ShsT l)
 | [], [] => some ()
 | [], _ :: _ => none
 | [s], [c] => s.ofE c
 | [_], [] => none
 | [_], _ :: _ :: _ => none
 | _ :: _ :: _, [] => none
 | s :: t :: r, c :: cs => match s.ofE c, Zld (t :: r) cs with | some a, some b => some (a, b) | _, _ => none
theorem ZkX {s:Sh} {c:AV} {x:s.T} {n:Nat} {ρ:Nat→V} (h:s.ofE c=some x) (hρ:ρ n=s.toV x):(Jg s n).den ρ=c:=by
 unfold Sh.ofE at h
 split at h
 ·split at h
  ·simp only [Option.some.injEq] at h
   subst h
   rename_i hk
   subst hk
   simp only [Jg,SC.den,IE.den,hρ,Sh.toV,V.int]
  ·cases h
 ·simp only [Option.some.injEq] at h
  subst h
  simp only [Jg,SC.den,BE.den,hρ,Sh.toV,V.bool]
 ·simp only [Option.some.injEq] at h
  subst h
  simp only [Jg,SC.den,SE.den,hρ,Sh.toV,V.str]
 ·split at h
  ·simp only [Option.some.injEq] at h
   subst h
   rename_i hk
   subst hk
   simp only [Jg,SC.den,LE.den,hρ,Sh.toV,V.list]
  ·cases h
 ·cases h
theorem Zh8:∀ (l:List Sh) (cs:List AV) (x:ShsT l) (n:Nat) (ρ:Nat→V),Zld l cs=some x→Zhs ρ n (Zcx l x)→(ZB l n).map (SC.den ρ)=cs
 | [], [], _, _, _, _, _ => rfl
 | [], _ :: _, _, _, _, h, _ => by simp [Zld] at h
 | [s], [c], x, n, ρ, h, hf => by
  have h0:=hf 0 _ (show (Zcx [s] x)[0]? = some (s.toV x) from rfl)
  rw [Nat.add_zero] at h0
  simp only [ZB,List.map_cons,List.map_nil,ZkX (show s.ofE c=some x from h) h0]
 | [_], [], _, _, _, h, _ => by simp [Zld] at h
 | [_], _ :: _ :: _, _, _, _, h, _ => by simp [Zld] at h
 | _ :: _ :: _, [], _, _, _, h, _ => by simp [Zld] at h
 | s :: t :: r, c :: cs, x, n, ρ, h, hf => by
  simp only [Zld] at h
  split at h
  ·rename_i a b ha hb
   simp only [Option.some.injEq] at h
   subst h
   obtain ⟨h0,h1⟩:=Zhs.tail (show Zhs ρ n (s.toV a::Zcx (t::r) b) from hf)
   have h2:=Zh8 (t::r) cs b (n+1) ρ hb h1
   rw [ZB,List.map_cons,ZkX ha h0,h2]
  ·cases h
def Zv {γ:Type} (p:Prop) [Decidable p] (x:Option γ):Option γ:=if p then x else none
theorem JF {γ:Type} {p:Prop} {_:Decidable p} (h:p) (x:Option γ):Zv p x=x:=if_pos h
theorem JH {γ:Type} {p:Prop} {_:Decidable p} {x:Option γ} {r:γ} (h:Zv p x=some r):p∧x=some r:=by
 unfold Zv at h
 split at h
 ·exact ⟨‹_›,h⟩
 ·cases h
def ZoV:Value→Value→Bool
 | .int k z, .int k' z' => decide (k = k') && decide (z = z')
 | .bool b, .bool b' => b == b'
 | .string s, .string s' => decide (s = s')
 | _, _ => false
theorem ZbU {a b:Value} (h:ZoV a b=true):a=b:=by
 unfold ZoV at h
 split at h
 ·simp only [Bool.and_eq_true,decide_eq_true_eq] at h
  rw [h.1,h.2]
 ·rw [beq_iff_eq] at h
  rw [h]
 ·rw [decide_eq_true_eq] at h
  rw [h]
 ·cases h
def Zox {α:Type} (q:α→α→Bool):List α→List α→Bool
 | [], [] => true
 | a :: aZ, b :: bs => q a b && Zox q aZ bs
 | _, _ => false
theorem KB {α:Type} {q:α→α→Bool} (hq:∀ a b,q a b=true→a=b):∀ (aZ bs:List α),Zox q aZ bs=true→aZ=bs
 | [], [], _ => rfl
 | [], _ :: _, h => by cases h
 | _ :: _, [], h => by cases h
 | a :: aZ, b :: bs, h => by
  simp only [Zox,Bool.and_eq_true] at h
  rw [hq a b h.1,KB hq aZ bs h.2]
def ZpG:Nat→AV→AV→Bool
 | _, .val a, .val b => ZoV a b
 | n + 1, .slice f s xs, .slice f' s' ys => f == f' && (decide (s = s') && Zox (Zox (ZpG n)) xs ys)
 | _, _, _ => false
theorem Zid:∀ (n:Nat) (a b:AV),ZpG n a b=true→a=b:=by
 intro n
 induction n with
 | zero =>
  intro a b h
  unfold ZpG at h
  split at h
  ·rw [ZbU h]
  ·rename_i hn;cases hn
  ·cases h
 | succ n ih =>
  intro a b h
  unfold ZpG at h
  split at h
  ·rw [ZbU h]
  ·rename_i hn
   cases hn
   simp only [Bool.and_eq_true,beq_iff_eq,decide_eq_true_eq] at h
   rw [h.1,h.2.1,KB (fun x y hxy=>KB ih x y hxy) _ _ h.2.2]
  ·cases h
section
open Classical in
noncomputable instance decLL:DecidableEq (List (List AV)):=fun a b=>if h:Zox (Zox (ZpG 8)) a b=true then isTrue (KB (fun x y hxy=>KB (Zid 8) x y hxy) _ _ h) else propDecidable _
end
@[reducible] noncomputable def Sh.dec:(s:Sh)→DecidableEq s.T
 | .int _ => inferInstanceAs (DecidableEq Int)
 | .bool => inferInstanceAs (DecidableEq Bool)
 | .str => inferInstanceAs (DecidableEq ByteArray)
 | .slice _ => decLL
 | .own _ _ => decLL
@[reducible] noncomputable def decS:(l:List Sh)→DecidableEq (ShsT l)
 | [] => inferInstanceAs (DecidableEq Unit)
 | [s] => s.dec
 | s :: t :: r => @instDecidableEqProd _ _ s.dec (decS (t :: r))
def ZiB {γ:Type} [d:DecidableEq γ] (l:List (List AV)) (k:Bool→Option γ):Option γ:=
 match l with
 | [] => if k true = k false then k true else none
 | _ :: _ => k false
theorem ZkT {γ:Type} {d:DecidableEq γ} {l:List (List AV)} {k:Bool→Option γ} {r:γ} (h:ZiB l k=some r) (b:Bool) (hb:b=true→l = []):k b=some r:=by
 unfold ZiB at h
 split at h
 ·split at h
  ·rename_i he
   cases b
   ·rw [← he];exact h
   ·exact h
  ·cases h
 ·cases b
  ·exact h
  ·cases hb rfl
def ZJ {γ:Type} (l:List (List AV)) (i:Int) (sh:List Sh) (k:ShsT sh→Option γ):Option γ:=
 if 0≤i then match l[i.toNat]? with | some cs=>(match Zld sh cs with | some r=>k r | none=>none) | none=>none else none
theorem J3 {γ:Type} {l:List (List AV)} {i:Int} {sh:List Sh} {cs:List AV} {r:ShsT sh} (k:ShsT sh→Option γ) (h0:0≤i) (h1:l[i.toNat]? = some cs) (h2:Zld sh cs=some r):ZJ l i sh k=k r:=by
 simp only [ZJ,h0,if_true,h1,h2]
theorem Ziv {γ:Type} {l:List (List AV)} {i:Int} {sh:List Sh} {k:ShsT sh→Option γ} {x:γ} (h:ZJ l i sh k=some x):0≤i∧∃ cs r,l[i.toNat]? = some cs∧Zld sh cs=some r∧k r=some x:=by
 unfold ZJ at h
 split at h
 ·refine ⟨‹_›,?_⟩
  split at h
  ·split at h
   ·exact ⟨_,_,‹_›,‹_›,h⟩
   ·cases h
  ·cases h
 ·cases h
def Zcv {γ:Type} (F:(List V→Option γ)→List V→Option γ):Nat→List V→Option γ
 | 0 => fun _ => none
 | k + 1 => F (Zcv F k)
def YS:Nat:=1208925819614629174706176
inductive AP where
 | c (s : Sh)
 | agg (l : List Sh)
 | box (l : List Sh)
 | gbox (l : List Sh)
 | clo (g : FuncId) (ds : List Nat)
 | ref (j q : Nat)
 | dead
def RSh.sh:RSh→List Sh
 | .c s => [s]
 | .agg l => l
 | .box l => l
 | .aggo l => l
def J9:List AP→List Sh
 | [] => []
 | .box l :: r => l ++ J9 r
 | .gbox l :: r => l ++ J9 r
 | _ :: r => J9 r
def Zcu (rs:List RSh) (aps:List AP):List Sh:=rs.flatMap RSh.sh++J9 aps
structure Fun where
 args:List AP
 res:List RSh
 g:List V→Option (ShsT (Zcu res args))
def YQ (r:RSh) (us:List V) (j:Nat):AV:=
 match r with
 | .c s => Y9 s (vAt us j)
 | .agg l => .agg (Z3 l us j)
 | .box l => .box (Z3 l us j)
 | .aggo l => .aggo (Z3 l us j)
def Yk:List RSh→List V→Nat→List AV
 | [], _, _ => []
 | r :: rs, us, j => YQ r us j :: Yk rs us (j + r.sh.length)
def Y2 (rs:List RSh) (us:List V) (j:Nat):AV:=
 match rs with
 | [r] => YQ r us j
 | rs => .tuple (Yk rs us j)
def Z9:List AP→List V→Nat→List AV
 | [], _, _ => []
 | .box l :: r, us, j => .box (Z3 l us j) :: Z9 r us (j + l.length)
 | .gbox l :: r, us, j => .gbox (Z3 l us j) :: Z9 r us (j + l.length)
 | _ :: r, us, j => .dead :: Z9 r us j
def AP.n:AP→Nat
 | .c _ => 1
 | .agg l => l.length
 | .box l => l.length
 | .gbox l => l.length
 | .clo _ _ => 0
 | .ref _ _ => 0
 | .dead => 0
def Zku (a:AP) (us:List V) (j:Nat):AV:=
 match a with
 | .c s => Y9 s (vAt us j)
 | .agg l => .agg (Z3 l us j)
 | .box l => .box (Z3 l us j)
 | .gbox l => .gbox (Z3 l us j)
 | .clo g ds => .clo g ds
 | .ref j q => .mref j q
 | .dead => .dead
def K5:List AP→List V→Nat→List AV
 | [], _, _ => []
 | a :: r, us, j => Zku a us j :: K5 r us (j + a.n)
def Zez (rs:List RSh):Nat:=(rs.flatMap RSh.sh).length
def Fun.Ok (P:Program) (f:FuncId) (S:Fun):Prop:=
 ∀ vs r,S.g vs=some r→JM P f (K5 S.args vs 0) (Y2 S.res (Zcx _ r) 0) (Z9 S.args (Zcx _ r) (Zez S.res))
def ZkY (P:Program):List (FuncId×Fun)→Prop
 | [] => True
 | p :: r => p.2.Ok P p.1 ∧ ZkY P r
def AP.sig:AP→Option (FuncId×List Nat)
 | .clo g ds => some (g, ds)
 | .ref j q => some (1000000, [j, q])
 | _ => none
def SV.sig:SV→Option (FuncId×List Nat)
 | .clo g ds => some (g, ds)
 | .mref j q => some (1000000, [j, q])
 | _ => none
def Zje:List (FuncId×Fun)→FuncId→List (FuncId×List Nat)→Option Fun
 | [], _, _ => none
 | p :: r, f, sg => if p.1 = f ∧ p.2.args.filterMap AP.sig = sg then some p.2 else Zje r f sg
theorem Zhj {P:Program} : ∀ {Φ:List (FuncId×Fun)} {f:FuncId} {sg:List (FuncId×List Nat)} {S:Fun},ZkY P Φ→Zje Φ f sg=some S→S.Ok P f
 | [], _, _, _, _, h => by simp [Zje] at h
 | p :: r, f, sg, S, ho, h => by
  simp only [Zje] at h
  split at h
  ·rename_i hp
   simp only [Option.some.injEq] at h
   obtain ⟨hp,_⟩:=hp
   subst hp
   subst h
   exact ho.1
  ·exact Zhj ho.2 h
def ZoI (P:Program):Sh→AV→Option V
 | .int k, .val (.int k' z) => if k' = k then some (.i z) else none
 | .bool, .val (.bool b) => some (.b b)
 | .str, .val (.string s) => some (.s s)
 | .slice s, .slice _ s' xs => if s' = s then some (.l xs) else (match xs with | [] => some (.l []) | _ :: _ => none)
 | .slice s, .own x e xs => if P.cellsOf e = s then (match x, xs with | false, xs => some (.l xs) | true, [] => some (.l []) | true, _ :: _ => none) else none
 | .own x e, .own x' e' xs => if e' = e then (match x, x', xs with | false, false, xs => some (.l xs) | true, true, xs => some (.l xs) | _, _, [] => if e < 2097152 then some (.l []) else none | _, _, _ :: _ => none) else none
 | .own _ e, .slice true _ xs => (match xs with | [] => if e < 2097152 then some (.l []) else none | _ :: _ => none)
 | _, _ => none
def Zd5 (P:Program):List Sh→List AV→Option (List V)
 | [], [] => some []
 | s :: ss, c :: cs => match ZoI P s c, Zd5 P ss cs with | some v, some vs => some (v :: vs) | _, _ => none
 | _, _ => none
def Zo6 (P:Program):AP→AV→Option (List V)
 | .c s, x => (ZoI P s x).map fun v => [v]
 | .agg l, .agg cs => if l.all Sh.imm = true then Zd5 P l cs else none
 | .box l, .box cs => Zd5 P l cs
 | .gbox l, .gbox cs => Zd5 P l cs
 | .clo g ds, .clo g' ds' => if g' = g ∧ ds' = ds then some [] else none
 | .ref j q, .mref j' q' => if j' = j ∧ q' = q ∧ q ≠ 0 then some [] else none
 | .dead, .dead => some []
 | _, _ => none
def ZbM (P:Program):List AP→List AV→Option (List V)
 | [], [] => some []
 | a :: aZ, x :: xs => match Zo6 P a x, ZbM P aZ xs with | some vs, some us => some (vs ++ us) | _, _ => none
 | _, _ => none
theorem Zjs {P:Program} {s:Sh} {c:AV} {v:V} (h:ZoI P s c=some v):Yr P c (Y9 s v):=by
 unfold ZoI at h
 split at h
 ·split at h
  ·simp only [Option.some.injEq] at h;subst h;rename_i hk;subst hk;exact .same (.inl rfl)
  ·cases h
 ·simp only [Option.some.injEq] at h;subst h;exact .same (.inl rfl)
 ·simp only [Option.some.injEq] at h;subst h;exact .same (.inl rfl)
 ·split at h
  ·simp only [Option.some.injEq] at h;subst h;rename_i hk;subst hk;exact .imm
  ·split at h
   ·simp only [Option.some.injEq] at h;subst h;exact .immN
   ·cases h
 ·split at h
  ·rename_i hk
   subst hk
   split at h
   ·simp only [Option.some.injEq] at h;subst h;exact .own
   ·simp only [Option.some.injEq] at h;subst h;exact .ownZ
   ·cases h
  ·cases h
 ·split at h
  ·rename_i hk
   subst hk
   split at h
   ·simp only [Option.some.injEq] at h;subst h;exact .same (.inr ⟨_,_,_,rfl⟩)
   ·simp only [Option.some.injEq] at h;subst h;exact .same (.inr ⟨_,_,_,rfl⟩)
   ·split at h
    ·rename_i hlt
     simp only [Option.some.injEq] at h;subst h;exact .ownN hlt
    ·cases h
   ·cases h
  ·cases h
 ·split at h
  ·split at h
   ·rename_i hlt
    simp only [Option.some.injEq] at h;subst h;exact .give hlt
   ·cases h
  ·cases h
 ·cases h
theorem Za1 {P:Program} : ∀ (l:List Sh) (cs:List AV) (vs:List V),Zd5 P l cs=some vs→vs.length=l.length∧cs.length=l.length∧∀ pre post:List V,
  ∀ (i:Nat) (c c':AV),cs[i]? = some c→(Z3 l (pre++vs++post) pre.length)[i]? = some c'→Yr P c c'
 | [], [], vs, h => by
  simp only [Zd5,Option.some.injEq] at h
  subst h
  exact ⟨rfl,rfl,fun _ _ i c c' h=>by simp at h⟩
 | [], _ :: _, _, h => by simp [Zd5] at h
 | _ :: _, [], _, h => by simp [Zd5] at h
 | s :: ss, c :: cs, us, h => by
  simp only [Zd5] at h
  split at h
  ·rename_i v vs hv hvs
   simp only [Option.some.injEq] at h
   subst h
   obtain ⟨h1,h2,h3⟩:=Za1 (P:=P) ss cs vs hvs
   refine ⟨by simp [h1],by simp [h2],fun pre post i c1 c2 hc1 hc2=>?_⟩
   cases i with
   | zero =>
    simp only [Z3,List.getElem?_cons_zero,Option.some.injEq] at hc1 hc2
    subst hc1
    subst hc2
    rw [List.append_assoc,List.cons_append,Vh]
    exact Zjs hv
   | succ i =>
    have:=h3 (pre++[v]) post i c1 c2 (by simpa using hc1)
    simp only [List.append_assoc,List.cons_append,List.nil_append,List.length_append,List.length_cons,List.length_nil] at this
    simp only [Z3,List.getElem?_cons_succ,List.append_assoc,List.cons_append] at hc2
    exact this hc2
  ·cases h
theorem Zou {P:Program} {a:AP} {x:AV} {vs:List V} (h:Zo6 P a x=some vs):vs.length=a.n∧((∃ g ds,a = .clo g ds∧x = .clo g ds)∨(∃ j q,a = .ref j q∧x = .mref j q)∨∀ pre post:List V,YK P x (Zku a (pre++vs++post) pre.length)):=by
 unfold Zo6 at h
 split at h
 ·cases hd:ZoI P _ x with
  | none => rw [hd] at h; cases h
  | some v =>
   rw [hd] at h
   simp only [Option.map_some,Option.some.injEq] at h
   subst h
   refine ⟨rfl,.inr<|.inr fun pre post=>?_⟩
   simp only [Zku,List.append_assoc,List.cons_append,List.nil_append,Vh]
   exact .comp (.cell (Zjs hd))
 ·rename_i l cs
  split at h
  ·rename_i hi
   obtain ⟨h1,h2,h3⟩:=Za1 (P:=P) _ _ _ h
   exact ⟨h1,.inr<|.inr fun pre post=>.comp (.agg (by rw [h2,Jk]) (KX _ _ _ hi) (h3 pre post))⟩
  ·cases h
 ·obtain ⟨h1,h2,h3⟩:=Za1 (P:=P) _ _ _ h
  exact ⟨h1,.inr<|.inr fun pre post=>.box (by rw [h2,Jk]) (h3 pre post)⟩
 ·obtain ⟨h1,h2,h3⟩:=Za1 (P:=P) _ _ _ h
  exact ⟨h1,.inr<|.inr fun pre post=>.gbox (by rw [h2,Jk]) (h3 pre post)⟩
 ·split at h
  ·rename_i hh
   simp only [Option.some.injEq] at h
   subst h
   obtain ⟨rfl,rfl⟩:=hh
   exact ⟨rfl,.inl ⟨_,_,rfl,rfl⟩⟩
  ·cases h
 ·split at h
  ·rename_i hh
   simp only [Option.some.injEq] at h
   subst h
   obtain ⟨rfl,rfl,_⟩:=hh
   exact ⟨rfl,.inr (.inl ⟨_,_,rfl,rfl⟩)⟩
  ·cases h
 ·simp only [Option.some.injEq] at h
  subst h
  exact ⟨rfl,.inr<|.inr fun _ _=>.dead⟩
 ·cases h
theorem Zdz:∀ (l:List AP) (us:List V) (j:Nat),(K5 l us j).length=l.length
 | [], _, _ => rfl
 | _ :: ss, us, j => by simp [K5, Zdz ss us]
theorem Zht {P:Program} : ∀ (aZ:List AP) (xs:List AV) (vs:List V),ZbM P aZ xs=some vs→xs.length=aZ.length∧∀ pre post:List V,
  ∀ (i:Nat) (c c':AV),xs[i]? = some c→(K5 aZ (pre++vs++post) pre.length)[i]? = some c'→(∃ g ds,aZ[i]? = some (.clo g ds)∧c = .clo g ds∧c' = .clo g ds)∨(∃ j q,aZ[i]? = some (.ref j q)∧c = .mref j q∧c' = .mref j q)∨YK P c c'
 | [], [], _, _ => ⟨rfl, fun _ _ i c c' h => by simp at h⟩
 | [], _ :: _, _, h => by simp [ZbM] at h
 | _ :: _, [], _, h => by simp [ZbM] at h
 | a :: aZ, x :: xs, ws, h => by
  simp only [ZbM] at h
  split at h
  ·rename_i vs us hv hus
   simp only [Option.some.injEq] at h
   subst h
   obtain ⟨h1,h2⟩:=Zou (P:=P) hv
   obtain ⟨h3,h4⟩:=Zht (P:=P) aZ xs us hus
   refine ⟨by simp [h3],fun pre post i c1 c2 hc1 hc2=>?_⟩
   cases i with
   | zero =>
    simp only [K5,List.getElem?_cons_zero,Option.some.injEq] at hc1 hc2
    subst hc1
    subst hc2
    rcases h2 with ⟨g,ds,rfl,rfl⟩ | ⟨j,q,rfl,rfl⟩ | h2
    ·exact .inl ⟨g,ds,rfl,rfl,rfl⟩
    ·exact .inr (.inl ⟨j,q,rfl,rfl,rfl⟩)
    ·have:=h2 pre (us++post)
     exact .inr (.inr (by simpa [List.append_assoc] using this))
   | succ i =>
    have:=h4 (pre++vs) post i c1 c2 (by simpa using hc1)
    rw [List.length_append,h1] at this
    simp only [K5,List.getElem?_cons_succ] at hc2
    refine this ?_
    simpa [List.append_assoc] using hc2
  ·cases h
def WB (aZ:List AP):Bool:=aZ.all fun a=>match a with | .clo _ ds=>ds.all (fun d=>match aZ[d]? with | some (.gbox _)=>true | _=>false) | .ref j q=>(match aZ[j]? with | some (.gbox l)=>(HP.gbox l).isPl q | _=>false) | _=>true
theorem Zce:∀ (aZ:List AP) (us:List V) (j i:Nat) (a:AP),aZ[i]? = some a→∃ k,(K5 aZ us j)[i]? = some (Zku a us k)
 | [], _, _, _, _, h => by simp at h
 | b :: aZ, us, j, 0, a, h => by
  simp only [List.getElem?_cons_zero,Option.some.injEq] at h
  subst h
  exact ⟨j,rfl⟩
 | b :: aZ, us, j, i + 1, a, h => by
  obtain ⟨k,hk⟩:=Zce aZ us (j+b.n) i a (by simpa using h)
  exact ⟨k,by simpa [K5] using hk⟩
theorem Zgh {P:Program} {aZ:List AP} {xs:List AV} {vs:List V} (hc:WB aZ=true) (h:ZbM P aZ xs=some vs):K1 P xs (K5 aZ vs 0):=by
 obtain ⟨h1,h2⟩:=Zht (P:=P) aZ xs vs h
 refine ⟨by rw [h1,Zdz],fun i c c' hx hc'=>?_⟩
 rcases h2 [] [] i c c' hx (by simpa using hc') with ⟨g,ds,k1,rfl,rfl⟩ | ⟨j,q,k1,rfl,rfl⟩ | hw
 case inr.inl=>
  refine .inr (.inr ⟨j,q,rfl,rfl,?_⟩)
  unfold WB at hc
  rw [List.all_eq_true] at hc
  have h3:=hc _ (List.mem_of_getElem? k1)
  simp only at h3
  split at h3
  ·rename_i l hl
   obtain ⟨k,hk⟩:=Zce aZ vs 0 j _ hl
   simp only [ZM,hk]
   exact Zhm h3 vs k
  ·cases h3
 ·refine .inr (.inl ⟨g,ds,rfl,rfl,fun d hd=>?_⟩)
  unfold WB at hc
  rw [List.all_eq_true] at hc
  have h3:=hc _ (List.mem_of_getElem? k1)
  simp only at h3
  rw [List.all_eq_true] at h3
  have h4:=h3 d hd
  split at h4
  ·rename_i l hl
   obtain ⟨k,hk⟩:=Zce aZ vs 0 d _ hl
   simp only [ZM,hk]
   rfl
  ·cases h4
 ·exact .inl hw
def Ziq (P:Program) (a:AP) (x:AV):AV:=
 match a,x with
 | .c (.slice _), .own true e xs => .own (Zm P e) e xs
 | .c (.own false _), .own true e xs => .own (Zm P e) e xs
 | _, x => x
def ZfL (P:Program):List AP→List AV→List AV
 | a :: aZ, x :: xs => Ziq P a x :: ZfL P aZ xs
 | _, xs => xs
theorem Zb8 (P:Program) (a:AP) (x:AV):Ziq P a x=x∨∃ e xs,x = .own true e xs∧Ziq P a x = .own false e xs∧Zm P e=false:=by
 unfold Ziq
 split
 ·rename_i e xs
  cases h:Zm P e with
  | true => exact .inl rfl
  | false => exact .inr ⟨e, xs, rfl, rfl, h⟩
 ·rename_i e xs
  cases h:Zm P e with
  | true => exact .inl rfl
  | false => exact .inr ⟨e, xs, rfl, rfl, h⟩
 ·exact .inl rfl
theorem Zgg (pre post:List AV) (x:AV) (i:Nat):ZM (pre++x::post) i=if i=pre.length then x else ZM (pre++.dead::post) i:=by
 unfold ZM
 by_cases hi:i=pre.length
 ·subst hi
  rw [if_pos rfl,List.getElem?_append_right (Nat.le_refl _),Nat.sub_self]
  rfl
 ·rw [if_neg hi]
  by_cases hlt:i < pre.length
  ·rw [List.getElem?_append_left hlt,List.getElem?_append_left hlt]
  ·rw [List.getElem?_append_right (by omega),List.getElem?_append_right (by omega)]
   obtain ⟨j,hj⟩:∃ j,i-pre.length=j+1:=⟨i-pre.length-1,by omega⟩
   rw [hj,List.getElem?_cons_succ,List.getElem?_cons_succ]
theorem Zk7 {P:Program} {w:World} {lim:Nat→Nat} {e:TypeId} {xs:List (List AV)} {v:Value} (hnm:Zm P e=false) (h:ZQ P w lim true e xs v none):ZQ P w lim false e xs v none:=by
 rcases h.noMap hnm with ⟨us,h1,h2,h3,h4,h5,h6⟩ | h
 ·exact .inl ⟨us,h1,h2,fun b hb=>(by cases hb),h4,h5,h6⟩
 ·exact .inr (.inl h)
theorem JM.freeze1 {P:Program} {f:FuncId} {pre post:List AV} {e:TypeId} {xs:List (List AV)} {res:AV} {outs:List AV} (h:JM P f (pre++.own false e xs::post) res outs)
  (hn:∀ x∈pre++post,∀ d,¬ Je x d 0) (hnm:Zm P e=false):JM P f (pre++.own true e xs::post) res outs:=by
 have hll:(pre++AV.own true e xs::post).length=(pre++AV.own false e xs::post).length:=by simp
 refine ⟨h.1,by rw [hll];exact h.2.1,fun w lim X cargs hcl hrel hdist hsize hfar=>?_⟩
 have hat:∀ (b:Bool) (i:Nat),ZM (pre++.own b e xs::post) i=if i=pre.length then .own b e xs else ZM (pre++.dead::post) i:=fun b i=>Zgg pre post _ i
 have hnr:∀ i d,i≠pre.length→¬ Je (ZM (pre++.dead::post) i) d 0:=by
  intro i d hi hr
  have hx:ZM (pre++.dead::post) i = .dead∨ZM (pre++.dead::post) i∈pre++post:=by
   unfold ZM
   cases hx:(pre++AV.dead::post)[i]? with
   | none => exact .inl rfl
   | some x =>
    have hm:=List.mem_of_getElem? hx
    rw [List.mem_append,List.mem_cons] at hm
    rcases hm with hm | rfl | hm
    ·exact .inr (List.mem_append_left _ hm)
    ·exact .inl rfl
    ·exact .inr (List.mem_append_right _ hm)
  rcases hx with hx | hx
  ·rw [hx] at hr
   rcases hr with hr | ⟨_,hr⟩ <;> cases hr
  ·exact hn _ hx d hr
 have h0:=hrel pre.length
 rw [hat,if_pos rfl] at h0
 have h0':ZQ P w lim true e xs (cargs.getD pre.length undef) (X pre.length 0):=h0
 obtain ⟨lim1,he,hk,hown⟩:∃ lim1,Ext w lim w lim1∧(∀ b,X pre.length 0≠some b→lim1 b=lim b)∧ZQ P w lim1 false e xs (cargs.getD pre.length undef) (X pre.length 0):=by
  cases hb:X pre.length 0 with
  | none => rw [hb] at h0'; exact ⟨lim, Ext.refl _ _, fun _ _ => rfl, Zk7 hnm h0'⟩
  | some b0 =>
   rw [hb] at h0'
   have hl0:lim b0=0:=by
    rcases h0'.noMap hnm with ⟨us,_,_,h3,_⟩ | ⟨_,h,_⟩
    ·rw [h3 b0 rfl];rfl
    ·cases h
   have hext:Ext w lim w (Vl lim b0 (xs.length*P.cellsOf e)):=fun b _=>by
    refine ⟨?_,fun o u _ hu=>hu⟩
    unfold Vl
    split
    ·rename_i h;rw [h,hl0];exact Nat.zero_le _
    ·exact Nat.le_refl _
   exact ⟨_,hext,fun b hne=>if_neg fun e=>hne (by rw [e]),ZbH h0' hnm hext⟩
 have hrel1:∀ i,ZP P w lim1 X (ZM (pre++.own false e xs::post)) i (ZM (pre++.own false e xs::post) i) (cargs.getD i undef):=by
  intro i
  by_cases hi:i=pre.length
  ·subst hi
   rw [hat,if_pos rfl]
   exact hown
  ·have h1:=hrel i
   have hne:ZM (pre++.own false e xs::post) i=ZM (pre++.own true e xs::post) i:=by rw [hat,hat,if_neg hi,if_neg hi]
   rw [hne]
   refine ZP.chg (h1.mono he (fun k b hb=>⟨rfl,hk b fun e=>hi (hdist i k pre.length 0 b hb e).1⟩) fun d' k b hr _=>.of rfl) rfl (fun d' cs hd=>⟨⟨cs,?_⟩,rfl⟩) (fun d' hg=>⟨?_,rfl⟩) fun d' k hr=>?_
   ·rw [hat] at hd ⊢
    split at hd
    ·cases hd
    ·rename_i hd'
     rw [if_neg hd'];exact hd
   ·rw [hat] at hg ⊢
    split at hg
    ·cases hg
    ·rename_i hd'
     rw [if_neg hd'];exact hg
   ·rw [hat,if_neg hi] at hr
    refine ⟨?_,rfl⟩
    rw [hat,hat]
    by_cases hd:d'=pre.length
    ·rw [if_pos hd,if_pos hd]
     cases k with
     | zero => exact (hnr i d' hi hr).elim
     | succ k => intro _ _ h; cases h
    ·rw [if_neg hd,if_neg hd]
     exact Kl.refl _ _
 have hcnt:(pre++AV.own true e xs::post).countP AV.isG=(pre++AV.own false e xs::post).countP AV.isG:=by
  simp [List.countP_append,List.countP_cons,AV.isG]
 refine (h.2.2 w lim1 X cargs (by rw [← hcnt,← hll];exact hcl) hrel1 hdist hsize (by rw [← hll];exact hfar)).mono ?_
 rintro e' w' ⟨v,lim',X',he',hst,hol,hr,hd,hin,hgh,hnl,hnr⟩
 refine ⟨v,lim',X',he',⟨hst.os,hst.tape,hst.output,hst.size,hst.frz,fun b hb hn'=>?_,he.trans hst.ext (Nat.le_refl _)⟩,by rw [hol,hll],fun i=>by rw [hll];exact hr i,hd,hin,fun i hi=>?_,hnl,by rw [hll];exact hnr⟩
 ·obtain ⟨k1,k2⟩:=hst.blk b hb hn'
  exact ⟨k1,k2.trans (hk b fun e=>hn' ⟨_,_,e⟩)⟩
 ·obtain ⟨m1,m2⟩:=hgh i hi
  refine ⟨?_,m2⟩
  rw [hat] at m1 ⊢
  split at m1
  ·cases m1
  ·rename_i hi'
   rw [if_neg hi'];exact m1
theorem Zdo {P:Program} {d k:Nat} : ∀ (aZ:List AP) (xs:List AV),(∀ x∈ZfL P aZ xs,¬ Je x d k)→∀ x∈xs,¬ Je x d k
 | [], xs, h => fun x hx => h x (by cases xs <;> exact hx)
 | _ :: _, [], _ => fun _ hx => by cases hx
 | a :: aZ, y :: ys, h => fun x hx => by
  rcases List.mem_cons.1 hx with rfl | hx
  ·rcases Zb8 P a x with e | ⟨_,_,rfl,_⟩
   ·have:=h (Ziq P a x) (List.mem_cons_self ..)
    rwa [e] at this
   ·rintro (h | ⟨_,h⟩)<;>cases h
  ·exact Zdo aZ ys (fun z hz=>h z (List.mem_cons_of_mem _ hz)) x hx
theorem JM.freeze {P:Program} {f:FuncId} {res:AV} {outs:List AV} : ∀ (aZ:List AP) (xs pre:List AV),JM P f (pre++ZfL P aZ xs) res outs→(∀ x∈pre++ZfL P aZ xs,∀ d,¬ Je x d 0)→JM P f (pre++xs) res outs
 | [], xs, pre, h, _ => by cases xs <;> exact h
 | _ :: _, [], pre, h, _ => h
 | a :: aZ, x :: xs, pre, h, hn => by
  have h1:=JM.freeze aZ xs (pre++[Ziq P a x]) (by simpa [ZfL] using h) (by simpa [ZfL] using hn)
  rw [List.append_assoc,List.singleton_append] at h1
  rcases Zb8 P a x with e | ⟨e,ys,rfl,e',hnm⟩
  ·rwa [e] at h1
  ·rw [e'] at h1
   refine h1.freeze1 (fun y hy d=>?_) hnm
   rcases List.mem_append.1 hy with hy | hy
   ·exact hn y (List.mem_append_left _ hy) d
   ·exact Zdo aZ xs (fun z hz=>hn z (List.mem_append_right _ (List.mem_cons_of_mem _ hz)) d) y hy
theorem ZkQ {P:Program} {a:AP} {x:AV} {vs:List V} (h:Zo6 P a x=some vs) (d:Nat):¬ Je x d 0:=by
 rintro (rfl | ⟨_,rfl⟩)<;>cases a
 case inl.ref j q=>
  simp only [Zo6] at h
  split at h
  ·rename_i hh;exact hh.2.2 hh.2.1.symm
  ·cases h
 all_goals simp [Zo6,ZoI] at h
 all_goals (rename_i s;cases s<;>simp [ZoI] at h)
theorem Zdh {P:Program} : ∀ (aZ:List AP) (xs:List AV) (vs:List V),ZbM P aZ xs=some vs→∀ x∈xs,∀ d,¬ Je x d 0
 | _, [], _, _ => fun _ hx => by cases hx
 | [], _ :: _, _, h => by simp [ZbM] at h
 | a :: aZ, x :: xs, ws, h => by
  simp only [ZbM] at h
  split at h
  ·rename_i vs us hv hus
   intro y hy d
   rcases List.mem_cons.1 hy with rfl | hy
   ·exact ZkQ hv d
   ·exact Zdh aZ xs us hus y hy d
  ·cases h
def Zom {γ:Type} (P:Program) (S:Fun) (aZ:List AV) (k:List V→Option γ):Option γ:=
 match ZbM P S.args (ZfL P S.args aZ) with
 | some vs => (S.g vs).bind fun r => k (Zcx _ r)
 | none => none
theorem Zin {γ:Type} {S:Fun} {aZ:List AV} {k:List V→Option γ} {x:γ} {P:Program} (h:Zom P S aZ k=some x):∃ vs r,ZbM P S.args (ZfL P S.args aZ)=some vs∧S.g vs=some r∧k (Zcx _ r)=some x:=by
 unfold Zom at h
 split at h
 ·rename_i vs hvs
  rw [Option.bind_eq_some_iff] at h
  obtain ⟨r,h1,h2⟩:=h
  exact ⟨vs,r,hvs,h1,h2⟩
 ·cases h
def Zpi (s:Sh) (x:SC) (m:Nat):Bool:=
 match s,x with
 | .int k, .int k' (.var a) => decide (k' = k) && decide (a = m)
 | .bool, .bool (.var a) => decide (a = m)
 | .str, .str (.var a) => decide (a = m)
 | .slice s, .slice false s' (.var a) => decide (s' = s) && decide (a = m)
 | _, _ => false
def ZiL:List Sh→List SC→Nat→Bool
 | [], [], _ => true
 | s :: ss, c :: cs, m => Zpi s c m && ZiL ss cs (m + 1)
 | _, _, _ => false
def Zqz (r:RSh) (x:TC) (m:Nat):Bool:=
 match r,x with
 | .c s, .c x => Zpi s x m
 | .c (.own x e), .own x' e' (.var a) => (decide (e' = e) && decide (a = m)) && (x' == x)
 | .agg l, .agg cs => ZiL l cs m
 | _, _ => false
def ZiO:List RSh→List TC→Nat→Bool
 | [], [], _ => true
 | r :: rs, x :: xs, m => Zqz r x m && ZiO rs xs (m + r.sh.length)
 | _, _, _ => false
def Zqo:SV→Option TC
 | .c x => some (.c x)
 | .agg cs => some (.agg cs)
 | .own x e l => some (.own x e l)
 | _ => none
def ZqH (s:Sh) (x:BC) (m:Nat):Bool:=
 match s,x with
 | s, .c x => Zpi s x m
 | .own x e, .own x' e' (.var a) => (decide (e' = e) && decide (a = m)) && (x' == x)
 | _, _ => false
def ZdN:List Sh→List BC→Nat→Bool
 | [], [], _ => true
 | s :: ss, c :: cs, m => ZqH s c m && ZdN ss cs (m + 1)
 | _, _, _ => false
def ZqM (rs:List RSh) (x:SV) (m:Nat):Bool:=
 match rs with
 | [r] => match r, x with | .box l, .box cs => ZdN l cs m | .aggo l, .aggo cs => ZdN l cs m | _, _ => match Zqo x with | some y => Zqz r y m | none => false
 | rs => match x with | .tuple vs => ZiO rs vs m | _ => false
def Vd:List AP→List SV→Nat→Bool
 | [], [], _ => true
 | .box l :: r, .box cs :: xs, m => ZdN l cs m && Vd r xs (m + l.length)
 | .gbox l :: r, .gbox cs :: xs, m => ZdN l cs m && Vd r xs (m + l.length)
 | .c _ :: r, .dead :: xs, m => Vd r xs m
 | .agg _ :: r, .dead :: xs, m => Vd r xs m
 | .clo _ _ :: r, .dead :: xs, m => Vd r xs m
 | .ref _ _ :: r, .dead :: xs, m => Vd r xs m
 | .dead :: r, .dead :: xs, m => Vd r xs m
 | _, _, _ => false
section
variable {ρ:Nat→V} {n:Nat} {us:List V}
theorem W8 (j:Nat) (h:j < us.length):bind ρ n us (n+j)=vAt us j:=by
 unfold bind vAt
 rw [if_neg (by omega),show n+j-n=j by omega,List.getElem?_eq_getElem h]
 rfl
theorem Zeu {s:Sh} {x:SC} {j:Nat} (h:Zpi s x (n+j)=true) (hj:j < us.length):x.den (bind ρ n us)=Y9 s (vAt us j):=by
 unfold Zpi at h
 split at h
 ·simp only [Bool.and_eq_true,decide_eq_true_eq] at h
  obtain ⟨rfl,rfl⟩:=h
  simp only [SC.den,IE.den,W8 j hj,Y9]
 ·simp only [decide_eq_true_eq] at h
  subst h
  simp only [SC.den,BE.den,W8 j hj,Y9]
 ·simp only [decide_eq_true_eq] at h
  subst h
  simp only [SC.den,SE.den,W8 j hj,Y9]
 ·simp only [Bool.and_eq_true,decide_eq_true_eq] at h
  obtain ⟨rfl,rfl⟩:=h
  simp only [SC.den,LE.den,W8 j hj,Y9]
 ·cases h
theorem Zfj:∀ (l:List Sh) (cs:List SC) (j:Nat),ZiL l cs (n+j)=true→j+l.length≤us.length→cs.map (SC.den (bind ρ n us))=Z3 l us j
 | [], [], _, _, _ => rfl
 | [], _ :: _, _, h, _ => by simp [ZiL] at h
 | _ :: _, [], _, h, _ => by simp [ZiL] at h
 | s :: ss, c :: cs, j, h, hl => by
  simp only [ZiL,Bool.and_eq_true] at h
  simp only [List.length_cons] at hl
  rw [List.map_cons,Z3,Zeu h.1 (by omega),Zfj ss cs (j+1) (by rw [← Nat.add_assoc];exact h.2) (by omega)]
theorem ZhY {r:RSh} {x:TC} {j:Nat} (h:Zqz r x (n+j)=true) (hj:j+r.sh.length≤us.length):x.den (bind ρ n us)=YQ r us j:=by
 unfold Zqz at h
 split at h
 ·exact Zeu h (by simp [RSh.sh] at hj;omega)
 ·simp only [Bool.and_eq_true,decide_eq_true_eq,beq_iff_eq] at h
  obtain ⟨⟨rfl,rfl⟩,rfl⟩:=h
  have hj':j < us.length:=by simp [RSh.sh] at hj;omega
  simp only [TC.den,LE.den,W8 j hj',YQ,Y9]
 ·simp only [TC.den,YQ,Zfj _ _ j h hj]
 ·cases h
theorem ZeW:∀ (rs:List RSh) (xs:List TC) (j:Nat),ZiO rs xs (n+j)=true→j+(rs.flatMap RSh.sh).length≤us.length→xs.map (TC.den (bind ρ n us))=Yk rs us j
 | [], [], _, _, _ => rfl
 | [], _ :: _, _, h, _ => by simp [ZiO] at h
 | _ :: _, [], _, h, _ => by simp [ZiO] at h
 | r :: rs, x :: xs, j, h, hl => by
  simp only [ZiO,Bool.and_eq_true] at h
  simp only [List.flatMap_cons,List.length_append] at hl
  rw [List.map_cons,Yk,ZhY h.1 (by omega),ZeW rs xs (j+r.sh.length) (by rw [← Nat.add_assoc];exact h.2) (by omega)]
theorem ZhO {x:SV} {y:TC} (h:Zqo x=some y) (ρ:Nat→V):x.den ρ=y.den ρ:=by
 unfold Zqo at h
 split at h<;>simp at h<;>subst h<;>rfl
theorem ZmQ {s:Sh} {x:BC} {j:Nat} (h:ZqH s x (n+j)=true) (hj:j < us.length):x.den (bind ρ n us)=Y9 s (vAt us j):=by
 unfold ZqH at h
 split at h
 ·exact Zeu h hj
 ·simp only [Bool.and_eq_true,decide_eq_true_eq,beq_iff_eq] at h
  obtain ⟨⟨rfl,rfl⟩,rfl⟩:=h
  simp only [BC.den,LE.den,W8 j hj,Y9]
 ·cases h
theorem Vo:∀ (l:List Sh) (cs:List BC) (j:Nat),ZdN l cs (n+j)=true→j+l.length≤us.length→cs.map (BC.den (bind ρ n us))=Z3 l us j
 | [], [], _, _, _ => rfl
 | [], _ :: _, _, h, _ => by simp [ZdN] at h
 | _ :: _, [], _, h, _ => by simp [ZdN] at h
 | s :: ss, c :: cs, j, h, hl => by
  simp only [ZdN,Bool.and_eq_true] at h
  simp only [List.length_cons] at hl
  rw [List.map_cons,Z3,ZmQ h.1 (by omega),Vo ss cs (j+1) (by rw [← Nat.add_assoc];exact h.2) (by omega)]
theorem ZmC {rs:List RSh} {x:SV} (h:ZqM rs x n=true) (hl:Zez rs≤us.length):x.den (bind ρ n us)=Y2 rs us 0:=by
 unfold ZqM at h
 split at h
 ·split at h
  ·rename_i l cs
   have h1:cs.map (BC.den (bind ρ n us))=Z3 l us 0:=Vo l cs 0 h (by simpa [Zez,RSh.sh] using hl)
   simp only [SV.den,Y2,YQ,h1]
  ·rename_i l cs
   have h1:cs.map (BC.den (bind ρ n us))=Z3 l us 0:=Vo l cs 0 h (by simpa [Zez,RSh.sh] using hl)
   simp only [SV.den,Y2,YQ,h1]
  ·split at h
   ·rename_i y hy
    rw [ZhO hy]
    exact ZhY (j:=0) h (by simpa [Zez] using hl)
   ·cases h
 ·rename_i hne
  split at h
  ·rename_i vs
   have:Y2 rs us 0 = .tuple (Yk rs us 0):=by
    unfold Y2
    split
    ·exact (hne _ rfl).elim
    ·rfl
   rw [this]
   simp only [SV.den,ZeW rs vs 0 h (by simpa [Zez] using hl)]
  ·cases h
theorem YL:∀ (aps:List AP) (xs:List SV) (j:Nat),Vd aps xs (n+j)=true→j+(J9 aps).length≤us.length→xs.map (SV.den (bind ρ n us))=Z9 aps us j
 | [], [], _, _, _ => rfl
 | [], _ :: _, _, h, _ => by simp [Vd] at h
 | .box l :: r, x :: xs, j, h, hl => by
  cases x<;>simp [Vd] at h
  rename_i cs
  simp only [J9,List.length_append] at hl
  have h1:cs.map (BC.den (bind ρ n us))=Z3 l us j:=Vo l cs j h.1 (by omega)
  simp only [List.map_cons,Z9,SV.den,h1,YL r xs (j+l.length) (by rw [← Nat.add_assoc];exact h.2) (by omega)]
 | .gbox l :: r, x :: xs, j, h, hl => by
  cases x<;>simp [Vd] at h
  rename_i cs
  simp only [J9,List.length_append] at hl
  have h1:cs.map (BC.den (bind ρ n us))=Z3 l us j:=Vo l cs j h.1 (by omega)
  simp only [List.map_cons,Z9,SV.den,h1,YL r xs (j+l.length) (by rw [← Nat.add_assoc];exact h.2) (by omega)]
 | .c _ :: r, x :: xs, j, h, hl => by
  cases x<;>simp [Vd] at h
  simp only [J9] at hl
  simp only [List.map_cons,Z9,SV.den,YL r xs j h hl]
 | .agg _ :: r, x :: xs, j, h, hl => by
  cases x<;>simp [Vd] at h
  simp only [J9] at hl
  simp only [List.map_cons,Z9,SV.den,YL r xs j h hl]
 | .clo _ _ :: r, x :: xs, j, h, hl => by
  cases x<;>simp [Vd] at h
  simp only [J9] at hl
  simp only [List.map_cons,Z9,SV.den,YL r xs j h hl]
 | .ref _ _ :: r, x :: xs, j, h, hl => by
  cases x<;>simp [Vd] at h
  simp only [J9] at hl
  simp only [List.map_cons,Z9,SV.den,YL r xs j h hl]
 | .dead :: r, x :: xs, j, h, hl => by
  cases x<;>simp [Vd] at h
  simp only [J9] at hl
  simp only [List.map_cons,Z9,SV.den,YL r xs j h hl]
 | a :: _, [], _, h, _ => by cases a <;> simp [Vd] at h
end
theorem ZhV:∀ (l:List Sh) (x:ShsT l),(Zcx l x).length=l.length
 | [], _ => rfl
 | [_], _ => rfl
 | _ :: t :: r, x => by simp [Zcx, ZhV (t :: r) x.2]
def Zqr (P:Program) (r:RSh) (x:TC):Option (List VE):=
 match r,x with
 | .c s, .c x => (Zni s x).map fun v => [v]
 | .c s, .own x e l => (Zbh P s x e l).map fun v => [v]
 | .agg l, .agg cs => if l.all Sh.imm = true then Zfn l cs else none
 | _, _ => none
def ZgK (P:Program):List RSh→List TC→Option (List VE)
 | [], [] => some []
 | r :: rs, x :: xs => match Zqr P r x, ZgK P rs xs with | some v, some vs => some (v ++ vs) | _, _ => none
 | _, _ => none
def Zq9 (P:Program) (rs:List RSh) (x:SV):Option (List VE):=
 match rs with
 | [r] => match r, x with | .box l, .box cs => ZaD P l cs | .aggo l, .aggo cs => ZaD P l cs | _, _ => match Zqo x with | some y => Zqr P r y | none => none
 | rs => match x with | .tuple vs => ZgK P rs vs | _ => none
def KP (P:Program):List AP→List SV→Option (List VE)
 | [], [] => some []
 | .box l :: r, .box cs :: xs => match ZaD P l cs, KP P r xs with | some v, some vs => some (v ++ vs) | _, _ => none
 | .gbox l :: r, .gbox cs :: xs => match ZaD P l cs, KP P r xs with | some v, some vs => some (v ++ vs) | _, _ => none
 | .c _ :: r, .dead :: xs => KP P r xs
 | .agg _ :: r, .dead :: xs => KP P r xs
 | .clo _ _ :: r, .dead :: xs => KP P r xs
 | .ref _ _ :: r, .dead :: xs => KP P r xs
 | .dead :: r, .dead :: xs => KP P r xs
 | _, _ => none
def Zg8 (P:Program) (aps:List AP) (rs:List RSh) (x:SV) (os:List SV):Option (List VE):=
 match Zq9 P rs x,KP P aps os with
 | some vs, some us => some (vs ++ us)
 | _, _ => none
section
variable {P:Program} {ρ:Nat→V}
theorem Zj9 {r:RSh} {x:TC} {vs:List VE} (h:Zqr P r x=some vs):vs.length=r.sh.length∧∀ pre post:List V,ZaG P (x.den ρ) (YQ r (pre++vs.map (VE.den ρ)++post) pre.length):=by
 unfold Zqr at h
 split at h
 ·cases hd:Zni _ _ with
  | none => rw [hd] at h; cases h
  | some v =>
   rw [hd] at h
   simp only [Option.map_some,Option.some.injEq] at h
   subst h
   refine ⟨rfl,fun pre post=>?_⟩
   simp only [YQ,List.map_cons,List.map_nil,List.append_assoc,List.cons_append,List.nil_append,Vh]
   exact .cell (Zd4 hd)
 ·cases hd:Zbh P _ _ _ _ with
  | none => rw [hd] at h; cases h
  | some v =>
   rw [hd] at h
   simp only [Option.map_some,Option.some.injEq] at h
   subst h
   refine ⟨rfl,fun pre post=>?_⟩
   simp only [YQ,List.map_cons,List.map_nil,List.append_assoc,List.cons_append,List.nil_append,Vh]
   exact .cell (ZbZ hd)
 ·split at h
  ·rename_i hi
   obtain ⟨h1,h2,h3⟩:=ZdE (P:=P) (ρ:=ρ) _ _ _ h
   exact ⟨h1,fun pre post=>.agg (by rw [List.length_map,h2,Jk]) (KX _ _ _ hi) (h3 pre post)⟩
  ·cases h
 ·cases h
theorem Zar:∀ (rs:List RSh) (us:List V) (j:Nat),(Yk rs us j).length=rs.length
 | [], _, _ => rfl
 | _ :: ss, us, j => by simp [Yk, Zar ss us]
theorem Zhc:∀ (rs:List RSh) (xs:List TC) (vs:List VE),ZgK P rs xs=some vs→vs.length=(rs.flatMap RSh.sh).length∧xs.length=rs.length∧∀ pre post:List V,
  ∀ (i:Nat) (c c':AV),(xs.map (TC.den ρ))[i]? = some c→(Yk rs (pre++vs.map (VE.den ρ)++post) pre.length)[i]? = some c'→ZaG P c c'
 | [], [], vs, h => by
  simp only [ZgK,Option.some.injEq] at h
  subst h
  exact ⟨rfl,rfl,fun _ _ i c c' h=>by simp at h⟩
 | [], _ :: _, _, h => by simp [ZgK] at h
 | _ :: _, [], _, h => by simp [ZgK] at h
 | r :: rs, x :: xs, us, h => by
  simp only [ZgK] at h
  split at h
  ·rename_i v vs hv hvs
   simp only [Option.some.injEq] at h
   subst h
   obtain ⟨h1,h2⟩:=Zj9 (P:=P) (ρ:=ρ) hv
   obtain ⟨h3,h4,h5⟩:=Zhc rs xs vs hvs
   refine ⟨by simp [h1,h3],by simp [h4],fun pre post i c1 c2 hc1 hc2=>?_⟩
   cases i with
   | zero =>
    simp only [Yk,List.map_cons,List.getElem?_cons_zero,Option.some.injEq] at hc1 hc2
    subst hc1
    subst hc2
    have:=h2 pre (vs.map (VE.den ρ)++post)
    simpa [List.append_assoc] using this
   | succ i =>
    have:=h5 (pre++v.map (VE.den ρ)) post i c1 c2 (by simpa using hc1)
    rw [List.length_append,List.length_map,h1] at this
    simp only [Yk,List.getElem?_cons_succ] at hc2
    refine this ?_
    simpa [List.append_assoc] using hc2
  ·cases h
theorem ZoR {rs:List RSh} {x:SV} {vs:List VE} (h:Zq9 P rs x=some vs):vs.length=Zez rs∧∀ post:List V,YK P (x.den ρ) (Y2 rs (vs.map (VE.den ρ)++post) 0):=by
 unfold Zq9 at h
 split at h
 ·split at h
  ·rename_i l cs
   obtain ⟨h1,h2,h3⟩:=KS (P:=P) (ρ:=ρ) _ _ _ h
   refine ⟨by simpa [Zez,RSh.sh] using h1,fun post=>?_⟩
   have:=h3 [] post
   exact .box (by rw [List.length_map,h2,Jk]) (by simpa [Y2,YQ] using this)
  ·rename_i l cs
   obtain ⟨h1,h2,h3⟩:=KS (P:=P) (ρ:=ρ) _ _ _ h
   refine ⟨by simpa [Zez,RSh.sh] using h1,fun post=>?_⟩
   have:=h3 [] post
   exact .aggo (by rw [List.length_map,h2,Jk]) (by simpa [Y2,YQ] using this)
  ·split at h
   ·rename_i y hy
    obtain ⟨h1,h2⟩:=Zj9 (P:=P) (ρ:=ρ) h
    refine ⟨by simpa [Zez] using h1,fun post=>?_⟩
    rw [ZhO hy]
    have:=h2 [] post
    exact .comp (by simpa [Y2] using this)
   ·cases h
 ·rename_i hne
  split at h
  ·rename_i ys
   obtain ⟨h1,h2,h3⟩:=Zhc (P:=P) (ρ:=ρ) _ _ _ h
   refine ⟨h1,fun post=>?_⟩
   have:∀ us,Y2 rs us 0 = .tuple (Yk rs us 0):=by
    intro us
    unfold Y2
    split
    ·exact (hne _ rfl).elim
    ·rfl
   rw [this]
   refine .tuple (by rw [List.length_map,h2,Zar]) fun i c c' hc hc'=>h3 [] post i c c' hc ?_
   simpa using hc'
  ·cases h
theorem ZbN:∀ (aps:List AP) (us:List V) (j:Nat),(Z9 aps us j).length=aps.length
 | [], _, _ => rfl
 | a :: r, us, j => by cases a <;> simp [Z9, ZbN r us]
theorem Kh:∀ (aps:List AP) (xs:List SV) (vs:List VE),KP P aps xs=some vs→vs.length=(J9 aps).length∧xs.length=aps.length∧∀ pre post:List V,
  ∀ (i:Nat) (c c':AV),(xs.map (SV.den ρ))[i]? = some c→(Z9 aps (pre++vs.map (VE.den ρ)++post) pre.length)[i]? = some c'→YK P c c'
 | [], [], vs, h => by
  simp only [KP,Option.some.injEq] at h
  subst h
  exact ⟨rfl,rfl,fun _ _ i c c' h=>by simp at h⟩
 | [], _ :: _, _, h => by simp [KP] at h
 | a :: _, [], _, h => by cases a <;> simp [KP] at h
 | .box l :: r, x :: xs, us, h => by
  cases x<;>simp only [KP,reduceCtorEq] at h
  split at h
  ·rename_i cs v vs hv hvs
   simp only [Option.some.injEq] at h
   subst h
   obtain ⟨h1,h2,h3⟩:=KS (P:=P) (ρ:=ρ) _ _ _ hv
   obtain ⟨h4,h5,h6⟩:=Kh r xs vs hvs
   refine ⟨by simp [h1,h4,J9],by simp [h5],fun pre post i c1 c2 hc1 hc2=>?_⟩
   cases i with
   | zero =>
    simp only [Z9,List.map_cons,List.getElem?_cons_zero,Option.some.injEq,SV.den] at hc1 hc2
    subst hc1
    subst hc2
    have:=h3 pre (vs.map (VE.den ρ)++post)
    exact .box (by rw [List.length_map,h2,Jk]) (by simpa [List.append_assoc] using this)
   | succ i =>
    have:=h6 (pre++v.map (VE.den ρ)) post i c1 c2 (by simpa using hc1)
    rw [List.length_append,List.length_map,h1] at this
    simp only [Z9,List.getElem?_cons_succ] at hc2
    refine this ?_
    simpa [List.append_assoc] using hc2
  ·cases h
 | .gbox l :: r, x :: xs, us, h => by
  cases x<;>simp only [KP,reduceCtorEq] at h
  split at h
  ·rename_i cs v vs hv hvs
   simp only [Option.some.injEq] at h
   subst h
   obtain ⟨h1,h2,h3⟩:=KS (P:=P) (ρ:=ρ) _ _ _ hv
   obtain ⟨h4,h5,h6⟩:=Kh r xs vs hvs
   refine ⟨by simp [h1,h4,J9],by simp [h5],fun pre post i c1 c2 hc1 hc2=>?_⟩
   cases i with
   | zero =>
    simp only [Z9,List.map_cons,List.getElem?_cons_zero,Option.some.injEq,SV.den] at hc1 hc2
    subst hc1
    subst hc2
    have:=h3 pre (vs.map (VE.den ρ)++post)
    exact .gbox (by rw [List.length_map,h2,Jk]) (by simpa [List.append_assoc] using this)
   | succ i =>
    have:=h6 (pre++v.map (VE.den ρ)) post i c1 c2 (by simpa using hc1)
    rw [List.length_append,List.length_map,h1] at this
    simp only [Z9,List.getElem?_cons_succ] at hc2
    refine this ?_
    simpa [List.append_assoc] using hc2
  ·cases h
 | .c s :: r, x :: xs, us, h => by
  cases x<;>simp only [KP,reduceCtorEq] at h
  exact retOs_dead (a:=.c s) r xs us (Kh r xs us h) (fun _ _=>rfl) rfl
 | .agg l :: r, x :: xs, us, h => by
  cases x<;>simp only [KP,reduceCtorEq] at h
  exact retOs_dead (a:=.agg l) r xs us (Kh r xs us h) (fun _ _=>rfl) rfl
 | .clo g ds :: r, x :: xs, us, h => by
  cases x<;>simp only [KP,reduceCtorEq] at h
  exact retOs_dead (a:=.clo g ds) r xs us (Kh r xs us h) (fun _ _=>rfl) rfl
 | .ref g ds :: r, x :: xs, us, h => by
  cases x<;>simp only [KP,reduceCtorEq] at h
  exact retOs_dead (a:=.ref g ds) r xs us (Kh r xs us h) (fun _ _=>rfl) rfl
 | .dead :: r, x :: xs, us, h => by
  cases x<;>simp only [KP,reduceCtorEq] at h
  exact retOs_dead (a:=.dead) r xs us (Kh r xs us h) (fun _ _=>rfl) rfl
where
 retOs_dead {a:AP} (r:List AP) (xs:List SV) (us:List VE) (h:us.length=(J9 r).length∧xs.length=r.length∧∀ pre post:List V,
   ∀ (i:Nat) (c c':AV),(xs.map (SV.den ρ))[i]? = some c→(Z9 r (pre++us.map (VE.den ρ)++post) pre.length)[i]? = some c'→YK P c c')
   (ha:∀ vs j,Z9 (a::r) vs j = .dead::Z9 r vs j) (hs:J9 (a::r)=J9 r):us.length=(J9 (a::r)).length∧(SV.dead::xs).length=(a::r).length∧∀ pre post:List V,
   ∀ (i:Nat) (c c':AV),((SV.dead::xs).map (SV.den ρ))[i]? = some c→(Z9 (a::r) (pre++us.map (VE.den ρ)++post) pre.length)[i]? = some c'→YK P c c':=by
  obtain ⟨h4,h5,h6⟩:=h
  refine ⟨by rw [hs];exact h4,by simp [h5],fun pre post i c1 c2 hc1 hc2=>?_⟩
  rw [ha] at hc2
  cases i with
  | zero =>
   simp only [List.map_cons,List.getElem?_cons_zero,Option.some.injEq] at hc1 hc2
   subst hc2
   exact .dead
  | succ i => exact h6 pre post i c1 c2 (by simpa using hc1) (by simpa using hc2)
theorem Zi0 {aps:List AP} {rs:List RSh} {x:SV} {os:List SV} {vs:List VE} (h:Zg8 P aps rs x os=some vs) :
  K1 P (os.map (SV.den ρ)++[x.den ρ]) (Z9 aps (vs.map (VE.den ρ)) (Zez rs)++[Y2 rs (vs.map (VE.den ρ)) 0]):=by
 unfold Zg8 at h
 split at h
 ·rename_i a b ha hb
  simp only [Option.some.injEq] at h
  subst h
  obtain ⟨h1,h2⟩:=ZoR (ρ:=ρ) ha
  obtain ⟨h3,h4,h5⟩:=Kh (P:=P) (ρ:=ρ) _ _ _ hb
  have hlo:(os.map (SV.den ρ)).length=(Z9 aps ((a++b).map (VE.den ρ)) (Zez rs)).length:=by rw [List.length_map,h4,ZbN]
  refine ⟨by simp only [List.length_append,hlo,List.length_cons,List.length_nil],fun i c c' hc hc'=>?_⟩
  by_cases hi:i < (os.map (SV.den ρ)).length
  ·rw [List.getElem?_append_left hi] at hc
   rw [List.getElem?_append_left (by rw [← hlo];exact hi)] at hc'
   have:=h5 (a.map (VE.den ρ)) [] i c c' hc
   rw [List.length_map,h1] at this
   exact .inl (this (by simpa using hc'))
  ·rw [List.getElem?_append_right (by omega)] at hc
   rw [List.getElem?_append_right (by rw [← hlo];omega),← hlo] at hc'
   have h0:i-(os.map (SV.den ρ)).length=0:=by
    have:=(List.getElem?_eq_some_iff.1 hc).1
    simp only [List.length_cons,List.length_nil] at this
    omega
   rw [h0] at hc hc'
   simp only [List.getElem?_cons_zero,Option.some.injEq] at hc hc'
   subst hc
   subst hc'
   rw [List.map_append]
   exact .inl (h2 _)
 ·cases h
end
def Zlo {γ:Type} (A:Nat→List V→Option γ) (n:Nat) (B:List V→Option γ):Nat→List V→Option γ:=fun i vs=>if i=n then B vs else A i vs
noncomputable def STree.run (P:Program) (Φ:List (FuncId×Fun)) (aps:List AP) (rs:List RSh):STree→(Nat→List V→Option (ShsT (Zcu rs aps)))→(Nat→V)→Option (ShsT (Zcu rs aps))
 | .stuck _, _, _ => none
 | .branch b t e, A, ρ => if b.den ρ = true then t.run P Φ aps rs A ρ else e.run P Φ aps rs A ρ
 | .req p t, A, ρ => @Zv _ (p.den ρ) (p.decDen ρ) (t.run P Φ aps rs A ρ)
 | .elem l i sh n t, A, ρ => ZJ (l.den ρ) (i.den ρ) sh fun r => t.run P Φ aps rs A (bind ρ n (Zcx sh r))
 | .nilq l n t, A, ρ => @ZiB _ (decS _) (l.den ρ) fun b => t.run P Φ aps rs A (bind ρ n [.b b])
 | .call f args res outs n _ t, A, ρ =>
  match Zje Φ f (args.filterMap SV.sig) with
  | some S => if ZqM S.res res n = true ∧ Vd S.args outs (n + Zez S.res) = true ∧ WB S.args = true then Zom P S (args.map (SV.den ρ)) fun us => t.run P Φ aps rs A (bind ρ n us) else none
  | none => none
 | .loop lv init n t, A, ρ => Zcv (fun rec vs => t.run P Φ aps rs (Zlo A lv rec) (bind Ze1 n vs)) YS (init.map (VE.den ρ))
 | .again lv vals, A, ρ => A lv (vals.map (VE.den ρ))
 | .ret res outs, _, ρ => match Zg8 P aps rs res outs with | some vs => Zns _ (vs.map (VE.den ρ)) | none => none
theorem ZqG {p:Nat→Prop} (h:∃ k,p k):∃ k,p k∧∀ j,j < k→¬ p j:=by
 obtain ⟨k,hk⟩:=h
 induction k using Nat.strongRecOn with
 | _ k ih =>
  by_cases hj:∃ j,j < k∧p j
  ·obtain ⟨j,h1,h2⟩:=hj
   exact ih j h1 h2
  ·exact ⟨k,hk,fun j h1 h2=>hj ⟨j,h1,h2⟩⟩
section
variable {P:Program} {Φ:List (FuncId×Fun)} {aps:List AP} {rs:List RSh}
theorem Zav (hΦ:ZkY P Φ) {r:ShsT (Zcu rs aps)} {R:AV→List AV→Prop} (hR:∀ x os,K1 P (os++[x]) (Z9 aps (Zcx _ r) (Zez rs)++[Y2 rs (Zcx _ r) 0])→R x os) :
  ∀ (t:STree) (A':Nat→List V→Option (ShsT (Zcu rs aps))) (A:Nat→List V→Prop) (ρ:Nat→V),(∀ lv vs,A' lv vs=some r→A lv vs)→t.run P Φ aps rs A' ρ=some r→t.wp P R A ρ
 | .stuck _, _, _, _, _, h => by simp [STree.run] at h
 | .branch b t e, A', A, ρ, hA, h => by
  simp only [STree.run] at h
  refine ⟨fun hb=>?_,fun hb=>?_⟩
  ·rw [if_pos hb] at h
   exact Zav hΦ hR t A' A ρ hA h
  ·rw [if_neg (by rw [hb];exact Bool.false_ne_true)] at h
   exact Zav hΦ hR e A' A ρ hA h
 | .req p t, A', A, ρ, hA, h => by
  obtain ⟨h1,h2⟩:=JH (show @Zv _ (p.den ρ) (p.decDen ρ) (t.run P Φ aps rs A' ρ)=some r from h)
  exact ⟨h1,Zav hΦ hR t A' A ρ hA h2⟩
 | .elem l i sh n t, A', A, ρ, hA, h => by
  obtain ⟨h0,cs,x,h1,h2,h3⟩:=Ziv (show ZJ (l.den ρ) (i.den ρ) sh (fun r=>t.run P Φ aps rs A' (bind ρ n (Zcx sh r)))=some r from h)
  refine ⟨Zcx sh x,h0,?_,Zav hΦ hR t A' A _ hA h3⟩
  rw [h1,Zh8 sh cs x n _ h2 (Zhs.bind ρ n _)]
 | .nilq l n t, A', A, ρ, hA, h => fun b hb => Zav hΦ hR t A' A _ hA (ZkT (show @ZiB _ (decS _) (l.den ρ) (fun b => t.run P Φ aps rs A' (bind ρ n [.b b])) = some r from h) b hb)
 | .call f args res outs n sh t, A', A, ρ, hA, h => by
  simp only [STree.run] at h
  split at h
  ·rename_i S hS
   split at h
   ·rename_i hfit
    obtain ⟨vs,x,h1,h2,h3⟩:=Zin h
    have hlen:=ZhV _ x
    have hl2:(Zcu S.res S.args).length=Zez S.res+(J9 S.args).length:=by simp [Zcu,Zez]
    refine ⟨Zcx _ x,?_,Zav hΦ hR t A' A _ hA h3⟩
    rw [ZmC hfit.1 (by omega),YL S.args outs (Zez S.res) hfit.2.1 (by omega)]
    exact JM.freeze S.args _ [] ((Zhj hΦ hS vs x h2).stronger (Zgh hfit.2.2 h1)) (Zdh _ _ _ h1)
   ·cases h
  ·cases h
 | .loop lv init n t, A', A, ρ, hA, h => by
  let F:=fun (rec:List V→Option (ShsT (Zcu rs aps))) vs=>t.run P Φ aps rs (Zlo A' lv rec) (bind Ze1 n vs)
  have hF:Zcv F YS (init.map (VE.den ρ))=some r:=h
  have hm:∀ vs,∃ m:Nat,(∃ k,Zcv F k vs=some r)→Zcv F m vs=some r∧∀ j,Zcv F j vs=some r→m≤j:=by
   intro vs
   by_cases hk:∃ k,Zcv F k vs=some r
   ·obtain ⟨m,h1,h2⟩:=ZqG hk
    exact ⟨m,fun _=>⟨h1,fun j hj=>Nat.le_of_not_lt fun hlt=>h2 j hlt hj⟩⟩
   ·exact ⟨0,fun h=>(hk h).elim⟩
  obtain ⟨m,hm⟩:=Classical.axiomOfChoice hm
  refine ⟨fun vs=>∃ k,Zcv F k vs=some r,m,⟨YS,hF⟩,fun vs _ hk=>?_⟩
  obtain ⟨h1,h2⟩:=hm vs hk
  cases hmv:m vs with
  | zero => rw [hmv] at h1; cases h1
  | succ j =>
   rw [hmv] at h1
   refine Zav hΦ hR t (Zlo A' lv (Zcv F j)) _ _ (fun lv' vs' hv=>?_) h1
   unfold Zlo at hv
   unfold ZpZ
   split at hv
   ·rename_i he
    rw [if_pos he]
    refine ⟨⟨j,hv⟩,?_⟩
    have:=(hm vs' ⟨j,hv⟩).2 j hv
    omega
   ·rename_i he
    rw [if_neg he]
    exact hA lv' vs' hv
 | .again lv vals, A', A, ρ, hA, h => hA lv _ h
 | .ret res outs, A', A, ρ, hA, h => by
  simp only [STree.run] at h
  split at h
  ·rename_i vs hvs
   refine hR _ _ ?_
   rw [ZfH _ _ _ h]
   exact Zi0 hvs
  ·cases h
end
end Go.AM
end

section
namespace Go.AM
abbrev LL:Type:=List (List AV)
abbrev E0:LL:=[]
def ZpA (l:List (List AV)):Prop:=∀ e∈l,∃ n:Int,0≤n∧n≤255∧e = [.val (.int .u8 n)]
def Jw (a b:List (List AV)) (k:Nat):Prop:=(a.length+b.length)*(k+1)≤Ja
def ZqX (a:Int) (k:Nat):Prop:=0≤a∧a.toNat*(k+1)≤Ja
instance (l:List (List AV)):Decidable (ZpA l):=Zhz l
instance (a b:List (List AV)) (k:Nat):Decidable (Jw a b k):=inferInstanceAs (Decidable ((a.length+b.length)*(k+1)≤Ja))
instance (a:Int) (k:Nat):Decidable (ZqX a k):=inferInstanceAs (Decidable (0≤a∧a.toNat*(k+1)≤Ja))
instance (l:List (List AV)):Decidable (l≠[]):=Zjb l
theorem CQ:(∀ a b:Int,(cop .lss a b=true)=(a < b))∧(∀ a b:Int,(cop .lss a b=false)=(b≤a))∧(∀ a b:Int,(cop .leq a b=true)=(a≤b))∧(∀ a b:Int,(cop .leq a b=false)=(b < a))∧
  (∀ a b:Int,(cop .gtr a b=true)=(b < a))∧(∀ a b:Int,(cop .gtr a b=false)=(a≤b))∧(∀ a b:Int,(cop .geq a b=true)=(b≤a))∧(∀ a b:Int,(cop .geq a b=false)=(a < b))∧
  (∀ a b:Int,(cop .eql a b=true)=(a=b))∧(∀ a b:Int,(cop .eql a b=false)=(a≠b))∧(∀ a b:Int,(cop .neq a b=true)=(a≠b))∧(∀ a b:Int,(cop .neq a b=false)=(a=b))∧
  (∀ b:Bool,(¬b=true)=(b=false))∧(∀ b:Bool,(¬b=false)=(b=true))∧(∀ b:Bool,((!b)=true)=(b=false))∧(∀ b:Bool,((!b)=false)=(b=true))∧
  (∀ a b:Bool,((a&&b)=true)=(a=true∧b=true))∧(∀ a b:Bool,((a||b)=true)=(a=true∨b=true))∧(∀ {p:Prop} [Decidable p],(decide p=true)=p)∧(∀ {p:Prop} {_:Decidable p},decide p=false↔¬p)∧
  ((false=true)=False)∧((true=false)=False)∧(∀ {α β:Type} (a:α) (f:α→Option β),(some a).bind f=f a)∧(∀ {α:Type} (x y:α),(some x=some y)=(x=y))∧
  (∀ p:Prop,(False↔p) = ¬p)∧(∀ p:Prop,(True↔p)=p)∧(∀ p:Prop,(p↔False) = ¬p)∧(∀ p:Prop,(p↔True)=p):=
 ⟨ZkN,Zkq,Zle,ZjE,Zj5,Zla,Zk4,ZkO,Zk3,Zkc,ZjP,ZkJ,Bool.not_eq_true,Bool.not_eq_false,Bool.not_eq_true',Bool.not_eq_false',Bool.and_eq_true,Bool.or_eq_true,
  @decide_eq_true_eq,@decide_eq_false_iff_not,Bool.false_eq_true,Bool.true_eq_false,@Option.bind_some,@Option.some.injEq,false_iff,true_iff,iff_false,iff_true⟩
def STree.next:STree→STree
 | .branch _ t _ => t
 | .req _ t => t
 | .elem _ _ _ _ t => t
 | .nilq _ _ t => t
 | .call _ _ _ _ _ _ t => t
 | .loop _ _ _ t => t
 | t => t
def STree.other:STree→STree
 | .branch _ _ e => e
 | t => t
def STree.nexts:Nat→STree→STree
 | 0, t => t
 | k + 1, t => STree.nexts k t.next
def STree.go:STree→List Nat→STree
 | t, [] => t
 | t, 0 :: p => t.next.go p
 | t, 1 :: p => t.other.go p
 | t, k :: p => (STree.nexts k t).go p
@[reducible] def d2 {α β γ:Type} (r:α×β×γ):γ:=r.2.2
def AP.hp:AP→HP
 | .c s => .c s
 | .agg l => .agg l
 | .box l => .box l
 | .gbox l => .gbox l
 | .clo g ds => .clo g ds
 | .ref j q => .mref j q
 | .dead => .dead
def Ww:List AP→Nat→List SV
 | [], _ => []
 | a :: r, n => Zlp a.hp n :: Ww r (n + a.n)
def Zo5:List AP→Nat
 | [] => 0
 | a :: r => a.n + Zo5 r
def apsFine (l:List AP):Bool:=l.all fun a=>a.hp.fine
theorem ZlI (a:AP) (us:List V) (j:Nat):Zku a us j=VP a.hp us j:=by cases a<;>rfl
theorem Zdg:∀ (l:List AP) (n:Nat) (us:List V),apsFine l=true→(Ww l n).map (SV.den (Zqk us))=K5 l us n
 | [], _, _, _ => rfl
 | a :: r, n, us, h => by
  simp only [apsFine,List.all_cons,Bool.and_eq_true] at h
  rw [Ww,List.map_cons,K5,ZlI,ZkC (m:=n) h.1 (ρ:=Zqk us) (us:=us) (fun j _=>rfl),Zdg r (n+a.n) us h.2]
theorem ZfO:∀ (l:List AP) (n:Nat),∀ x∈Ww l n,x.bd (n+Zo5 l)
 | [], _ => by simp [Ww]
 | a :: r, n => by
  intro x hx
  simp only [Ww,List.mem_cons] at hx
  rcases hx with rfl | hx
  ·have hb:(Zlp a.hp n).bd (n+a.n):=by
    cases a with
    | c s => cases s <;> exact Nat.lt_succ_self n
    | agg l => exact Jq l n
    | box l => exact JS l n
    | gbox l => exact JS l n
    | clo g ds => trivial
    | ref j q => trivial
    | dead => trivial
   exact SV.bd_mono (by simp only [Zo5];omega) _ hb
  ·have:=ZfO r (n+a.n) x hx
   rw [Zo5,← Nat.add_assoc]
   exact this
section
variable {P:Program}
theorem fun_ok {Φ : List (FuncId × Fun)} {E : Env} (hm : P.follows .mixedOrders = true) (hps : EnvSound P E) {f : FuncId} {fn : Func} {S : Fun} {n : Nat} {T : STree} (hf : P.funcs[f]? = some fn) (hname : (fn.name == "runtime.NumGoroutine") = false)
  (hfine:apsFine S.args=true) (hn:Zo5 S.args=n) (eq:Zqw P E fn (Ww S.args 0) n=T) (hΦ:ZkY P Φ) (hg:∀ vs,S.g vs=T.run P Φ S.args S.res (fun _ _=>none) (Zqk vs)):S.Ok P f:=by
 intro vs r h
 rw [hg] at h
 have:=callOk_ofR (R:=fun x os=>K1 P (os++[x]) (Z9 S.args (Zcx _ r) (Zez S.res)++[Y2 S.res (Zcx _ r) 0])) hm hps hf hname (args:=Ww S.args 0) (n:=n) (ρ:=Zqk vs)
  (fun a ha=>by have:=ZfO S.args 0 a ha;rwa [Nat.zero_add,hn] at this) (fun _ _ h=>h) (by rw [eq];exact Zav hΦ (fun _ _ h=>h) T _ _ _ (fun _ _ h=>by cases h) h)
 rw [Zdg S.args 0 vs hfine] at this
 exact this
end
end Go.AM
end

section
set_option linter.unusedVariables false
set_option linter.unusedSimpArgs false
namespace Go.AM
open Go.Shelf Go.RowKit Go.Lib
variable {P:Program}
theorem YV (w:World) (dT sT ty elem:TypeId) (inf:TypeInfo) (g o dLen dCap:Nat) (a:Addr) (sLen sCap n:Nat) (cur:Array Value) (t:TypeId) (cs:List Value)
  (hu:P.underlying dT=some (.slice elem)) (hs:P.info? elem=some inf) (hg:w.heap[g]? = some (.cells cur t (0,0))) (hn:n=Nat.min sLen dLen) (hl:cs.length=n*inf.size)
  (hsrc:∀ j v,cs[j]? = some v→w.cell? (a.add j)=some v) (hfit:o+cs.length≤cur.size) (h1:∀ v∈cs,v.oneCell'=true) :
  (Builtin.copy_ #[dT,sT] ty #[.slice (some ⟨g,o,none⟩) dLen dCap,.slice (some a) sLen sCap]).run P w =
   .ok (goInt n) (w.setRow g (cur.toList.take o++cs++cur.toList.drop (o+cs.length)).toArray):=by
 have hl':=run_loadCells_list (P:=P) w a cs hsrc
 have hst:=run_storeCells_at P g o t cs 0 cur w hg (by simpa using hfit) h1
 rw [hl] at hl'
 simp [Builtin.copy_,run_underlying hu,Builtin.lenOf,Builtin.firstCells,sizeOf,typeInfo,hs,← hn,hl',hst]
theorem Zfz (w:World) {o:Oper} {a:Act} {K:Act→World→Prop} {Q:Exit→Act→World→Prop} (d s:Operand) (t t':TypeId)
  (ho:o.op = .call { callee:=.builtin .copy,args:=#[d,s],argTypes:=#[t,t'] }) (v u:Value) (hd:a.eval d=v) (hs:a.eval s=u) {v':Value} {w':World}
  (hr:(Builtin.copy_ #[t,t'] o.type #[v,u]).run P w = .ok v' w') (h:K (a.put o.dst v') w'):o.wp P a w K Q:=by
 unfold Oper.wp execOp
 simp only [ho,resolve,invoke,builtin,Sem.run_bind,Sem.run_pure,Result.andThen_ok,List.map_toArray,List.map_cons,List.map_nil,hd,hs,hr]
 exact h
theorem K3 (w:World) {ops:Array Oper} {rest:List Oper} {o:Oper} {a:Act} {Q:Exit→Act→World→Prop} (hgd:o.guard=none) (d s:Operand) (t t':TypeId)
  (ho:o.op = .call { callee:=.builtin .copy,args:=#[d,s],argTypes:=#[t,t'] }) (v u:Value) (hd:a.eval d=v) (hs:a.eval s=u) {v':Value} {w':World}
  (hr:(Builtin.copy_ #[t,t'] o.type #[v,u]).run P w = .ok v' w') (h:wpList P ops Q rest (a.put o.dst v') w'):wpList P ops Q (o::rest) a w:=
 wpList_plain hgd fun _ hK=>Zfz w d s t t' ho v u hd hs hr (hK _ _ h)
theorem VV {ops:Array Oper} {o:Oper} {a:Act} {w:World} {K:Act→World→Prop} {Q:Exit→Act→World→Prop} {E:Prop}
  (hg:o.guard=none) (d x:Operand) (dT sT:TypeId) (hop:o.op=Op.call { callee:=Callee.builtin Builtin.copy,args:=#[d,x],argTypes:=#[dT,sT] })
  (v u:Value) (hd:a.eval d=v) (hx:a.eval x=u) {v':Value} {w':World} (hr:(Builtin.copy_ #[dT,sT] o.type #[v,u]).run P w = .ok v' w') (hK:K (a.put o.dst v') w') :
  if Region.wanted o (yielded ops a.tmps)=true then Oper.wp P o a w K Q else E:=by
 have hw:Region.wanted o (yielded ops a.tmps)=true:=by simp [Region.wanted,hg]
 rw [if_pos hw]
 unfold Oper.wp
 simp [execOp,hop,resolve,invoke,builtin,hd,hx,hr,Result.andThen]
 exact hK
def insCode (T B I:TypeId) (fO fR:FuncId):Code:=
  (.seq (.region 0 #[
    ⟨some 6, .assign (.const (.slice none 0 0)), T, "slices.go:136", #[], none⟩] false)
  (.seq (.region 1 #[
    ⟨some 10, .move (.tmp 0), T, "slices.go:137", #[], none⟩,
    ⟨some 11, .move (.tmp 1), I, "slices.go:137", #[], none⟩,
    ⟨some 12, .slice T (.tmp 10) (some (.tmp 11)) none none, T, "slices.go:137", #[⟨0, .data⟩, ⟨1, .data⟩], none⟩] false)
  (.seq (.region 2 #[
    ⟨some 13, .move (.tmp 2), T, "slices.go:139", #[], none⟩,
    ⟨some 14, .call ⟨.builtin .len, #[(.tmp 13)], #[T]⟩, I, "slices.go:139", #[⟨0, .data⟩], none⟩,
    ⟨some 7, .assign (.tmp 14), I, "slices.go:139", #[⟨1, .data⟩, ⟨0, .phase⟩, ⟨1, .phase⟩], none⟩] false)
  (.seq (.seq (.region 3 #[
    ⟨some 15, .move (.tmp 7), I, "slices.go:140", #[], none⟩,
    ⟨some 16, .binOp .eql I (.tmp 15) (.const (.int .i64 0)) I, B, "slices.go:140", #[⟨0, .data⟩], none⟩] false)
  (.cond (.tmp 16)
   (.seq (.region 4 #[
     ⟨some 17, .move (.tmp 0), T, "slices.go:141", #[], none⟩,
     ⟨some 6, .assign (.tmp 17), T, "slices.go:141", #[⟨0, .data⟩, ⟨0, .phase⟩], none⟩] false)
   .ret)
   .skip))
  (.seq (.region 5 #[
    ⟨some 18, .move (.tmp 0), T, "slices.go:143", #[], none⟩,
    ⟨some 19, .call ⟨.builtin .len, #[(.tmp 18)], #[T]⟩, I, "slices.go:143", #[⟨0, .data⟩], none⟩,
    ⟨some 8, .assign (.tmp 19), I, "slices.go:143", #[⟨1, .data⟩, ⟨0, .phase⟩, ⟨1, .phase⟩], none⟩] false)
  (.seq (.seq (.region 6 #[
    ⟨some 20, .move (.tmp 1), I, "slices.go:144", #[], none⟩,
    ⟨some 21, .move (.tmp 8), I, "slices.go:144", #[], none⟩,
    ⟨some 22, .binOp .eql I (.tmp 20) (.tmp 21) I, B, "slices.go:144", #[⟨0, .data⟩, ⟨1, .data⟩], none⟩] false)
  (.cond (.tmp 22)
   (.seq (.region 7 #[
     ⟨some 23, .move (.tmp 0), T, "slices.go:145", #[], none⟩,
     ⟨some 24, .move (.tmp 2), T, "slices.go:145", #[], none⟩,
     ⟨some 25, .call ⟨.builtin .append, #[(.tmp 23), (.tmp 24)], #[T, T]⟩, T, "slices.go:145", #[⟨0, .data⟩, ⟨1, .data⟩], none⟩,
     ⟨some 6, .assign (.tmp 25), T, "slices.go:145", #[⟨2, .data⟩, ⟨2, .chain⟩, ⟨0, .phase⟩, ⟨1, .phase⟩, ⟨2, .phase⟩], none⟩] false)
   .ret)
   .skip))
  (.seq (.seq (.region 8 #[
    ⟨some 26, .move (.tmp 8), I, "slices.go:147", #[], none⟩,
    ⟨some 27, .move (.tmp 7), I, "slices.go:147", #[], none⟩,
    ⟨some 28, .binOp .add I (.tmp 26) (.tmp 27) I, I, "slices.go:147", #[⟨0, .data⟩, ⟨1, .data⟩], none⟩,
    ⟨some 29, .move (.tmp 0), T, "slices.go:147", #[], none⟩,
    ⟨some 30, .call ⟨.builtin .cap, #[(.tmp 29)], #[T]⟩, I, "slices.go:147", #[⟨3, .data⟩], none⟩,
    ⟨some 31, .binOp .gtr I (.tmp 28) (.tmp 30) I, B, "slices.go:147", #[⟨2, .data⟩, ⟨4, .data⟩], none⟩] false)
  (.cond (.tmp 31)
   (.seq (.region 9 #[
     ⟨some 32, .move (.tmp 0), T, "slices.go:152", #[], none⟩,
     ⟨some 33, .move (.tmp 1), I, "slices.go:152", #[], none⟩,
     ⟨some 34, .slice T (.tmp 32) none (some (.tmp 33)) none, T, "slices.go:152", #[⟨0, .data⟩, ⟨1, .data⟩], none⟩,
     ⟨some 35, .move (.tmp 8), I, "slices.go:152", #[], none⟩,
     ⟨some 36, .move (.tmp 7), I, "slices.go:152", #[], none⟩,
     ⟨some 37, .binOp .add I (.tmp 35) (.tmp 36) I, I, "slices.go:152", #[⟨3, .data⟩, ⟨4, .data⟩], none⟩,
     ⟨some 38, .move (.tmp 1), I, "slices.go:152", #[], none⟩,
     ⟨some 39, .binOp .sub I (.tmp 37) (.tmp 38) I, I, "slices.go:152", #[⟨5, .data⟩, ⟨6, .data⟩], none⟩,
     ⟨some 40, .call ⟨.builtin .append, #[(.tmp 34), (.tmp 39)], #[T, I]⟩, T, "slices.go:152", #[⟨2, .data⟩, ⟨7, .data⟩], none⟩,
     ⟨some 9, .assign (.tmp 40), T, "slices.go:152", #[⟨8, .data⟩, ⟨8, .chain⟩, ⟨0, .phase⟩, ⟨1, .phase⟩, ⟨2, .phase⟩, ⟨3, .phase⟩, ⟨4, .phase⟩, ⟨5, .phase⟩, ⟨6, .phase⟩, ⟨7, .phase⟩, ⟨8, .phase⟩], none⟩] false)
   (.seq (.region 10 #[
     ⟨some 41, .move (.tmp 9), T, "slices.go:153", #[], none⟩,
     ⟨some 42, .move (.tmp 1), I, "slices.go:153", #[], none⟩,
     ⟨some 43, .slice T (.tmp 41) (some (.tmp 42)) none none, T, "slices.go:153", #[⟨0, .data⟩, ⟨1, .data⟩], none⟩,
     ⟨some 44, .move (.tmp 2), T, "slices.go:153", #[], none⟩,
     ⟨some 45, .call ⟨.builtin .copy, #[(.tmp 43), (.tmp 44)], #[T, T]⟩, I, "slices.go:153", #[⟨2, .data⟩, ⟨3, .data⟩], none⟩] false)
   (.seq (.region 11 #[
     ⟨some 46, .move (.tmp 9), T, "slices.go:154", #[], none⟩,
     ⟨some 47, .move (.tmp 1), I, "slices.go:154", #[], none⟩,
     ⟨some 48, .move (.tmp 7), I, "slices.go:154", #[], none⟩,
     ⟨some 49, .binOp .add I (.tmp 47) (.tmp 48) I, I, "slices.go:154", #[⟨1, .data⟩, ⟨2, .data⟩], none⟩,
     ⟨some 50, .slice T (.tmp 46) (some (.tmp 49)) none none, T, "slices.go:154", #[⟨0, .data⟩, ⟨3, .data⟩], none⟩,
     ⟨some 51, .move (.tmp 0), T, "slices.go:154", #[], none⟩,
     ⟨some 52, .move (.tmp 1), I, "slices.go:154", #[], none⟩,
     ⟨some 53, .slice T (.tmp 51) (some (.tmp 52)) none none, T, "slices.go:154", #[⟨5, .data⟩, ⟨6, .data⟩], none⟩,
     ⟨some 54, .call ⟨.builtin .copy, #[(.tmp 50), (.tmp 53)], #[T, T]⟩, I, "slices.go:154", #[⟨4, .data⟩, ⟨7, .data⟩], none⟩] true)
   (.seq (.region 12 #[
     ⟨some 55, .move (.tmp 9), T, "slices.go:155", #[], none⟩,
     ⟨some 6, .assign (.tmp 55), T, "slices.go:155", #[⟨0, .data⟩, ⟨0, .phase⟩], none⟩] false)
   .ret))))
   .skip))
  (.seq (.region 13 #[
    ⟨some 56, .move (.tmp 0), T, "slices.go:157", #[], none⟩,
    ⟨some 57, .move (.tmp 8), I, "slices.go:157", #[], none⟩,
    ⟨some 58, .move (.tmp 7), I, "slices.go:157", #[], none⟩,
    ⟨some 59, .binOp .add I (.tmp 57) (.tmp 58) I, I, "slices.go:157", #[⟨1, .data⟩, ⟨2, .data⟩], none⟩,
    ⟨some 60, .slice T (.tmp 56) none (some (.tmp 59)) none, T, "slices.go:157", #[⟨0, .data⟩, ⟨3, .data⟩], none⟩,
    ⟨some 0, .assign (.tmp 60), T, "slices.go:157", #[⟨4, .data⟩, ⟨0, .phase⟩, ⟨1, .phase⟩, ⟨2, .phase⟩, ⟨3, .phase⟩, ⟨4, .phase⟩], none⟩] false)
  (.seq (.seq (.region 14 #[
    ⟨some 61, .move (.tmp 2), T, "slices.go:173", #[], none⟩,
    ⟨some 62, .move (.tmp 0), T, "slices.go:173", #[], none⟩,
    ⟨some 63, .move (.tmp 1), I, "slices.go:173", #[], none⟩,
    ⟨some 64, .move (.tmp 7), I, "slices.go:173", #[], none⟩,
    ⟨some 65, .binOp .add I (.tmp 63) (.tmp 64) I, I, "slices.go:173", #[⟨2, .data⟩, ⟨3, .data⟩], none⟩,
    ⟨some 66, .slice T (.tmp 62) (some (.tmp 65)) none none, T, "slices.go:173", #[⟨1, .data⟩, ⟨4, .data⟩], none⟩,
    ⟨some 67, .call ⟨.value (.func fO), #[(.tmp 61), (.tmp 66)], #[T, T]⟩, B, "slices.go:173", #[⟨0, .data⟩, ⟨5, .data⟩], none⟩,
    ⟨some 68, .unOp .not B (.tmp 67), B, "slices.go:173", #[⟨6, .data⟩], none⟩] false)
  (.cond (.tmp 68)
   (.seq (.region 15 #[
     ⟨some 69, .move (.tmp 0), T, "slices.go:178", #[], none⟩,
     ⟨some 70, .move (.tmp 1), I, "slices.go:178", #[], none⟩,
     ⟨some 71, .move (.tmp 7), I, "slices.go:178", #[], none⟩,
     ⟨some 72, .binOp .add I (.tmp 70) (.tmp 71) I, I, "slices.go:178", #[⟨1, .data⟩, ⟨2, .data⟩], none⟩,
     ⟨some 73, .slice T (.tmp 69) (some (.tmp 72)) none none, T, "slices.go:178", #[⟨0, .data⟩, ⟨3, .data⟩], none⟩,
     ⟨some 74, .move (.tmp 0), T, "slices.go:178", #[], none⟩,
     ⟨some 75, .move (.tmp 1), I, "slices.go:178", #[], none⟩,
     ⟨some 76, .slice T (.tmp 74) (some (.tmp 75)) none none, T, "slices.go:178", #[⟨5, .data⟩, ⟨6, .data⟩], none⟩,
     ⟨some 77, .call ⟨.builtin .copy, #[(.tmp 73), (.tmp 76)], #[T, T]⟩, I, "slices.go:178", #[⟨4, .data⟩, ⟨7, .data⟩], none⟩] true)
   (.seq (.region 16 #[
     ⟨some 78, .move (.tmp 0), T, "slices.go:186", #[], none⟩,
     ⟨some 79, .move (.tmp 1), I, "slices.go:186", #[], none⟩,
     ⟨some 80, .slice T (.tmp 78) (some (.tmp 79)) none none, T, "slices.go:186", #[⟨0, .data⟩, ⟨1, .data⟩], none⟩,
     ⟨some 81, .move (.tmp 2), T, "slices.go:186", #[], none⟩,
     ⟨some 82, .call ⟨.builtin .copy, #[(.tmp 80), (.tmp 81)], #[T, T]⟩, I, "slices.go:186", #[⟨2, .data⟩, ⟨3, .data⟩], none⟩] false)
   (.seq (.region 17 #[
     ⟨some 83, .move (.tmp 0), T, "slices.go:193", #[], none⟩,
     ⟨some 6, .assign (.tmp 83), T, "slices.go:193", #[⟨0, .data⟩, ⟨0, .phase⟩], none⟩] false)
   .ret)))
   .skip))
  (.seq (.region 18 #[
    ⟨some 84, .move (.tmp 0), T, "slices.go:200", #[], none⟩,
    ⟨some 85, .move (.tmp 8), I, "slices.go:200", #[], none⟩,
    ⟨some 86, .slice T (.tmp 84) (some (.tmp 85)) none none, T, "slices.go:200", #[⟨0, .data⟩, ⟨1, .data⟩], none⟩,
    ⟨some 87, .move (.tmp 2), T, "slices.go:200", #[], none⟩,
    ⟨some 88, .call ⟨.builtin .copy, #[(.tmp 86), (.tmp 87)], #[T, T]⟩, I, "slices.go:200", #[⟨2, .data⟩, ⟨3, .data⟩], none⟩] false)
  (.seq (.region 19 #[
    ⟨some 89, .move (.tmp 0), T, "slices.go:207", #[], none⟩,
    ⟨some 90, .move (.tmp 1), I, "slices.go:207", #[], none⟩,
    ⟨some 91, .slice T (.tmp 89) (some (.tmp 90)) none none, T, "slices.go:207", #[⟨0, .data⟩, ⟨1, .data⟩], none⟩,
    ⟨some 92, .move (.tmp 7), I, "slices.go:207", #[], none⟩,
    ⟨some 93, .call ⟨.value (.func fR), #[(.tmp 91), (.tmp 92)], #[T, I]⟩, 0, "slices.go:207", #[⟨2, .data⟩, ⟨3, .data⟩], none⟩] false)
  (.seq (.region 20 #[
    ⟨some 94, .move (.tmp 0), T, "slices.go:214", #[], none⟩,
    ⟨some 6, .assign (.tmp 94), T, "slices.go:214", #[⟨0, .data⟩, ⟨0, .phase⟩], none⟩] false)
  .ret))))))))))))
structure Zb2 (P:Program) (T B I e:TypeId) (inf:TypeInfo) (z:Value) (k:Nat):Prop where
 mixed:P.follows .mixedOrders=true
 tT:P.underlying T=some (.slice e)
 tI:P.underlying I=some (.int .i64)
 tB:P.underlying B=some .bool
 ie:P.info? e=some inf
 zero:inf.zero=some z
 zsz:z.cells.size=k
 sz:inf.size=k
 pos:0 < k
 nm:Zm P e=false
structure Zcl (P:Program) (T B I:TypeId) (fO:FuncId) (e:TypeId) (inf:TypeInfo) (z:Value) (k:Nat):Prop extends Zb2 P T B I e inf z k where
 fO:∀ args w,(callFunc fO args).run P w=((Extern.SlicesOverlaps.overlaps #[T,T] #[B] args).run P w).andThen fun v w'=>.ok (.value v) w'
theorem ZhC {w:World} {b:Nat} {cur:Array Value} {e:TypeId} {fr:Nat×Nat} (h:w.heap[b]? = some (.cells cur e fr)):w.shape? b=some (e,cur.size):=by simp [World.shape?,h]
theorem Zf3 {w:World} {b o:Nat} {cur:Array Value} {e:TypeId} (h:w.heap[b]? = some (.cells cur e (0,0))):w.frozen? ⟨b,o,none⟩=false:=by simp [World.frozen?,h]
def Yi (U:List Value) (k n m i:Nat):List Value:=U.take ((i+m)*k)++(U.drop (i*k)).take ((n-i)*k)++U.drop ((i+m)*k+(n-i)*k)
def Zdy (U vs:List Value) (k n m i:Nat):List Value:=
 (Yi U k n m i).take (i*k)++vs++(Yi U k n m i).drop (i*k+m*k)
theorem VH {w:World} {b:Nat} {cur:Array Value} {e:TypeId} {fr:Nat×Nat} (h:w.heap[b]? = some (.cells cur e fr)) {l:List Value} {q:Nat} (hl:∀ j v,l[j]? = some v→cur[q+j]? = some v) :
  ∀ j v,l[j]? = some v→w.cell? ((⟨b,q,none⟩:Addr).add j)=some v:=fun j v hj=>by
 rw [JC,Zs h]
 exact hl j v hj
theorem Yj {w:World} {b:Nat} {cur cur':Array Value} {t:TypeId} (h:w.heap[b]? = some (.cells cur t (0,0))):(w.setRow b cur').heap[b]? = some (.cells cur' t (0,0)):=setRow_heap w b cur cur' t (0,0) h
set_option maxHeartbeats 4000000 in
set_option maxRecDepth 100000 in
theorem Zke {T B I:TypeId} {fO fR:FuncId} {e:TypeId} {inf:TypeInfo} {z:Value} {k:Nat} (L:Zcl P T B I fO e inf z k) {f:FuncId} {fn:Func} (hf:P.funcs[f]? = some fn) (hb:fn.body=some (insCode T B I fO fR)) (hnt:fn.ntmps=95) (hrs:fn.results = #[.tmp 6])
  (b n c i vb m vc:Nat) (cur vcur:Array Value) (w:World) (hi:i < n) (hm:0 < m) (hroom:n+m≤c) (hc63:c≤9223372036854775807) (hvb:vb≠b)
  (hg:w.heap[b]? = some (.cells cur e (0,0))) (hcs:cur.size=c*k) (hvg:w.heap[vb]? = some (.cells vcur e (0,0))) (hvs:vcur.size=vc*k) (hmv:m≤vc)
  (h1c:∀ v∈cur.toList.take (n*k),v.oneCell'=true) (h1v:∀ v∈vcur.toList.take (m*k),v.oneCell'=true) :
  Calls P f #[.slice (some ⟨b,0,none⟩) n c,.int .i64 i,.slice (some ⟨vb,0,none⟩) m vc] w fun e' w'=>
   e' = .returned (.slice (some ⟨b,0,none⟩) (n+m) c)∧w'=(w.drew.setRow b (Yi cur.toList k n m i).toArray).setRow b (Zdy cur.toList (vcur.toList.take (m*k)) k n m i).toArray:=by
 have mixed:=L.mixed
 have t0:=L.tT;have t1:=L.tI;have t2:=L.tB
 have u0:=run_underlying L.tT;have u1:=run_underlying L.tI;have u2:=run_underlying L.tB
 have zsE:∀ w,(Go.sizeOf e).run P w = .ok k w:=fun w=>by rw [Zx L.ie];rw [ZG L.ie,L.sz]
 have hk:=L.pos
 have hz1:¬ ((m:Int)=0):=by omega
 have hz2:¬ ((i:Int)=(n:Int)):=by omega
 have hn0:(n+m)*k≤c*k:=Nat.mul_le_mul_right _ hroom
 have hn1:(n+m)*k=n*k+m*k:=Nat.add_mul _ _ _
 have hn2:(i+m)*k=i*k+m*k:=Nat.add_mul _ _ _
 have hn3:(n-i)*k=n*k-i*k:=Nat.sub_mul _ _ _
 have hn4:i*k≤n*k:=Nat.mul_le_mul_right _ (by omega)
 have hn5:0 < c*k:=Nat.mul_pos (by omega) hk
 have hn6:m*k≤vc*k:=Nat.mul_le_mul_right _ hmv
 have hov:∀ lb cb W,W.heap[vb]? = w.heap[vb]?→W.heap[b]? = w.heap[b]?→(callFunc fO #[.slice (some ⟨vb,0,none⟩) m vc,.slice (some ⟨b,(i+m)*k,none⟩) lb cb]).run P W = .ok (.value (.bool false)) W:=fun lb cb W h1 h2=>by
  rw [L.fO,Lib.run_overlaps_apart W T B e L.tT k zsE ⟨vb,0,none⟩ ⟨b,(i+m)*k,none⟩ m vc lb cb hvb e e vcur.size cur.size (ZhC (h1.trans hvg)) (ZhC (h2.trans hg)) (by omega) (Zf3 (h1.trans hvg)) (Zf3 (h1.trans hvg))]
  rfl
 have hcl:cur.toList.length=c*k:=by simpa using hcs
 have hin:i≤n:=by omega
 have hcp1:∀ ty dc sc,(Builtin.copy_ #[T,T] ty #[.slice (some ⟨b,(i+m)*k,none⟩) (n+m-(i+m)) dc,.slice (some ⟨b,i*k,none⟩) (n+m-i) sc]).run P w.drew = .ok (goInt ((n-i:Nat):Int)) (w.drew.setRow b (Yi cur.toList k n m i).toArray):=fun ty dc sc=>by
  have hlen:((cur.toList.drop (i*k)).take ((n-i)*k)).length=(n-i)*k:=by rw [List.length_take,List.length_drop,hcl];omega
  have:=YV (P:=P) w.drew T T ty e inf b ((i+m)*k) (n+m-(i+m)) dc ⟨b,i*k,none⟩ (n+m-i) sc (n-i) cur e ((cur.toList.drop (i*k)).take ((n-i)*k)) L.tT L.ie hg (by simp only [Nat.min_def];split<;>omega) (by rw [hlen,L.sz])
   (VH (w:=w.drew) hg fun j v hj=>by
    rw [List.getElem?_take] at hj
    split at hj
    ·rw [List.getElem?_drop] at hj;simpa using hj
    ·cases hj)
   (by rw [hlen,hcs];omega) (fun v hv=>h1c v (by
    rw [hn3,← List.drop_take] at hv
    exact List.mem_of_mem_drop hv))
  rw [hlen] at this
  exact this
 have hcp2:∀ W,W.heap[b]? = some (.cells (Yi cur.toList k n m i).toArray e (0,0))→W.heap[vb]? = w.heap[vb]?→∀ ty dc,(Builtin.copy_ #[T,T] ty #[.slice (some ⟨b,i*k,none⟩) (n+m-i) dc,.slice (some ⟨vb,0,none⟩) m vc]).run P W = .ok (goInt m) (W.setRow b (Zdy cur.toList (vcur.toList.take (m*k)) k n m i).toArray):=fun W h1 h2 ty dc=>by
  have hvl:vcur.toList.length=vc*k:=by simpa using hvs
  have hlen:(vcur.toList.take (m*k)).length=m*k:=by rw [List.length_take,hvl];omega
  have:=YV (P:=P) W T T ty e inf b (i*k) (n+m-i) dc ⟨vb,0,none⟩ m vc m (Yi cur.toList k n m i).toArray e (vcur.toList.take (m*k)) L.tT L.ie h1 (by simp only [Nat.min_def];split<;>omega) (by rw [hlen,L.sz])
   (VH (w:=W) (h2.trans hvg) fun j v hj=>by
    rw [List.getElem?_take] at hj
    split at hj
    ·simpa using hj
    ·cases hj)
   (by
    have:(Yi cur.toList k n m i).length=c*k:=by simp only [Yi,List.length_append,List.length_take,List.length_drop,hcl];omega
    rw [hlen,List.size_toArray,this];omega) h1v
  rw [hlen] at this
  exact this
 have hw1:IntKind.i64.wrap ((i:Int)+(m:Int))=(i:Int)+(m:Int):=by rw [IntKind.wrap_i64];omega
 have hw2:IntKind.i64.wrap ((n:Int)+(m:Int))=(n:Int)+(m:Int):=by rw [IntKind.wrap_i64];omega
 have hb1:(0:Int)≤(i:Int)+(m:Int):=by omega
 have htn:((i:Int)+(m:Int)).toNat=i+m:=by omega
 have hb2:¬ (c=i+m):=by omega
 have hb3:(i:Int)≤(n:Int)+(m:Int):=by omega
 have hb4:¬ (c=i):=by omega
 have hcp2w:=fun ty dc=>hcp2 (w.drew.setRow b (Yi cur.toList k n m i).toArray) (Yj (w:=w.drew) hg) (by simp [World.setRow,Array.getElem?_modify,Ne.symm hvb];rfl) ty dc
 have hovw:=fun lb cb=>hov lb cb w rfl rfl
 rw [hn2] at hovw hcp1
 clear hcp2 hov hg hvg hcs hcl hvs h1c h1v
 refine calls_of_wp hf hb ?_
 rw [hnt]
 simp only [List.size_toArray,List.length_cons,List.length_nil,Nat.reduceAdd,Nat.reduceSub,Array.replicate_succ,Array.replicate_zero,List.push_toArray,List.append_toArray,List.nil_append,List.cons_append]
 unfold insCode
 go_wp2_with (simp only [hovw])
 go_region_law_o (refine VV rfl _ _ T T rfl _ _ (by simp [Act.eval,Act.put]) (by simp [Act.eval,Act.put]) (hcp1 _ _ _) ?_)
 go_wp2_with (at_builtin;refine K3 _ rfl _ _ T T rfl _ _ rfl rfl (hcp2w _ _) ?_)
 refine bodyPost_ret (results_tmp hrs _ _ _) rfl ?_
 exact ⟨rfl,rfl⟩
set_option maxHeartbeats 4000000 in
set_option maxRecDepth 100000 in
theorem ZoH {T B I:TypeId} {fO fR:FuncId} {e:TypeId} {inf:TypeInfo} {z:Value} {k:Nat} (L:Zcl P T B I fO e inf z k) {f:FuncId} {fn:Func} (hf:P.funcs[f]? = some fn) (hb:fn.body=some (insCode T B I fO fR)) (hnt:fn.ntmps=95) (hrs:fn.results = #[.tmp 6])
  (base:Option Addr) (n c:Nat) (vb:Option Addr) (m vc:Nat) (w w1:World) (v1:Value) (hm:0 < m) (hnc:n≤c)
  (hr:∀ ty,(Builtin.append_ #[T,T] ty #[.slice base n c,.slice vb m vc]).run P w = .ok v1 w1) :
  Calls P f #[.slice base n c,.int .i64 n,.slice vb m vc] w fun e' w'=>e' = .returned v1∧w'=w1:=by
 have mixed:=L.mixed
 have t0:=L.tT;have t1:=L.tI;have t2:=L.tB
 have u0:=run_underlying L.tT;have u1:=run_underlying L.tI;have u2:=run_underlying L.tB
 have zsE:∀ w,(Go.sizeOf e).run P w = .ok k w:=fun w=>by rw [Zx L.ie];rw [ZG L.ie,L.sz]
 have hz1:¬ ((m:Int)=0):=by omega
 refine calls_of_wp hf hb ?_
 rw [hnt]
 simp only [List.size_toArray,List.length_cons,List.length_nil,Nat.reduceAdd,Nat.reduceSub,Array.replicate_succ,Array.replicate_zero,List.push_toArray,List.append_toArray,List.nil_append,List.cons_append]
 unfold insCode
 cases base with
 | none =>
  go_wp2_with (at_builtin;refine Lib.wpList_append_run _ rfl _ _ _ _ rfl _ _ rfl rfl _ _ (hr _) ?_)
  refine bodyPost_ret (results_tmp hrs _ _ _) rfl ?_
  exact ⟨rfl,rfl⟩
 | some a =>
  obtain ⟨ab,ao,asp⟩:=a
  go_wp2_with (at_builtin;refine Lib.wpList_append_run _ rfl _ _ _ _ rfl _ _ rfl rfl _ _ (hr _) ?_)
  all_goals
   refine bodyPost_ret (results_tmp hrs _ _ _) rfl ?_
   exact ⟨rfl,rfl⟩
def Vx (U:List Value) (zc:Array Value) (k n m i G:Nat):Array Value:=(U.take (i*k)).toArray++Builtin.zeroCells zc (n+m-i)++Builtin.zeroCells zc (G-(n+m))
def KT (R vs:List Value) (k m i:Nat):List Value:=R.take (i*k)++vs++R.drop (i*k+m*k)
def ZbO (R U:List Value) (k n m i:Nat):List Value:=R.take (i*k+m*k)++(U.drop (i*k)).take ((n-i)*k)++R.drop (i*k+m*k+(n-i)*k)
theorem ZaA {U:List Value} {zc:Array Value} {k n m i G:Nat} (hz:zc.size=k) (hi:i≤n) (hG:n+m≤G) (hU:i*k≤U.length):(Vx U zc k n m i G).size=G*k:=by
 simp only [Vx,Array.size_append,List.size_toArray,List.length_take,size_zeroCells,hz]
 rw [Nat.min_eq_left hU,← Nat.add_mul,← Nat.add_mul]
 congr 1
 omega
set_option maxHeartbeats 4000000 in
set_option maxRecDepth 100000 in
theorem Zmy {T B I:TypeId} {fO fR:FuncId} {e:TypeId} {inf:TypeInfo} {z:Value} {k:Nat} (L:Zcl P T B I fO e inf z k) {f:FuncId} {fn:Func} (hf:P.funcs[f]? = some fn) (hb:fn.body=some (insCode T B I fO fR)) (hnt:fn.ntmps=95) (hrs:fn.results = #[.tmp 6])
  (b n c i vb m vc:Nat) (cur vcur:Array Value) (w:World) (hi:i < n) (hm:0 < m) (hnc:n≤c) (hroom:c < n+m) (hbig:(n+m)*inf.bytes≤140737488355328) (h62:n+m≤4611686018427387904)
  (hg:w.heap[b]? = some (.cells cur e (0,0))) (hcs:cur.size=c*k) (hvg:w.heap[vb]? = some (.cells vcur e (0,0))) (hvs:vcur.size=vc*k) (hmv:m≤vc)
  (h1c:∀ v∈cur.toList.take (n*k),v.oneCell'=true) (h1v:∀ v∈vcur.toList.take (m*k),v.oneCell'=true) :
  Calls P f #[.slice (some ⟨b,0,none⟩) n c,.int .i64 i,.slice (some ⟨vb,0,none⟩) m vc] w fun e' w'=>
   ∃ G,n+m≤G∧G≤maxLen∧e' = .returned (.slice (some ⟨w.heap.size,0,none⟩) (n+m) G)∧
    w'=(((w.drew.alloc (.cells (Vx cur.toList z.cells k n m i G) e)).setRow w.heap.size (KT (Vx cur.toList z.cells k n m i G).toList (vcur.toList.take (m*k)) k m i).toArray).drew).setRow w.heap.size
     (ZbO (KT (Vx cur.toList z.cells k n m i G).toList (vcur.toList.take (m*k)) k m i) cur.toList k n m i).toArray:=by
 have mixed:=L.mixed
 have t0:=L.tT;have t1:=L.tI;have t2:=L.tB
 have u0:=run_underlying L.tT;have u1:=run_underlying L.tI;have u2:=run_underlying L.tB
 have zsE:∀ w,(Go.sizeOf e).run P w = .ok k w:=fun w=>by rw [Zx L.ie];rw [ZG L.ie,L.sz]
 have hk:=L.pos
 have hz1:¬ ((m:Int)=0):=by omega
 have hz2:¬ ((i:Int)=(n:Int)):=by omega
 have hz3:(c:Int) < (n:Int)+(m:Int):=by omega
 have hn1:(n+m)*k=n*k+m*k:=Nat.add_mul _ _ _
 have hn2:(i+m)*k=i*k+m*k:=Nat.add_mul _ _ _
 have hn3:(n-i)*k=n*k-i*k:=Nat.sub_mul _ _ _
 have hn4:i*k≤n*k:=Nat.mul_le_mul_right _ (by omega)
 have hn5:n*k≤c*k:=Nat.mul_le_mul_right _ hnc
 have hn6:m*k≤vc*k:=Nat.mul_le_mul_right _ hmv
 have hcl:cur.toList.length=c*k:=by simpa using hcs
 have hvl:vcur.toList.length=vc*k:=by simpa using hvs
 have hin:i≤n:=by omega
 have hbw:b < w.heap.size:=(Array.getElem?_eq_some_iff.1 hg).1
 have hvw:vb < w.heap.size:=(Array.getElem?_eq_some_iff.1 hvg).1
 have hkk:(n:Int)+(m:Int)-(i:Int)=((n+m-i:Nat):Int):=by omega
 have hik:i+(n+m-i)=n+m:=by omega
 obtain ⟨G,hG⟩:∃ G,G=grownCap w (n+m) c e:=⟨_,rfl⟩
 have hGn:n+m≤G:=by rw [hG];exact grownCap_ge w _ _ _
 have hGm:G≤maxLen:=by rw [hG];exact grownCap_le_maxLen w (n+m) c e (by unfold maxLen;omega)
 have hG63:G≤9223372036854775807:=by unfold maxLen at hGm;omega
 have hmk:(n+m)*k≤G*k:=Nat.mul_le_mul_right _ hGn
 obtain ⟨R0,hR0⟩:∃ R0,R0=Vx cur.toList z.cells k n m i G:=⟨_,rfl⟩
 have hR0s:R0.size=G*k:=by rw [hR0];exact ZaA L.zsz hin hGn (by rw [hcl];omega)
 have hR0l:R0.toList.length=G*k:=by simpa using hR0s
 have hold:(Builtin.firstCells inf.size i (.slice (some ⟨b,0,none⟩) i c)).run P w.drew = .ok (cur.toList.take (i*k)).toArray w.drew:=by
  rw [L.sz]
  exact run_firstCells_some w.drew k i ⟨b,0,none⟩ i c (cur.toList.take (i*k)) (by rw [List.length_take,hcl];omega) (VH (w:=w.drew) hg fun j v hj=>by
   rw [List.getElem?_take] at hj
   split at hj
   ·simpa using hj
   ·cases hj)
 have hrz:∀ ty,(Builtin.append_ #[T,I] ty #[.slice (some ⟨b,0,none⟩) i c,.int .i64 ((n:Int)+(m:Int)-(i:Int))]).run P w =
   .ok (.slice (some ⟨w.heap.size,0,none⟩) (n+m) G) (w.drew.alloc (.cells R0 e)):=fun ty=>by
  have hb0:(n+m-i)*inf.bytes≤(n+m)*inf.bytes:=Nat.mul_le_mul_right _ (by omega)
  have h:=Lib.run_append_grow_zeros w T I ty e inf z .i64 .i64 L.tT L.tI L.ie L.zero (some ⟨b,0,none⟩) i c (cur.toList.take (i*k)) hold (n+m-i) (by omega) (by rw [L.sz];exact hk) (by omega) (by omega) (by omega) (by rw [hik];exact growslice_fits hroom hbig)
  rw [hik,← hG] at h
  rw [hkk,h,hR0]
  rfl
 obtain ⟨R1,hR1⟩:∃ R1,R1=KT R0.toList (vcur.toList.take (m*k)) k m i:=⟨_,rfl⟩
 have hvtl:(vcur.toList.take (m*k)).length=m*k:=by rw [List.length_take,hvl];omega
 have hR1l:R1.length=G*k:=by
  rw [hR1]
  simp only [KT,List.length_append,hvtl,List.length_take,List.length_drop,hR0l]
  omega
 have hcpA:∀ W,W.heap[w.heap.size]? = some (.cells R0 e (0,0))→W.heap[vb]? = w.heap[vb]?→∀ ty dc,(Builtin.copy_ #[T,T] ty #[.slice (some ⟨w.heap.size,i*k,none⟩) (n+m-i) dc,.slice (some ⟨vb,0,none⟩) m vc]).run P W = .ok (goInt m) (W.setRow w.heap.size R1.toArray):=fun W h1 h2 ty dc=>by
  have:=YV (P:=P) W T T ty e inf w.heap.size (i*k) (n+m-i) dc ⟨vb,0,none⟩ m vc m R0 e (vcur.toList.take (m*k)) L.tT L.ie h1 (by simp only [Nat.min_def];split<;>omega) (by rw [hvtl,L.sz])
   (VH (w:=W) (h2.trans hvg) fun j v hj=>by
    rw [List.getElem?_take] at hj
    split at hj
    ·simpa using hj
    ·cases hj)
   (by rw [hvtl,hR0s];omega) h1v
  rw [hvtl] at this
  rw [this,hR1]
  rfl
 have hcpB:∀ W,W.heap[w.heap.size]? = some (.cells R1.toArray e (0,0))→W.heap[b]? = w.heap[b]?→∀ ty dc sc,(Builtin.copy_ #[T,T] ty #[.slice (some ⟨w.heap.size,i*k+m*k,none⟩) (n+m-(i+m)) dc,.slice (some ⟨b,i*k,none⟩) (n-i) sc]).run P W = .ok (goInt ((n-i:Nat):Int)) (W.setRow w.heap.size (ZbO R1 cur.toList k n m i).toArray):=fun W h1 h2 ty dc sc=>by
  have hlen:((cur.toList.drop (i*k)).take ((n-i)*k)).length=(n-i)*k:=by rw [List.length_take,List.length_drop,hcl];omega
  have:=YV (P:=P) W T T ty e inf w.heap.size (i*k+m*k) (n+m-(i+m)) dc ⟨b,i*k,none⟩ (n-i) sc (n-i) R1.toArray e ((cur.toList.drop (i*k)).take ((n-i)*k)) L.tT L.ie h1 (by simp only [Nat.min_def];split<;>omega) (by rw [hlen,L.sz])
   (VH (w:=W) (h2.trans hg) fun j v hj=>by
    rw [List.getElem?_take] at hj
    split at hj
    ·rw [List.getElem?_drop] at hj;simpa using hj
    ·cases hj)
   (by rw [hlen,List.size_toArray,hR1l];omega) (fun v hv=>h1c v (by
    rw [hn3,← List.drop_take] at hv
    exact List.mem_of_mem_drop hv))
  rw [hlen] at this
  exact this
 have hA0:(w.drew.alloc (.cells R0 e)).heap[w.heap.size]? = some (.cells R0 e (0,0)):=YF w.drew R0 e
 have hAo:∀ x,x < w.heap.size→(w.drew.alloc (.cells R0 e)).heap[x]? = w.heap[x]?:=fun x hx=>heap_alloc_old w.drew _ hx
 have hcpA':=hcpA (w.alloc (.cells R0 e)).drew hA0 (hAo vb hvw)
 have hcpB':=hcpB ((w.alloc (.cells R0 e)).drew.setRow w.heap.size R1.toArray).drew (Yj hA0) (by
  have:((w.drew.alloc (.cells R0 e)).setRow w.heap.size R1.toArray).heap[b]? = (w.drew.alloc (.cells R0 e)).heap[b]?:=by simp [World.setRow,Array.getElem?_modify,Nat.ne_of_gt hbw]
  exact this.trans (hAo b hbw))
 have hw1:IntKind.i64.wrap ((i:Int)+(m:Int))=(i:Int)+(m:Int):=by rw [IntKind.wrap_i64];omega
 have hw2:IntKind.i64.wrap ((n:Int)+(m:Int))=(n:Int)+(m:Int):=by rw [IntKind.wrap_i64];omega
 have hw3:IntKind.i64.wrap ((n:Int)+(m:Int)-(i:Int))=(n:Int)+(m:Int)-(i:Int):=by rw [IntKind.wrap_i64];omega
 have hb1:(0:Int)≤(i:Int)+(m:Int):=by omega
 have htn:((i:Int)+(m:Int)).toNat=i+m:=by omega
 have hb3:(i:Int)≤(n:Int):=by omega
 have hb4:(i:Int)≤(n:Int)+(m:Int):=by omega
 have hGi:¬ (G=i):=by omega
 have hGim:¬ (G=i+m):=by omega
 have hci:¬ (c=i):=by omega
 refine Calls.mono ?_ (fun e' w' h=>⟨G,hGn,hGm,h⟩)
 rw [← hR0,← hR1]
 clear hcpA hcpB hold hg hvg hcs hcl hvs h1c h1v hR0 hR1 hG hvl hR0s hR0l hR1l hvtl hkk hik
 refine calls_of_wp hf hb ?_
 rw [hnt]
 simp only [List.size_toArray,List.length_cons,List.length_nil,Nat.reduceAdd,Nat.reduceSub,Array.replicate_succ,Array.replicate_zero,List.push_toArray,List.append_toArray,List.nil_append,List.cons_append]
 unfold insCode
 go_wp2_with (first
  | (at_builtin; refine Lib.wpList_append_run _ rfl _ _ _ _ rfl _ _ rfl rfl _ _ (hrz _) ?_)
  | (at_builtin; refine K3 _ rfl _ _ T T rfl _ _ rfl rfl (hcpA' _ _) ?_))
 go_region_law_o (refine VV rfl _ _ T T rfl _ _ (by simp [Act.eval,Act.put]) (by simp [Act.eval,Act.put]) (hcpB' _ _ _) ?_)
 go_wp2
 refine bodyPost_ret (results_tmp hrs _ _ _) rfl ?_
 exact ⟨rfl,rfl⟩
def delCode (T B I U:TypeId):Code:=
  (.seq (.region 0 #[
    ⟨some 6, .assign (.const (.slice none 0 0)), T, "slices.go:224", #[], none⟩] false)
  (.seq (.region 1 #[
    ⟨some 8, .move (.tmp 0), T, "slices.go:225", #[], none⟩,
    ⟨some 9, .move (.tmp 1), I, "slices.go:225", #[], none⟩,
    ⟨some 10, .move (.tmp 2), I, "slices.go:225", #[], none⟩,
    ⟨some 11, .move (.tmp 0), T, "slices.go:225", #[], none⟩,
    ⟨some 12, .call ⟨.builtin .len, #[(.tmp 11)], #[T]⟩, I, "slices.go:225", #[⟨3, .data⟩], none⟩,
    ⟨some 13, .slice T (.tmp 8) (some (.tmp 9)) (some (.tmp 10)) (some (.tmp 12)), T, "slices.go:225", #[⟨0, .data⟩, ⟨1, .data⟩, ⟨2, .data⟩, ⟨4, .data⟩], none⟩] false)
  (.seq (.seq (.region 2 #[
    ⟨some 14, .move (.tmp 1), I, "slices.go:227", #[], none⟩,
    ⟨some 15, .move (.tmp 2), I, "slices.go:227", #[], none⟩,
    ⟨some 16, .binOp .eql I (.tmp 14) (.tmp 15) I, B, "slices.go:227", #[⟨0, .data⟩, ⟨1, .data⟩], none⟩] false)
  (.cond (.tmp 16)
   (.seq (.region 3 #[
     ⟨some 17, .move (.tmp 0), T, "slices.go:228", #[], none⟩,
     ⟨some 6, .assign (.tmp 17), T, "slices.go:228", #[⟨0, .data⟩, ⟨0, .phase⟩], none⟩] false)
   .ret)
   .skip))
  (.seq (.region 4 #[
    ⟨some 18, .move (.tmp 0), T, "slices.go:231", #[], none⟩,
    ⟨some 19, .call ⟨.builtin .len, #[(.tmp 18)], #[T]⟩, I, "slices.go:231", #[⟨0, .data⟩], none⟩,
    ⟨some 7, .assign (.tmp 19), I, "slices.go:231", #[⟨1, .data⟩, ⟨0, .phase⟩, ⟨1, .phase⟩], none⟩] false)
  (.seq (.region 5 #[
    ⟨some 20, .move (.tmp 0), T, "slices.go:232", #[], none⟩,
    ⟨some 21, .move (.tmp 1), I, "slices.go:232", #[], none⟩,
    ⟨some 22, .slice T (.tmp 20) none (some (.tmp 21)) none, T, "slices.go:232", #[⟨0, .data⟩, ⟨1, .data⟩], none⟩,
    ⟨some 23, .move (.tmp 0), T, "slices.go:232", #[], none⟩,
    ⟨some 24, .move (.tmp 2), I, "slices.go:232", #[], none⟩,
    ⟨some 25, .slice T (.tmp 23) (some (.tmp 24)) none none, T, "slices.go:232", #[⟨3, .data⟩, ⟨4, .data⟩], none⟩,
    ⟨some 26, .call ⟨.builtin .append, #[(.tmp 22), (.tmp 25)], #[T, T]⟩, T, "slices.go:232", #[⟨2, .data⟩, ⟨5, .data⟩], none⟩,
    ⟨some 0, .assign (.tmp 26), T, "slices.go:232", #[⟨6, .data⟩, ⟨6, .chain⟩, ⟨0, .phase⟩, ⟨1, .phase⟩, ⟨2, .phase⟩, ⟨3, .phase⟩, ⟨4, .phase⟩, ⟨5, .phase⟩, ⟨6, .phase⟩], none⟩] true)
  (.seq (.region 6 #[
    ⟨some 27, .move (.tmp 0), T, "slices.go:233", #[], none⟩,
    ⟨some 28, .move (.tmp 0), T, "slices.go:233", #[], none⟩,
    ⟨some 29, .call ⟨.builtin .len, #[(.tmp 28)], #[T]⟩, I, "slices.go:233", #[⟨1, .data⟩], none⟩,
    ⟨some 30, .move (.tmp 7), I, "slices.go:233", #[], none⟩,
    ⟨some 31, .slice T (.tmp 27) (some (.tmp 29)) (some (.tmp 30)) none, T, "slices.go:233", #[⟨0, .data⟩, ⟨2, .data⟩, ⟨3, .data⟩], none⟩,
    ⟨none, .call ⟨.builtin .clear, #[(.tmp 31)], #[T]⟩, U, "slices.go:233", #[⟨4, .data⟩], none⟩] false)
  (.seq (.region 7 #[
    ⟨some 32, .move (.tmp 0), T, "slices.go:234", #[], none⟩,
    ⟨some 6, .assign (.tmp 32), T, "slices.go:234", #[⟨0, .data⟩, ⟨0, .phase⟩], none⟩] false)
  .ret)))))))
theorem KC (w:World) {ops:Array Oper} {rest:List Oper} {o:Oper} {a:Act} {Q:Exit→Act→World→Prop} (hgd:o.guard=none) (d:Operand) (t:TypeId)
  (ho:o.op = .call { callee:=.builtin .clear,args:=#[d],argTypes:=#[t] }) (v:Value) (hd:a.eval d=v) {v':Value} {w':World}
  (hr:(Builtin.clear_ #[t] o.type #[v]).run P w = .ok v' w') (h:wpList P ops Q rest (a.put o.dst v') w'):wpList P ops Q (o::rest) a w:=
 wpList_plain hgd fun _ hK=>by
  unfold Oper.wp execOp
  simp only [ho,resolve,invoke,builtin,Sem.run_bind,Sem.run_pure,Result.andThen_ok,List.map_toArray,List.map_cons,List.map_nil,hd,hr]
  exact hK _ _ h
theorem K7 {ops:Array Oper} {o:Oper} {a:Act} {w:World} {K:Act→World→Prop} {Q:Exit→Act→World→Prop} {E:Prop}
  (hg:o.guard=none) (d x:Operand) (dT sT:TypeId) (hop:o.op=Op.call { callee:=Callee.builtin Builtin.append,args:=#[d,x],argTypes:=#[dT,sT] })
  (v u:Value) (hd:a.eval d=v) (hx:a.eval x=u) {v':Value} {w':World} (hr:(Builtin.append_ #[dT,sT] o.type #[v,u]).run P w = .ok v' w') (hK:K (a.put o.dst v') w') :
  if Region.wanted o (yielded ops a.tmps)=true then Oper.wp P o a w K Q else E:=by
 have hw:Region.wanted o (yielded ops a.tmps)=true:=by simp [Region.wanted,hg]
 rw [if_pos hw]
 unfold Oper.wp
 simp [execOp,hop,resolve,invoke,builtin,hd,hx,hr,Result.andThen]
 exact hK
def J6 (U:List Value) (k n i j:Nat):List Value:=U.take (i*k)++(U.drop (j*k)).take ((n-j)*k)++U.drop (i*k+(n-j)*k)
def Zbo (R:List Value) (zc:List Value) (k n q:Nat):List Value:=R.take (q*k)++(List.replicate (n-q) zc).flatten++R.drop (q*k+(n-q)*k)
set_option maxHeartbeats 4000000 in
set_option maxRecDepth 100000 in
theorem Zo1 {T B I U e:TypeId} {inf:TypeInfo} {z:Value} {k:Nat} (L:Zb2 P T B I e inf z k) {f:FuncId} {fn:Func} (hf:P.funcs[f]? = some fn) (hb:fn.body=some (delCode T B I U)) (hnt:fn.ntmps=33) (hrs:fn.results = #[.tmp 6])
  (b n c i j:Nat) (cur:Array Value) (w:World) (hij:i < j) (hjn:j≤n) (hnc:n≤c) (hc63:c≤9223372036854775807) (hg:w.heap[b]? = some (.cells cur e (0,0))) (hcs:cur.size=c*k)
  (h1c:∀ v∈cur.toList.take (n*k),v.oneCell'=true) (h1z:∀ v∈z.cells.toList,v.oneCell'=true) :
  Calls P f #[.slice (some ⟨b,0,none⟩) n c,.int .i64 i,.int .i64 j] w fun e' w'=>
   e' = .returned (.slice (some ⟨b,0,none⟩) (i+(n-j)) c)∧w'=(w.drew.setRow b (J6 cur.toList k n i j).toArray).setRow b (Zbo (J6 cur.toList k n i j) z.cells.toList k n (i+(n-j))).toArray:=by
 have mixed:=L.mixed
 have t0:=L.tT;have t1:=L.tI;have t2:=L.tB
 have u0:=run_underlying L.tT;have u1:=run_underlying L.tI;have u2:=run_underlying L.tB
 have zsE:∀ w,(Go.sizeOf e).run P w = .ok k w:=fun w=>by rw [Zx L.ie];rw [ZG L.ie,L.sz]
 have hk:=L.pos
 have hn3:(n-j)*k=n*k-j*k:=Nat.sub_mul _ _ _
 have hn4:i*k≤j*k:=Nat.mul_le_mul_right _ (by omega)
 have hn5:n*k≤c*k:=Nat.mul_le_mul_right _ hnc
 have hn6:j*k≤n*k:=Nat.mul_le_mul_right _ hjn
 have hn7:(i+(n-j))*k=i*k+(n-j)*k:=Nat.add_mul _ _ _
 have hn8:(n-(i+(n-j)))*k=n*k-(i+(n-j))*k:=Nat.sub_mul _ _ _
 have hcl:cur.toList.length=c*k:=by simpa using hcs
 have hR1l:(J6 cur.toList k n i j).length=c*k:=by simp only [J6,List.length_append,List.length_take,List.length_drop,hcl];omega
 have hlen:((cur.toList.drop (j*k)).take ((n-j)*k)).length=(n-j)*k:=by rw [List.length_take,List.length_drop,hcl];omega
 have h1n:∀ v∈(cur.toList.drop (j*k)).take ((n-j)*k),v.oneCell'=true:=fun v hv=>h1c v (by
    rw [hn3,← List.drop_take] at hv
    exact List.mem_of_mem_drop hv)
 have hap:∀ (A:Addr) sc ty,(n-j≠0→A=⟨b,j*k,none⟩)→(Builtin.append_ #[T,T] ty #[.slice (some ⟨b,0,none⟩) i c,.slice (some A) (n-j) sc]).run P w.drew = .ok (.slice (some ⟨b,0,none⟩) (i+(n-j)) c) (w.drew.setRow b (J6 cur.toList k n i j).toArray):=fun A sc ty hA=>by
  have:=run_append_room (P:=P) w.drew T ty e inf L.tT L.ie b i c cur hg A (n-j) sc ((cur.toList.drop (j*k)).take ((n-j)*k)) (by rw [hlen,L.sz]) (fun t u ht=>by
    have hlt:=(List.getElem?_eq_some_iff.1 ht).1
    rw [hlen] at hlt
    have hne:n-j≠0:=by
     intro h
     rw [h] at hlt
     omega
    rw [hA hne]
    refine VH (w:=w.drew) hg (l:=(cur.toList.drop (j*k)).take ((n-j)*k)) (fun t u ht=>?_) t u ht
    rw [List.getElem?_take] at ht
    split at ht
    ·rw [List.getElem?_drop] at ht;simpa using ht
    ·cases ht) h1n (by omega) (by rw [hlen,hcs,L.sz];omega)
  rw [hlen,L.sz] at this
  exact this
 obtain ⟨p,hp⟩:∃ p,n-(i+(n-j))=p+1:=⟨n-(i+(n-j))-1,by omega⟩
 have hclr:∀ ty cc,(Builtin.clear_ #[T] ty #[.slice (some ⟨b,(i+(n-j))*k,none⟩) (n-(i+(n-j))) cc]).run P (w.drew.setRow b (J6 cur.toList k n i j).toArray) = .ok (.tuple #[]) ((w.drew.setRow b (J6 cur.toList k n i j).toArray).setRow b (Zbo (J6 cur.toList k n i j) z.cells.toList k n (i+(n-j))).toArray):=fun ty cc=>by
  have:=WH (P:=P) (w:=w.drew.setRow b (J6 cur.toList k n i j).toArray) (ty:=ty) (o:=i*k+(n-j)*k) (n:=p) (c:=cc) L.tT L.ie L.zero (Yj (w:=w.drew) hg) (by
   have hs:(J6 cur.toList k n i j).toArray.size=c*k:=by simpa using hR1l
   rw [hs,← hp,L.zsz,hn8,hn7];omega) h1z
  rw [← hp,L.zsz,← hn7] at this
  exact this
 have hb0:(i:Int)≤(j:Int):=by omega
 have hb1:(j:Int)≤(n:Int):=by omega
 have hb2:¬ ((i:Int)=(j:Int)):=by omega
 have hb3:(i:Int)≤(n:Int):=by omega
 have hb4:(i:Int)+((n:Int)-(j:Int))≤(n:Int):=by omega
 have hb5:((i+(n-j):Nat):Int)≤(n:Int):=by omega
 have hb6:¬ (c=i+(n-j)):=by omega
 have hic:(i:Int)≤(c:Int):=by omega
 have hjc:(j:Int)≤(c:Int):=by omega
 have hnc':(n:Int)≤(c:Int):=by omega
 obtain ⟨zc,hzc⟩:∃ zc,zc=z.cells.toList:=⟨_,rfl⟩
 rw [← hzc] at hclr ⊢
 clear hg hcs hcl h1c h1z hR1l hlen h1n hn8 hp hn3 hn4 hn5 hn6 hn7 hzc
 refine calls_of_wp hf hb ?_
 rw [hnt]
 simp only [List.size_toArray,List.length_cons,List.length_nil,Nat.reduceAdd,Nat.reduceSub,Array.replicate_succ,Array.replicate_zero,List.push_toArray,List.append_toArray,List.nil_append,List.cons_append]
 unfold delCode
 by_cases hcj:c=j
 ·have hnn:n=c:=by omega
  subst hnn
  subst hcj
  have hap':=fun ty=>hap ⟨b,0,none⟩ (n-n) ty (by omega)
  simp only [Nat.sub_self,Nat.add_zero] at hap' hclr hb6 hb5 ⊢
  go_wp2
  go_region_law_o (refine K7 rfl _ _ T T rfl _ _ (by simp [Act.eval,Act.put]) (by simp [Act.eval,Act.put]) (hap' _) ?_)
  go_wp2_with (at_builtin;refine KC _ rfl _ T rfl _ rfl (hclr _ _) ?_)
  refine bodyPost_ret (results_tmp hrs _ _ _) rfl ?_
  exact ⟨rfl,rfl⟩
 ·have hap':=fun ty=>hap ⟨b,j*k,none⟩ (c-j) ty (fun _=>rfl)
  go_wp2
  go_region_law_o (refine K7 rfl _ _ T T rfl _ _ (by simp [Act.eval,Act.put]) (by simp [Act.eval,Act.put]) (hap' _) ?_)
  go_wp2_with (at_builtin;refine KC _ rfl _ T rfl _ rfl (hclr _ _) ?_)
  refine bodyPost_ret (results_tmp hrs _ _ _) rfl ?_
  exact ⟨rfl,rfl⟩
def Zam {α β:Type} (R:α→β→Prop) (A:List α) (B:List β):Prop:=∀ (j:Nat) (z:α) (u:β),A[j]? = some z→B[j]? = some u→R z u
theorem Zam.app {α β:Type} {R:α→β→Prop} {A A':List α} {B B':List β} (hl:A.length=B.length) (h:Zam R A B) (h':Zam R A' B'):Zam R (A++A') (B++B'):=by
 intro j z u hz hu
 by_cases hj:j < A.length
 ·rw [List.getElem?_append_left hj] at hz
  rw [List.getElem?_append_left (by omega)] at hu
  exact h j z u hz hu
 ·rw [List.getElem?_append_right (by omega)] at hz
  rw [List.getElem?_append_right (by omega),← hl] at hu
  exact h' _ z u hz hu
theorem Zam.take {α β:Type} {R:α→β→Prop} {A:List α} {B:List β} (h:Zam R A B) (n:Nat):Zam R (A.take n) (B.take n):=by
 intro j z u hz hu
 rw [List.getElem?_take] at hz hu
 split at hz
 ·rename_i hj
  rw [if_pos hj] at hu
  exact h j z u hz hu
 ·cases hz
theorem Zam.drop {α β:Type} {R:α→β→Prop} {A:List α} {B:List β} (h:Zam R A B) (n:Nat):Zam R (A.drop n) (B.drop n):=by
 intro j z u hz hu
 rw [List.getElem?_drop] at hz hu
 exact h _ z u hz hu
theorem Zam.cut {α β:Type} {R:α→β→Prop} {A:List α} {B:List β} (h:Zam R A B) (n:Nat):Zam R A (B.take n):=by
 intro j z u hz hu
 rw [List.getElem?_take] at hu
 split at hu
 ·exact h j z u hz hu
 ·cases hu
theorem Zam.ext {α β:Type} {R:α→β→Prop} {A:List α} {B C:List β} (h:Zam R A B) (hl:A.length≤B.length):Zam R A (B++C):=by
 intro j z u hz hu
 have:=(List.getElem?_eq_some_iff.1 hz).1
 rw [List.getElem?_append_left (by omega)] at hu
 exact h j z u hz hu
theorem ZkK {U vs:List Value} {k n m i:Nat} (hi:i≤n) (hU:(n+m)*k≤U.length) :
  Zdy U vs k n m i=U.take (i*k)++vs++((U.drop (i*k)).take ((n-i)*k)++U.drop ((i+m)*k+(n-i)*k)):=by
 have h1:(i+m)*k=i*k+m*k:=Nat.add_mul _ _ _
 have h2:(n+m)*k=n*k+m*k:=Nat.add_mul _ _ _
 have h3:i*k≤n*k:=Nat.mul_le_mul_right _ hi
 have hl:(U.take ((i+m)*k)).length=i*k+m*k:=by rw [List.length_take];omega
 unfold Zdy Yi
 congr 1
 ·congr 1
  rw [List.append_assoc,List.take_append_of_le_length (by omega),List.take_take]
  congr 1
  omega
 ·rw [List.append_assoc,List.drop_append_of_le_length (by omega),List.drop_of_length_le (by omega),List.nil_append]
theorem Ziu {U vs R:List Value} {k n m i:Nat} (hv:vs.length=m*k) (hR:i*k+m*k≤R.length) (hRU:R.take (i*k)=U.take (i*k)) :
  ZbO (KT R vs k m i) U k n m i=U.take (i*k)++vs++((U.drop (i*k)).take ((n-i)*k)++(KT R vs k m i).drop (i*k+m*k+(n-i)*k)):=by
 have hl:(R.take (i*k)++vs).length=i*k+m*k:=by rw [List.length_append,List.length_take,hv];omega
 unfold ZbO
 rw [List.append_assoc]
 congr 1
 unfold KT
 rw [List.take_append_of_le_length (by omega),List.take_of_length_le (by omega),hRU]
theorem Zi2 {U zc:List Value} {k n i j:Nat} (hij:i≤j) (hj:j≤n) (hU:n*k≤U.length) :
  Zbo (J6 U k n i j) zc k n (i+(n-j))=U.take (i*k)++(U.drop (j*k)).take ((n-j)*k)++
   ((List.replicate (n-(i+(n-j))) zc).flatten++(J6 U k n i j).drop ((i+(n-j))*k+(n-(i+(n-j)))*k)):=by
 have h1:(i+(n-j))*k=i*k+(n-j)*k:=Nat.add_mul _ _ _
 have h2:(n-j)*k=n*k-j*k:=Nat.sub_mul _ _ _
 have h3:i*k≤j*k:=Nat.mul_le_mul_right _ hij
 have h4:j*k≤n*k:=Nat.mul_le_mul_right _ hj
 have hl:(U.take (i*k)++(U.drop (j*k)).take ((n-j)*k)).length=(i+(n-j))*k:=by rw [List.length_append,List.length_take,List.length_take,List.length_drop];omega
 unfold Zbo
 rw [List.append_assoc]
 congr 1
 unfold J6
 rw [List.take_append_of_le_length (by omega),List.take_of_length_le (by omega)]
theorem Zed {w:World} {lim:Nat→Nat} {x:Bool} {e:TypeId} {xs:List (List AV)} {v:Value} {ob:Option Nat} (h:ZQ P w lim x e xs v ob) (hne:xs≠[]) (hnm:Zm P e=false) :
  ∃ b arr cap,ob=some b∧v = .slice (some ⟨b,0,none⟩) xs.length cap∧w.heap[b]? = some (.cells arr e (0,0))∧xs.length≤cap∧cap≤maxLen∧arr.size=cap*P.cellsOf e∧
   (∀ x∈xs,x.length=P.cellsOf e)∧(∀ x∈xs,∀ z∈x,z.isCell=true)∧Zam (Rep w lim) xs.flatten arr.toList∧(∀ b',ob=some b'→x=true→lim b'=0):=by
 rcases h.noMap hnm with ⟨us,h1,h2,h3,h4,h5,h6⟩ | ⟨h,_⟩
 ·rcases h1.2 with ⟨hv,hn⟩ | ⟨g,cap,cur,hv,hbg,hg,hnc,hcm,hcs,htake⟩
  ·exact (hne (List.eq_nil_of_length_eq_zero hn)).elim
  ·refine ⟨g,cur,cap,by rw [← h2,hv];rfl,hv,hg,hnc,hcm,hcs,h4,h5,fun j z u hz hu=>h6 j z u hz ?_,fun b' hb' hx=>by rw [h3 b' hb',if_pos hx]⟩
   have hj:=(List.getElem?_eq_some_iff.1 hz).1
   rw [Zl xs _ h4] at hj
   rw [← htake,List.getElem?_take,if_pos hj]
   exact hu
 ·exact (hne h).elim
theorem Zev {w:World} {lim:Nat→Nat} {xs:List (List AV)} {us:List Value} (hc:∀ x∈xs,∀ z∈x,z.isCell=true) (h:Zam (Rep w lim) xs.flatten us) (hl:us.length≤xs.flatten.length):∀ v∈us,v.oneCell'=true:=by
 intro v hv
 obtain ⟨j,hj⟩:=List.mem_iff_getElem?.1 hv
 have hlt:=(List.getElem?_eq_some_iff.1 hj).1
 have hz:=List.getElem?_eq_getElem (l:=xs.flatten) (i:=j) (by omega)
 obtain ⟨y,hy1,hy2⟩:=List.mem_flatten.1 (List.getElem_mem (l:=xs.flatten) (n:=j) (by omega))
 exact (h j _ v hz hj).oneCell (hc y hy1 _ hy2)
theorem ZN.trans {w w1 w2:World} {l l1 l2:Nat→Nat} {S S1 S2:Nat→Prop} (h:ZN w l w1 l1 S1) (h':ZN w1 l1 w2 l2 S2) (h1:∀ b,S1 b→S b) (h2:∀ b,S2 b→S b∨w.heap.size≤b):ZN w l w2 l2 S where
 os:=h'.os.trans h.os
 tape:=h'.tape.trans h.tape
 output:=h'.output.trans h.output
 size:=Nat.le_trans h.size h'.size
 frz a ha:=(h'.frz a (Nat.lt_of_lt_of_le ha h.size)).trans (h.frz a ha)
 blk b hb hn:=by
  have k1:=h.blk b hb fun hs=>hn (h1 b hs)
  have k2:=h'.blk b (Nat.lt_of_lt_of_le hb h.size) fun hs=>(h2 b hs).elim hn (fun h=>by omega)
  exact ⟨k2.1.trans k1.1,k2.2.trans k1.2⟩
 ext:=h.ext.trans h'.ext h.size
theorem Zag (x:Bool) {f:FuncId} {args:List AV} {e:TypeId} {zs:List (List AV)} (hc:Callable P f) (hnm:Zm P e=false)
  (h:∀ (w:World) (lim:Nat→Nat) (X:Nat→Nat→Option Nat) (cargs:List Value),cargs.length≤args.length→(∀ i,ZP P w lim X (ZM args) i (ZM args i) (cargs.getD i undef))→ZkF X→(∀ i k b,X i k=some b→b < w.heap.size)→
   Calls P f cargs.toArray w fun e' w'=>∃ v lim' ob',e' = .returned v∧ZQ P w' lim' true e zs v ob'∧ZN w lim w' lim' (fun b=>∃ i k,X i k=some b)∧∀ b,ob'=some b→b < w'.heap.size∧(((∃ i k,X i k=some b)∧lim b=0)∨w.heap.size≤b)) (hal:args.length < 1024:=by simp) :
  JM P f args (.own x e zs) (List.replicate args.length .dead):=by
 refine ⟨hc,Nat.lt_trans hal (by decide),fun w lim X cargs hl hrel hd hs _=>?_⟩
 refine (h w lim X cargs (by omega) hrel hd hs).mono ?_
 rintro e' w' ⟨v,lim1,ob',he,ho1,hw1,hb1⟩
 have hx:∃ lim',ZQ P w' lim' x e zs v ob'∧ZN w lim w' lim' (fun b=>∃ i k,X i k=some b):=by
  cases x
  case true=>exact ⟨lim1,ho1,hw1⟩
  case false=>
   cases ob' with
   | none =>
    refine ⟨lim1,?_,hw1⟩
    rcases ho1.noMap hnm with ⟨us,h1,h2,h3,h4,h5,h6⟩ | h
    ·exact .inl ⟨us,h1,h2,fun b hb=>(by cases hb),h4,h5,h6⟩
    ·exact .inr (.inl h)
   | some b0 =>
    have hl0:lim1 b0=0:=by
     rcases ho1.noMap hnm with ⟨us,h1,h2,h3,_⟩ | ⟨_,h,_⟩
     ·rw [h3 b0 rfl];rfl
     ·cases h
    have hbb:=hb1 b0 rfl
    have hext:Ext w' lim1 w' (Vl lim1 b0 (zs.length*P.cellsOf e)):=fun b _=>by
     refine ⟨?_,fun o u _ hu=>hu⟩
     unfold Vl
     split
     ·rename_i h;rw [h,hl0];exact Nat.zero_le _
     ·exact Nat.le_refl _
    refine ⟨_,ZbH ho1 hnm hext,⟨hw1.os,hw1.tape,hw1.output,hw1.size,hw1.frz,fun b hb hn=>?_,hw1.ext.trans hext hw1.size⟩⟩
    obtain ⟨k1,k2⟩:=hw1.blk b hb hn
    refine ⟨k1,?_⟩
    have hne:b≠b0:=by
     rintro rfl
     rcases hbb.2 with h1 | h1
     ·exact hn h1.1
     ·omega
    show (if b=b0 then _ else lim1 b)=lim b
    rw [if_neg hne]
    exact k2
 obtain ⟨lim',ho,hw⟩:=hx
 have hb:∀ b,ob'=some b→b < w'.heap.size∧((∃ i k,X i k=some b)∨w.heap.size≤b):=fun b hb=>⟨(hb1 b hb).1,(hb1 b hb).2.imp (·.1) id⟩
 have hat:∀ i,ZM (List.replicate args.length AV.dead++[.own x e zs]) i=if i=args.length then .own x e zs else .dead:=by
  intro i
  unfold ZM
  by_cases hi:i < args.length
  ·rw [List.getElem?_append_left (by simpa using hi),List.getElem?_replicate,if_pos hi,if_neg (by omega)];rfl
  ·rw [List.getElem?_append_right (by simpa using hi),List.length_replicate]
   by_cases hi2:i=args.length
   ·subst hi2
    rw [if_pos rfl,Nat.sub_self]
    rfl
   ·rw [if_neg hi2,List.getElem?_eq_none (by simp;omega)]
    rfl
 refine ⟨v,lim',fun i k=>if i=args.length∧k=0 then ob' else none,he,hw,by simp,fun i=>?_,?_,?_,?_,fun i k e1 xs1 hi=>?_,fun k e1 xs1 b m1 m2=>?_⟩
 ·rw [hat]
  by_cases hi:i=args.length
  ·subst hi
   rw [if_pos rfl]
   show ZQ P w' lim' x e zs _ _
   unfold W3
   rw [if_pos rfl]
   show ZQ P w' lim' x e zs _ (if args.length=args.length∧0=0 then ob' else none)
   rw [if_pos ⟨rfl,rfl⟩]
   exact ho
  ·rw [if_neg hi]
   trivial
 ·intro d k d' k' b h1 h2
  dsimp only at h1 h2
  split at h1
  ·split at h2
   ·rename_i a1 a2
    exact ⟨a1.1.trans a2.1.symm,a1.2.trans a2.2.symm⟩
   ·cases h2
  ·cases h1
 ·intro i k b h1
  dsimp only at h1
  split at h1
  ·exact hb b h1
  ·cases h1
 ·intro i h1
  rw [hat] at h1
  split at h1<;>simp [AV.isG] at h1
 ·exfalso
  have hdead:ZM (List.replicate args.length AV.dead) i = .dead:=by
   unfold ZM
   rw [List.getElem?_replicate]
   split<;>rfl
  rw [hdead] at hi
  cases k<;>cases hi
 ·exfalso
  cases k with
  | succ k => cases x <;> cases m1
  | zero =>
   cases x with
   | false => cases m1
   | true =>
    simp only [ZX,Option.some.injEq,Prod.mk.injEq] at m1
    rw [← m1.1,ZT hnm] at m2
    cases m2
theorem Zga {w:World} {lim:Nat→Nat} {e:TypeId} {xs:List (List AV)} {v:Value} {ob:Option Nat} {b:Nat} (h:ZQ P w lim true e xs v ob) (hb:ob=some b):lim b=0:=by
 rcases h with ⟨us,h1,h2,h3,_⟩ | ⟨_,h,_⟩ | ⟨_,⟨_,b',_,_,_,_,_,h,_,_,hl,_⟩ | h | ⟨_,b',_,_,_,_,_,h,_,_,hl,_⟩⟩
 ·rw [h3 b hb];rfl
 ·rw [h] at hb;cases hb
 ·rw [h] at hb;cases hb;exact hl
 ·subst hb;exact h.2.2.lim0
 ·rw [h] at hb;cases hb;exact hl
theorem Zdk {cargs:List Value} (hl:cargs.length≤3) (h:cargs.getD 2 undef≠undef):cargs.toArray = #[cargs.getD 0 undef,cargs.getD 1 undef,cargs.getD 2 undef]:=by
 match cargs,hl,h with
 | [], _, h => exact (h rfl).elim
 | [_], _, h => exact (h rfl).elim
 | [_, _], _, h => exact (h rfl).elim
 | [_, _, _], _, _ => rfl
 | _ :: _ :: _ :: _ :: _, hl, _ => simp at hl
theorem arg_int {w:World} {lim:Nat→Nat} {X:Nat→Nat→Option Nat} {σ:Nat→AV} {d:Nat} {k:IntKind} {z:Int} {v:Value} (h:ZP P w lim X σ d (.val (.int k z)) v):v = .int k z:=KN (show Rep w lim _ v from h)
structure Zq3 (P:Program) (T B I:TypeId) (fO fR:FuncId) (f:FuncId):Prop where
 fn : ∃ fn, P.funcs[f]? = some fn ∧ fn.body = some (insCode T B I fO fR) ∧ fn.ntmps = 95 ∧ fn.results = #[.tmp 6] ∧ (fn.name == "runtime.NumGoroutine") = false
theorem Zp2 (x:Bool) {T B I:TypeId} {fO fR:FuncId} {e:TypeId} {inf:TypeInfo} {z:Value} {k:Nat} (L:Zcl P T B I fO e inf z k) {f:FuncId} (hF:Zq3 P T B I fO fR f) {xs ys:List (List AV)} {i:Int}
  (h0:0≤i) (hi:i.toNat≤xs.length) (hys:ys≠[]) (hroom:(xs.length+ys.length)*(inf.bytes+1)≤Ja) :
  JM P f [.own true e xs,.val (.int .i64 i),.own false e ys] (.own x e (xs.take i.toNat++ys++xs.drop i.toNat)) [.dead,.dead,.dead]:=by
 obtain ⟨fn,hf,hb,hnt,hrs,hname⟩:=hF.fn
 have hce:P.cellsOf e=k:=by rw [ZG L.ie,L.sz]
 have hb1:xs.length+ys.length≤1099511627776:=by
  have:(xs.length+ys.length)*1≤(xs.length+ys.length)*(inf.bytes+1):=Nat.mul_le_mul_left _ (by omega)
  unfold Ja at hroom
  omega
 have hb2:(xs.length+ys.length)*inf.bytes≤1099511627776:=by
  have:(xs.length+ys.length)*inf.bytes≤(xs.length+ys.length)*(inf.bytes+1):=Nat.mul_le_mul_left _ (by omega)
  unfold Ja at hroom
  omega
 have hm0:0 < ys.length:=List.length_pos_iff.2 hys
 refine Zag x (args:=[.own true e xs,.val (.int .i64 i),.own false e ys]) ⟨fn,hf,hname,by rw [hb];rfl⟩ L.nm fun w lim X cargs hl hrel hdist hsize=>?_
 have r0:ZQ P w lim true e xs (cargs.getD 0 undef) (X 0 0):=hrel 0
 have r1:=arg_int (hrel 1)
 have r2:ZQ P w lim false e ys (cargs.getD 2 undef) (X 2 0):=hrel 2
 obtain ⟨vb,vcur,vc,hX2,hv2,hvg,hmv,hvcm,hvs,hyl,hyc,hyr,_⟩:=Zed r2 hys L.nm
 have hrep2:=ZQ.rep r2 false rfl
 rw [Zdk hl (by rw [hv2];simp [undef]),r1]
 have hii:i=((i.toNat:Nat):Int):=by omega
 rw [hii]
 obtain ⟨q,hq⟩:∃ q,q=i.toNat:=⟨_,rfl⟩
 have hqe:(((i.toNat:Nat):Int)).toNat=q:=by omega
 rw [hqe,← hq]
 rw [← hq] at hi
 by_cases hend:q=xs.length
 ·obtain ⟨v',w',lim',ob',hrun,ho,hst,hob⟩:=Ky (ty:=T) L.tT L.ie L.zero (by rw [L.zsz,L.sz]) r0 (.of hrep2) hroom L.nm
  have hvform:∃ base cap,cargs.getD 0 undef = .slice base xs.length cap∧xs.length≤cap:=by
   rcases r0.noMap L.nm with ⟨us,hr,_⟩ | ⟨rfl,_,a,hv⟩
   ·rcases hr.2 with ⟨hv,hn⟩ | ⟨g,cap,cur,hv,_,_,hnc,_⟩
    ·exact ⟨none,0,by rw [hv,hn],by omega⟩
    ·exact ⟨_,cap,hv,hnc⟩
   ·exact ⟨_,0,hv,Nat.le_refl _⟩
  obtain ⟨base,cap,hv0,hle⟩:=hvform
  rw [hend,hv0,hv2]
  rw [hv0,hv2] at hrun
  have hty:∀ ty,(Builtin.append_ #[T,T] ty #[.slice base xs.length cap,.slice (some ⟨vb,0,none⟩) ys.length vc]).run P w = .ok v' w':=fun ty=>hrun
  refine (ZoH L hf hb hnt hrs base xs.length cap _ ys.length vc w w' v' hm0 hle hty).mono ?_
  rintro e' w'' ⟨rfl,rfl⟩
  refine ⟨v',lim',ob',rfl,by rw [List.take_length,List.drop_length,List.append_nil];exact ho,⟨hst.os,hst.tape,hst.output,hst.size,hst.frz,fun b hb hn=>hst.blk b hb fun h=>hn ⟨0,0,h⟩,hst.ext⟩,fun b hb=>?_⟩
  rcases hob with h | h
  ·rw [h] at hb
   exact ⟨Nat.lt_of_lt_of_le (hsize 0 0 b hb) hst.size,.inl ⟨⟨0,0,hb⟩,Zga r0 hb⟩⟩
  ·subst h
   cases hb
   rcases ho.noMap L.nm with ⟨us,g1,g2,_⟩ | ⟨_,h,_⟩
   ·exact ⟨(g1.lt _ g2).2,.inr (Nat.le_refl _)⟩
   ·cases h
 ·have hlt:q < xs.length:=by omega
  have hxs:xs≠[]:=by rintro rfl;simp at hlt
  obtain ⟨b,cur,c,hX0,hv0,hg,hnc,hcm,hcs,hxl,hxc,hxr,hlim⟩:=Zed r0 hxs L.nm
  have hlb:lim b=0:=hlim b hX0 rfl
  have hvb:vb≠b:=by
   rintro rfl
   have:=(hdist 0 0 2 0 vb hX0 hX2).1
   omega
  rw [hce] at hcs hvs hxl hyl
  have hxf:xs.flatten.length=xs.length*k:=Zl xs k hxl
  have hyf:ys.flatten.length=ys.length*k:=Zl ys k hyl
  have hcl:cur.toList.length=c*k:=by simpa using hcs
  have hvl:vcur.toList.length=vc*k:=by simpa using hvs
  have hn5:xs.length*k≤c*k:=Nat.mul_le_mul_right _ hnc
  have hn6:ys.length*k≤vc*k:=Nat.mul_le_mul_right _ hmv
  have hn7:q*k≤xs.length*k:=Nat.mul_le_mul_right _ hi
  have hn8:(xs.length-q)*k=xs.length*k-q*k:=Nat.sub_mul _ _ _
  have hn9:(xs.length+ys.length)*k=xs.length*k+ys.length*k:=Nat.add_mul _ _ _
  have hxt:Zam (Rep w lim) xs.flatten (cur.toList.take (xs.length*k)):=hxr.cut _
  have hyt:Zam (Rep w lim) ys.flatten (vcur.toList.take (ys.length*k)):=hyr.cut _
  have h1c:∀ v∈cur.toList.take (xs.length*k),v.oneCell'=true:=Zev hxc hxt (by rw [List.length_take,hxf];omega)
  have h1v:∀ v∈vcur.toList.take (ys.length*k),v.oneCell'=true:=Zev hyc hyt (by rw [List.length_take,hyf];omega)
  have hzl:∀ x∈xs.take q++ys++xs.drop q,x.length=k:=by
   intro x hx
   rcases List.mem_append.1 hx with hx | hx
   ·rcases List.mem_append.1 hx with hx | hx
    ·exact hxl x (List.mem_of_mem_take hx)
    ·exact hyl x hx
   ·exact hxl x (List.mem_of_mem_drop hx)
  have hzc:∀ x∈xs.take q++ys++xs.drop q,∀ y∈x,y.isCell=true:=by
   intro x hx
   rcases List.mem_append.1 hx with hx | hx
   ·rcases List.mem_append.1 hx with hx | hx
    ·exact hxc x (List.mem_of_mem_take hx)
    ·exact hyc x hx
   ·exact hxc x (List.mem_of_mem_drop hx)
  have hzn:(xs.take q++ys++xs.drop q).length=xs.length+ys.length:=by
   simp only [List.length_append,List.length_take,List.length_drop]
   omega
  have heach:∀ rest,Zam (Rep w lim) (xs.take q++ys++xs.drop q).flatten (cur.toList.take (q*k)++vcur.toList.take (ys.length*k)++((cur.toList.drop (q*k)).take ((xs.length-q)*k)++rest)):=by
   intro rest
   rw [List.flatten_append,List.flatten_append,Km k xs q hxl,Kg k xs q hxl]
   refine Zam.app ?_ (Zam.app ?_ (hxr.take _) hyt) (Zam.ext ((hxr.drop _).cut _) ?_)
   ·simp only [List.length_append,List.length_take,hxf,hyf,hcl,hvl];omega
   ·simp only [List.length_take,hxf,hcl];omega
   ·simp only [List.length_take,List.length_drop,hxf,hcl];omega
  rw [hv0,hv2]
  by_cases hr:xs.length+ys.length≤c
  ·refine (Zke L hf hb hnt hrs b xs.length c q vb ys.length vc cur vcur w hlt hm0 hr (by unfold maxLen at hcm;omega) hvb hg hcs hvg hvs hmv h1c h1v).mono ?_
   rintro e' w' ⟨rfl,rfl⟩
   have s1:ZN w lim (w.drew.setRow b (Yi cur.toList k xs.length ys.length q).toArray) lim (fun x=>x=b):=by
    have:=Jc (w:=w.drew) (lim:=lim) (cs:=(Yi cur.toList k xs.length ys.length q).toArray) hg hlb
    exact ⟨this.os,this.tape,this.output,this.size,this.frz,this.blk,this.ext⟩
   have s2:=Jc (lim:=lim) (cs:=(Zdy cur.toList (vcur.toList.take (ys.length*k)) k xs.length ys.length q).toArray) (Yj (w:=w.drew) (cur':=(Yi cur.toList k xs.length ys.length q).toArray) hg) hlb
   have s3:ZN w lim _ lim (fun x=>∃ i j,X i j=some x):=s1.trans s2 (fun x hx=>⟨0,0,by rw [hx];exact hX0⟩) (fun x hx=>.inl ⟨0,0,by rw [hx];exact hX0⟩)
   have hU:(xs.length+ys.length)*k≤cur.toList.length:=by rw [hcl];exact Nat.mul_le_mul_right _ hr
   have heq:=ZkK (vs:=vcur.toList.take (ys.length*k)) hi hU
   refine ⟨_,lim,some b,rfl,?_,s3,fun b' hb'=>?_⟩
   ·have hrow:=KK (P:=P) (w:=(w.drew.setRow b (Yi cur.toList k xs.length ys.length q).toArray).setRow b (Zdy cur.toList (vcur.toList.take (ys.length*k)) k xs.length ys.length q).toArray) (lim:=lim) (e:=e)
     (xs:=xs.take q++ys++xs.drop q) (b:=b) (cap:=c) (Yj (Yj (w:=w.drew) hg)) hlb (by rw [hzn];exact hr) hcm ?_ (by rw [hce];exact hzl) hzc ?_
    ·rw [hzn] at hrow
     exact hrow
    ·rw [hce,List.size_toArray,heq]
     simp only [List.length_append,List.length_take,List.length_drop,hcl,hvl]
     have:(q+ys.length)*k=q*k+ys.length*k:=Nat.add_mul _ _ _
     have:(xs.length+ys.length)*k≤c*k:=Nat.mul_le_mul_right _ hr
     omega
    ·intro j z u hz hu
     rw [List.getElem?_toArray,heq] at hu
     exact (heach _ j z u hz hu).mono s3.ext
   ·cases hb'
    exact ⟨Nat.lt_of_lt_of_le (hsize 0 0 b hX0) s3.size,.inl ⟨⟨0,0,hX0⟩,hlb⟩⟩
  ·refine (Zmy L hf hb hnt hrs b xs.length c q vb ys.length vc cur vcur w hlt hm0 hnc (by omega) (by omega) (by omega) hg hcs hvg hvs hmv h1c h1v).mono ?_
   rintro e' w' ⟨G,hG1,hG2,rfl,rfl⟩
   obtain ⟨R0,hR0⟩:∃ R0,R0=Vx cur.toList z.cells k xs.length ys.length q G:=⟨_,rfl⟩
   rw [← hR0]
   have hR0s:R0.size=G*k:=by rw [hR0];exact ZaA L.zsz hi hG1 (by rw [hcl];omega)
   have hR0l:R0.toList.length=G*k:=by simpa using hR0s
   have hGk:(xs.length+ys.length)*k≤G*k:=Nat.mul_le_mul_right _ hG1
   have hvtl:(vcur.toList.take (ys.length*k)).length=ys.length*k:=by rw [List.length_take,hvl];omega
   have hRU:R0.toList.take (q*k)=cur.toList.take (q*k):=by
    rw [hR0]
    unfold Vx
    rw [Array.toList_append,Array.toList_append]
    rw [List.append_assoc,List.take_append_of_le_length (by simp only [List.length_take,hcl];omega),List.take_of_length_le (by simp only [List.length_take,hcl];omega)]
   have heq:=Ziu (U:=cur.toList) (n:=xs.length) (i:=q) hvtl (by rw [hR0l];omega) hRU
   obtain ⟨W0,hW0⟩:∃ W0,W0=w.drew.alloc (.cells R0 e):=⟨_,rfl⟩
   obtain ⟨l0,hl0⟩:∃ l0,l0=fun x=>if x=w.heap.size then 0 else lim x:=⟨_,rfl⟩
   have s0:ZN w lim W0 l0 (fun x=>∃ i j,X i j=some x):=by
    have:=YC w.drew lim R0 e 0 (fun x=>∃ i j,X i j=some x)
    rw [hW0,hl0]
    exact ⟨this.os,this.tape,this.output,this.size,this.frz,this.blk,this.ext⟩
   have g0:W0.heap[w.heap.size]? = some (.cells R0 e (0,0)):=by rw [hW0];exact YF w.drew R0 e
   have hll:l0 w.heap.size=0:=by rw [hl0];exact if_pos rfl
   rw [← hW0]
   obtain ⟨R1,hR1⟩:∃ R1,R1=KT R0.toList (vcur.toList.take (ys.length*k)) k ys.length q:=⟨_,rfl⟩
   rw [← hR1] at heq ⊢
   obtain ⟨R2,hR2⟩:∃ R2,R2=ZbO R1 cur.toList k xs.length ys.length q:=⟨_,rfl⟩
   rw [← hR2] at heq ⊢
   have hR1l:R1.length=G*k:=by
    rw [hR1]
    simp only [KT,List.length_append,hvtl,List.length_take,List.length_drop,hR0l]
    omega
   have s1:=Jc (cs:=R1.toArray) g0 hll
   have g1:((W0.setRow w.heap.size R1.toArray).drew).heap[w.heap.size]? = some (.cells R1.toArray e (0,0)):=Yj g0
   have s2:=Jc (w:=(W0.setRow w.heap.size R1.toArray).drew) (cs:=R2.toArray) g1 hll
   have s12:ZN w lim (W0.setRow w.heap.size R1.toArray).drew l0 (fun x=>∃ i j,X i j=some x):=(s0.trans s1 (fun x hx=>hx) (fun x hx=>.inr (by omega))).drew
   have s3:=s12.trans (S:=fun x=>∃ i j,X i j=some x) s2 (fun x hx=>hx) (fun x hx=>.inr (by omega))
   refine ⟨_,l0,some w.heap.size,rfl,?_,s3,fun b' hb'=>?_⟩
   ·have hrow:=KK (P:=P) (w:=((W0.setRow w.heap.size R1.toArray).drew).setRow w.heap.size R2.toArray) (lim:=l0) (e:=e)
     (xs:=xs.take q++ys++xs.drop q) (b:=w.heap.size) (cap:=G) (Yj g1) hll (by rw [hzn];exact hG1) hG2 ?_ (by rw [hce];exact hzl) hzc ?_
    ·rw [hzn] at hrow
     exact hrow
    ·rw [hce,List.size_toArray,heq]
     simp only [List.length_append,hvtl,List.length_take,List.length_drop,hcl,hR1l]
     omega
    ·intro j z u hz hu
     rw [List.getElem?_toArray,heq] at hu
     exact (heach _ j z u hz hu).mono s3.ext
   ·cases hb'
    exact ⟨Nat.lt_of_lt_of_le (by have:=(Array.getElem?_eq_some_iff.1 g1).1;exact this) s2.size,.inr (Nat.le_refl _)⟩
set_option maxHeartbeats 4000000 in
set_option maxRecDepth 100000 in
theorem Zl2 {T B I U e:TypeId} {inf:TypeInfo} {z:Value} {k:Nat} (L:Zb2 P T B I e inf z k) {f:FuncId} {fn:Func} (hf:P.funcs[f]? = some fn) (hb:fn.body=some (delCode T B I U)) (hnt:fn.ntmps=33) (hrs:fn.results = #[.tmp 6])
  (base:Option Addr) (n c i:Nat) (w:World) (hin:i≤n) (hnc:n≤c) :
  Calls P f #[.slice base n c,.int .i64 i,.int .i64 i] w fun e' w'=>e' = .returned (.slice base n c)∧w'=w:=by
 have mixed:=L.mixed
 have t0:=L.tT;have t1:=L.tI;have t2:=L.tB
 have u0:=run_underlying L.tT;have u1:=run_underlying L.tI;have u2:=run_underlying L.tB
 have zsE:∀ w,(Go.sizeOf e).run P w = .ok k w:=fun w=>by rw [Zx L.ie];rw [ZG L.ie,L.sz]
 have hb0:(i:Int)≤(n:Int):=by omega
 have hb1:(n:Int)≤(c:Int):=by omega
 have hb2:(i:Int)≤(c:Int):=by omega
 refine calls_of_wp hf hb ?_
 rw [hnt]
 simp only [List.size_toArray,List.length_cons,List.length_nil,Nat.reduceAdd,Nat.reduceSub,Array.replicate_succ,Array.replicate_zero,List.push_toArray,List.append_toArray,List.nil_append,List.cons_append]
 unfold delCode
 cases base with
 | none =>
  go_wp2
  all_goals
   refine bodyPost_ret (results_tmp hrs _ _ _) rfl ?_
   exact ⟨rfl,rfl⟩
 | some a =>
  obtain ⟨ab,ao,asp⟩:=a
  go_wp2
  all_goals
   refine bodyPost_ret (results_tmp hrs _ _ _) rfl ?_
   exact ⟨rfl,rfl⟩
structure ZqL (P:Program) (T B I U:TypeId) (z:Value) (f:FuncId):Prop where
 fn : ∃ fn, P.funcs[f]? = some fn ∧ fn.body = some (delCode T B I U) ∧ fn.ntmps = 33 ∧ fn.results = #[.tmp 6] ∧ (fn.name == "runtime.NumGoroutine") = false
 one:∀ v∈z.cells.toList,v.oneCell'=true
theorem Zpm (x:Bool) {T B I U e:TypeId} {inf:TypeInfo} {z:Value} {k:Nat} (L:Zb2 P T B I e inf z k) {f:FuncId} (hF:ZqL P T B I U z f) {xs:List (List AV)} {i j:Int}
  (h0:0≤i) (hij:i≤j) (hj:j.toNat≤xs.length) :
  JM P f [.own true e xs,.val (.int .i64 i),.val (.int .i64 j)] (.own x e (xs.take i.toNat++xs.drop j.toNat)) [.dead,.dead,.dead]:=by
 obtain ⟨fn,hf,hb,hnt,hrs,hname⟩:=hF.fn
 have hce:P.cellsOf e=k:=by rw [ZG L.ie,L.sz]
 refine Zag x (args:=[.own true e xs,.val (.int .i64 i),.val (.int .i64 j)]) ⟨fn,hf,hname,by rw [hb];rfl⟩ L.nm fun w lim X cargs hl hrel hdist hsize=>?_
 have r0:ZQ P w lim true e xs (cargs.getD 0 undef) (X 0 0):=hrel 0
 have r1:=arg_int (hrel 1)
 have r2:=arg_int (hrel 2)
 rw [Zdk hl (by rw [r2];simp [undef]),r1,r2]
 obtain ⟨p,rfl⟩:∃ p:Nat,i=p:=⟨i.toNat,by omega⟩
 obtain ⟨q,rfl⟩:∃ q:Nat,j=q:=⟨j.toNat,by omega⟩
 rw [Int.toNat_natCast] at hj ⊢
 rw [Int.toNat_natCast]
 have hpq:p≤q:=by omega
 by_cases heq:p=q
 ·subst heq
  have hvform:∃ base cap,cargs.getD 0 undef = .slice base xs.length cap∧xs.length≤cap:=by
   rcases r0.noMap L.nm with ⟨us,hr,_⟩ | ⟨rfl,_,a,hv⟩
   ·rcases hr.2 with ⟨hv,hn⟩ | ⟨g,cap,cur,hv,_,_,hnc,_⟩
    ·exact ⟨none,0,by rw [hv,hn],by omega⟩
    ·exact ⟨_,cap,hv,hnc⟩
   ·exact ⟨_,0,hv,Nat.le_refl _⟩
  obtain ⟨base,cap,hv0,hle⟩:=hvform
  rw [hv0] at r0 ⊢
  refine (Zl2 L hf hb hnt hrs base xs.length cap p w hj hle).mono ?_
  rintro e' w' ⟨rfl,rfl⟩
  exact ⟨_,lim,X 0 0,rfl,by rw [List.take_append_drop];exact r0,ZN.refl _ _ _,fun b hb=>⟨hsize 0 0 b hb,.inl ⟨⟨0,0,hb⟩,Zga r0 hb⟩⟩⟩
 ·have hlt:p < q:=by omega
  have hxs:xs≠[]:=by rintro rfl;simp at hj;omega
  obtain ⟨b,cur,c,hX0,hv0,hg,hnc,hcm,hcs,hxl,hxc,hxr,hlim⟩:=Zed r0 hxs L.nm
  have hlb:lim b=0:=hlim b hX0 rfl
  rw [hce] at hcs hxl
  have hxf:xs.flatten.length=xs.length*k:=Zl xs k hxl
  have hcl:cur.toList.length=c*k:=by simpa using hcs
  have hn5:xs.length*k≤c*k:=Nat.mul_le_mul_right _ hnc
  have hn7:p*k≤q*k:=Nat.mul_le_mul_right _ hpq
  have hn8:q*k≤xs.length*k:=Nat.mul_le_mul_right _ hj
  have hn9:(xs.length-q)*k=xs.length*k-q*k:=Nat.sub_mul _ _ _
  have h1c:∀ v∈cur.toList.take (xs.length*k),v.oneCell'=true:=Zev hxc (hxr.cut _) (by rw [List.length_take,hxf];omega)
  have hzl:∀ x∈xs.take p++xs.drop q,x.length=k:=by
   intro x hx
   rcases List.mem_append.1 hx with hx | hx
   ·exact hxl x (List.mem_of_mem_take hx)
   ·exact hxl x (List.mem_of_mem_drop hx)
  have hzc:∀ x∈xs.take p++xs.drop q,∀ y∈x,y.isCell=true:=by
   intro x hx
   rcases List.mem_append.1 hx with hx | hx
   ·exact hxc x (List.mem_of_mem_take hx)
   ·exact hxc x (List.mem_of_mem_drop hx)
  have hzn:(xs.take p++xs.drop q).length=p+(xs.length-q):=by
   simp only [List.length_append,List.length_take,List.length_drop]
   omega
  have heach:∀ rest,Zam (Rep w lim) (xs.take p++xs.drop q).flatten (cur.toList.take (p*k)++(cur.toList.drop (q*k)).take ((xs.length-q)*k)++rest):=by
   intro rest
   rw [List.flatten_append,Km k xs p hxl,Kg k xs q hxl,List.append_assoc]
   refine Zam.app ?_ (hxr.take _) (Zam.ext ((hxr.drop _).cut _) ?_)
   ·simp only [List.length_take,hxf,hcl];omega
   ·simp only [List.length_take,List.length_drop,hxf,hcl];omega
  rw [hv0]
  refine (Zo1 L hf hb hnt hrs b xs.length c p q cur w hlt hj hnc (by unfold maxLen at hcm;omega) hg hcs h1c hF.one).mono ?_
  rintro e' w' ⟨rfl,rfl⟩
  have heq2:=Zi2 (U:=cur.toList) (zc:=z.cells.toList) hpq hj (by rw [hcl];exact hn5)
  obtain ⟨R1,hR1⟩:∃ R1,R1=J6 cur.toList k xs.length p q:=⟨_,rfl⟩
  rw [← hR1] at heq2 ⊢
  obtain ⟨R2,hR2⟩:∃ R2,R2=Zbo R1 z.cells.toList k xs.length (p+(xs.length-q)):=⟨_,rfl⟩
  rw [← hR2] at heq2 ⊢
  have hR1l:R1.length=c*k:=by
   rw [hR1]
   simp only [J6,List.length_append,List.length_take,List.length_drop,hcl]
   omega
  have s1:ZN w lim (w.drew.setRow b R1.toArray) lim (fun x=>x=b):=by
   have:=Jc (w:=w.drew) (lim:=lim) (cs:=R1.toArray) hg hlb
   exact ⟨this.os,this.tape,this.output,this.size,this.frz,this.blk,this.ext⟩
  have s2:=Jc (lim:=lim) (cs:=R2.toArray) (Yj (w:=w.drew) (cur':=R1.toArray) hg) hlb
  have s3:ZN w lim _ lim (fun x=>∃ i j,X i j=some x):=s1.trans s2 (fun x hx=>⟨0,0,by rw [hx];exact hX0⟩) (fun x hx=>.inl ⟨0,0,by rw [hx];exact hX0⟩)
  refine ⟨_,lim,some b,rfl,?_,s3,fun b' hb'=>?_⟩
  ·have hrow:=KK (P:=P) (w:=(w.drew.setRow b R1.toArray).setRow b R2.toArray) (lim:=lim) (e:=e)
    (xs:=xs.take p++xs.drop q) (b:=b) (cap:=c) (Yj (Yj (w:=w.drew) hg)) hlb (by rw [hzn];omega) hcm ?_ (by rw [hce];exact hzl) hzc ?_
   ·rw [hzn] at hrow
    exact hrow
   ·have hfl:((List.replicate (xs.length-(p+(xs.length-q))) z.cells.toList).flatten).length=(xs.length-(p+(xs.length-q)))*k:=by simp [← L.zsz]
    have e1:(p+(xs.length-q))*k=p*k+(xs.length-q)*k:=Nat.add_mul _ _ _
    have e2:(xs.length-(p+(xs.length-q)))*k=xs.length*k-(p+(xs.length-q))*k:=Nat.sub_mul _ _ _
    rw [hce,List.size_toArray,heq2]
    simp only [List.length_append,hfl,List.length_take,List.length_drop,hcl,hR1l]
    omega
   ·intro j z u hz hu
    rw [List.getElem?_toArray,heq2] at hu
    exact (heach _ j z u hz hu).mono s3.ext
  ·cases hb'
   exact ⟨Nat.lt_of_lt_of_le (hsize 0 0 b hX0) s3.size,.inl ⟨⟨0,0,hX0⟩,hlb⟩⟩
def Zra (bytes:Nat) (xs:LL) (i:Int) (ys:LL):Option LL:=
 Zv (0≤i)<|Zv (i≤(xs.length:Int))<|Zv (ys≠[])<|Zv (Jw xs ys bytes)<|some (xs.take i.toNat++ys++xs.drop i.toNat)
def ZpQ (xs:LL) (i j:Int):Option LL:=
 Zv (0≤i)<|Zv (i≤j)<|Zv (j≤(xs.length:Int))<|some (xs.take i.toNat++xs.drop j.toNat)
def ZqE (bytes:Nat):List V→Option LL
 | [.l xs, .i i, .l ys] => Zra bytes xs i ys
 | _ => none
def ZqV:List V→Option LL
 | [.l xs, .i i, .i j] => ZpQ xs i j
 | _ => none
def Zro (x:Bool) (e:TypeId) (bytes:Nat):Fun where
 args:=[.c (.own true e),.c (.int .i64),.c (.own false e)]
 res:=[.c (.own x e)]
 g:=ZqE bytes
def Zq8 (x:Bool) (e:TypeId):Fun where
 args:=[.c (.own true e),.c (.int .i64),.c (.int .i64)]
 res:=[.c (.own x e)]
 g:=ZqV
def insChk (P:Program) (T B I e:TypeId) (bytes:Nat):Bool:=
 (match P.underlying T with | some (.slice e')=>e' == e | _=>false)&&(match P.underlying I with | some (.int k)=>k == .i64 | _=>false)&&(match P.underlying B with | some .bool=>true | _=>false)&&
 match P.info? e with
 | some i => (i.bytes == bytes && !Zm P e) && decide (0 < i.size) && (match i.zero with | some z => z.cells.size == i.size && z.cells.toList.all (fun v => v.oneCell') | none => false)
 | none => false
theorem Zc4 {T B I e:TypeId} {bytes:Nat} (hm:P.follows .mixedOrders=true) (h:insChk P T B I e bytes=true) :
  ∃ inf z k,inf.bytes=bytes∧(∀ v∈z.cells.toList,v.oneCell'=true)∧Zb2 P T B I e inf z k:=by
 simp only [insChk,Bool.and_eq_true] at h
 obtain ⟨⟨⟨h1,h2⟩,h3⟩,h4⟩:=h
 split at h1
 case h_2=>cases h1
 rename_i e' hT
 rw [beq_iff_eq] at h1
 subst h1
 split at h2
 case h_2=>cases h2
 rename_i kk hI
 rw [beq_iff_eq] at h2
 subst h2
 split at h3
 case h_2=>cases h3
 rename_i hB
 split at h4
 case h_2=>cases h4
 rename_i inf hinf
 simp only [Bool.and_eq_true,beq_iff_eq,decide_eq_true_eq,Bool.not_eq_true'] at h4
 obtain ⟨⟨⟨h5,h8⟩,h6⟩,h7⟩:=h4
 split at h7
 case h_2=>cases h7
 rename_i z hz
 simp only [Bool.and_eq_true,beq_iff_eq,List.all_eq_true] at h7
 exact ⟨inf,z,inf.size,h5,fun v hv=>h7.2 v hv,⟨hm,hT,hI,hB,hinf,hz,h7.1,rfl,h6,h8⟩⟩
def Func.looksIns (fn:Func) (T B I:TypeId) (fO fR:FuncId):Prop:=fn.body=some (insCode T B I fO fR)∧fn.ntmps=95∧fn.results = #[.tmp 6]
theorem insF_ok {x : Bool} {T B I e : TypeId} {bytes : Nat} {f fO fR : FuncId} {fn fo : Func} (hm : P.follows .mixedOrders = true) (hc : insChk P T B I e bytes = true) (hf : P.funcs[f]? = some fn) (hname : (fn.name == "runtime.NumGoroutine") = false)
  (hl : Func.looksIns fn T B I fO fR) (hfo : P.funcs[fO]? = some fo) (ho1 : (fo.name == "runtime.NumGoroutine") = false) (ho2 : fo.body.isNone = true) (ho3 : Extern.findNext fo = none)
  (ho4:Extern.find fo=some (Extern.SlicesOverlaps.overlaps #[T,T] #[B])):(Zro x e bytes).Ok P f:=by
 obtain ⟨inf,z,k,hb,_,hL⟩:=Zc4 hm hc
 have L:Zcl P T B I fO e inf z k:=⟨hL,fun args w=>run_callFunc_extern hfo ho1 ho2 ho3 ho4 args w⟩
 intro vs r h
 have h:ZqE bytes vs=some r:=h
 unfold ZqE at h
 split at h
 case h_2=>cases h
 rename_i xs i ys _
 obtain ⟨h0,h⟩:=JH h
 obtain ⟨h1,h⟩:=JH h
 obtain ⟨h2,h⟩:=JH h
 obtain ⟨h3,h⟩:=JH h
 cases h
 rw [Jw,← hb] at h3
 exact Zp2 x L ⟨fn,hf,hl.1,hl.2.1,hl.2.2,hname⟩ h0 (show i.toNat≤xs.length by omega) h2 h3
def Func.looksDel (fn:Func) (T B I U:TypeId):Prop:=fn.body=some (delCode T B I U)∧fn.ntmps=33∧fn.results = #[.tmp 6]
theorem delF_ok {x : Bool} {T B I U e : TypeId} {bytes : Nat} {f : FuncId} {fn : Func} (hm : P.follows .mixedOrders = true) (hc : insChk P T B I e bytes = true) (hf : P.funcs[f]? = some fn) (hname : (fn.name == "runtime.NumGoroutine") = false)
  (hl:Func.looksDel fn T B I U):(Zq8 x e).Ok P f:=by
 obtain ⟨inf,z,k,_,hz,L⟩:=Zc4 hm hc
 intro vs r h
 have h:ZqV vs=some r:=h
 unfold ZqV at h
 split at h
 case h_2=>cases h
 rename_i xs i j _
 obtain ⟨h0,h⟩:=JH h
 obtain ⟨h1,h⟩:=JH h
 obtain ⟨h2,h⟩:=JH h
 cases h
 exact Zpm x L ⟨⟨fn,hf,hl.1,hl.2.1,hl.2.2,hname⟩,hz⟩ h0 h1 (show j.toNat≤xs.length by omega)
end Go.AM
end

section
set_option linter.unusedVariables false
set_option linter.unusedSimpArgs false
namespace Go.AM
open Go.Shelf Go.RowKit Go.Lib
variable {P:Program}
noncomputable def ZnF (bytes:Nat) (xs:LL) (n:Int):Option LL:=
 Zv (xs = [])<|Zv (0≤n)<|Zv (n.toNat*(bytes+1)≤Ja)<|some []
noncomputable def ZnG (bytes:Nat):List V→Option LL
 | [.l xs, .i n] => ZnF bytes xs n
 | _ => none
noncomputable def Zpo (e:TypeId) (bytes:Nat):Fun where
 args:=[.c (.own true e),.c (.int .i64)]
 res:=[.c (.own true e)]
 g:=ZnG bytes
def Zjm (P:Program) (e:TypeId) (bytes:Nat):Bool:=
 match P.info? e with
 | some i => (i.bytes == bytes && !Zm P e) && decide (0 < i.size) && (match i.zero with | some z => z.cells.size == i.size | none => false)
 | none => false
theorem Zmd {cargs:List Value} (hl:cargs.length≤2) (h:cargs.getD 1 undef≠undef):cargs.toArray = #[cargs.getD 0 undef,cargs.getD 1 undef]:=by
 match cargs,hl,h with
 | [], _, h => exact (h rfl).elim
 | [_], _, h => exact (h rfl).elim
 | [_, _], _, _ => rfl
 | _ :: _ :: _ :: _, hl, _ => simp at hl
theorem Zlt {ρ:Ren} {e:TypeId} {bytes:Nat} {f:FuncId} (L:Go.Proofs.Lays8.n4 P ρ) (hc:Zjm P e bytes=true) (he:ρ.t 25=e) (hρ:ρ.f 4=f) (hcall:Callable P f):(Zpo e bytes).Ok P f:=by
 unfold Zjm at hc
 split at hc
 case h_2=>cases hc
 rename_i inf hinf
 simp only [Bool.and_eq_true,beq_iff_eq,decide_eq_true_eq,Bool.not_eq_true'] at hc
 obtain ⟨⟨⟨hb,hnm⟩,hpos⟩,hz⟩:=hc
 split at hz
 case h_2=>cases hz
 rename_i z hzero
 simp only [beq_iff_eq] at hz
 have hce:P.cellsOf e=inf.size:=ZG hinf
 intro vs r h
 have h:ZnG bytes vs=some r:=h
 unfold ZnG at h
 split at h
 case h_2=>cases h
 rename_i xs n _
 obtain ⟨h0,h⟩:=JH h
 obtain ⟨h1,h⟩:=JH h
 obtain ⟨h2,h⟩:=JH h
 cases h
 subst h0
 show JM P f [.own true e [],.val (.int .i64 n)] (.own true e []) [.dead,.dead]
 refine Zag true (args:=[.own true e [],.val (.int .i64 n)]) hcall hnm fun w lim X cargs hl hrel hdist hsize=>?_
 have r0:ZQ P w lim true e [] (cargs.getD 0 undef) (X 0 0):=hrel 0
 have r1:=arg_int (hrel 1)
 rw [Zmd hl (by rw [r1];simp [undef]),r1]
 obtain ⟨p,rfl⟩:∃ p:Nat,n=p:=⟨n.toNat,by omega⟩
 rw [Int.toNat_natCast] at h2
 have hp:p≤1099511627776:=by
  have:p*1≤p*(bytes+1):=Nat.mul_le_mul_left _ (by omega)
  unfold Ja at h2
  omega
 have hpb:p*bytes≤1099511627776:=by
  have:p*bytes≤p*(bytes+1):=Nat.mul_le_mul_left _ (by omega)
  unfold Ja at h2
  omega
 have hform:∃ base c,∃ cs:List Value,cargs.getD 0 undef = .slice base 0 c∧c≤maxLen∧cs.length=c*inf.size∧(base=none→c=0)∧(∀ a,base=some a→∀ j v,cs[j]? = some v→w.cell? (a.add j)=some v):=by
  rcases r0.noMap hnm with ⟨us,hr,_⟩ | ⟨_,_,a,hv⟩
  ·rcases hr.2 with ⟨hv,hn⟩ | ⟨g,cap,cur,hv,_,hg,hnc,hcm,hcs,_⟩
   ·exact ⟨none,0,[],by rw [hv],by decide,by simp,fun _=>rfl,fun a h=>by cases h⟩
   ·refine ⟨_,cap,cur.toList,hv,hcm,by rw [Array.length_toList,hcs,hce],(fun h=>by simp at h),fun a ha j v hj=>?_⟩
    obtain rfl:=Option.some.inj ha
    rw [JC,Zs hg]
    simpa using hj
  ·exact ⟨_,0,[],hv,by decide,by simp,fun _=>rfl,fun a _ j v hj=>by simp at hj⟩
 obtain ⟨base,c,cs,hv,hcm,hcl,hnil,hcell⟩:=hform
 by_cases hroom:0+p≤c
 ·rw [hv,← hρ]
  refine (Go.Proofs.Any8.slices_Grow_room L base 0 c p w (Nat.zero_le _) (by unfold maxLen at hcm;omega) (by omega) hroom).mono ?_
  rintro e' w' ⟨rfl,rfl⟩
  rw [hv] at r0
  exact ⟨_,lim,X 0 0,rfl,r0,ZN.refl _ _ _,fun b hb=>⟨hsize 0 0 b hb,.inl ⟨⟨0,0,hb⟩,Zga r0 hb⟩⟩⟩
 ·rw [hv,← hρ]
  subst he
  refine (Go.Proofs.Any8.slices_Grow_grow L inf z hinf hzero hpos base 0 c p cs w (Nat.zero_le _) (by omega) (by rw [hb,Nat.zero_add];omega) (by omega) hcl hnil hcell).mono ?_
  rintro e' w' ⟨rfl,rfl⟩
  have hge:=grownCap_ge w (0+p) c (ρ.t 25)
  have hle:=grownCap_le_maxLen w (0+p) c (ρ.t 25) (by unfold maxLen;omega)
  obtain ⟨G,hG⟩:∃ G,G=grownCap w (0+p) c (ρ.t 25):=⟨_,rfl⟩
  rw [← hG] at hge hle ⊢
  obtain ⟨R,hR⟩:∃ R,R=cs.toArray++Builtin.zeroCells z.cells (0+p-c)++Builtin.zeroCells z.cells (G-(0+p)):=⟨_,rfl⟩
  rw [← hR]
  have hs:R.size=G*inf.size:=by
   rw [hR]
   simp only [Array.size_append,List.size_toArray,size_zeroCells,hz,hcl,← Nat.add_mul]
   congr 1
   omega
  have s0:=YC w.drew lim R (ρ.t 25) 0 (fun x=>∃ i j,X i j=some x)
  refine ⟨_,fun x=>if x=w.heap.size then 0 else lim x,some w.heap.size,rfl,?_,⟨s0.os,s0.tape,s0.output,s0.size,s0.frz,s0.blk,s0.ext⟩,fun b' hb'=>?_⟩
  ·exact KK (P:=P) (xs:=[]) (b:=w.heap.size) (cap:=G) (YF w.drew R (ρ.t 25)) (if_pos rfl) (Nat.zero_le _) hle (by rw [hs,hce]) (fun x hx=>by cases hx) (fun x hx=>by cases hx) fun j z u hz _=>by simp at hz
  ·cases hb'
   refine ⟨by simp,.inr (Nat.le_refl _)⟩
end Go.AM
end

section
namespace Go.Proofs.Ytigknndkmlhmfaa
open Go Go.Proofs Go.Shelf
def ZkM:Go.Shelf.Ren:=⟨fun | 5=>45 | 8=>72 | 7=>71 | 19=>86 | 20=>87 | 10=>77 | 11=>78 | 12=>79 | 13=>80 | 14=>81 | 15=>82 | 16=>83 | 17=>84 | 18=>85 | 30=>89 | 31=>90 | 32=>91 | 33=>92 | 34=>93 | 35=>94 | 40=>95 | n=>n,fun | 23=>24 | 25=>3 | 3=>3 | 32=>107 | 22=>24 | 0=>0 | 44=>120 | 46=>44 | 4=>4 | 36=>113 | 35=>112 | 41=>76 | 5=>5 | 9=>9 | 53=>123 | 57=>127 | 63=>129 | 64=>109 | n=>n,fun | n=>n⟩
theorem ZhD:Go.Proofs.SlLaysM.n5 Try.prog ZkM:={
 mixed:=by kernel_rfl
 f5:=⟨Try.f45.name,by decide,Try.func45.trans (congrArg some (by kernel_rfl))⟩
 f7:=⟨Try.f71.name,by decide,Try.func71.trans (congrArg some (by kernel_rfl))⟩
 f8:=Try.func72.trans (congrArg some (by kernel_rfl))
 f10:=⟨Try.f77.name,by decide,Try.func77.trans (congrArg some (by kernel_rfl))⟩
 f11:=⟨Try.f78.name,by decide,Try.func78.trans (congrArg some (by kernel_rfl))⟩
 f12:=⟨Try.f79.name,by decide,Try.func79.trans (congrArg some (by kernel_rfl))⟩
 f13:=⟨Try.f80.name,by decide,Try.func80.trans (congrArg some (by kernel_rfl))⟩
 f14:=⟨Try.f81.name,by decide,Try.func81.trans (congrArg some (by kernel_rfl))⟩
 f15:=⟨Try.f82.name,by decide,Try.func82.trans (congrArg some (by kernel_rfl))⟩
 f16:=⟨Try.f83.name,by decide,Try.func83.trans (congrArg some (by kernel_rfl))⟩
 f17:=⟨Try.f84.name,by decide,Try.func84.trans (congrArg some (by kernel_rfl))⟩
 f18:=⟨Try.f85.name,by decide,Try.func85.trans (congrArg some (by kernel_rfl))⟩
 f19:=Try.func86.trans (congrArg some (by kernel_rfl))
 f20:=Try.func87.trans (congrArg some (by kernel_rfl))
 f30:=⟨Try.f89.name,by decide,Try.func89.trans (congrArg some (by kernel_rfl))⟩
 f31:=Try.func90.trans (congrArg some (by kernel_rfl))
 f32:=Try.func91.trans (congrArg some (by kernel_rfl))
 f33:=⟨Try.f92.name,by decide,Try.func92.trans (congrArg some (by kernel_rfl))⟩
 f34:=⟨Try.f93.name,by decide,Try.func93.trans (congrArg some (by kernel_rfl))⟩
 f35:=⟨Try.f94.name,by decide,Try.func94.trans (congrArg some (by kernel_rfl))⟩
 f40:=⟨Try.f95.name,by decide,Try.func95.trans (congrArg some (by kernel_rfl))⟩
 t0:=Try.underlying0
 a0:=Try.isAgg0
 z0:=Try.sizeOf0
 v0:=Try.zeroValue0
 t3:=Try.underlying3
 a3:=Try.isAgg3
 z3:=Try.sizeOf3
 v3:=Try.zeroValue3
 t4:=Try.underlying4
 a4:=Try.isAgg4
 z4:=Try.sizeOf4
 v4:=Try.zeroValue4
 t5:=Try.underlying5
 a5:=Try.isAgg5
 z5:=Try.sizeOf5
 v5:=Try.zeroValue5
 t9:=Try.underlying9
 a9:=Try.isAgg9
 z9:=Try.sizeOf9
 v9:=Try.zeroValue9
 t22:=Try.underlying24
 a22:=Try.isAgg24
 z22:=Try.sizeOf24
 v22:=Try.zeroValue24
 t23:=Try.underlying24
 a23:=Try.isAgg24
 z23:=Try.sizeOf24
 v23:=Try.zeroValue24
 t25:=Try.underlying3
 a25:=Try.isAgg3
 z25:=Try.sizeOf3
 v25:=Try.zeroValue3
 t32:=Try.underlying107
 a32:=Try.isAgg107
 z32:=Try.sizeOf107
 v32:=Try.zeroValue107
 t35:=Try.underlying112
 a35:=Try.isAgg112
 z35:=Try.sizeOf112
 v35:=Try.zeroValue112
 t36:=Try.underlying113
 a36:=Try.isAgg113
 z36:=Try.sizeOf113
 v36:=Try.zeroValue113
 t41:=Try.underlying76
 a41:=Try.isAgg76
 z41:=Try.sizeOf76
 v41:=Try.zeroValue76
 t44:=Try.underlying120
 a44:=Try.isAgg120
 z44:=Try.sizeOf120
 v44:=Try.zeroValue120
 t46:=Try.underlying44
 a46:=Try.isAgg44
 z46:=Try.sizeOf44
 v46:=Try.zeroValue44
 t53:=Try.underlying123
 a53:=Try.isAgg123
 z53:=Try.sizeOf123
 v53:=Try.zeroValue123
 t57:=Try.underlying127
 a57:=Try.isAgg127
 z57:=Try.sizeOf127
 v57:=Try.zeroValue127
 t63:=Try.underlying129
 a63:=Try.isAgg129
 z63:=Try.sizeOf129
 v63:=Try.zeroValue129
 t64:=Try.underlying109
 a64:=Try.isAgg109
 z64:=Try.sizeOf109
 v64:=Try.zeroValue109 }
theorem ZiW (p:Option Addr) (cap:Nat) (w:World):Calls Try.prog 45 #[.slice p 0 cap] w fun e w'=>e = .returned (.tuple #[])∧w'=w:=AnyM.slices_Sort_int_none ZhD p cap w
end Go.Proofs.Ytigknndkmlhmfaa
end

section
namespace Go.Proofs.Ytigknndkmlhmfaa
open Go Go.AM Go.RowKit Go.Shelf Go.Sort Go.Proofs
theorem Zjh:Wv Try.prog [45]:=by
 intro f hf
 obtain rfl:=List.mem_singleton.1 hf
 refine ⟨⟨Try.f45,Try.func45,by kernel_rfl,by kernel_rfl⟩,ZiW,?_⟩
 intro w lim b cap arr e zs hne hlen hcap hcm hsz hb hlb htake
 have hH:Holds (Value.int .i64) w b 0 zs.toArray:=holds_of_blockI hb htake
 have hbl:b < w.heap.size:=(Array.getElem?_eq_some_iff.1 hb).1
 have hs:Calls Try.prog 45 #[.slice (some ⟨b,0,none⟩) zs.length cap] w fun e w'=>e = .returned (.tuple #[])∧∃ n os,w'=grow (putRow (Value.int .i64) (Sort.ahead w n) b 0 (zs.mergeSort fun x y=>decide (x≤y)).toArray) os:=
  AnyM.slices_Sort_int ZhD b 0 cap zs w hH hbl (by omega)
 refine hs.mono ?_
 rintro e' w' ⟨rfl,q,os,rfl⟩
 have hml:(zs.mergeSort fun x y=>decide (x≤y)).length=zs.length:=List.length_mergeSort zs
 have hg:=grownBy_sortedI (w:=w) (g:=b) (n:=q) (os:=os) (zs.mergeSort fun x y=>decide (x≤y)).toArray
 have hh:=heap_sortedI (n:=q) (os:=os) (zs.mergeSort fun x y=>decide (x≤y)).toArray hb
 refine ⟨rfl,_,hh,by simp [putCells],?_,?_⟩
 ·have:=take_putCellsI arr (zs.mergeSort fun x y=>decide (x≤y)) (by rw [hml];omega)
  rw [hml] at this
  exact this
 ·obtain ⟨g1,g2,g3,g4,g5⟩:=hg
  have hcell:∀ i,i < w.heap.size→i≠b→(grow (putRow (Value.int .i64) (Sort.ahead w q) b 0 (zs.mergeSort fun x y=>decide (x≤y)).toArray) os).heap[i]? = w.heap[i]?:=fun i hi hib=>g5 i hi fun h=>hib (Option.some.inj h)
  refine ⟨rfl,rfl,rfl,g4,fun a ha=>?_,fun i hi hib=>⟨hcell i hi hib,rfl⟩,fun i hi=>⟨Nat.le_refl _,fun o u ho hu=>?_⟩⟩
  ·unfold World.frozen?
   by_cases hab:a.block=b
   ·rw [hab,hh,hb]
   ·rw [hcell _ ha hab]
  ·by_cases hib:i=b
   ·subst hib;rw [hlb] at ho;omega
   ·unfold World.cell? at hu ⊢
    dsimp only at hu ⊢
    rw [hcell i hi hib]
    exact hu
end Go.Proofs.Ytigknndkmlhmfaa
end
