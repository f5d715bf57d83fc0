/- AmRet, AmRun, AmRow, AmLift, AmSem, AmIns: texts of the proof, put together. -/
import Derived.Test.YthdihcchfjlgkaaGreatM3
import Derived.ChangeArms
import Derived.ChangeStays
import Derived.ChangeBook
import Derived.ChangeSame
import Derived.RowKit
import Derived.ChangeOld
import GoSem.ClaimJoined
import GoSem.ClaimOpenFrom
import Derived.KernelRfl
import Derived.WalkKit
import Derived.Lib.Walk
import Derived.Lib.SliceRun
import Derived.Lib.AppendZerosOnto
import Derived.Lib.Overlaps
import Derived.Laws.Externs
import Derived.Laws.IdiomCopy
import Derived.Shelf.RegionOpenPlain

section
namespace Go.AM
section
variable {P:Program} {E:Env}
theorem callOk_ofR {R : AV → List AV → Prop} (hm : P.follows .mixedOrders = true) (hps : PlainSound P E.plain) {f : FuncId} {fn : Func} (hf : P.funcs[f]? = some fn) (hname : (fn.name == "runtime.NumGoroutine") = false) {args : List SV} {n : Nat} {ρ : Nat → V}
  (hargs:∀ a∈args,a.bd n) {res:AV} {outs:List AV} (hR:∀ r os,R r os→WN P (os++[r]) (outs++[res])) (h:(ZwY P E fn args n).wp P R (fun _ _=>False) ρ):Yg P f (args.map (SV.den ρ)) res outs:=by
 unfold ZwY at h
 split at h
 case h_2=>exact h.elim
 rename_i code hbody
 dsimp only at h
 split at h
 case isFalse=>exact h.elim
 rename_i hh
 obtain ⟨hnt,hnm,hal,hng,haf⟩:=hh
 have hat:=WU args 0 haf
 refine ⟨⟨fn,hf,hname,by rw [hbody]; rfl⟩,?_⟩
 intro w lim X cargs hcl hrel hdist hsize
 rw [List.length_map] at hcl
 have hgl:∀ (aZ:List SV) (i:Nat),JS E aZ i=true→i+aZ.length≤E.nt+((aZ.map (SV.den ρ)).countP AV.isG)∨aZ.length≤(aZ.map (SV.den ρ)).countP AV.isG:=by
  intro aZ
  induction aZ with
  | nil => intro i _; exact .inr (Nat.zero_le _)
  | cons a aZ ih =>
   intro i hf
   have h0:=WU (a :: aZ) i hf 0 a rfl
   have hd:(a.den ρ).isG=a.isG:=by cases a <;> first | rfl | (rename_i x; cases x <;> rfl)
   rw [List.map_cons,List.countP_cons,hd,List.length_cons]
   by_cases hg:a.isG=true
   ·rw [if_pos hg]
    rcases ih (i+1) (Vo hf) with h1 | h1
    ·left; omega
    ·right; omega
   ·rw [if_neg hg]
    have h2:i < E.nt:=by
     rcases Nat.lt_or_ge i E.nt with h | h
     ·exact h
     ·exact (hg (h0.2.2 (by simpa using h))).elim
    rcases ih (i+1) (Vo hf) with h1 | h1
    ·left; omega
    ·left; omega
 have hcn:cargs.length≤E.nt:=by
  rcases hgl args 0 haf with h1 | h1 <;> omega
 have hcd:∀ d,d < args.length→(∃ a,args[d]? = some a):=fun d hd=>⟨_,List.getElem?_eq_getElem hd⟩
 refine calls_of_wp hf hbody ?_
 let c:Ctx:=⟨P,w,lim,fun b=>∃ i k,X i k=some b,E.nt,fun d=>match args[d]? with | some (.box _)=>some (cargs.getD d undef) | _=>none,fun d=>match args[d]? with | some (.gbox _)=>X d 0 | _=>none⟩
 have hlow:Zac E (VM args 0):=by
  unfold Zac
  rw [List.all_eq_true]
  intro u hu
  have:=Zeq args 0 E.top (by omega) u hu
  simpa using this
 have hσ:Jt E (J8 (VM args 0) (.leaf .dead)) ρ=Jg (args.map (SV.den ρ)):=by
  rw [YN hnt ρ _ _ hlow]
  funext d
  rw [ZeO,Nat.zero_add,Nat.sub_zero]
  split
  ·rfl
  ·rename_i hd
   have h1:Jt E (.leaf .dead) ρ d = .dead:=by
    simp only [Jt,gE]
    split <;> rfl
   have h2:(args.map (SV.den ρ))[d]? = none:=List.getElem?_eq_none (by rw [List.length_map]; omega)
   rw [h1]
   simp only [Jg,h2]
   rfl
 have htm:∀ d,(cargs.toArray++Array.replicate (fn.ntmps - cargs.toArray.size) undef).getD d undef=cargs.getD d undef:=by
  intro d
  rw [List.getD_eq_getElem?_getD,Array.getD_eq_getD_getElem?,Array.getElem?_append]
  simp only [List.size_toArray,List.getElem?_toArray]
  split
  ·rfl
  ·rename_i h1
   rw [List.getElem?_eq_none (by omega),Array.getElem?_replicate]
   split <;> rfl
 have hpin:∀ d v,c.pin d=some v→(∃ cs,args[d]? = some (.box cs))∧v=cargs.getD d undef:=by
  intro d v hv
  have hv':(match args[d]? with | some (.box _)=>some (cargs.getD d undef) | _=>none)=some v:=hv
  split at hv'
  ·rename_i cs hcs
   simp only [Option.some.injEq] at hv'
   exact ⟨⟨cs,hcs⟩,hv'.symm⟩
  ·cases hv'
 have hsim:Sim c (Jt E (J8 (VM args 0) (.leaf .dead)) ρ) (cargs.toArray++Array.replicate (fn.ntmps - cargs.toArray.size) undef) w lim X:=by
  rw [hσ]
  have hG:∀ d,(Jg (args.map (SV.den ρ)) d).isG=true↔∃ cs,args[d]? = some (.gbox cs):=by
   intro d
   cases ha:args[d]? with
   | none =>
    have h2:(args.map (SV.den ρ))[d]? = none:=by rw [List.getElem?_map,ha]; rfl
    simp only [Jg,h2]
    exact ⟨fun h=>(by cases h),fun ⟨_,h⟩=>(by cases h)⟩
   | some a =>
    have h2:Jg (args.map (SV.den ρ)) d=a.den ρ:=by simp only [Jg,List.getElem?_map,ha]; rfl
    rw [h2]
    cases a with
    | gbox cs => exact ⟨fun _ => ⟨cs, rfl⟩, fun _ => rfl⟩
    | c x => exact ⟨fun h => (by cases x <;> cases h), fun ⟨_, h⟩ => (by cases h)⟩
    | _ => exact ⟨fun h => (by cases h), fun ⟨_, h⟩ => (by cases h)⟩
  refine ⟨fun d=>by rw [htm d]; exact hrel d,?_,fun d hd=>?_,fun d hd=>?_,hdist,fun d k b hb=>⟨hsize d k b hb,.inl ⟨d,k,hb⟩⟩,⟨rfl,rfl,rfl,Nat.le_refl _,fun _ _=>rfl,fun _ _ _=>⟨rfl,rfl⟩,Ext.refl w lim⟩,fun d v hv=>?_,fun d b hb=>?_⟩
  ·show _=E.nt
   simp
   omega
  ·cases ha:args[d]? with
   | none =>
    left
    have h2:(args.map (SV.den ρ))[d]? = none:=by rw [List.getElem?_map,ha]; rfl
    simp only [Jg,h2]
    rfl
   | some a =>
    right
    have h3:=(hat d a ha).2.2 (by rw [Nat.zero_add]; exact hd)
    refine (hG d).2 ?_
    cases a <;> simp [SV.isG] at h3
    exact ⟨_,ha⟩
  ·obtain ⟨cs,hcs⟩:=(hG d).1 hd
   have:=(hat d _ hcs).2.1 rfl
   rwa [Nat.zero_add] at this
  ·obtain ⟨⟨cs,hcs⟩,rfl⟩:=hpin d v hv
   refine ⟨htm d,cs.map (BC.den ρ),?_⟩
   simp only [Jg,List.getElem?_map,hcs]
   rfl
  ·have hb':(match args[d]? with | some (.gbox _)=>X d 0 | _=>none)=some b:=hb
   split at hb'
   ·rename_i cs hcs
    exact ⟨hb',(hG d).2 ⟨cs,hcs⟩⟩
   ·cases hb'
 have hfin:∀ s' n' ρ' (A':Nat→List V→Prop),V5 E s' n'→((match ZoR P (gE E s') fn.results.toList with
   | some r => if ZfK args fn.results.toList = true then STree.ret r (ZcL (gE E s') args 0) else .stuck 124
   | none => .stuck 120) : STree).wp P R A' ρ' → ∀ tm' w' lim' X', Sim c (Jt E s' ρ') tm' w' lim' X' → ∃ v, (results fn tm').run P w' = .ok v w' ∧
    ∃ v1 lim1 X1,Ending.returned v = .returned v1∧Js w lim w' lim1 (fun b=>∃ i k,X i k=some b)∧outs.length=(args.map (SV.den ρ)).length∧
     (∀ i,Ja P w' lim1 X1 (Jg (outs++[res])) i (Jg (outs++[res]) i) (ZbD (args.map (SV.den ρ)).length cargs v1 i))∧Znv X1∧
     (∀ i k b,X1 i k=some b→b < w'.heap.size∧((∃ i k,X i k=some b)∨w.heap.size≤b))∧∀ i,(Jg (outs++[res]) i).isG=true→(Jg (args.map (SV.den ρ)) i).isG=true∧X1 i 0=X i 0:=by
  intro s' n' ρ' A' _ h' tm' w' lim' X' hsim'
  split at h'
  case h_2=>exact h'.elim
  rename_i r hr
  split at h'
  case isFalse=>exact h'.elim
  rename_i hfine
  obtain ⟨res0,hres⟩:∃ y,SV.den ρ' r=y:=⟨_,rfl⟩
  obtain ⟨outs0,houts⟩:∃ y,(ZcL (gE E s') args 0).map (SV.den ρ')=y:=⟨_,rfl⟩
  have hww:=hR _ _ h'
  rw [hres,houts] at hww
  suffices hz:∃ v,(results fn tm').run P w' = .ok v w'∧
    ∃ v1 lim1 X1,Ending.returned v = .returned v1∧Js w lim w' lim1 (fun b=>∃ i k,X i k=some b)∧outs0.length=(args.map (SV.den ρ)).length∧
     (∀ i,Ja P w' lim1 X1 (Jg (outs0++[res0])) i (Jg (outs0++[res0]) i) (ZbD (args.map (SV.den ρ)).length cargs v1 i))∧Znv X1∧
     (∀ i k b,X1 i k=some b→b < w'.heap.size∧((∃ i k,X i k=some b)∨w.heap.size≤b))∧∀ i,(Jg (outs0++[res0]) i).isG=true→(Jg (args.map (SV.den ρ)) i).isG=true∧X1 i 0=X i 0 by
   obtain ⟨v,hrun,v1,lim1,X1,he,hst,hol,hr,hd,hin,hgh⟩:=hz
   obtain ⟨X3,k1,k3,k2⟩:=ZeI hr hww
   have hX3:∀ i k b,X3 i k=some b→X1 i k=some b:=by
    intro i k b hb
    rcases k1 i k with e | e
    ·rw [← e]; exact hb
    ·rw [e] at hb; cases hb
   have hll:outs0.length=outs.length:=by have:=hww.1; simpa using this
   refine ⟨v,hrun,v1,lim1,X3,he,hst,by rw [← hll,hol],k2,Zgp hd k1,fun i k b hb=>hin i k b (hX3 i k b hb),fun i hi=>?_⟩
   obtain ⟨m1,m2⟩:=hgh i (Zfm hww hi)
   exact ⟨m1,by rw [k3 i (Zbj hi),m2]⟩
  -- the value
  have hval:∃ v,(results fn tm').run P w' = .ok v w'∧Ja P w' lim' (fun i k=>(ZdH args fn.results.toList i k).bind fun p=>X' p.1 p.2) (Jg (outs0++[res0])) args.length res0 v:=by
   have hrow:∀ k,ZdH args fn.results.toList args.length k=match fn.results.toList with
     | [r] => if k = 0 then some (YE r, ZhB r) else none
     | rs => match k with | 0 => none | k + 1 => (rs[k]?).map fun r => (YE r, ZhB r) := by
    intro k
    unfold ZdH
    rw [if_neg (Nat.lt_irrefl _),if_pos rfl]
    all_goals rfl
   unfold ZoR at hr
   split at hr
   ·rename_i r0 hrs
    cases hx:Zeg P (gE E s') r0 with
    | none => simp [hx] at hr
    | some x =>
     simp only [hx,Option.map_some,Option.some.injEq] at hr
     subst hr
     rw [Zfp] at hres
     subst hres
     obtain ⟨v,h1,h2⟩:=Zgv (c:=c) rfl hsim' hx
     refine ⟨v,?_,ZhH ?_⟩
     ·exact ZdF (vs:=[v]) (by rw [hrs]; rfl) fun i r' v' hr' hv'=>by
       rw [hrs] at hr'
       cases i with
       | zero =>
        simp only [List.getElem?_cons_zero,Option.some.injEq] at hr' hv'
        subst hr'
        subst hv'
        exact h1
       | succ i => simp at hr'
     ·show Y3 P w' lim' ((ZdH args fn.results.toList args.length 0).bind fun p=>X' p.1 p.2) _ v
      rw [hrow,hrs]
      exact h2
   ·rename_i hne
    cases hx:Zek P (gE E s') fn.results.toList with
    | none => simp [hx] at hr
    | some xs =>
     simp only [hx,Option.map_some,Option.some.injEq] at hr
     subst hr
     subst hres
     obtain ⟨vs,g1,g2,g3⟩:=Zhn (c:=c) rfl hsim' _ _ hx
     have hne1:∀ v,vs≠[v]:=by
      intro v hv
      rw [hv] at g1
      obtain ⟨r',hr'⟩:=List.length_eq_one_iff.1 g1
      exact hne r' hr'
     refine ⟨.tuple vs.toArray,?_,?_⟩
     ·have:=ZdF g1 fun i r' v' hr' hv'=>(g3 i r' v' hr' hv').1
      rw [this]
      rcases vs with _ | ⟨v,_ | ⟨u,l⟩⟩
      ·rfl
      ·exact (hne1 v rfl).elim
      ·rfl
     ·refine ⟨vs,rfl,by simp [g2],fun i y u hy hu=>?_⟩
      rw [List.getElem?_map] at hy
      cases hxi:xs[i]? with
      | none => simp [hxi] at hy
      | some x =>
       simp only [hxi,Option.map_some,Option.some.injEq] at hy
       subst hy
       obtain ⟨r',hr'⟩:∃ r',fn.results.toList[i]? = some r':=⟨_,List.getElem?_eq_getElem (by rw [g1]; exact (List.getElem?_eq_some_iff.1 hu).1)⟩
       have h3:=(g3 i r' u hr' hu).2 x hxi
       have hsrc:ZdH args fn.results.toList args.length (i+1)=some (YE r',ZhB r'):=by
        rw [hrow]
        split
        ·rename_i r1 hr1; exact (hne r1 hr1).elim
        ·simp [hr']
       show Y3 P w' lim' ((ZdH args fn.results.toList args.length (i+1)).bind fun p=>X' p.1 p.2) _ u
       rw [hsrc]
       exact h3
  obtain ⟨v,hv1,hv2⟩:=hval
  have hol:outs0.length=args.length:=by rw [← houts,List.length_map,ZgL]
  have hrt:∀ i,ZbD (args.map (SV.den ρ)).length cargs v i=if i=args.length then v else cargs.getD i undef:=by
   intro i
   unfold ZbD
   rw [List.length_map]
  have hout:∀ i,i < args.length→Jg (outs0++[res0]) i=match args[i]? with | some a=>if a.isBx=true then Jt E s' ρ' i else .dead | none=>.dead:=by
   intro i hi
   simp only [Jg]
   rw [List.getElem?_append_left (by omega),← houts,List.getElem?_map,Zjv,Nat.zero_add]
   have:=List.getElem?_eq_getElem hi
   rw [this]
   simp only [Option.map_some,Option.getD_some]
   split <;> rfl
  have hgpn:∀ i cs,args[i]? = some (.gbox cs)→X' i 0=X i 0∧(Jt E s' ρ' i).isG=true:=by
   intro i cs hcs
   have hri:=hrel i
   have h2:Jg (args.map (SV.den ρ)) i = .gbox (cs.map (BC.den ρ)):=by simp only [Jg,List.getElem?_map,hcs]; rfl
   rw [h2] at hri
   obtain ⟨v',hp⟩:=hri
   obtain ⟨b,hb,_⟩:=K7 hp
   obtain ⟨g1,g2⟩:=hsim'.gpin i b (by show (match args[i]? with | some (.gbox _)=>X i 0 | _=>none)=_; rw [hcs]; exact hb)
   exact ⟨by rw [g1,hb],g2⟩
  refine ⟨v,hv1,v,lim',fun i k=>(ZdH args fn.results.toList i k).bind fun p=>X' p.1 p.2,rfl,⟨hsim'.frm.os,hsim'.frm.tape,hsim'.frm.output,hsim'.frm.size,hsim'.frm.frz,hsim'.frm.blk,hsim'.frm.ext⟩,by rw [hol,List.length_map],fun i=>?_,fun d k d' k' b hb hb'=>?_,fun i k b hb=>?_,fun i hi=>?_⟩
  ·rw [hrt]
   rcases Nat.lt_trichotomy i args.length with hi | hi | hi
   ·rw [if_neg (by omega),hout i hi]
    obtain ⟨a,ha⟩:=hcd i hi
    rw [ha]
    dsimp only
    have hrow:a.isBx=true→(fun k=>(ZdH args fn.results.toList i k).bind fun p=>X' p.1 p.2)=X' i:=by
     intro hbx
     funext k
     unfold ZdH
     rw [if_pos hi,ha,if_pos (by simp [hbx])]
     rfl
    cases a with
    | box cs =>
     rw [if_pos (show (SV.box cs).isBx=true from rfl)]
     obtain ⟨p1,cs',p2⟩:=hsim'.pin i (cargs.getD i undef) (by show (match args[i]? with | some (.box _)=>some (cargs.getD i undef) | _=>none)=_; rw [ha])
     have hrl:=hsim'.rel i
     rw [p2,p1] at hrl
     rw [p2]
     show Z6 P w' lim' (fun k=>(ZdH args fn.results.toList i k).bind fun p=>X' p.1 p.2) cs' _
     rw [hrow rfl]
     exact hrl
    | gbox cs =>
     rw [if_pos (show (SV.gbox cs).isBx=true from rfl)]
     obtain ⟨_,g2⟩:=hgpn i cs ha
     have hrl:=hsim'.rel i
     generalize Jt E s' ρ' i=x at g2 hrl
     cases x <;> simp [AV.isG] at g2
     obtain ⟨v',hrl⟩:=hrl
     refine ⟨v',?_⟩
     show Z6 P w' lim' (fun k=>(ZdH args fn.results.toList i k).bind fun p=>X' p.1 p.2) _ v'
     rw [hrow rfl]
     exact hrl
    | _ => exact trivial
   ·subst hi
    have hout:Jg (outs0++[res0]) args.length=res0:=by
     simp only [Jg]
     rw [List.getElem?_append_right (by omega),hol]
     simp
    rw [if_pos rfl,hout]
    exact hv2
   ·have hout:Jg (outs0++[res0]) i = .dead:=by
     simp only [Jg]
     rw [List.getElem?_eq_none (by simp; omega)]
     rfl
    rw [hout]
    trivial
  ·cases hp:ZdH args fn.results.toList d k with
   | none => simp [hp] at hb
   | some p =>
    cases hp':ZdH args fn.results.toList d' k' with
    | none => simp [hp'] at hb'
    | some p' =>
     simp only [hp,hp',Option.bind_some] at hb hb'
     obtain ⟨e1,e2⟩:=hsim'.dist _ _ _ _ b hb hb'
     have:p=p':=Prod.ext e1 e2
     subst this
     exact Zpa hfine hp hp'
  ·cases hp:ZdH args fn.results.toList i k with
   | none => simp [hp] at hb
   | some p =>
    simp only [hp,Option.bind_some] at hb
    exact hsim'.ours _ _ b hb
  ·rcases Nat.lt_trichotomy i args.length with hl | hl | hl
   ·rw [hout i hl] at hi
    obtain ⟨a,ha⟩:=hcd i hl
    rw [ha] at hi
    dsimp only at hi
    cases a with
    | gbox cs =>
     obtain ⟨g1,g2⟩:=hgpn i cs ha
     refine ⟨by simp only [Jg,List.getElem?_map,ha]; rfl,?_⟩
     show (ZdH args fn.results.toList i 0).bind (fun p=>X' p.1 p.2)=X i 0
     unfold ZdH
     rw [if_pos hl,ha,if_pos (show (some (SV.gbox cs)).map SV.isBx=some true from rfl)]
     exact g1
    | box cs =>
     obtain ⟨p1,cs',p2⟩:=hsim'.pin i (cargs.getD i undef) (by show (match args[i]? with | some (.box _)=>some (cargs.getD i undef) | _=>none)=_; rw [ha])
     rw [if_pos (show (SV.box cs).isBx=true from rfl),p2] at hi
     cases hi
    | _ => cases hi
   ·subst hl
    have hres0:Jg (outs0++[res0]) args.length=res0:=by
     simp only [Jg]
     rw [List.getElem?_append_right (by omega),hol]
     simp
    rw [hres0,← hres] at hi
    unfold ZoR at hr
    split at hr
    ·obtain ⟨x,_,rfl⟩:=Option.map_eq_some_iff.1 hr
     rw [Zfp] at hi
     cases x with
     | c y => cases y <;> cases hi
     | _ => cases hi
    ·obtain ⟨x,_,rfl⟩:=Option.map_eq_some_iff.1 hr
     cases hi
   ·have:Jg (outs0++[res0]) i = .dead:=by
     simp only [Jg]
     rw [List.getElem?_eq_none (by simp; omega)]
     rfl
    rw [this] at hi
    cases hi
 refine Zn2 hm hps hnt (c:=c) rfl rfl (fun d v hv=>?_) (fun d b hb=>?_) code 0 n _ _ _ _ _ ρ _ w lim X _ ?_ h hsim ?_ ?_ ?_
 ·obtain ⟨⟨cs,hcs⟩,_⟩:=hpin d v hv
  have:=(hat d _ hcs).1 cs rfl
  rwa [Nat.zero_add] at this
 ·have hb':(match args[d]? with | some (.gbox _)=>X d 0 | _=>none)=some b:=hb
  split at hb'
  ·rename_i cs hcs
   have h1:=(hat d _ hcs).2.1 rfl
   have h2:=(List.getElem?_eq_some_iff.1 hcs).1
   exact ⟨by omega,by omega⟩
  ·cases hb'
 ·refine Yq hnt _ _ hlow (fun d=>?_) (ZgZ args 0 hargs)
  unfold gE
  split <;> trivial
 ·intro s' n' ρ' A' _ hs' h' tm' w' lim' X' hsim'
  obtain ⟨v,h1,h2⟩:=hfin s' n' ρ' A' hs' h' tm' w' lim' X' hsim'
  exact ⟨rfl,v,h1,h2⟩
 ·intro id s' n' ρ' A' _ hs' h'
  exact h'.elim
 ·intro s' n' ρ' A' _ hs' h' tm' w' lim' X' hsim'
  obtain ⟨v,h1,h2⟩:=hfin s' n' ρ' A' hs' h' tm' w' lim' X' hsim'
  exact ⟨rfl,v,h1,h2⟩
end
end Go.AM
end

section
namespace Go.AM
@[reducible] def Sh.T:Sh→Type
 | .int _ => Int
 | .bool => Bool
 | .str => ByteArray
 | .slice _ => List (List AV)
 | .own _ _ => List (List AV)
@[reducible] def ShsT:List Sh→Type
 | [] => Unit
 | [s] => s.T
 | s :: t :: r => s.T × ShsT (t :: r)
def Sh.toV:(s:Sh)→s.T→V
 | .int _, z => .i z
 | .bool, z => .b z
 | .str, z => .s z
 | .slice _, z => .l z
 | .own _ _, z => .l z
def Sh.ofV:(s:Sh)→V→Option s.T
 | .int _, .i z => some z
 | .bool, .b z => some z
 | .str, .s z => some z
 | .slice _, .l z => some z
 | .own _ _, .l z => some z
 | _, _ => none
def ZdK:(l:List Sh)→ShsT l→List V
 | [], _ => []
 | [s], x => [s.toV x]
 | s :: t :: r, x => s.toV x.1 :: ZdK (t :: r) x.2
def ZpT:(l:List Sh)→List V→Option (ShsT l)
 | [], [] => some ()
 | [], _ :: _ => none
 | [s], [v] => s.ofV v
 | [_], [] => none
 | [_], _ :: _ :: _ => none
 | _ :: _ :: _, [] => none
 | s :: t :: r, v :: vs => match s.ofV v, ZpT (t :: r) vs with | some a, some b => some (a, b) | _, _ => none
theorem Zms {s:Sh} {v:V} {x:s.T} (h:s.ofV v=some x):s.toV x=v:=by
 cases s <;> cases v <;> simp [Sh.ofV] at h <;> subst h <;> rfl
theorem Zhr:∀ (l:List Sh) (vs:List V) (x:ShsT l),ZpT l vs=some x→ZdK l x=vs
 | [], [], _, _ => rfl
 | [], _ :: _, _, h => by simp [ZpT] at h
 | [s], [v], x, h => by simp only [ZdK, Zms (show s.ofV v = some x from h)]
 | [_], [], _, h => by simp [ZpT] at h
 | [_], _ :: _ :: _, _, h => by simp [ZpT] at h
 | _ :: _ :: _, [], _, h => by simp [ZpT] at h
 | s :: t :: r, v :: vs, x, h => by
  simp only [ZpT] at h
  split at h
  ·rename_i a b ha hb
   simp only [Option.some.injEq] at h
   subst h
   simp only [ZdK,Zms ha,Zhr (t :: r) vs b hb]
  ·cases h
def Sh.ofE:(s:Sh)→AV→Option s.T
 | .int k, .val (.int k' z) => if k' = k then some z else none
 | .bool, .val (.bool b) => some b
 | .str, .val (.string b) => some b
 | .slice s, .slice false s' xs => if s' = s then some xs else none
 | _, _ => none
def Zmm:(l:List Sh)→List AV→Option (ShsT l)
 | [], [] => some ()
 | [], _ :: _ => none
 | [s], [c] => s.ofE c
 | [_], [] => none
 | [_], _ :: _ :: _ => none
 | _ :: _ :: _, [] => none
 | s :: t :: r, c :: cs => match s.ofE c, Zmm (t :: r) cs with | some a, some b => some (a, b) | _, _ => none
theorem Zly {s:Sh} {c:AV} {x:s.T} {n:Nat} {ρ:Nat→V} (h:s.ofE c=some x) (hρ:ρ n=s.toV x):(Y9 s n).den ρ=c:=by
 unfold Sh.ofE at h
 split at h
 ·split at h
  ·simp only [Option.some.injEq] at h
   subst h
   rename_i hk
   subst hk
   simp only [Y9,SC.den,IE.den,hρ,Sh.toV,V.int]
  ·cases h
 ·simp only [Option.some.injEq] at h
  subst h
  simp only [Y9,SC.den,BE.den,hρ,Sh.toV,V.bool]
 ·simp only [Option.some.injEq] at h
  subst h
  simp only [Y9,SC.den,SE.den,hρ,Sh.toV,V.str]
 ·split at h
  ·simp only [Option.some.injEq] at h
   subst h
   rename_i hk
   subst hk
   simp only [Y9,SC.den,LE.den,hρ,Sh.toV,V.list]
  ·cases h
 ·cases h
theorem Zi7:∀ (l:List Sh) (cs:List AV) (x:ShsT l) (n:Nat) (ρ:Nat→V),Zmm l cs=some x→Zj4 ρ n (ZdK l x)→(Ji l n).map (SC.den ρ)=cs
 | [], [], _, _, _, _, _ => rfl
 | [], _ :: _, _, _, _, h, _ => by simp [Zmm] at h
 | [s], [c], x, n, ρ, h, hf => by
  have h0:=hf 0 _ (show (ZdK [s] x)[0]? = some (s.toV x) from rfl)
  rw [Nat.add_zero] at h0
  simp only [Ji,List.map_cons,List.map_nil,Zly (show s.ofE c=some x from h) h0]
 | [_], [], _, _, _, h, _ => by simp [Zmm] at h
 | [_], _ :: _ :: _, _, _, _, h, _ => by simp [Zmm] at h
 | _ :: _ :: _, [], _, _, _, h, _ => by simp [Zmm] at h
 | s :: t :: r, c :: cs, x, n, ρ, h, hf => by
  simp only [Zmm] at h
  split at h
  ·rename_i a b ha hb
   simp only [Option.some.injEq] at h
   subst h
   obtain ⟨h0,h1⟩:=Zj4.tail (show Zj4 ρ n (s.toV a :: ZdK (t :: r) b) from hf)
   have h2:=Zi7 (t :: r) cs b (n+1) ρ hb h1
   rw [Ji,List.map_cons,Zly ha h0,h2]
  ·cases h
def ZA {γ:Type} (p:Prop) [Decidable p] (x:Option γ):Option γ:=if p then x else none
theorem Zn {γ:Type} {p:Prop} {_:Decidable p} (h:p) (x:Option γ):ZA p x=x:=if_pos h
theorem Y5 {γ:Type} {p:Prop} {_:Decidable p} {x:Option γ} {r:γ} (h:ZA p x=some r):p∧x=some r:=by
 unfold ZA at h
 split at h
 ·exact ⟨‹_›,h⟩
 ·cases h
def Zse:Value→Value→Bool
 | .int k z, .int k' z' => decide (k = k') && decide (z = z')
 | .bool b, .bool b' => b == b'
 | .string s, .string s' => decide (s = s')
 | _, _ => false
theorem Zc4 {a b:Value} (h:Zse a b=true):a=b:=by
 unfold Zse at h
 split at h
 ·simp only [Bool.and_eq_true,decide_eq_true_eq] at h
  rw [h.1,h.2]
 ·rw [beq_iff_eq] at h
  rw [h]
 ·rw [decide_eq_true_eq] at h
  rw [h]
 ·cases h
def Zsh {α:Type} (q:α→α→Bool):List α→List α→Bool
 | [], [] => true
 | a :: aZ, b :: bs => q a b && Zsh q aZ bs
 | _, _ => false
theorem K8 {α:Type} {q:α→α→Bool} (hq:∀ a b,q a b=true→a=b):∀ (aZ bs:List α),Zsh q aZ bs=true→aZ=bs
 | [], [], _ => rfl
 | [], _ :: _, h => by cases h
 | _ :: _, [], h => by cases h
 | a :: aZ, b :: bs, h => by
  simp only [Zsh,Bool.and_eq_true] at h
  rw [hq a b h.1,K8 hq aZ bs h.2]
def Zv0:Nat→AV→AV→Bool
 | _, .val a, .val b => Zse a b
 | n + 1, .slice f s xs, .slice f' s' ys => f == f' && (decide (s = s') && Zsh (Zsh (Zv0 n)) xs ys)
 | _, _, _ => false
theorem ZkQ:∀ (n:Nat) (a b:AV),Zv0 n a b=true→a=b:=by
 intro n
 induction n with
 | zero =>
  intro a b h
  unfold Zv0 at h
  split at h
  ·rw [Zc4 h]
  ·rename_i hn; cases hn
  ·cases h
 | succ n ih =>
  intro a b h
  unfold Zv0 at h
  split at h
  ·rw [Zc4 h]
  ·rename_i hn
   cases hn
   simp only [Bool.and_eq_true,beq_iff_eq,decide_eq_true_eq] at h
   rw [h.1,h.2.1,K8 (fun x y hxy=>K8 ih x y hxy) _ _ h.2.2]
  ·cases h
section
open Classical in
noncomputable instance decLL:DecidableEq (List (List AV)):=fun a b=>if h:Zsh (Zsh (Zv0 8)) a b=true then isTrue (K8 (fun x y hxy=>K8 (ZkQ 8) x y hxy) _ _ h) else propDecidable _
end
@[reducible] noncomputable def Sh.dec:(s:Sh)→DecidableEq s.T
 | .int _ => inferInstanceAs (DecidableEq Int)
 | .bool => inferInstanceAs (DecidableEq Bool)
 | .str => inferInstanceAs (DecidableEq ByteArray)
 | .slice _ => decLL
 | .own _ _ => decLL
@[reducible] noncomputable def decS:(l:List Sh)→DecidableEq (ShsT l)
 | [] => inferInstanceAs (DecidableEq Unit)
 | [s] => s.dec
 | s :: t :: r => @instDecidableEqProd _ _ s.dec (decS (t :: r))
def ZnP {γ:Type} [d:DecidableEq γ] (l:List (List AV)) (k:Bool→Option γ):Option γ:=
 match l with
 | [] => if k true = k false then k true else none
 | _ :: _ => k false
theorem Znp {γ:Type} {d:DecidableEq γ} {l:List (List AV)} {k:Bool→Option γ} {r:γ} (h:ZnP l k=some r) (b:Bool) (hb:b=true→l = []):k b=some r:=by
 unfold ZnP at h
 split at h
 ·split at h
  ·rename_i he
   cases b
   ·rw [← he]; exact h
   ·exact h
  ·cases h
 ·cases b
  ·exact h
  ·cases hb rfl
theorem Ziw {γ:Type} {d:DecidableEq γ} {l:List (List AV)} {k:Bool→Option γ} {r:Option γ} (h1:l = []→k true=r) (h2:k false=r):ZnP l k=r:=by
 unfold ZnP
 split
 ·rw [h1 rfl,h2,if_pos rfl]
 ·exact h2
def Zl {γ:Type} (l:List (List AV)) (i:Int) (sh:List Sh) (k:ShsT sh→Option γ):Option γ:=
 if 0≤i then match l[i.toNat]? with | some cs=>(match Zmm sh cs with | some r=>k r | none=>none) | none=>none else none
theorem Zah {γ:Type} {l:List (List AV)} {i:Int} {sh:List Sh} {cs:List AV} {r:ShsT sh} (k:ShsT sh→Option γ) (h0:0≤i) (h1:l[i.toNat]? = some cs) (h2:Zmm sh cs=some r):Zl l i sh k=k r:=by
 simp only [Zl,h0,if_true,h1,h2]
theorem Zkl {γ:Type} {l:List (List AV)} {i:Int} {sh:List Sh} {k:ShsT sh→Option γ} {x:γ} (h:Zl l i sh k=some x):0≤i∧∃ cs r,l[i.toNat]? = some cs∧Zmm sh cs=some r∧k r=some x:=by
 unfold Zl at h
 split at h
 ·refine ⟨‹_›,?_⟩
  split at h
  ·split at h
   ·exact ⟨_,_,‹_›,‹_›,h⟩
   ·cases h
  ·cases h
 ·cases h
def ZdW {γ:Type} (F:(List V→Option γ)→List V→Option γ):Nat→List V→Option γ
 | 0 => fun _ => none
 | k + 1 => F (ZdW F k)
def Zw:Nat:=1208925819614629174706176
inductive AP where
 | c (s : Sh)
 | agg (l : List Sh)
 | box (l : List Sh)
 | gbox (l : List Sh)
 | clo (g : FuncId) (ds : List Nat)
 | dead
def RSh.sh:RSh→List Sh
 | .c s => [s]
 | .agg l => l
def YB:List AP→List Sh
 | [] => []
 | .box l :: r => l ++ YB r
 | .gbox l :: r => l ++ YB r
 | _ :: r => YB r
def Zbo (rs:List RSh) (aps:List AP):List Sh:=rs.flatMap RSh.sh++YB aps
structure Fun where
 args:List AP
 res:List RSh
 g:List V→Option (ShsT (Zbo res args))
def VT (r:RSh) (us:List V) (j:Nat):AV:=
 match r with
 | .c s => KM s (vAt us j)
 | .agg l => .agg (Jo l us j)
def YH:List RSh→List V→Nat→List AV
 | [], _, _ => []
 | r :: rs, us, j => VT r us j :: YH rs us (j + r.sh.length)
def Vy (rs:List RSh) (us:List V) (j:Nat):AV:=
 match rs with
 | [r] => VT r us j
 | rs => .tuple (YH rs us j)
def Jn:List AP→List V→Nat→List AV
 | [], _, _ => []
 | .box l :: r, us, j => .box (Jo l us j) :: Jn r us (j + l.length)
 | .gbox l :: r, us, j => .gbox (Jo l us j) :: Jn r us (j + l.length)
 | _ :: r, us, j => .dead :: Jn r us j
def AP.n:AP→Nat
 | .c _ => 1
 | .agg l => l.length
 | .box l => l.length
 | .gbox l => l.length
 | .clo _ _ => 0
 | .dead => 0
def Zm2 (a:AP) (us:List V) (j:Nat):AV:=
 match a with
 | .c s => KM s (vAt us j)
 | .agg l => .agg (Jo l us j)
 | .box l => .box (Jo l us j)
 | .gbox l => .gbox (Jo l us j)
 | .clo g ds => .clo g ds
 | .dead => .dead
def KY:List AP→List V→Nat→List AV
 | [], _, _ => []
 | a :: r, us, j => Zm2 a us j :: KY r us (j + a.n)
def Zjl (rs:List RSh):Nat:=(rs.flatMap RSh.sh).length
def Fun.Ok (P:Program) (f:FuncId) (S:Fun):Prop:=
 ∀ vs r,S.g vs=some r→Yg P f (KY S.args vs 0) (Vy S.res (ZdK _ r) 0) (Jn S.args (ZdK _ r) (Zjl S.res))
def Zm5 (P:Program):List (FuncId×Fun)→Prop
 | [] => True
 | p :: r => p.2.Ok P p.1 ∧ Zm5 P r
def AP.sig:AP→Option (FuncId×List Nat)
 | .clo g ds => some (g, ds)
 | _ => none
def SV.sig:SV→Option (FuncId×List Nat)
 | .clo g ds => some (g, ds)
 | _ => none
def Zmj:List (FuncId×Fun)→FuncId→List (FuncId×List Nat)→Option Fun
 | [], _, _ => none
 | p :: r, f, sg => if p.1 = f ∧ p.2.args.filterMap AP.sig = sg then some p.2 else Zmj r f sg
theorem Zi2 {P:Program} : ∀ {Φ:List (FuncId×Fun)} {f:FuncId} {sg:List (FuncId×List Nat)} {S:Fun},Zm5 P Φ→Zmj Φ f sg=some S→S.Ok P f
 | [], _, _, _, _, h => by simp [Zmj] at h
 | p :: r, f, sg, S, ho, h => by
  simp only [Zmj] at h
  split at h
  ·rename_i hp
   simp only [Option.some.injEq] at h
   obtain ⟨hp,_⟩:=hp
   subst hp
   subst h
   exact ho.1
  ·exact Zi2 ho.2 h
def Zqf (P:Program):Sh→AV→Option V
 | .int k, .val (.int k' z) => if k' = k then some (.i z) else none
 | .bool, .val (.bool b) => some (.b b)
 | .str, .val (.string s) => some (.s s)
 | .slice s, .slice _ s' xs => if s' = s then some (.l xs) else (match xs with | [] => some (.l []) | _ :: _ => none)
 | .slice s, .own x e xs => if P.cellsOf e = s then (match x, xs with | false, xs => some (.l xs) | true, [] => some (.l []) | true, _ :: _ => none) else none
 | .own x e, .own x' e' xs => if e' = e then (match x, x', xs with | false, false, xs => some (.l xs) | true, true, xs => some (.l xs) | _, _, [] => some (.l []) | _, _, _ :: _ => none) else none
 | .own _ _, .slice true _ xs => (match xs with | [] => some (.l []) | _ :: _ => none)
 | _, _ => none
def Zf1 (P:Program):List Sh→List AV→Option (List V)
 | [], [] => some []
 | s :: ss, c :: cs => match Zqf P s c, Zf1 P ss cs with | some v, some vs => some (v :: vs) | _, _ => none
 | _, _ => none
def Zs5 (P:Program):AP→AV→Option (List V)
 | .c s, x => (Zqf P s x).map fun v => [v]
 | .agg l, .agg cs => if l.all Sh.imm = true then Zf1 P l cs else none
 | .box l, .box cs => Zf1 P l cs
 | .gbox l, .gbox cs => Zf1 P l cs
 | .clo g ds, .clo g' ds' => if g' = g ∧ ds' = ds then some [] else none
 | .dead, .dead => some []
 | _, _ => none
def ZcH (P:Program):List AP→List AV→Option (List V)
 | [], [] => some []
 | a :: aZ, x :: xs => match Zs5 P a x, ZcH P aZ xs with | some vs, some us => some (vs ++ us) | _, _ => none
 | _, _ => none
theorem ZlF {P:Program} {s:Sh} {c:AV} {v:V} (h:Zqf P s c=some v):Kb P c (KM s v):=by
 unfold Zqf at h
 split at h
 ·split at h
  ·simp only [Option.some.injEq] at h; subst h; rename_i hk; subst hk; exact .same (.inl rfl)
  ·cases h
 ·simp only [Option.some.injEq] at h; subst h; exact .same (.inl rfl)
 ·simp only [Option.some.injEq] at h; subst h; exact .same (.inl rfl)
 ·split at h
  ·simp only [Option.some.injEq] at h; subst h; rename_i hk; subst hk; exact .imm
  ·split at h
   ·simp only [Option.some.injEq] at h; subst h; exact .immN
   ·cases h
 ·split at h
  ·rename_i hk
   subst hk
   split at h
   ·simp only [Option.some.injEq] at h; subst h; exact .own
   ·simp only [Option.some.injEq] at h; subst h; exact .ownZ
   ·cases h
  ·cases h
 ·split at h
  ·rename_i hk
   subst hk
   split at h
   ·simp only [Option.some.injEq] at h; subst h; exact .same (.inr ⟨_,_,_,rfl⟩)
   ·simp only [Option.some.injEq] at h; subst h; exact .same (.inr ⟨_,_,_,rfl⟩)
   ·simp only [Option.some.injEq] at h; subst h; exact .ownN
   ·cases h
  ·cases h
 ·split at h
  ·simp only [Option.some.injEq] at h; subst h; exact .give
  ·cases h
 ·cases h
theorem Zcr {P:Program} : ∀ (l:List Sh) (cs:List AV) (vs:List V),Zf1 P l cs=some vs→vs.length=l.length∧cs.length=l.length∧∀ pre post:List V,
  ∀ (i:Nat) (c c':AV),cs[i]? = some c→(Jo l (pre++vs++post) pre.length)[i]? = some c'→Kb P c c'
 | [], [], vs, h => by
  simp only [Zf1,Option.some.injEq] at h
  subst h
  exact ⟨rfl,rfl,fun _ _ i c c' h=>by simp at h⟩
 | [], _ :: _, _, h => by simp [Zf1] at h
 | _ :: _, [], _, h => by simp [Zf1] at h
 | s :: ss, c :: cs, us, h => by
  simp only [Zf1] at h
  split at h
  ·rename_i v vs hv hvs
   simp only [Option.some.injEq] at h
   subst h
   obtain ⟨h1,h2,h3⟩:=Zcr (P:=P) ss cs vs hvs
   refine ⟨by simp [h1],by simp [h2],fun pre post i c1 c2 hc1 hc2=>?_⟩
   cases i with
   | zero =>
    simp only [Jo,List.getElem?_cons_zero,Option.some.injEq] at hc1 hc2
    subst hc1
    subst hc2
    rw [List.append_assoc,List.cons_append,Wb]
    exact ZlF hv
   | succ i =>
    have:=h3 (pre++[v]) post i c1 c2 (by simpa using hc1)
    simp only [List.append_assoc,List.cons_append,List.nil_append,List.length_append,List.length_cons,List.length_nil] at this
    simp only [Jo,List.getElem?_cons_succ,List.append_assoc,List.cons_append] at hc2
    exact this hc2
  ·cases h
theorem ZqC {P:Program} {a:AP} {x:AV} {vs:List V} (h:Zs5 P a x=some vs):vs.length=a.n∧((∃ g ds,a = .clo g ds∧x = .clo g ds)∨∀ pre post:List V,KL P x (Zm2 a (pre++vs++post) pre.length)):=by
 unfold Zs5 at h
 split at h
 ·cases hd:Zqf P _ x with
  | none => rw [hd] at h; cases h
  | some v =>
   rw [hd] at h
   simp only [Option.map_some,Option.some.injEq] at h
   subst h
   refine ⟨rfl,.inr fun pre post=>?_⟩
   simp only [Zm2,List.append_assoc,List.cons_append,List.nil_append,Wb]
   exact .comp (.cell (ZlF hd))
 ·rename_i l cs
  split at h
  ·rename_i hi
   obtain ⟨h1,h2,h3⟩:=Zcr (P:=P) _ _ _ h
   exact ⟨h1,.inr fun pre post=>.comp (.agg (by rw [h2,J7]) (Ve _ _ _ hi) (h3 pre post))⟩
  ·cases h
 ·obtain ⟨h1,h2,h3⟩:=Zcr (P:=P) _ _ _ h
  exact ⟨h1,.inr fun pre post=>.box (by rw [h2,J7]) (h3 pre post)⟩
 ·obtain ⟨h1,h2,h3⟩:=Zcr (P:=P) _ _ _ h
  exact ⟨h1,.inr fun pre post=>.gbox (by rw [h2,J7]) (h3 pre post)⟩
 ·split at h
  ·rename_i hh
   simp only [Option.some.injEq] at h
   subst h
   obtain ⟨rfl,rfl⟩:=hh
   exact ⟨rfl,.inl ⟨_,_,rfl,rfl⟩⟩
  ·cases h
 ·simp only [Option.some.injEq] at h
  subst h
  exact ⟨rfl,.inr fun _ _=>.dead⟩
 ·cases h
theorem Zei:∀ (l:List AP) (us:List V) (j:Nat),(KY l us j).length=l.length
 | [], _, _ => rfl
 | _ :: ss, us, j => by simp [KY, Zei ss us]
theorem ZjN {P:Program} : ∀ (aZ:List AP) (xs:List AV) (vs:List V),ZcH P aZ xs=some vs→xs.length=aZ.length∧∀ pre post:List V,
  ∀ (i:Nat) (c c':AV),xs[i]? = some c→(KY aZ (pre++vs++post) pre.length)[i]? = some c'→(∃ g ds,aZ[i]? = some (.clo g ds)∧c = .clo g ds∧c' = .clo g ds)∨KL P c c'
 | [], [], _, _ => ⟨rfl, fun _ _ i c c' h => by simp at h⟩
 | [], _ :: _, _, h => by simp [ZcH] at h
 | _ :: _, [], _, h => by simp [ZcH] at h
 | a :: aZ, x :: xs, ws, h => by
  simp only [ZcH] at h
  split at h
  ·rename_i vs us hv hus
   simp only [Option.some.injEq] at h
   subst h
   obtain ⟨h1,h2⟩:=ZqC (P:=P) hv
   obtain ⟨h3,h4⟩:=ZjN (P:=P) aZ xs us hus
   refine ⟨by simp [h3],fun pre post i c1 c2 hc1 hc2=>?_⟩
   cases i with
   | zero =>
    simp only [KY,List.getElem?_cons_zero,Option.some.injEq] at hc1 hc2
    subst hc1
    subst hc2
    rcases h2 with ⟨g,ds,rfl,rfl⟩ | h2
    ·exact .inl ⟨g,ds,rfl,rfl,rfl⟩
    ·have:=h2 pre (us++post)
     exact .inr (by simpa [List.append_assoc] using this)
   | succ i =>
    have:=h4 (pre++vs) post i c1 c2 (by simpa using hc1)
    rw [List.length_append,h1] at this
    simp only [KY,List.getElem?_cons_succ] at hc2
    refine this ?_
    simpa [List.append_assoc] using hc2
  ·cases h
def ZdE (aZ:List AP):Bool:=aZ.all fun a=>match a with | .clo _ ds=>ds.all (fun d=>match aZ[d]? with | some (.gbox _)=>true | _=>false) | _=>true
theorem ZgX:∀ (aZ:List AP) (us:List V) (j i:Nat) (a:AP),aZ[i]? = some a→∃ k,(KY aZ us j)[i]? = some (Zm2 a us k)
 | [], _, _, _, _, h => by simp at h
 | b :: aZ, us, j, 0, a, h => by
  simp only [List.getElem?_cons_zero,Option.some.injEq] at h
  subst h
  exact ⟨j,rfl⟩
 | b :: aZ, us, j, i + 1, a, h => by
  obtain ⟨k,hk⟩:=ZgX aZ us (j+b.n) i a (by simpa using h)
  exact ⟨k,by simpa [KY] using hk⟩
theorem Ziz {P:Program} {aZ:List AP} {xs:List AV} {vs:List V} (hc:ZdE aZ=true) (h:ZcH P aZ xs=some vs):WN P xs (KY aZ vs 0):=by
 obtain ⟨h1,h2⟩:=ZjN (P:=P) aZ xs vs h
 refine ⟨by rw [h1,Zei],fun i c c' hx hc'=>?_⟩
 rcases h2 [] [] i c c' hx (by simpa using hc') with ⟨g,ds,k1,rfl,rfl⟩ | hw
 ·refine .inr ⟨g,ds,rfl,rfl,fun d hd=>?_⟩
  unfold ZdE at hc
  rw [List.all_eq_true] at hc
  have h3:=hc _ (List.mem_of_getElem? k1)
  simp only at h3
  rw [List.all_eq_true] at h3
  have h4:=h3 d hd
  split at h4
  ·rename_i l hl
   obtain ⟨k,hk⟩:=ZgX aZ vs 0 d _ hl
   simp only [Jg,hk]
   rfl
  ·cases h4
 ·exact .inl hw
def ZkX (a:AP) (x:AV):AV:=
 match a,x with
 | .c (.slice _), .own true e xs => .own false e xs
 | .c (.own false _), .own true e xs => .own false e xs
 | _, x => x
def Zge:List AP→List AV→List AV
 | a :: aZ, x :: xs => ZkX a x :: Zge aZ xs
 | _, xs => xs
theorem Zdf (a:AP) (x:AV):ZkX a x=x∨∃ e xs,x = .own true e xs∧ZkX a x = .own false e xs:=by
 unfold ZkX
 split
 ·exact .inr ⟨_,_,rfl,rfl⟩
 ·exact .inr ⟨_,_,rfl,rfl⟩
 ·exact .inl rfl
theorem ZhL (pre post:List AV) (x:AV) (i:Nat):Jg (pre++x :: post) i=if i=pre.length then x else Jg (pre++.dead :: post) i:=by
 unfold Jg
 by_cases hi:i=pre.length
 ·subst hi
  rw [if_pos rfl,List.getElem?_append_right (Nat.le_refl _),Nat.sub_self]
  rfl
 ·rw [if_neg hi]
  by_cases hlt:i < pre.length
  ·rw [List.getElem?_append_left hlt,List.getElem?_append_left hlt]
  ·rw [List.getElem?_append_right (by omega),List.getElem?_append_right (by omega)]
   obtain ⟨j,hj⟩:∃ j,i - pre.length=j+1:=⟨i - pre.length - 1,by omega⟩
   rw [hj,List.getElem?_cons_succ,List.getElem?_cons_succ]
theorem Zm3 {P:Program} {w:World} {lim:Nat→Nat} {e:TypeId} {xs:List (List AV)} {v:Value} (h:JP P w lim true e xs v none):JP P w lim false e xs v none:=by
 rcases h with ⟨us,h1,h2,h3,h4,h5,h6⟩ | h
 ·exact .inl ⟨us,h1,h2,fun b hb=>(by cases hb),h4,h5,h6⟩
 ·exact .inr h
theorem Yg.freeze1 {P:Program} {f:FuncId} {pre post:List AV} {e:TypeId} {xs:List (List AV)} {res:AV} {outs:List AV} (h:Yg P f (pre++.own false e xs :: post) res outs)
  (hn:∀ x∈pre++post,∀ d k,¬ JT x d k):Yg P f (pre++.own true e xs :: post) res outs:=by
 refine ⟨h.1,fun w lim X cargs hcl hrel hdist hsize=>?_⟩
 have hat:∀ (b:Bool) (i:Nat),Jg (pre++.own b e xs :: post) i=if i=pre.length then .own b e xs else Jg (pre++.dead :: post) i:=fun b i=>ZhL pre post _ i
 have hnr:∀ i d k,i≠pre.length→¬ JT (Jg (pre++.dead :: post) i) d k:=by
  intro i d k hi hr
  have hx:Jg (pre++.dead :: post) i = .dead∨Jg (pre++.dead :: post) i∈pre++post:=by
   unfold Jg
   cases hx:(pre++AV.dead :: post)[i]? with
   | none => exact .inl rfl
   | some x =>
    have hm:=List.mem_of_getElem? hx
    rw [List.mem_append,List.mem_cons] at hm
    rcases hm with hm | rfl | hm
    ·exact .inr (List.mem_append_left _ hm)
    ·exact .inl rfl
    ·exact .inr (List.mem_append_right _ hm)
  rcases hx with hx | hx
  ·rw [hx] at hr
   rcases hr with hr | ⟨_,hr⟩ <;> cases hr
  ·exact hn _ hx d k hr
 have h0:=hrel pre.length
 rw [hat,if_pos rfl] at h0
 have h0':JP P w lim true e xs (cargs.getD pre.length undef) (X pre.length 0):=h0
 obtain ⟨lim1,he,hk,hown⟩:∃ lim1,Ext w lim w lim1∧(∀ b,X pre.length 0≠some b→lim1 b=lim b)∧JP P w lim1 false e xs (cargs.getD pre.length undef) (X pre.length 0):=by
  cases hb:X pre.length 0 with
  | none => rw [hb] at h0'; exact ⟨lim, Ext.refl _ _, fun _ _ => rfl, Zm3 h0'⟩
  | some b0 =>
   rw [hb] at h0'
   have hl0:lim b0=0:=by
    rcases h0' with ⟨us,_,_,h3,_⟩ | ⟨_,h,_⟩
    ·rw [h3 b0 rfl]; rfl
    ·cases h
   have hext:Ext w lim w (V0 lim b0 (xs.length * P.cellsOf e)):=fun b _=>by
    refine ⟨?_,fun o u _ hu=>hu⟩
    unfold V0
    split
    ·rename_i h; rw [h,hl0]; exact Nat.zero_le _
    ·exact Nat.le_refl _
   exact ⟨_,hext,fun b hne=>if_neg fun e=>hne (by rw [e]),Zdb h0' hext⟩
 have hrel1:∀ i,Ja P w lim1 X (Jg (pre++.own false e xs :: post)) i (Jg (pre++.own false e xs :: post) i) (cargs.getD i undef):=by
  intro i
  by_cases hi:i=pre.length
  ·subst hi
   rw [hat,if_pos rfl]
   exact hown
  ·have h1:=hrel i
   have hne:Jg (pre++.own false e xs :: post) i=Jg (pre++.own true e xs :: post) i:=by rw [hat,hat,if_neg hi,if_neg hi]
   rw [hne]
   refine Ja.chg (h1.mono he (fun k b hb=>⟨rfl,hk b fun e=>hi (hdist i k pre.length 0 b hb e).1⟩) fun d' k b hr _=>?_) rfl (fun d' cs hd=>⟨⟨cs,?_⟩,rfl⟩) (fun d' hg=>⟨?_,rfl⟩) fun d' k hr=>?_
   ·rw [hat,if_neg hi] at hr
    exact (hnr i d' k hi (.inl hr)).elim
   ·rw [hat] at hd ⊢
    split at hd
    ·cases hd
    ·rename_i hd'
     rw [if_neg hd']; exact hd
   ·rw [hat] at hg ⊢
    split at hg
    ·cases hg
    ·rename_i hd'
     rw [if_neg hd']; exact hg
   ·rw [hat,if_neg hi] at hr
    exact (hnr i d' k hi hr).elim
 have hcnt:(pre++AV.own true e xs :: post).countP AV.isG=(pre++AV.own false e xs :: post).countP AV.isG:=by
  simp [List.countP_append,List.countP_cons,AV.isG]
 have hll:(pre++AV.own true e xs :: post).length=(pre++AV.own false e xs :: post).length:=by simp
 refine (h.2 w lim1 X cargs (by rw [← hcnt,← hll]; exact hcl) hrel1 hdist hsize).mono ?_
 rintro e' w' ⟨v,lim',X',he',hst,hol,hr,hd,hin,hgh⟩
 refine ⟨v,lim',X',he',⟨hst.os,hst.tape,hst.output,hst.size,hst.frz,fun b hb hn'=>?_,he.trans hst.ext (Nat.le_refl _)⟩,by rw [hol,hll],fun i=>by rw [hll]; exact hr i,hd,hin,fun i hi=>?_⟩
 ·obtain ⟨k1,k2⟩:=hst.blk b hb hn'
  exact ⟨k1,k2.trans (hk b fun e=>hn' ⟨_,_,e⟩)⟩
 ·obtain ⟨m1,m2⟩:=hgh i hi
  refine ⟨?_,m2⟩
  rw [hat] at m1 ⊢
  split at m1
  ·cases m1
  ·rename_i hi'
   rw [if_neg hi']; exact m1
theorem ZeM {d k:Nat} : ∀ (aZ:List AP) (xs:List AV),(∀ x∈Zge aZ xs,¬ JT x d k)→∀ x∈xs,¬ JT x d k
 | [], xs, h => fun x hx => h x (by cases xs <;> exact hx)
 | _ :: _, [], _ => fun _ hx => by cases hx
 | a :: aZ, y :: ys, h => fun x hx => by
  rcases List.mem_cons.1 hx with rfl | hx
  ·rcases Zdf a x with e | ⟨_,_,rfl,_⟩
   ·have:=h (ZkX a x) (List.mem_cons_self ..)
    rwa [e] at this
   ·rintro (h | ⟨_,h⟩) <;> cases h
  ·exact ZeM aZ ys (fun z hz=>h z (List.mem_cons_of_mem _ hz)) x hx
theorem Yg.freeze {P:Program} {f:FuncId} {res:AV} {outs:List AV} : ∀ (aZ:List AP) (xs pre:List AV),Yg P f (pre++Zge aZ xs) res outs→(∀ x∈pre++Zge aZ xs,∀ d k,¬ JT x d k)→Yg P f (pre++xs) res outs
 | [], xs, pre, h, _ => by cases xs <;> exact h
 | _ :: _, [], pre, h, _ => h
 | a :: aZ, x :: xs, pre, h, hn => by
  have h1:=Yg.freeze aZ xs (pre++[ZkX a x]) (by simpa [Zge] using h) (by simpa [Zge] using hn)
  rw [List.append_assoc,List.singleton_append] at h1
  rcases Zdf a x with e | ⟨e,ys,rfl,e'⟩
  ·rwa [e] at h1
  ·rw [e'] at h1
   refine h1.freeze1 fun y hy d k=>?_
   rcases List.mem_append.1 hy with hy | hy
   ·exact hn y (List.mem_append_left _ hy) d k
   ·exact ZeM aZ xs (fun z hz=>hn z (List.mem_append_right _ (List.mem_cons_of_mem _ hz)) d k) y hy
theorem Zlx {P:Program} {a:AP} {x:AV} {vs:List V} (h:Zs5 P a x=some vs) (d k:Nat):¬ JT x d k:=by
 rintro (rfl | ⟨_,rfl⟩) <;> cases a <;> simp [Zs5,Zqf] at h
 all_goals (rename_i s; cases s <;> simp [Zqf] at h)
theorem Zeo {P:Program} : ∀ (aZ:List AP) (xs:List AV) (vs:List V),ZcH P aZ xs=some vs→∀ x∈xs,∀ d k,¬ JT x d k
 | _, [], _, _ => fun _ hx => by cases hx
 | [], _ :: _, _, h => by simp [ZcH] at h
 | a :: aZ, x :: xs, ws, h => by
  simp only [ZcH] at h
  split at h
  ·rename_i vs us hv hus
   intro y hy d k
   rcases List.mem_cons.1 hy with rfl | hy
   ·exact Zlx hv d k
   ·exact Zeo aZ xs us hus y hy d k
  ·cases h
def Zsy {γ:Type} (P:Program) (S:Fun) (aZ:List AV) (k:List V→Option γ):Option γ:=
 match ZcH P S.args (Zge S.args aZ) with
 | some vs => (S.g vs).bind fun r => k (ZdK _ r)
 | none => none
theorem ZkA {γ:Type} {S:Fun} {aZ:List AV} {k:List V→Option γ} {x:γ} {P:Program} (h:Zsy P S aZ k=some x):∃ vs r,ZcH P S.args (Zge S.args aZ)=some vs∧S.g vs=some r∧k (ZdK _ r)=some x:=by
 unfold Zsy at h
 split at h
 ·rename_i vs hvs
  rw [Option.bind_eq_some_iff] at h
  obtain ⟨r,h1,h2⟩:=h
  exact ⟨vs,r,hvs,h1,h2⟩
 ·cases h
def ZuY (s:Sh) (x:SC) (m:Nat):Bool:=
 match s,x with
 | .int k, .int k' (.var a) => decide (k' = k) && decide (a = m)
 | .bool, .bool (.var a) => decide (a = m)
 | .str, .str (.var a) => decide (a = m)
 | .slice s, .slice false s' (.var a) => decide (s' = s) && decide (a = m)
 | _, _ => false
def ZkH:List Sh→List SC→Nat→Bool
 | [], [], _ => true
 | s :: ss, c :: cs, m => ZuY s c m && ZkH ss cs (m + 1)
 | _, _, _ => false
def Zwf (r:RSh) (x:TC) (m:Nat):Bool:=
 match r,x with
 | .c s, .c x => ZuY s x m
 | .c (.own x e), .own x' e' (.var a) => (decide (e' = e) && decide (a = m)) && (x' == x)
 | .agg l, .agg cs => ZkH l cs m
 | _, _ => false
def ZkP:List RSh→List TC→Nat→Bool
 | [], [], _ => true
 | r :: rs, x :: xs, m => Zwf r x m && ZkP rs xs (m + r.sh.length)
 | _, _, _ => false
def Zwm:SV→Option TC
 | .c x => some (.c x)
 | .agg cs => some (.agg cs)
 | .own x e l => some (.own x e l)
 | _ => none
def Zyk (rs:List RSh) (x:SV) (m:Nat):Bool:=
 match rs with
 | [r] => match Zwm x with | some y => Zwf r y m | none => false
 | rs => match x with | .tuple vs => ZkP rs vs m | _ => false
def Zxf (s:Sh) (x:BC) (m:Nat):Bool:=
 match s,x with
 | s, .c x => ZuY s x m
 | .own x e, .own x' e' (.var a) => (decide (e' = e) && decide (a = m)) && (x' == x)
 | _, _ => false
def ZhI:List Sh→List BC→Nat→Bool
 | [], [], _ => true
 | s :: ss, c :: cs, m => Zxf s c m && ZhI ss cs (m + 1)
 | _, _, _ => false
def WC:List AP→List SV→Nat→Bool
 | [], [], _ => true
 | .box l :: r, .box cs :: xs, m => ZhI l cs m && WC r xs (m + l.length)
 | .gbox l :: r, .gbox cs :: xs, m => ZhI l cs m && WC r xs (m + l.length)
 | .c _ :: r, .dead :: xs, m => WC r xs m
 | .agg _ :: r, .dead :: xs, m => WC r xs m
 | .clo _ _ :: r, .dead :: xs, m => WC r xs m
 | .dead :: r, .dead :: xs, m => WC r xs m
 | _, _, _ => false
section
variable {ρ:Nat→V} {n:Nat} {us:List V}
theorem Zbn (j:Nat) (h:j < us.length):bind ρ n us (n+j)=vAt us j:=by
 unfold bind vAt
 rw [if_neg (by omega),show n+j - n=j by omega,List.getElem?_eq_getElem h]
 rfl
theorem ZeX {s:Sh} {x:SC} {j:Nat} (h:ZuY s x (n+j)=true) (hj:j < us.length):x.den (bind ρ n us)=KM s (vAt us j):=by
 unfold ZuY at h
 split at h
 ·simp only [Bool.and_eq_true,decide_eq_true_eq] at h
  obtain ⟨rfl,rfl⟩:=h
  simp only [SC.den,IE.den,Zbn j hj,KM]
 ·simp only [decide_eq_true_eq] at h
  subst h
  simp only [SC.den,BE.den,Zbn j hj,KM]
 ·simp only [decide_eq_true_eq] at h
  subst h
  simp only [SC.den,SE.den,Zbn j hj,KM]
 ·simp only [Bool.and_eq_true,decide_eq_true_eq] at h
  obtain ⟨rfl,rfl⟩:=h
  simp only [SC.den,LE.den,Zbn j hj,KM]
 ·cases h
theorem ZgW:∀ (l:List Sh) (cs:List SC) (j:Nat),ZkH l cs (n+j)=true→j+l.length≤us.length→cs.map (SC.den (bind ρ n us))=Jo l us j
 | [], [], _, _, _ => rfl
 | [], _ :: _, _, h, _ => by simp [ZkH] at h
 | _ :: _, [], _, h, _ => by simp [ZkH] at h
 | s :: ss, c :: cs, j, h, hl => by
  simp only [ZkH,Bool.and_eq_true] at h
  simp only [List.length_cons] at hl
  rw [List.map_cons,Jo,ZeX h.1 (by omega),ZgW ss cs (j+1) (by rw [← Nat.add_assoc]; exact h.2) (by omega)]
theorem Zki {r:RSh} {x:TC} {j:Nat} (h:Zwf r x (n+j)=true) (hj:j+r.sh.length≤us.length):x.den (bind ρ n us)=VT r us j:=by
 unfold Zwf at h
 split at h
 ·exact ZeX h (by simp [RSh.sh] at hj; omega)
 ·simp only [Bool.and_eq_true,decide_eq_true_eq,beq_iff_eq] at h
  obtain ⟨⟨rfl,rfl⟩,rfl⟩:=h
  have hj':j < us.length:=by simp [RSh.sh] at hj; omega
  simp only [TC.den,LE.den,Zbn j hj',VT,KM]
 ·simp only [TC.den,VT,ZgW _ _ j h hj]
 ·cases h
theorem Zhf:∀ (rs:List RSh) (xs:List TC) (j:Nat),ZkP rs xs (n+j)=true→j+(rs.flatMap RSh.sh).length≤us.length→xs.map (TC.den (bind ρ n us))=YH rs us j
 | [], [], _, _, _ => rfl
 | [], _ :: _, _, h, _ => by simp [ZkP] at h
 | _ :: _, [], _, h, _ => by simp [ZkP] at h
 | r :: rs, x :: xs, j, h, hl => by
  simp only [ZkP,Bool.and_eq_true] at h
  simp only [List.flatMap_cons,List.length_append] at hl
  rw [List.map_cons,YH,Zki h.1 (by omega),Zhf rs xs (j+r.sh.length) (by rw [← Nat.add_assoc]; exact h.2) (by omega)]
theorem ZjR {x:SV} {y:TC} (h:Zwm x=some y) (ρ:Nat→V):x.den ρ=y.den ρ:=by
 unfold Zwm at h
 split at h <;> simp at h <;> subst h <;> rfl
theorem Zo9 {rs:List RSh} {x:SV} (h:Zyk rs x n=true) (hl:Zjl rs≤us.length):x.den (bind ρ n us)=Vy rs us 0:=by
 unfold Zyk at h
 split at h
 ·split at h
  ·rename_i r y hy
   rw [ZjR hy]
   exact Zki (j:=0) h (by simpa [Zjl] using hl)
  ·cases h
 ·rename_i hne
  split at h
  ·rename_i vs
   have:Vy rs us 0 = .tuple (YH rs us 0):=by
    unfold Vy
    split
    ·exact (hne _ rfl).elim
    ·rfl
   rw [this]
   simp only [SV.den,Zhf rs vs 0 h (by simpa [Zjl] using hl)]
  ·cases h
theorem ZoM {s:Sh} {x:BC} {j:Nat} (h:Zxf s x (n+j)=true) (hj:j < us.length):x.den (bind ρ n us)=KM s (vAt us j):=by
 unfold Zxf at h
 split at h
 ·exact ZeX h hj
 ·simp only [Bool.and_eq_true,decide_eq_true_eq,beq_iff_eq] at h
  obtain ⟨⟨rfl,rfl⟩,rfl⟩:=h
  simp only [BC.den,LE.den,Zbn j hj,KM]
 ·cases h
theorem Zdz:∀ (l:List Sh) (cs:List BC) (j:Nat),ZhI l cs (n+j)=true→j+l.length≤us.length→cs.map (BC.den (bind ρ n us))=Jo l us j
 | [], [], _, _, _ => rfl
 | [], _ :: _, _, h, _ => by simp [ZhI] at h
 | _ :: _, [], _, h, _ => by simp [ZhI] at h
 | s :: ss, c :: cs, j, h, hl => by
  simp only [ZhI,Bool.and_eq_true] at h
  simp only [List.length_cons] at hl
  rw [List.map_cons,Jo,ZoM h.1 (by omega),Zdz ss cs (j+1) (by rw [← Nat.add_assoc]; exact h.2) (by omega)]
theorem KI:∀ (aps:List AP) (xs:List SV) (j:Nat),WC aps xs (n+j)=true→j+(YB aps).length≤us.length→xs.map (SV.den (bind ρ n us))=Jn aps us j
 | [], [], _, _, _ => rfl
 | [], _ :: _, _, h, _ => by simp [WC] at h
 | .box l :: r, x :: xs, j, h, hl => by
  cases x <;> simp [WC] at h
  rename_i cs
  simp only [YB,List.length_append] at hl
  have h1:cs.map (BC.den (bind ρ n us))=Jo l us j:=Zdz l cs j h.1 (by omega)
  simp only [List.map_cons,Jn,SV.den,h1,KI r xs (j+l.length) (by rw [← Nat.add_assoc]; exact h.2) (by omega)]
 | .gbox l :: r, x :: xs, j, h, hl => by
  cases x <;> simp [WC] at h
  rename_i cs
  simp only [YB,List.length_append] at hl
  have h1:cs.map (BC.den (bind ρ n us))=Jo l us j:=Zdz l cs j h.1 (by omega)
  simp only [List.map_cons,Jn,SV.den,h1,KI r xs (j+l.length) (by rw [← Nat.add_assoc]; exact h.2) (by omega)]
 | .c _ :: r, x :: xs, j, h, hl => by
  cases x <;> simp [WC] at h
  simp only [YB] at hl
  simp only [List.map_cons,Jn,SV.den,KI r xs j h hl]
 | .agg _ :: r, x :: xs, j, h, hl => by
  cases x <;> simp [WC] at h
  simp only [YB] at hl
  simp only [List.map_cons,Jn,SV.den,KI r xs j h hl]
 | .clo _ _ :: r, x :: xs, j, h, hl => by
  cases x <;> simp [WC] at h
  simp only [YB] at hl
  simp only [List.map_cons,Jn,SV.den,KI r xs j h hl]
 | .dead :: r, x :: xs, j, h, hl => by
  cases x <;> simp [WC] at h
  simp only [YB] at hl
  simp only [List.map_cons,Jn,SV.den,KI r xs j h hl]
 | a :: _, [], _, h, _ => by cases a <;> simp [WC] at h
end
theorem ZjH:∀ (l:List Sh) (x:ShsT l),(ZdK l x).length=l.length
 | [], _ => rfl
 | [_], _ => rfl
 | _ :: t :: r, x => by simp [ZdK, ZjH (t :: r) x.2]
def Zwg (P:Program) (r:RSh) (x:TC):Option (List VE):=
 match r,x with
 | .c s, .c x => (ZpS s x).map fun v => [v]
 | .c s, .own x e l => (ZcB P s x e l).map fun v => [v]
 | .agg l, .agg cs => if l.all Sh.imm = true then Zgf l cs else none
 | _, _ => none
def Zii (P:Program):List RSh→List TC→Option (List VE)
 | [], [] => some []
 | r :: rs, x :: xs => match Zwg P r x, Zii P rs xs with | some v, some vs => some (v ++ vs) | _, _ => none
 | _, _ => none
def ZxF (P:Program) (rs:List RSh) (x:SV):Option (List VE):=
 match rs with
 | [r] => match Zwm x with | some y => Zwg P r y | none => none
 | rs => match x with | .tuple vs => Zii P rs vs | _ => none
def VV (P:Program):List AP→List SV→Option (List VE)
 | [], [] => some []
 | .box l :: r, .box cs :: xs => match ZdO P l cs, VV P r xs with | some v, some vs => some (v ++ vs) | _, _ => none
 | .gbox l :: r, .gbox cs :: xs => match ZdO P l cs, VV P r xs with | some v, some vs => some (v ++ vs) | _, _ => none
 | .c _ :: r, .dead :: xs => VV P r xs
 | .agg _ :: r, .dead :: xs => VV P r xs
 | .clo _ _ :: r, .dead :: xs => VV P r xs
 | .dead :: r, .dead :: xs => VV P r xs
 | _, _ => none
def ZiS (P:Program) (aps:List AP) (rs:List RSh) (x:SV) (os:List SV):Option (List VE):=
 match ZxF P rs x,VV P aps os with
 | some vs, some us => some (vs ++ us)
 | _, _ => none
section
variable {P:Program} {ρ:Nat→V}
theorem Zlp {r:RSh} {x:TC} {vs:List VE} (h:Zwg P r x=some vs):vs.length=r.sh.length∧∀ pre post:List V,ZdS P (x.den ρ) (VT r (pre++vs.map (VE.den ρ)++post) pre.length):=by
 unfold Zwg at h
 split at h
 ·cases hd:ZpS _ _ with
  | none => rw [hd] at h; cases h
  | some v =>
   rw [hd] at h
   simp only [Option.map_some,Option.some.injEq] at h
   subst h
   refine ⟨rfl,fun pre post=>?_⟩
   simp only [VT,List.map_cons,List.map_nil,List.append_assoc,List.cons_append,List.nil_append,Wb]
   exact .cell (ZfY hd)
 ·cases hd:ZcB P _ _ _ _ with
  | none => rw [hd] at h; cases h
  | some v =>
   rw [hd] at h
   simp only [Option.map_some,Option.some.injEq] at h
   subst h
   refine ⟨rfl,fun pre post=>?_⟩
   simp only [VT,List.map_cons,List.map_nil,List.append_assoc,List.cons_append,List.nil_append,Wb]
   exact .cell (Zdw hd)
 ·split at h
  ·rename_i hi
   obtain ⟨h1,h2,h3⟩:=Ze8 (P:=P) (ρ:=ρ) _ _ _ h
   exact ⟨h1,fun pre post=>.agg (by rw [List.length_map,h2,J7]) (Ve _ _ _ hi) (h3 pre post)⟩
  ·cases h
 ·cases h
theorem ZbK:∀ (rs:List RSh) (us:List V) (j:Nat),(YH rs us j).length=rs.length
 | [], _, _ => rfl
 | _ :: ss, us, j => by simp [YH, ZbK ss us]
theorem Zke:∀ (rs:List RSh) (xs:List TC) (vs:List VE),Zii P rs xs=some vs→vs.length=(rs.flatMap RSh.sh).length∧xs.length=rs.length∧∀ pre post:List V,
  ∀ (i:Nat) (c c':AV),(xs.map (TC.den ρ))[i]? = some c→(YH rs (pre++vs.map (VE.den ρ)++post) pre.length)[i]? = some c'→ZdS P c c'
 | [], [], vs, h => by
  simp only [Zii,Option.some.injEq] at h
  subst h
  exact ⟨rfl,rfl,fun _ _ i c c' h=>by simp at h⟩
 | [], _ :: _, _, h => by simp [Zii] at h
 | _ :: _, [], _, h => by simp [Zii] at h
 | r :: rs, x :: xs, us, h => by
  simp only [Zii] at h
  split at h
  ·rename_i v vs hv hvs
   simp only [Option.some.injEq] at h
   subst h
   obtain ⟨h1,h2⟩:=Zlp (P:=P) (ρ:=ρ) hv
   obtain ⟨h3,h4,h5⟩:=Zke rs xs vs hvs
   refine ⟨by simp [h1,h3],by simp [h4],fun pre post i c1 c2 hc1 hc2=>?_⟩
   cases i with
   | zero =>
    simp only [YH,List.map_cons,List.getElem?_cons_zero,Option.some.injEq] at hc1 hc2
    subst hc1
    subst hc2
    have:=h2 pre (vs.map (VE.den ρ)++post)
    simpa [List.append_assoc] using this
   | succ i =>
    have:=h5 (pre++v.map (VE.den ρ)) post i c1 c2 (by simpa using hc1)
    rw [List.length_append,List.length_map,h1] at this
    simp only [YH,List.getElem?_cons_succ] at hc2
    refine this ?_
    simpa [List.append_assoc] using hc2
  ·cases h
theorem Zsr {rs:List RSh} {x:SV} {vs:List VE} (h:ZxF P rs x=some vs):vs.length=Zjl rs∧∀ post:List V,KL P (x.den ρ) (Vy rs (vs.map (VE.den ρ)++post) 0):=by
 unfold ZxF at h
 split at h
 ·split at h
  ·rename_i r y hy
   obtain ⟨h1,h2⟩:=Zlp (P:=P) (ρ:=ρ) h
   refine ⟨by simpa [Zjl] using h1,fun post=>?_⟩
   rw [ZjR hy]
   have:=h2 [] post
   exact .comp (by simpa [Vy] using this)
  ·cases h
 ·rename_i hne
  split at h
  ·rename_i ys
   obtain ⟨h1,h2,h3⟩:=Zke (P:=P) (ρ:=ρ) _ _ _ h
   refine ⟨h1,fun post=>?_⟩
   have:∀ us,Vy rs us 0 = .tuple (YH rs us 0):=by
    intro us
    unfold Vy
    split
    ·exact (hne _ rfl).elim
    ·rfl
   rw [this]
   refine .tuple (by rw [List.length_map,h2,ZbK]) fun i c c' hc hc'=>h3 [] post i c c' hc ?_
   simpa using hc'
  ·cases h
theorem Zct:∀ (aps:List AP) (us:List V) (j:Nat),(Jn aps us j).length=aps.length
 | [], _, _ => rfl
 | a :: r, us, j => by cases a <;> simp [Jn, Zct r us]
theorem Vc:∀ (aps:List AP) (xs:List SV) (vs:List VE),VV P aps xs=some vs→vs.length=(YB aps).length∧xs.length=aps.length∧∀ pre post:List V,
  ∀ (i:Nat) (c c':AV),(xs.map (SV.den ρ))[i]? = some c→(Jn aps (pre++vs.map (VE.den ρ)++post) pre.length)[i]? = some c'→KL P c c'
 | [], [], vs, h => by
  simp only [VV,Option.some.injEq] at h
  subst h
  exact ⟨rfl,rfl,fun _ _ i c c' h=>by simp at h⟩
 | [], _ :: _, _, h => by simp [VV] at h
 | a :: _, [], _, h => by cases a <;> simp [VV] at h
 | .box l :: r, x :: xs, us, h => by
  cases x <;> simp only [VV,reduceCtorEq] at h
  split at h
  ·rename_i cs v vs hv hvs
   simp only [Option.some.injEq] at h
   subst h
   obtain ⟨h1,h2,h3⟩:=ZaV (P:=P) (ρ:=ρ) _ _ _ hv
   obtain ⟨h4,h5,h6⟩:=Vc r xs vs hvs
   refine ⟨by simp [h1,h4,YB],by simp [h5],fun pre post i c1 c2 hc1 hc2=>?_⟩
   cases i with
   | zero =>
    simp only [Jn,List.map_cons,List.getElem?_cons_zero,Option.some.injEq,SV.den] at hc1 hc2
    subst hc1
    subst hc2
    have:=h3 pre (vs.map (VE.den ρ)++post)
    exact .box (by rw [List.length_map,h2,J7]) (by simpa [List.append_assoc] using this)
   | succ i =>
    have:=h6 (pre++v.map (VE.den ρ)) post i c1 c2 (by simpa using hc1)
    rw [List.length_append,List.length_map,h1] at this
    simp only [Jn,List.getElem?_cons_succ] at hc2
    refine this ?_
    simpa [List.append_assoc] using hc2
  ·cases h
 | .gbox l :: r, x :: xs, us, h => by
  cases x <;> simp only [VV,reduceCtorEq] at h
  split at h
  ·rename_i cs v vs hv hvs
   simp only [Option.some.injEq] at h
   subst h
   obtain ⟨h1,h2,h3⟩:=ZaV (P:=P) (ρ:=ρ) _ _ _ hv
   obtain ⟨h4,h5,h6⟩:=Vc r xs vs hvs
   refine ⟨by simp [h1,h4,YB],by simp [h5],fun pre post i c1 c2 hc1 hc2=>?_⟩
   cases i with
   | zero =>
    simp only [Jn,List.map_cons,List.getElem?_cons_zero,Option.some.injEq,SV.den] at hc1 hc2
    subst hc1
    subst hc2
    have:=h3 pre (vs.map (VE.den ρ)++post)
    exact .gbox (by rw [List.length_map,h2,J7]) (by simpa [List.append_assoc] using this)
   | succ i =>
    have:=h6 (pre++v.map (VE.den ρ)) post i c1 c2 (by simpa using hc1)
    rw [List.length_append,List.length_map,h1] at this
    simp only [Jn,List.getElem?_cons_succ] at hc2
    refine this ?_
    simpa [List.append_assoc] using hc2
  ·cases h
 | .c s :: r, x :: xs, us, h => by
  cases x <;> simp only [VV,reduceCtorEq] at h
  exact retOs_dead (a:=.c s) r xs us (Vc r xs us h) (fun _ _=>rfl) rfl
 | .agg l :: r, x :: xs, us, h => by
  cases x <;> simp only [VV,reduceCtorEq] at h
  exact retOs_dead (a:=.agg l) r xs us (Vc r xs us h) (fun _ _=>rfl) rfl
 | .clo g ds :: r, x :: xs, us, h => by
  cases x <;> simp only [VV,reduceCtorEq] at h
  exact retOs_dead (a:=.clo g ds) r xs us (Vc r xs us h) (fun _ _=>rfl) rfl
 | .dead :: r, x :: xs, us, h => by
  cases x <;> simp only [VV,reduceCtorEq] at h
  exact retOs_dead (a:=.dead) r xs us (Vc r xs us h) (fun _ _=>rfl) rfl
where
 retOs_dead {a:AP} (r:List AP) (xs:List SV) (us:List VE) (h:us.length=(YB r).length∧xs.length=r.length∧∀ pre post:List V,
   ∀ (i:Nat) (c c':AV),(xs.map (SV.den ρ))[i]? = some c→(Jn r (pre++us.map (VE.den ρ)++post) pre.length)[i]? = some c'→KL P c c')
   (ha:∀ vs j,Jn (a :: r) vs j = .dead :: Jn r vs j) (hs:YB (a :: r)=YB r):us.length=(YB (a :: r)).length∧(SV.dead :: xs).length=(a :: r).length∧∀ pre post:List V,
   ∀ (i:Nat) (c c':AV),((SV.dead :: xs).map (SV.den ρ))[i]? = some c→(Jn (a :: r) (pre++us.map (VE.den ρ)++post) pre.length)[i]? = some c'→KL P c c':=by
  obtain ⟨h4,h5,h6⟩:=h
  refine ⟨by rw [hs]; exact h4,by simp [h5],fun pre post i c1 c2 hc1 hc2=>?_⟩
  rw [ha] at hc2
  cases i with
  | zero =>
   simp only [List.map_cons,List.getElem?_cons_zero,Option.some.injEq] at hc1 hc2
   subst hc2
   exact .dead
  | succ i => exact h6 pre post i c1 c2 (by simpa using hc1) (by simpa using hc2)
theorem Zk6 {aps:List AP} {rs:List RSh} {x:SV} {os:List SV} {vs:List VE} (h:ZiS P aps rs x os=some vs) :
  WN P (os.map (SV.den ρ)++[x.den ρ]) (Jn aps (vs.map (VE.den ρ)) (Zjl rs)++[Vy rs (vs.map (VE.den ρ)) 0]):=by
 unfold ZiS at h
 split at h
 ·rename_i a b ha hb
  simp only [Option.some.injEq] at h
  subst h
  obtain ⟨h1,h2⟩:=Zsr (ρ:=ρ) ha
  obtain ⟨h3,h4,h5⟩:=Vc (P:=P) (ρ:=ρ) _ _ _ hb
  have hlo:(os.map (SV.den ρ)).length=(Jn aps ((a++b).map (VE.den ρ)) (Zjl rs)).length:=by rw [List.length_map,h4,Zct]
  refine ⟨by simp only [List.length_append,hlo,List.length_cons,List.length_nil],fun i c c' hc hc'=>?_⟩
  by_cases hi:i < (os.map (SV.den ρ)).length
  ·rw [List.getElem?_append_left hi] at hc
   rw [List.getElem?_append_left (by rw [← hlo]; exact hi)] at hc'
   have:=h5 (a.map (VE.den ρ)) [] i c c' hc
   rw [List.length_map,h1] at this
   exact .inl (this (by simpa using hc'))
  ·rw [List.getElem?_append_right (by omega)] at hc
   rw [List.getElem?_append_right (by rw [← hlo]; omega),← hlo] at hc'
   have h0:i - (os.map (SV.den ρ)).length=0:=by
    have:=(List.getElem?_eq_some_iff.1 hc).1
    simp only [List.length_cons,List.length_nil] at this
    omega
   rw [h0] at hc hc'
   simp only [List.getElem?_cons_zero,Option.some.injEq] at hc hc'
   subst hc
   subst hc'
   rw [List.map_append]
   exact .inl (h2 _)
 ·cases h
end
def ZsL {γ:Type} (A:Nat→List V→Option γ) (n:Nat) (B:List V→Option γ):Nat→List V→Option γ:=fun i vs=>if i=n then B vs else A i vs
noncomputable def STree.run (P:Program) (Φ:List (FuncId×Fun)) (aps:List AP) (rs:List RSh):STree→(Nat→List V→Option (ShsT (Zbo rs aps)))→(Nat→V)→Option (ShsT (Zbo rs aps))
 | .stuck _, _, _ => none
 | .branch b t e, A, ρ => if b.den ρ = true then t.run P Φ aps rs A ρ else e.run P Φ aps rs A ρ
 | .req p t, A, ρ => @ZA _ (p.den ρ) (p.decDen ρ) (t.run P Φ aps rs A ρ)
 | .elem l i sh n t, A, ρ => Zl (l.den ρ) (i.den ρ) sh fun r => t.run P Φ aps rs A (bind ρ n (ZdK sh r))
 | .nilq l n t, A, ρ => @ZnP _ (decS _) (l.den ρ) fun b => t.run P Φ aps rs A (bind ρ n [.b b])
 | .call f args res outs n _ t, A, ρ =>
  match Zmj Φ f (args.filterMap SV.sig) with
  | some S => if Zyk S.res res n = true ∧ WC S.args outs (n + Zjl S.res) = true ∧ ZdE S.args = true then Zsy P S (args.map (SV.den ρ)) fun us => t.run P Φ aps rs A (bind ρ n us) else none
  | none => none
 | .loop lv init n t, A, ρ => ZdW (fun rec vs => t.run P Φ aps rs (ZsL A lv rec) (bind Zf6 n vs)) Zw (init.map (VE.den ρ))
 | .again lv vals, A, ρ => A lv (vals.map (VE.den ρ))
 | .ret res outs, _, ρ => match ZiS P aps rs res outs with | some vs => ZpT _ (vs.map (VE.den ρ)) | none => none
theorem Zxg {p:Nat→Prop} (h:∃ k,p k):∃ k,p k∧∀ j,j < k→¬ p j:=by
 obtain ⟨k,hk⟩:=h
 induction k using Nat.strongRecOn with
 | _ k ih =>
  by_cases hj:∃ j,j < k∧p j
  ·obtain ⟨j,h1,h2⟩:=hj
   exact ih j h1 h2
  ·exact ⟨k,hk,fun j h1 h2=>hj ⟨j,h1,h2⟩⟩
section
variable {P:Program} {Φ:List (FuncId×Fun)} {aps:List AP} {rs:List RSh}
theorem ZbW (hΦ:Zm5 P Φ) {r:ShsT (Zbo rs aps)} {R:AV→List AV→Prop} (hR:∀ x os,WN P (os++[x]) (Jn aps (ZdK _ r) (Zjl rs)++[Vy rs (ZdK _ r) 0])→R x os) :
  ∀ (t:STree) (A':Nat→List V→Option (ShsT (Zbo rs aps))) (A:Nat→List V→Prop) (ρ:Nat→V),(∀ lv vs,A' lv vs=some r→A lv vs)→t.run P Φ aps rs A' ρ=some r→t.wp P R A ρ
 | .stuck _, _, _, _, _, h => by simp [STree.run] at h
 | .branch b t e, A', A, ρ, hA, h => by
  simp only [STree.run] at h
  refine ⟨fun hb=>?_,fun hb=>?_⟩
  ·rw [if_pos hb] at h
   exact ZbW hΦ hR t A' A ρ hA h
  ·rw [if_neg (by rw [hb]; exact Bool.false_ne_true)] at h
   exact ZbW hΦ hR e A' A ρ hA h
 | .req p t, A', A, ρ, hA, h => by
  obtain ⟨h1,h2⟩:=Y5 (show @ZA _ (p.den ρ) (p.decDen ρ) (t.run P Φ aps rs A' ρ)=some r from h)
  exact ⟨h1,ZbW hΦ hR t A' A ρ hA h2⟩
 | .elem l i sh n t, A', A, ρ, hA, h => by
  obtain ⟨h0,cs,x,h1,h2,h3⟩:=Zkl (show Zl (l.den ρ) (i.den ρ) sh (fun r=>t.run P Φ aps rs A' (bind ρ n (ZdK sh r)))=some r from h)
  refine ⟨ZdK sh x,h0,?_,ZbW hΦ hR t A' A _ hA h3⟩
  rw [h1,Zi7 sh cs x n _ h2 (Zj4.bind ρ n _)]
 | .nilq l n t, A', A, ρ, hA, h => fun b hb => ZbW hΦ hR t A' A _ hA (Znp (show @ZnP _ (decS _) (l.den ρ) (fun b => t.run P Φ aps rs A' (bind ρ n [.b b])) = some r from h) b hb)
 | .call f args res outs n sh t, A', A, ρ, hA, h => by
  simp only [STree.run] at h
  split at h
  ·rename_i S hS
   split at h
   ·rename_i hfit
    obtain ⟨vs,x,h1,h2,h3⟩:=ZkA h
    have hlen:=ZjH _ x
    have hl2:(Zbo S.res S.args).length=Zjl S.res+(YB S.args).length:=by simp [Zbo,Zjl]
    refine ⟨ZdK _ x,?_,ZbW hΦ hR t A' A _ hA h3⟩
    rw [Zo9 hfit.1 (by omega),KI S.args outs (Zjl S.res) hfit.2.1 (by omega)]
    exact Yg.freeze S.args _ [] ((Zi2 hΦ hS vs x h2).stronger (Ziz hfit.2.2 h1)) (Zeo _ _ _ h1)
   ·cases h
  ·cases h
 | .loop lv init n t, A', A, ρ, hA, h => by
  let F:=fun (rec:List V→Option (ShsT (Zbo rs aps))) vs=>t.run P Φ aps rs (ZsL A' lv rec) (bind Zf6 n vs)
  have hF:ZdW F Zw (init.map (VE.den ρ))=some r:=h
  have hm:∀ vs,∃ m:Nat,(∃ k,ZdW F k vs=some r)→ZdW F m vs=some r∧∀ j,ZdW F j vs=some r→m≤j:=by
   intro vs
   by_cases hk:∃ k,ZdW F k vs=some r
   ·obtain ⟨m,h1,h2⟩:=Zxg hk
    exact ⟨m,fun _=>⟨h1,fun j hj=>Nat.le_of_not_lt fun hlt=>h2 j hlt hj⟩⟩
   ·exact ⟨0,fun h=>(hk h).elim⟩
  obtain ⟨m,hm⟩:=Classical.axiomOfChoice hm
  refine ⟨fun vs=>∃ k,ZdW F k vs=some r,m,⟨Zw,hF⟩,fun vs _ hk=>?_⟩
  obtain ⟨h1,h2⟩:=hm vs hk
  cases hmv:m vs with
  | zero => rw [hmv] at h1; cases h1
  | succ j =>
   rw [hmv] at h1
   refine ZbW hΦ hR t (ZsL A' lv (ZdW F j)) _ _ (fun lv' vs' hv=>?_) h1
   unfold ZsL at hv
   unfold Zty
   split at hv
   ·rename_i he
    rw [if_pos he]
    refine ⟨⟨j,hv⟩,?_⟩
    have:=(hm vs' ⟨j,hv⟩).2 j hv
    omega
   ·rename_i he
    rw [if_neg he]
    exact hA lv' vs' hv
 | .again lv vals, A', A, ρ, hA, h => hA lv _ h
 | .ret res outs, A', A, ρ, hA, h => by
  simp only [STree.run] at h
  split at h
  ·rename_i vs hvs
   refine hR _ _ ?_
   rw [Zhr _ _ _ h]
   exact Zk6 hvs
  ·cases h
end
end Go.AM
end

section
namespace Go.AM
def TyR (P:Program):Nat→TypeId→List AV→Prop
 | 0, _, _ => False
 | d + 1, T, cs =>
  match P.underlying T with
  | some (.int k) => ∃ z, cs = [.val (.int k z)] ∧ (Lit.int k z).wf = true
  | some .bool => ∃ b, cs = [.val (.bool b)]
  | some .string => ∃ s, cs = [.val (.string s)]
  | some (.slice e) => ∃ xs : List (List AV), cs = [.slice false (P.cellsOf e) xs] ∧ xs.length ≤ maxLen ∧ ∀ x ∈ xs, TyR P d e x
  | some (.struct fs) => ∃ parts : List (List AV), cs = parts.flatten ∧ parts.length = fs.size ∧ ∀ (i : Nat) (f : Field) (p : List AV), fs[i]? = some f → parts[i]? = some p → TyR P d f.type p
  | _ => False
def Zb1 (P:Program):Nat→TypeId→Bool
 | 0, _ => false
 | d + 1, T =>
  match P.underlying T with
  | some (.int _) => true
  | some .bool => true
  | some .string => true
  | some (.slice e) => Zb1 P d e && decide (0 < P.cellsOf e)
  | some (.struct fs) => (fs.toList.all fun f => Zb1 P d f.type) && decide (P.cellsOf T = (fs.toList.map fun f => P.cellsOf f.type).sum) &&
    (fs.toList.zipIdx.all fun p=>decide (p.1.offset=((fs.toList.take p.2).map fun f=>P.cellsOf f.type).sum))
  | _ => false
def Vz (w:World):Nat→Nat:=fun b=>match w.heap[b]? with | some (.cells c _ _)=>c.size | _=>0
theorem ZlG {w:World} {b o:Nat} {u:Value} (h:w.cell? ⟨b,o,none⟩=some u):o < Vz w b:=by
 unfold World.cell? at h
 unfold Vz
 split at h
 ·rename_i c t fr hc
  have h':c[o]? = some u:=by simpa using h
  have hc':w.heap[b]? = some (.cells c t fr):=hc
  rw [hc']
  exact (Array.getElem?_eq_some_iff.1 h').1
 ·cases h
theorem Y7.flat {w:World} {lim:Nat→Nat} : ∀ (aZ:List (List AV)) (us:List (List Value)),aZ.length=us.length→(∀ (i:Nat) (a:List AV) (u:List Value),aZ[i]? = some a→us[i]? = some u→Y7 w lim a u)→Y7 w lim aZ.flatten us.flatten
 | [], [], _, _ => Y7.nil w lim
 | [], _ :: _, h, _ => by simp at h
 | _ :: _, [], h, _ => by simp at h
 | a :: aZ, u :: us, h, hr => by
  have h1:=hr 0 a u rfl rfl
  have h2:=Y7.flat aZ us (by simpa using h) fun i a' u' ha hu=>hr (i+1) a' u' (by simpa using ha) (by simpa using hu)
  refine ⟨by simp [h1.1,h2.1],fun c hc=>?_,fun i c v hc hv=>?_⟩
  ·rw [List.flatten_cons,List.mem_append] at hc
   rcases hc with hc | hc
   ·exact h1.2.1 c hc
   ·exact h2.2.1 c hc
  ·rw [List.flatten_cons] at hc hv
   by_cases hi:i < a.length
   ·rw [List.getElem?_append_left hi] at hc
    rw [List.getElem?_append_left (by rw [← h1.1]; exact hi)] at hv
    exact h1.2.2 i c v hc hv
   ·rw [List.getElem?_append_right (by omega)] at hc
    rw [List.getElem?_append_right (by rw [← h1.1]; omega),← h1.1] at hv
    exact h2.2.2 _ c v hc hv
theorem ZpG {α:Type} : ∀ (ns:List Nat) (cs:List α),cs.length=ns.sum→∃ ps:List (List α),ps.length=ns.length∧ps.flatten=cs∧∀ (i:Nat) (n:Nat),ns[i]? = some n→ps[i]? = some ((cs.drop (ns.take i).sum).take n)
 | [], cs, h => ⟨[], rfl, by simp at h; simp [h], by simp⟩
 | n :: ns, cs, h => by
  obtain ⟨ps,h1,h2,h3⟩:=ZpG ns (cs.drop n) (by simp only [List.sum_cons] at h; simp; omega)
  refine ⟨cs.take n :: ps,by simp [h1],by rw [List.flatten_cons,h2,List.take_append_drop],fun i m hi=>?_⟩
  cases i with
  | zero => simp at hi; subst hi; simp
  | succ i =>
   have:=h3 i m (by simpa using hi)
   simp only [List.getElem?_cons_succ,this,List.take_succ_cons,List.sum_cons,List.drop_drop]
theorem WZ {β:Type} {Q:Nat→β→Prop} : ∀ (n:Nat),(∀ i,i < n→∃ b,Q i b)→∃ l:List β,l.length=n∧∀ (i:Nat) (b:β),l[i]? = some b→Q i b
 | 0, _ => ⟨[], rfl, by simp⟩
 | n + 1, h => by
  obtain ⟨l,h1,h2⟩:=WZ n fun i hi=>h i (by omega)
  obtain ⟨b,hb⟩:=h n (by omega)
  refine ⟨l++[b],by simp [h1],fun i c hc=>?_⟩
  by_cases hi:i < l.length
  ·rw [List.getElem?_append_left hi] at hc
   exact h2 i c hc
  ·rw [List.getElem?_append_right (by omega)] at hc
   have h0:i - l.length=0:=by
    have:=(List.getElem?_eq_some_iff.1 hc).1
    simp at this
    omega
   rw [h0] at hc
   simp only [List.getElem?_cons_zero,Option.some.injEq] at hc
   subst hc
   have:i=n:=by omega
   rw [this]
   exact hb
theorem ZeL {s:Nat} {cell:Nat→Option Value} : ∀ (l:List (List Value)) (o:Nat),(∀ (i:Nat) (us:List Value),l[i]? = some us→us.length=s∧∀ (k:Nat) (u:Value),us[k]? = some u→cell (o+i * s+k)=some u)→
  ∀ (j:Nat) (u:Value),l.flatten[j]? = some u→cell (o+j)=some u
 | [], o, _, j, u, h => by simp at h
 | us :: l, o, h, j, u, hj => by
  obtain ⟨h1,h2⟩:=h 0 us rfl
  rw [List.flatten_cons] at hj
  by_cases hlt:j < us.length
  ·rw [List.getElem?_append_left hlt] at hj
   have:=h2 j u hj
   simpa using this
  ·rw [List.getElem?_append_right (by omega)] at hj
   have:=ZeL l (o+s) (fun i us' hi=>by
    obtain ⟨g1,g2⟩:=h (i+1) us' (by simpa using hi)
    refine ⟨g1,fun k u' hk=>?_⟩
    have:=g2 k u' hk
    rw [Nat.add_mul,Nat.one_mul] at this
    rw [show o+s+i * s+k=o+(i * s+s)+k by omega]
    exact this) (j - us.length) u hj
   rw [show o+s+(j - us.length)=o+j by omega] at this
   exact this
theorem Zko {H:Type} {f:Func} {s:ChangeSpec} {apart fresh handsOn again:Bool} {W W':World} {args:Array Value} {v:Value} {ds gs:List (DataW H)} {before pa:List MemPlace} {P:Program} {enc:TypeId×Value→H}
  (hW:DataW.Whole enc P f.params.toList s.vars apart W args.toList ds gs before)
  (hres:∀ (b:Nat) (sp:Nat→Bool) (hd:Bool),DataW.TrodAll enc P W' b sp hd f.resultTypes.toList (v.resultList f.resultTypes.size) (s.fn H (ds++gs)).results [])
  (hargs:∀ sp:Nat→Bool,(∀ p∈before,sp p.block=true)→DataW.TrodAll enc P W' 0 sp true f.params.toList args.toList (s.fn H (ds++gs)).args pa)
  (hvars:∀ sp:Nat→Bool,(∀ p∈before,sp p.block=true)→DataW.TrodVars enc P W' sp s.vars (s.fn H (ds++gs)).vars [])
  (hps:before=pa++[]) (hk:W.keptBut W' (·∈before)) (hfz:∀ a:Addr,a.block < W.heap.size→W'.frozen? a=W.frozen? a)
  (hok:∀ (j:Nat) (t:TypeId) (r:Value),f.resultTypes[j]? = some t→(v.resultList f.resultTypes.size)[j]? = some r→Value.okWide P W' .any 0 t r) :
  s.post enc P f apart fresh handsOn again W args v W':=by
 have hin:∀ p∈before,p.block < W.heap.size:=fun p hp=>hW.lt p hp
 have hdec:∀ p∈before,(fun b=>decide (b < W.heap.size)) p.block=true:=fun p hp=>decide_eq_true (hin p hp)
 refine ⟨ds,gs,before,[],pa,[],hW,hres _ _ _,hargs _ hdec,hvars _ hdec,World.keptBut_mono (fun p hp=>⟨hp,?_⟩) hk,fun _=>?_⟩
 ·refine Or.inr (Or.inl ?_)
  rwa [hps,List.append_nil] at hp
 ·have hWp:=hW
  obtain ⟨_,_,_,_,_,hz,hn⟩:=hWp
  refine ⟨hok,_,_,([]++pa)++[],⟨[]++pa,[],ChangeShapes.trodAll_append (hargs _ fun _ _=>rfl) (hres _ _ _),hvars _ fun _ _=>rfl,rfl,?_,?_⟩,?_⟩
  ·intro b off hp
   have hmem:MemPlace.cell b off∈before:=by rw [hps]; simpa using hp
   rw [hfz _ (hin _ hmem)]
   exact hz b off hmem
  ·intro ha
   have h1:=hn ha
   rw [hps] at h1
   simpa using h1
  ·intro p hp _
   rw [hps]
   simpa using hp
section
variable {P:Program} {H:Type} {enc:TypeId×Value→H} {w:World} {sp:Nat→Bool} {held:Bool}
theorem Zih:∀ (d n:Nat) (T:TypeId) (cs:List Value) (x:DataW H×List MemPlace),Zb1 P d T=true→DataW.trod enc P w 0 sp held n T cs=some x→∃ avs,TyR P d T avs∧Y7 w (Vz w) avs cs
 | 0, n, T, cs, x, hf, _ => by simp [Zb1] at hf
 | d + 1, n, T, cs, x, hf, h => by
  simp only [Zb1] at hf
  split at hf
  ·rename_i k hk
   obtain ⟨z,rfl,_,hw⟩:=DataW.trod_int hk h
   refine ⟨[.val (.int k z)],?_,rfl,by simp [AV.isCell],fun i c u hc hu=>?_⟩
   ·simp only [TyR,hk]; exact ⟨z,rfl,hw⟩
   ·cases i with
    | zero => simp at hc hu; subst hc; subst hu; exact .val rfl
    | succ i => simp at hc
  ·rename_i hk
   obtain ⟨b,rfl,_⟩:=DataW.trod_bool hk h
   refine ⟨[.val (.bool b)],?_,rfl,by simp [AV.isCell],fun i c u hc hu=>?_⟩
   ·simp only [TyR,hk]; exact ⟨b,rfl⟩
   ·cases i with
    | zero => simp at hc hu; subst hc; subst hu; exact .val rfl
    | succ i => simp at hc
  ·rename_i hk
   obtain ⟨s,rfl,_⟩:=DataW.trod_string hk h
   refine ⟨[.val (.string s)],?_,rfl,by simp [AV.isCell],fun i c u hc hu=>?_⟩
   ·simp only [TyR,hk]; exact ⟨s,rfl⟩
   ·cases i with
    | zero => simp at hc hu; subst hc; subst hu; exact .val rfl
    | succ i => simp at hc
  ·rename_i e hk
   simp only [Bool.and_eq_true,decide_eq_true_eq] at hf
   rcases DataW.trod_slice hk h with ⟨rfl,_⟩ | ⟨a,len,cap,Za6,rest,m,_,rfl,_,_,hlc,hcm,hel,hcells,_,_⟩
   ·refine ⟨[.slice false (P.cellsOf e) []],?_,rfl,by simp [AV.isCell],fun i c u hc hu=>?_⟩
    ·simp only [TyR,hk]; exact ⟨[],rfl,by simp,by simp⟩
    ·cases i with
     | zero => simp at hc hu; subst hc; subst hu; exact .sliceN
     | succ i => simp at hc
   ·obtain ⟨l,hl1,hl2⟩:=WZ (Q:=fun i (p:List Value×List AV)=>w.cells? 0 (a.add (i * P.cellsOf e)) (P.cellsOf e)=some p.1∧TyR P d e p.2∧Y7 w (Vz w) p.2 p.1) len fun i hi=>by
     have h1:=hcells i hi
     obtain ⟨y,hy⟩:∃ y,Za6[i]? = some y:=⟨_,List.getElem?_eq_getElem (by omega)⟩
     rw [hy,Option.bind_eq_some_iff] at h1
     obtain ⟨us,h2,h3⟩:=h1
     obtain ⟨avs,h4,h5⟩:=Zih d m e us y hf.1 h3
     exact ⟨(us,avs),h2,h4,h5⟩
    have hall:∀ p∈l,TyR P d e p.2∧Y7 w (Vz w) p.2 p.1∧p.1.length=P.cellsOf e:=by
     intro p hp
     obtain ⟨i,hi⟩:=List.mem_iff_getElem?.1 hp
     obtain ⟨g1,g2,g3⟩:=hl2 i p hi
     exact ⟨g2,g3,(World.cells?_some g1).2.1⟩
    refine ⟨[.slice false (P.cellsOf e) (l.map (·.2))],?_,rfl,by simp [AV.isCell],fun i c u hc hu=>?_⟩
    ·simp only [TyR,hk]
     refine ⟨_,rfl,by simp; omega,fun y hy=>?_⟩
     obtain ⟨p,hp,rfl⟩:=List.mem_map.1 hy
     exact (hall p hp).1
    ·cases i with
     | succ i => simp at hc
     | zero =>
      simp only [List.getElem?_cons_zero,Option.some.injEq] at hc hu
      subst hc
      subst hu
      cases l with
      | nil =>
       have:len=0:=by simpa using hl1.symm
       subst this
       exact .sliceE (fun h=>by cases h)
      | cons p l' =>
       have hcell:∀ (j:Nat) (u:Value),((p :: l').map (·.1)).flatten[j]? = some u→w.cell? ⟨a.block,a.off+j,none⟩=some u:=by
        refine ZeL (s:=P.cellsOf e) (cell:=fun o=>w.cell? ⟨a.block,o,none⟩) _ a.off fun i us hi=>?_
        rw [List.getElem?_map] at hi
        cases hpi:(p :: l')[i]? with
        | none => simp [hpi] at hi
        | some q =>
         simp only [hpi,Option.map_some,Option.some.injEq] at hi
         subst hi
         obtain ⟨g1,_,_⟩:=hl2 i q hpi
         obtain ⟨_,k2,k3⟩:=World.cells?_some g1
         refine ⟨k2,fun k u hu=>?_⟩
         have hk':k < P.cellsOf e:=by rw [← k2]; exact (List.getElem?_eq_some_iff.1 hu).1
         have:=k3 k hk'
         rw [hu] at this
         have hblk:((a.add (i * P.cellsOf e)).add k).block=a.block∧((a.add (i * P.cellsOf e)).add k).off=a.off+i * P.cellsOf e+k:=by
          unfold Addr.add
          split <;> split <;> simp_all
         have hspot:((a.add (i * P.cellsOf e)).add k).spot=none:=by
          unfold World.cell? at this
          split at this
          ·split at this
           ·cases this
           ·rename_i hs; simpa using hs
          ·cases this
         have heq:(a.add (i * P.cellsOf e)).add k=⟨a.block,a.off+i * P.cellsOf e+k,none⟩:=by
          rw [← hblk.1,← hblk.2,← hspot]
         rw [heq] at this
         exact this
       have hspot:a.spot=none:=by
        obtain ⟨g1,_,_⟩:=hl2 0 p rfl
        obtain ⟨_,k2,k3⟩:=World.cells?_some g1
        have:=k3 0 hf.2
        obtain ⟨u,hu⟩:∃ u,p.1[0]? = some u:=⟨_,List.getElem?_eq_getElem (by rw [k2]; exact hf.2)⟩
        rw [hu] at this
        have ha:(a.add (0 * P.cellsOf e)).add 0=a:=by simp [Addr.add]
        rw [ha] at this
        unfold World.cell? at this
        split at this
        ·split at this
         ·cases this
         ·rename_i hs; simpa using hs
        ·cases this
       have ha:a=⟨a.block,a.off,none⟩:=by rw [← hspot]
       have hlen:((p :: l').map (·.2)).length=len:=by rw [List.length_map]; exact hl1
       rw [ha,← hlen]
       have hrel:Y7 w (Vz w) ((p :: l').map (·.2)).flatten ((p :: l').map (·.1)).flatten:=by
        refine Y7.flat _ _ (by simp) fun i x us hx hus=>?_
        rw [List.getElem?_map] at hx hus
        cases hpi:(p :: l')[i]? with
        | none => simp [hpi] at hx
        | some q =>
         simp only [hpi,Option.map_some,Option.some.injEq] at hx hus
         subst hx
         subst hus
         exact (hl2 i q hpi).2.2
       have hsz:∀ x∈(p :: l').map (·.2),x.length=P.cellsOf e:=by
        intro x hx
        obtain ⟨q,hq,rfl⟩:=List.mem_map.1 hx
        obtain ⟨_,g2,g3⟩:=hall q hq
        rw [g2.1,g3]
       refine .sliceC (us:=((p :: l').map (·.1)).flatten) hsz (fun x hx=>?_) (fun h=>by cases h) (by rw [hlen]; exact hlc) (fun hne=>?_) ?_ hcell hrel.2.2
       ·obtain ⟨q,hq,rfl⟩:=List.mem_map.1 hx
        exact (hall q hq).2.1.2.1
       ·have hpos:0 < (((p :: l').map (·.1)).flatten).length:=List.length_pos_iff.2 hne
        have hlast:=hcell ((((p :: l').map (·.1)).flatten).length - 1) _ (List.getElem?_eq_getElem (by omega))
        have:=ZlG hlast
        omega
       ·rw [← hrel.1,Zx _ _ hsz]
  ·rename_i fs hk
   simp only [Bool.and_eq_true,decide_eq_true_eq,List.all_eq_true] at hf
   obtain ⟨⟨h1,h2⟩,h3⟩:=hf
   obtain ⟨xs,m,_,_,hlen,hxl,hparts⟩:=DataW.trod_struct hk h
   obtain ⟨ps,q1,q2,q3⟩:=ZpG (fs.toList.map fun f=>P.cellsOf f.type) cs (by rw [hlen,h2])
   have hps:ps.length=fs.size:=by rw [q1]; simp
   obtain ⟨l,hl1,hl2⟩:=WZ (Q:=fun i (avs:List AV)=>∃ (f:Field) (us:List Value),fs[i]? = some f∧ps[i]? = some us∧TyR P d f.type avs∧Y7 w (Vz w) avs us) fs.size fun i hi=>by
    have hfi:fs[i]? = some fs[i]:=Array.getElem?_eq_getElem hi
    have hn:(fs.toList.map fun f=>P.cellsOf f.type)[i]? = some (P.cellsOf fs[i].type):=by simp [hi]
    have h4:=q3 i _ hn
    have h5:=hparts i _ hfi
    have hoff:=h3 (fs[i],i) (by rw [List.mem_zipIdx_iff_getElem?]; simp [hi])
    simp only at hoff
    rw [hoff,List.map_take] at h5
    obtain ⟨y,hy⟩:∃ y,xs[i]? = some y:=⟨_,List.getElem?_eq_getElem (by omega)⟩
    rw [hy] at h5
    obtain ⟨avs,h6,h7⟩:=Zih d m _ _ y (h1 fs[i] (by simp)) h5
    exact ⟨avs,fs[i],_,hfi,h4,h6,h7⟩
   refine ⟨l.flatten,?_,?_⟩
   ·simp only [TyR,hk]
    refine ⟨l,rfl,hl1,fun i f p hf hp=>?_⟩
    obtain ⟨f',us,g1,g2,g3,g4⟩:=hl2 i p hp
    rw [hf] at g1
    cases g1
    exact g3
   ·rw [← q2]
    refine Y7.flat _ _ (by rw [hl1,hps]) fun i avs us ha hu=>?_
    obtain ⟨f',us',g1,g2,g3,g4⟩:=hl2 i avs ha
    rw [hu] at g2
    cases g2
    exact g4
  ·cases hf
def VH (P:Program) (d:Nat) (T:TypeId) (x:AV):Prop:=
 match P.underlying T with
 | some (.struct _) => ∃ cs, x = .agg cs ∧ TyR P d T cs
 | _ => x.isCell = true ∧ TyR P d T [x]
theorem ZoV {lim:Nat→Nat} {avs:List AV} {v:Value} (h:Y7 w lim avs [v]):∃ x,avs = [x]∧x.isCell=true∧Rep w lim x v:=by
 obtain ⟨x,rfl⟩:=List.length_eq_one_iff.1 (by simpa using h.1:avs.length=1)
 exact ⟨x,rfl,h.2.1 x (by simp),h.2.2 0 x v rfl rfl⟩
theorem ZoC {d:Nat} {T:TypeId} {v:Value} {x:DataW H} {ps:List MemPlace} {r:Reach} {base:Nat} (hf:Zb1 P d T=true) (hok:Value.okWide P w r base T v)
  (h:DataW.Trod enc P w 0 sp held T v x ps):∃ y,VH P d T y∧∀ X σ k,Ja P w (Vz w) X σ k y v:=by
 obtain ⟨n,h⟩:=h
 obtain ⟨avs,h1,h2⟩:=Zih d n T _ _ hf h
 cases d with
 | zero => simp [Zb1] at hf
 | succ d =>
  have one:v.cells.toList = [v]→(∀ fs,P.underlying T≠some (.struct fs))→∃ y,VH P (d+1) T y∧∀ X σ k,Ja P w (Vz w) X σ k y v:=by
   intro hv hns
   rw [hv] at h2
   obtain ⟨y,rfl,h3,h4⟩:=ZoV h2
   refine ⟨y,?_,fun X σ k=>(Ww h3 h4).2⟩
   unfold VH
   split
   ·rename_i fs hfs; exact (hns fs hfs).elim
   ·exact ⟨h3,h1⟩
  simp only [Zb1] at hf
  split at hf
  ·rename_i kd hk
   obtain ⟨z,hz,_⟩:=DataW.trod_int hk h
   refine one ?_ (by rw [hk]; simp)
   simp only [Value.okWide,hk,Cell.okWide] at hok
   cases v <;> simp_all [Cell.ok,Value.cells]
  ·rename_i hk
   refine one ?_ (by rw [hk]; simp)
   simp only [Value.okWide,hk,Cell.okWide] at hok
   cases v <;> simp_all [Cell.ok,Value.cells]
  ·rename_i hk
   refine one ?_ (by rw [hk]; simp)
   simp only [Value.okWide,hk,Cell.okWide] at hok
   cases v <;> simp_all [Cell.ok,Value.cells]
  ·rename_i e hk
   refine one ?_ (by rw [hk]; simp)
   simp only [Value.okWide,hk,Cell.okWide] at hok
   cases v <;> simp_all [Cell.ok,Value.cells]
  ·rename_i fs hk
   simp only [Value.okWide,hk] at hok
   obtain ⟨cs,rfl,_,_⟩:=hok
   refine ⟨.agg avs,?_,?_⟩
   ·unfold VH
    simp only [hk]
    exact ⟨avs,rfl,h1⟩
   ·have:cs=cs.toList.toArray:=by simp
    intro X σ k
    show Rep w (Vz w) (.agg avs) (.agg cs)
    rw [this]
    exact .agg h2.1 h2.2.1 h2.2.2
  ·cases hf
theorem Zgi {d:Nat} {r:Reach} {base:Nat} : ∀ (ts:List TypeId) (vs:List Value) (ds:List (DataW H)) (ps:List MemPlace),(∀ t∈ts,Zb1 P d t=true)→
  (∀ (j:Nat) (t:TypeId) (v:Value),ts[j]? = some t→vs[j]? = some v→Value.okWide P w r base t v)→DataW.TrodAll enc P w 0 sp held ts vs ds ps→
  vs.length=ts.length∧∃ xs:List AV,xs.length=ts.length∧∀ (i:Nat) (t:TypeId) (x:AV) (v:Value),ts[i]? = some t→xs[i]? = some x→vs[i]? = some v→VH P d t x∧∀ X σ k,Ja P w (Vz w) X σ k x v
 | [], [], [], ps, _, _, _ => ⟨rfl, [], rfl, by simp⟩
 | t :: ts, v :: vs, x :: ds, ps, hf, hok, h => by
  obtain ⟨p,q,h1,h2,_⟩:=h
  obtain ⟨y,g1,g2⟩:=ZoC (hf t (by simp)) (hok 0 t v rfl rfl) h1
  obtain ⟨k1,xs,k2,k3⟩:=Zgi ts vs ds q (fun t ht=>hf t (by simp [ht])) (fun j t' v' ht hv=>hok (j+1) t' v' (by simpa using ht) (by simpa using hv)) h2
  refine ⟨by simp [k1],y :: xs,by simp [k2],fun i t' x' v' ht hx hv=>?_⟩
  cases i with
  | zero =>
   simp only [List.getElem?_cons_zero,Option.some.injEq] at ht hx hv
   subst ht
   subst hx
   subst hv
   exact ⟨g1,g2⟩
  | succ i => exact k3 i t' x' v' (by simpa using ht) (by simpa using hx) (by simpa using hv)
 | [], _ :: _, _, _, _, _, h => h.elim
 | [], [], _ :: _, _, _, _, h => h.elim
 | _ :: _, [], _, _, _, _, h => h.elim
 | _ :: _, _ :: _, [], _, _, _, h => h.elim
theorem ZgB {w':World} {sp':Nat→Bool} (hl:laidOutB P=true):∀ (ts:List TypeId) (vs:List Value) (ds:List (DataW H)) (ps:List MemPlace),(∀ t∈ts,t < P.types.size∧P.readableRec t=true)→
  DataW.TrodAll enc P w 0 (fun _=>true) true ts vs ds ps→(∀ p∈ps,w.sameAt w' p)→(∀ p∈ps,sp' p.block=true)→DataW.TrodAll enc P w' 0 sp' true ts vs ds ps
 | [], [], [], _, _, h, _, _ => h
 | t :: ts, v :: vs, x :: ds, ps, ht, h, hs, hp => by
  obtain ⟨p,q,⟨n,h1⟩,h2,rfl⟩:=h
  refine ⟨p,q,⟨n,?_⟩,ZgB hl ts vs ds q (fun t' h'=>ht t' (by simp [h'])) h2 (fun z hz=>hs z (by simp [hz])) (fun z hz=>hp z (by simp [hz])),rfl⟩
  have hr:=(ht t (by simp)).2
  exact DataW.trod_stays (T:=InBook P t) (kids_book hl hr) (fun {t' e} h' hu=>book_sized hr h' hu) (fun h=>by cases h) ⟨(ht t (by simp)).1,book_self t⟩ h1 (fun z hz=>hs z (by simp [hz])) (fun z hz=>hp z (by simp [hz]))
 | [], _ :: _, _, _, _, h, _, _ => h.elim
 | [], [], _ :: _, _, _, h, _, _ => h.elim
 | _ :: _, [], _, _, _, h, _, _ => h.elim
 | _ :: _, _ :: _, [], _, _, h, _, _ => h.elim
theorem ZfT {fn:Func} {f:FuncId} {s:ChangeSpec} {apart fresh handsOn again:Bool} {tb:TypeId} {d:Nat} (hl:laidOutB P=true) (hpar:∀ t∈fn.params.toList,Zb1 P d t=true∧t < P.types.size∧P.readableRec t=true)
  (hres:fn.resultTypes = #[tb]) (htb:P.underlying tb=some .bool) (hvars:s.vars = []) (hs:∀ ds,ds.length=fn.params.size→s.fn H ds = { results:=[.lit (.bool true)],args:=ds })
  (hcall:∀ xs:List AV,xs.length=fn.params.toList.length→(∀ (i:Nat) (t:TypeId) (x:AV),fn.params.toList[i]? = some t→xs[i]? = some x→VH P d t x)→∃ outs,Yg P f xs (B true) outs)
  (W:World) (base:Nat) (args:Array Value) (ds gs:List (DataW H)) (before:List MemPlace)
  (hval:∀ (j:Nat) t v,fn.params[j]? = some t→args[j]? = some v→Value.okWide P W .any base t v) (hW:DataW.Whole enc P fn.params.toList s.vars apart W args.toList ds gs before) :
  Calls P f args W fun e W'=>∃ v,e = .returned v∧s.post enc P fn apart fresh handsOn again W args v W':=by
 have hW':=hW
 obtain ⟨p,q,hA,hV,rfl,_,_⟩:=hW
 rw [hvars] at hV
 obtain ⟨rfl,rfl⟩:=ChangeShapes.trodVars_none hV
 obtain ⟨hlen,xs,hx1,hx2⟩:=Zgi (r:=.any) (base:=base) _ _ _ _ (fun t ht=>(hpar t ht).1) (fun j t v ht hv=>hval j t v (by simpa using ht) (by simpa using hv)) hA
 have hdl:ds.length=fn.params.size:=by
  have:∀ (ts:List TypeId) (vs:List Value) (ds:List (DataW H)) (ps:List MemPlace),DataW.TrodAll enc P W 0 (fun _=>true) true ts vs ds ps→ds.length=ts.length:=by
   intro ts
   induction ts with
   | nil => intro vs ds ps h; cases vs <;> cases ds <;> simp_all [DataW.TrodAll]
   | cons t ts ih =>
    intro vs ds ps h
    cases vs with
    | nil => exact h.elim
    | cons v vs =>
     cases ds with
     | nil => exact h.elim
     | cons x ds => obtain ⟨_, _, _, h2, _⟩ := h; simp [ih _ _ _ h2]
  simpa using this _ _ _ _ hA
 obtain ⟨outs,_,hc⟩:=hcall xs hx1 fun i t x ht hx=>by
  obtain ⟨v,hv⟩:∃ v,args.toList[i]? = some v:=⟨_,List.getElem?_eq_getElem (by rw [hlen]; exact (List.getElem?_eq_some_iff.1 ht).1)⟩
  exact (hx2 i t x v ht hx hv).1
 have hng:xs.countP AV.isG=0:=by
  rw [List.countP_eq_zero]
  intro x hx hg
  obtain ⟨i,hi⟩:=List.mem_iff_getElem?.1 hx
  have hlt:=(List.getElem?_eq_some_iff.1 hi).1
  obtain ⟨v,hv⟩:∃ v,args.toList[i]? = some v:=⟨_,List.getElem?_eq_getElem (by omega)⟩
  obtain ⟨t,ht⟩:∃ t,fn.params.toList[i]? = some t:=⟨_,List.getElem?_eq_getElem (by omega)⟩
  have hr:=(hx2 i t x v ht hi hv).2 (fun _ _=>none) (fun _=>.dead) 0
  cases x <;> simp [AV.isG] at hg
  obtain ⟨v',b,_,_,h,_⟩:=hr
  cases h
 have hcalls:=hc W (Vz W) (fun _ _=>none) args.toList (by rw [hng,hlen,hx1]; exact Nat.le_refl _) (fun i=>by
  cases hxi:xs[i]? with
  | none =>
   have:Jg xs i = .dead:=by simp [Jg,hxi]
   rw [this]
   trivial
  | some x =>
   have hi:=(List.getElem?_eq_some_iff.1 hxi).1
   obtain ⟨v,hv⟩:∃ v,args.toList[i]? = some v:=⟨_,List.getElem?_eq_getElem (by omega)⟩
   obtain ⟨t,ht⟩:∃ t,fn.params.toList[i]? = some t:=⟨_,List.getElem?_eq_getElem (by omega)⟩
   have h1:Jg xs i=x:=by simp [Jg,hxi]
   have h2:args.toList.getD i undef=v:=by rw [List.getD_eq_getElem?_getD,hv]; rfl
   rw [h1,h2]
   exact (hx2 i t x v ht hxi hv).2 _ _ _) (fun _ _ _ _ _ h=>by cases h) (fun _ _ _ h=>by cases h)
 rw [Array.toArray_toList] at hcalls
 refine hcalls.mono ?_
 rintro e W' ⟨v,lim',X',rfl,hst,hol,hrel,_,_,_⟩
 have hv:v = .bool true:=by
  have h:=hrel xs.length
  have h1:Jg (outs++[B true]) xs.length=B true:=by
   simp only [Jg]
   rw [List.getElem?_append_right (by omega),hol]
   simp
  have h2:ZbD xs.length args.toList v xs.length=v:=if_pos rfl
  rw [h1,h2] at h
  exact VW h
 subst hv
 have hkept:∀ b,b < W.heap.size→W'.heap[b]? = W.heap[b]?:=fun b hb=>(hst.blk b hb (by rintro ⟨_,_,h⟩; cases h)).1
 have hsame:∀ z∈p++[],W.sameAt W' z:=by
  intro z hz
  have hlt:=hW'.lt z hz
  cases z with
  | cell b off =>
   show W'.cell? ⟨b,off,none⟩=W.cell? ⟨b,off,none⟩
   unfold World.cell?
   rw [hkept b hlt]
  | map b => exact hkept b hlt
 refine ⟨_,rfl,Zko (pa:=p) hW' (fun b sp hd=>?_) (fun sp hp=>?_) (fun sp _=>?_) rfl ?_ hst.frz ?_⟩
 ·rw [hs _ (by simpa using hdl),hres]
  exact ⟨[],[],⟨1,by simp [DataW.trod,htb,Value.cells]⟩,rfl,rfl⟩
 ·rw [hs _ (by simpa using hdl),List.append_nil]
  exact ZgB hl _ _ _ _ (fun t ht=>(hpar t ht).2) hA (fun z hz=>hsame z (by simpa using hz)) (fun z hz=>hp z (by simpa using hz))
 ·rw [hs _ (by simpa using hdl),hvars]
  rfl
 ·refine ⟨hst.os,hst.output,fun i hi=>?_⟩
  rw [hkept i hi]
  cases W.heap[i]? with
  | none => rfl
  | some o => cases o <;> simp
 ·exact RowKit.ok_one hres rfl (RowKit.okWide_bool_mk htb true)
end
end Go.AM
end

section
namespace Go.AM
open Go
set_option linter.unusedSimpArgs false
set_option linter.unusedVariables false
def blank:Char:=Char.ofNat 32
theorem ZiP (r:List Char):wordsSigns (blank :: r) = [] :: wordsSigns r:=by
 show wordsSigns (Char.ofNat 32 :: r)=_
 rw [wordsSigns]
theorem ZhT (c:Char) (r:List Char) (h:c≠blank):wordsSigns (c :: r)=match wordsSigns r with | w :: ws=>(c :: w) :: ws | []=>[[c]]:=by
 rw [wordsSigns]
 ·rfl
 ·exact h
theorem Wj (r:List Char):∀ (w:List Char),(w.all fun c=>c != blank)=true→wordsSigns (w++blank :: r)=w :: wordsSigns r
 | [], _ => ZiP r
 | c :: w, h => by
  rw [List.all_cons,Bool.and_eq_true] at h
  rw [List.cons_append,ZhT c _ (by simpa using h.1),Wj r w h.2]
theorem ZgF {L:List Char} (h1:((L.take 7).all fun c=>c != blank)=true) (h2:(((L.drop 8).take 64).all fun c=>c != blank)=true) (h3:(((L.drop 73).take 3).all fun c=>c != blank)=true)
  (hL : L = L.take 7 ++ blank :: ((L.drop 8).take 64 ++ blank :: ((L.drop 73).take 3 ++ blank :: L.drop 77))) (hm : ((L.take 7 == "harness".toList || L.take 7 == "ownmain".toList) && isSumSigns ((L.drop 8).take 64)) = true)
  (hc : (L.drop 73).take 3 = "cut".toList) : ∃ ws, behindMainWord (wordsSigns L) = "cut".toList :: ws := by
 refine ⟨wordsSigns (L.drop 77),?_⟩
 have h:wordsSigns L=L.take 7 :: (L.drop 8).take 64 :: (L.drop 73).take 3 :: wordsSigns (L.drop 77):=by
  rw [hL,Wj _ _ h1,Wj _ _ h2,Wj _ _ h3,← hL]
 rw [h,behindMainWord,if_pos hm,hc]
theorem enters_of {P : Program} {ws : List (List Char)} (h : behindMainWord (wordsSigns P.initOrder.toList) = "cut".toList :: ws) (h1 : P.laysLater = false) (h2 : P.bearsReflect = false) (h3 : P.doorFits [] = true) : P.mayEnter = true := by
 unfold Program.mayEnter
 rw [h]
 have hs : stripLifts liftWords ("cut".toList :: ws) = ([], "cut".toList :: ws) := by kernel_rfl
 simp only [hs]
 simp [h1,h2,h3]
theorem lifts_of {P : Program} {ws : List (List Char)} (h : behindMainWord (wordsSigns P.initOrder.toList) = "cut".toList :: ws) : P.headLifts = [] := by
 unfold Program.headLifts
 rw [h]
 have hs : stripLifts liftWords ("cut".toList :: ws) = ([], "cut".toList :: ws) := by kernel_rfl
 simp only [hs]
 simp
theorem final_of {P : Program} {ws : List (List Char)} (h : behindMainWord (wordsSigns P.initOrder.toList) = "cut".toList :: ws) : P.liftsFinal = false := by
 unfold Program.liftsFinal
 rw [lifts_of h,h]
 have hs : ("cut".toList == "carried".toList) = false := by decide +kernel
 simp [hs]
theorem make_of {P : Program} {ws : List (List Char)} (h : behindMainWord (wordsSigns P.initOrder.toList) = "cut".toList :: ws) : P.make = some .cut := by
 unfold Program.make
 rw [h]
 simp
end Go.AM
end

section
namespace Go.AM
abbrev LL:Type:=List (List AV)
abbrev E0:LL:=[]
def Zte (l:List (List AV)):Prop:=∀ e∈l,∃ n:Int,0≤n∧n≤255∧e = [.val (.int .u8 n)]
def Jy (a b:List (List AV)) (k:Nat):Prop:=(a.length+b.length) * (k+1)≤JN
def Zud (a:Int) (k:Nat):Prop:=0≤a∧a.toNat * (k+1)≤JN
instance (l:List (List AV)):Decidable (Zte l):=ZjO l
instance (a b:List (List AV)) (k:Nat):Decidable (Jy a b k):=inferInstanceAs (Decidable ((a.length+b.length) * (k+1)≤JN))
instance (a:Int) (k:Nat):Decidable (Zud a k):=inferInstanceAs (Decidable (0≤a∧a.toNat * (k+1)≤JN))
instance (l:List (List AV)):Decidable (l≠[]):=Zng l
theorem CQ:(∀ a b:Int,(cop .lss a b=true)=(a < b))∧(∀ a b:Int,(cop .lss a b=false)=(b≤a))∧(∀ a b:Int,(cop .leq a b=true)=(a≤b))∧(∀ a b:Int,(cop .leq a b=false)=(b < a))∧
  (∀ a b:Int,(cop .gtr a b=true)=(b < a))∧(∀ a b:Int,(cop .gtr a b=false)=(a≤b))∧(∀ a b:Int,(cop .geq a b=true)=(b≤a))∧(∀ a b:Int,(cop .geq a b=false)=(a < b))∧
  (∀ a b:Int,(cop .eql a b=true)=(a=b))∧(∀ a b:Int,(cop .eql a b=false)=(a≠b))∧(∀ a b:Int,(cop .neq a b=true)=(a≠b))∧(∀ a b:Int,(cop .neq a b=false)=(a=b))∧
  (∀ b:Bool,(¬b=true)=(b=false))∧(∀ b:Bool,(¬b=false)=(b=true))∧(∀ b:Bool,((!b)=true)=(b=false))∧(∀ b:Bool,((!b)=false)=(b=true))∧
  (∀ a b:Bool,((a&&b)=true)=(a=true∧b=true))∧(∀ a b:Bool,((a||b)=true)=(a=true∨b=true))∧(∀ {p:Prop} [Decidable p],(decide p=true)=p)∧(∀ {p:Prop} {_:Decidable p},decide p=false↔¬p)∧
  ((false=true)=False)∧((true=false)=False)∧(∀ {α β:Type} (a:α) (f:α→Option β),(some a).bind f=f a)∧(∀ {α:Type} (x y:α),(some x=some y)=(x=y))∧
  (∀ p:Prop,(False↔p) = ¬p)∧(∀ p:Prop,(True↔p)=p)∧(∀ p:Prop,(p↔False) = ¬p)∧(∀ p:Prop,(p↔True)=p):=
 ⟨JW,J2,JY,JZ,JV,JU,J5,JX,J3,J0,J4,J1,Bool.not_eq_true,Bool.not_eq_false,Bool.not_eq_true',Bool.not_eq_false',Bool.and_eq_true,Bool.or_eq_true,
  @decide_eq_true_eq,@decide_eq_false_iff_not,Bool.false_eq_true,Bool.true_eq_false,@Option.bind_some,@Option.some.injEq,false_iff,true_iff,iff_false,iff_true⟩
theorem Zo {α:Type} {c:Prop} [Decidable c] {a b x:α} (h1:c→a=x) (h2:¬ c→b=x):(if c then a else b)=x:=by
 by_cases h:c
 ·rw [if_pos h]; exact h1 h
 ·rw [if_neg h]; exact h2 h
def STree.next:STree→STree
 | .branch _ t _ => t
 | .req _ t => t
 | .elem _ _ _ _ t => t
 | .nilq _ _ t => t
 | .call _ _ _ _ _ _ t => t
 | .loop _ _ _ t => t
 | t => t
def STree.other:STree→STree
 | .branch _ _ e => e
 | t => t
def STree.nexts:Nat→STree→STree
 | 0, t => t
 | k + 1, t => STree.nexts k t.next
def STree.go:STree→List Nat→STree
 | t, [] => t
 | t, 0 :: p => t.next.go p
 | t, 1 :: p => t.other.go p
 | t, k :: p => (STree.nexts k t).go p
@[reducible] def d2 {α β γ:Type} (r:α×β×γ):γ:=r.2.2
@[reducible] def d4 {α β γ δ ε:Type} (r:α×β×γ×δ×ε):ε:=r.2.2.2.2
@[reducible] def d8 {a b c d e f g h i:Type} (r:a×b×c×d×e×f×g×h×i):i:=d4 (d4 r)
@[reducible] def d16 {a b c d e f g h i j k l m n o p q:Type} (r:a×b×c×d×e×f×g×h×i×j×k×l×m×n×o×p×q):q:=d8 (d8 r)
def AP.hp:AP→HP
 | .c s => .c s
 | .agg l => .agg l
 | .box l => .box l
 | .gbox l => .gbox l
 | .clo g ds => .clo g ds
 | .dead => .dead
def Za4:List AP→Nat→List SV
 | [], _ => []
 | a :: r, n => ZnB a.hp n :: Za4 r (n + a.n)
def ZsH:List AP→Nat
 | [] => 0
 | a :: r => a.n + ZsH r
def apsFine (l:List AP):Bool:=l.all fun a=>a.hp.fine
theorem ZnH (a:AP) (us:List V) (j:Nat):Zm2 a us j=Zae a.hp us j:=by cases a <;> rfl
theorem Zep:∀ (l:List AP) (n:Nat) (us:List V),apsFine l=true→(Za4 l n).map (SV.den (ZuW us))=KY l us n
 | [], _, _, _ => rfl
 | a :: r, n, us, h => by
  simp only [apsFine,List.all_cons,Bool.and_eq_true] at h
  rw [Za4,List.map_cons,KY,ZnH,Zmy (m:=n) h.1 (ρ:=ZuW us) (us:=us) (fun j _=>rfl),Zep r (n+a.n) us h.2]
theorem Zhd:∀ (l:List AP) (n:Nat),∀ x∈Za4 l n,x.bd (n+ZsH l)
 | [], _ => by simp [Za4]
 | a :: r, n => by
  intro x hx
  simp only [Za4,List.mem_cons] at hx
  rcases hx with rfl | hx
  ·have hb:(ZnB a.hp n).bd (n+a.n):=by
    cases a with
    | c s => cases s <;> exact Nat.lt_succ_self n
    | agg l => exact YV l n
    | box l => exact YO l n
    | gbox l => exact YO l n
    | clo g ds => trivial
    | dead => trivial
   exact SV.bd_mono (by simp only [ZsH]; omega) _ hb
  ·have:=Zhd r (n+a.n) x hx
   rw [ZsH,← Nat.add_assoc]
   exact this
section
variable {P:Program}
theorem fun_ok {Φ : List (FuncId × Fun)} {E : Env} (hm : P.follows .mixedOrders = true) (hps : PlainSound P E.plain) {f : FuncId} {fn : Func} {S : Fun} {n : Nat} {T : STree} (hf : P.funcs[f]? = some fn) (hname : (fn.name == "runtime.NumGoroutine") = false)
  (hfine:apsFine S.args=true) (hn:ZsH S.args=n) (eq:ZwY P E fn (Za4 S.args 0) n=T) (hΦ:Zm5 P Φ) (hg:∀ vs,S.g vs=T.run P Φ S.args S.res (fun _ _=>none) (ZuW vs)):S.Ok P f:=by
 intro vs r h
 rw [hg] at h
 have:=callOk_ofR (R:=fun x os=>WN P (os++[x]) (Jn S.args (ZdK _ r) (Zjl S.res)++[Vy S.res (ZdK _ r) 0])) hm hps hf hname (args:=Za4 S.args 0) (n:=n) (ρ:=ZuW vs)
  (fun a ha=>by have:=Zhd S.args 0 a ha; rwa [Nat.zero_add,hn] at this) (fun _ _ h=>h) (by rw [eq]; exact ZbW hΦ (fun _ _ h=>h) T _ _ _ (fun _ _ h=>by cases h) h)
 rw [Zep S.args 0 vs hfine] at this
 exact this
end
end Go.AM
end

section
set_option linter.unusedVariables false
set_option linter.unusedSimpArgs false
namespace Go.AM
open Go.Shelf Go.RowKit Go.Lib
variable {P:Program}
theorem Kf (w:World) (dT sT ty elem:TypeId) (inf:TypeInfo) (g o dLen dCap:Nat) (a:Addr) (sLen sCap n:Nat) (cur:Array Value) (t:TypeId) (cs:List Value)
  (hu:P.underlying dT=some (.slice elem)) (hs:P.info? elem=some inf) (hg:w.heap[g]? = some (.cells cur t (0,0))) (hn:n=Nat.min sLen dLen) (hl:cs.length=n * inf.size)
  (hsrc:∀ j v,cs[j]? = some v→w.cell? (a.add j)=some v) (hfit:o+cs.length≤cur.size) (h1:∀ v∈cs,v.oneCell'=true) :
  (Builtin.copy_ #[dT,sT] ty #[.slice (some ⟨g,o,none⟩) dLen dCap,.slice (some a) sLen sCap]).run P w =
   .ok (goInt n) (w.setRow g (cur.toList.take o++cs++cur.toList.drop (o+cs.length)).toArray):=by
 have hl':=run_loadCells_list (P:=P) w a cs hsrc
 have hst:=run_storeCells_at P g o t cs 0 cur w hg (by simpa using hfit) h1
 rw [hl] at hl'
 simp [Builtin.copy_,run_underlying hu,Builtin.lenOf,Builtin.firstCells,sizeOf,typeInfo,hs,← hn,hl',hst]
theorem Zgb (w:World) {o:Oper} {a:Act} {K:Act→World→Prop} {Q:Exit→Act→World→Prop} (d s:Operand) (t t':TypeId)
  (ho:o.op = .call { callee:=.builtin .copy,args:=#[d,s],argTypes:=#[t,t'] }) (v u:Value) (hd:a.eval d=v) (hs:a.eval s=u) {v':Value} {w':World}
  (hr:(Builtin.copy_ #[t,t'] o.type #[v,u]).run P w = .ok v' w') (h:K (a.put o.dst v') w'):o.wp P a w K Q:=by
 unfold Oper.wp execOp
 simp only [ho,resolve,invoke,builtin,Sem.run_bind,Sem.run_pure,Result.andThen_ok,List.map_toArray,List.map_cons,List.map_nil,hd,hs,hr]
 exact h
theorem Vw (w:World) {ops:Array Oper} {rest:List Oper} {o:Oper} {a:Act} {Q:Exit→Act→World→Prop} (hgd:o.guard=none) (d s:Operand) (t t':TypeId)
  (ho:o.op = .call { callee:=.builtin .copy,args:=#[d,s],argTypes:=#[t,t'] }) (v u:Value) (hd:a.eval d=v) (hs:a.eval s=u) {v':Value} {w':World}
  (hr:(Builtin.copy_ #[t,t'] o.type #[v,u]).run P w = .ok v' w') (h:wpList P ops Q rest (a.put o.dst v') w'):wpList P ops Q (o :: rest) a w:=
 wpList_plain hgd fun _ hK=>Zgb w d s t t' ho v u hd hs hr (hK _ _ h)
theorem WQ {ops:Array Oper} {o:Oper} {a:Act} {w:World} {K:Act→World→Prop} {Q:Exit→Act→World→Prop} {E:Prop}
  (hg:o.guard=none) (d x:Operand) (dT sT:TypeId) (hop:o.op=Op.call { callee:=Callee.builtin Builtin.copy,args:=#[d,x],argTypes:=#[dT,sT] })
  (v u:Value) (hd:a.eval d=v) (hx:a.eval x=u) {v':Value} {w':World} (hr:(Builtin.copy_ #[dT,sT] o.type #[v,u]).run P w = .ok v' w') (hK:K (a.put o.dst v') w') :
  if Region.wanted o (yielded ops a.tmps)=true then Oper.wp P o a w K Q else E:=by
 have hw:Region.wanted o (yielded ops a.tmps)=true:=by simp [Region.wanted,hg]
 rw [if_pos hw]
 unfold Oper.wp
 simp [execOp,hop,resolve,invoke,builtin,hd,hx,hr,Result.andThen]
 exact hK
def insCode (T B I:TypeId) (fO fR:FuncId):Code:=
  (.seq (.region 0 #[
    ⟨some 6, .assign (.const (.slice none 0 0)), T, "slices.go:136", #[], none⟩] false)
  (.seq (.region 1 #[
    ⟨some 10, .move (.tmp 0), T, "slices.go:137", #[], none⟩,
    ⟨some 11, .move (.tmp 1), I, "slices.go:137", #[], none⟩,
    ⟨some 12, .slice T (.tmp 10) (some (.tmp 11)) none none, T, "slices.go:137", #[⟨0, .data⟩, ⟨1, .data⟩], none⟩] false)
  (.seq (.region 2 #[
    ⟨some 13, .move (.tmp 2), T, "slices.go:139", #[], none⟩,
    ⟨some 14, .call ⟨.builtin .len, #[(.tmp 13)], #[T]⟩, I, "slices.go:139", #[⟨0, .data⟩], none⟩,
    ⟨some 7, .assign (.tmp 14), I, "slices.go:139", #[⟨1, .data⟩, ⟨0, .phase⟩, ⟨1, .phase⟩], none⟩] false)
  (.seq (.seq (.region 3 #[
    ⟨some 15, .move (.tmp 7), I, "slices.go:140", #[], none⟩,
    ⟨some 16, .binOp .eql I (.tmp 15) (.const (.int .i64 0)) I, B, "slices.go:140", #[⟨0, .data⟩], none⟩] false)
  (.cond (.tmp 16)
   (.seq (.region 4 #[
     ⟨some 17, .move (.tmp 0), T, "slices.go:141", #[], none⟩,
     ⟨some 6, .assign (.tmp 17), T, "slices.go:141", #[⟨0, .data⟩, ⟨0, .phase⟩], none⟩] false)
   .ret)
   .skip))
  (.seq (.region 5 #[
    ⟨some 18, .move (.tmp 0), T, "slices.go:143", #[], none⟩,
    ⟨some 19, .call ⟨.builtin .len, #[(.tmp 18)], #[T]⟩, I, "slices.go:143", #[⟨0, .data⟩], none⟩,
    ⟨some 8, .assign (.tmp 19), I, "slices.go:143", #[⟨1, .data⟩, ⟨0, .phase⟩, ⟨1, .phase⟩], none⟩] false)
  (.seq (.seq (.region 6 #[
    ⟨some 20, .move (.tmp 1), I, "slices.go:144", #[], none⟩,
    ⟨some 21, .move (.tmp 8), I, "slices.go:144", #[], none⟩,
    ⟨some 22, .binOp .eql I (.tmp 20) (.tmp 21) I, B, "slices.go:144", #[⟨0, .data⟩, ⟨1, .data⟩], none⟩] false)
  (.cond (.tmp 22)
   (.seq (.region 7 #[
     ⟨some 23, .move (.tmp 0), T, "slices.go:145", #[], none⟩,
     ⟨some 24, .move (.tmp 2), T, "slices.go:145", #[], none⟩,
     ⟨some 25, .call ⟨.builtin .append, #[(.tmp 23), (.tmp 24)], #[T, T]⟩, T, "slices.go:145", #[⟨0, .data⟩, ⟨1, .data⟩], none⟩,
     ⟨some 6, .assign (.tmp 25), T, "slices.go:145", #[⟨2, .data⟩, ⟨2, .chain⟩, ⟨0, .phase⟩, ⟨1, .phase⟩, ⟨2, .phase⟩], none⟩] false)
   .ret)
   .skip))
  (.seq (.seq (.region 8 #[
    ⟨some 26, .move (.tmp 8), I, "slices.go:147", #[], none⟩,
    ⟨some 27, .move (.tmp 7), I, "slices.go:147", #[], none⟩,
    ⟨some 28, .binOp .add I (.tmp 26) (.tmp 27) I, I, "slices.go:147", #[⟨0, .data⟩, ⟨1, .data⟩], none⟩,
    ⟨some 29, .move (.tmp 0), T, "slices.go:147", #[], none⟩,
    ⟨some 30, .call ⟨.builtin .cap, #[(.tmp 29)], #[T]⟩, I, "slices.go:147", #[⟨3, .data⟩], none⟩,
    ⟨some 31, .binOp .gtr I (.tmp 28) (.tmp 30) I, B, "slices.go:147", #[⟨2, .data⟩, ⟨4, .data⟩], none⟩] false)
  (.cond (.tmp 31)
   (.seq (.region 9 #[
     ⟨some 32, .move (.tmp 0), T, "slices.go:152", #[], none⟩,
     ⟨some 33, .move (.tmp 1), I, "slices.go:152", #[], none⟩,
     ⟨some 34, .slice T (.tmp 32) none (some (.tmp 33)) none, T, "slices.go:152", #[⟨0, .data⟩, ⟨1, .data⟩], none⟩,
     ⟨some 35, .move (.tmp 8), I, "slices.go:152", #[], none⟩,
     ⟨some 36, .move (.tmp 7), I, "slices.go:152", #[], none⟩,
     ⟨some 37, .binOp .add I (.tmp 35) (.tmp 36) I, I, "slices.go:152", #[⟨3, .data⟩, ⟨4, .data⟩], none⟩,
     ⟨some 38, .move (.tmp 1), I, "slices.go:152", #[], none⟩,
     ⟨some 39, .binOp .sub I (.tmp 37) (.tmp 38) I, I, "slices.go:152", #[⟨5, .data⟩, ⟨6, .data⟩], none⟩,
     ⟨some 40, .call ⟨.builtin .append, #[(.tmp 34), (.tmp 39)], #[T, I]⟩, T, "slices.go:152", #[⟨2, .data⟩, ⟨7, .data⟩], none⟩,
     ⟨some 9, .assign (.tmp 40), T, "slices.go:152", #[⟨8, .data⟩, ⟨8, .chain⟩, ⟨0, .phase⟩, ⟨1, .phase⟩, ⟨2, .phase⟩, ⟨3, .phase⟩, ⟨4, .phase⟩, ⟨5, .phase⟩, ⟨6, .phase⟩, ⟨7, .phase⟩, ⟨8, .phase⟩], none⟩] false)
   (.seq (.region 10 #[
     ⟨some 41, .move (.tmp 9), T, "slices.go:153", #[], none⟩,
     ⟨some 42, .move (.tmp 1), I, "slices.go:153", #[], none⟩,
     ⟨some 43, .slice T (.tmp 41) (some (.tmp 42)) none none, T, "slices.go:153", #[⟨0, .data⟩, ⟨1, .data⟩], none⟩,
     ⟨some 44, .move (.tmp 2), T, "slices.go:153", #[], none⟩,
     ⟨some 45, .call ⟨.builtin .copy, #[(.tmp 43), (.tmp 44)], #[T, T]⟩, I, "slices.go:153", #[⟨2, .data⟩, ⟨3, .data⟩], none⟩] false)
   (.seq (.region 11 #[
     ⟨some 46, .move (.tmp 9), T, "slices.go:154", #[], none⟩,
     ⟨some 47, .move (.tmp 1), I, "slices.go:154", #[], none⟩,
     ⟨some 48, .move (.tmp 7), I, "slices.go:154", #[], none⟩,
     ⟨some 49, .binOp .add I (.tmp 47) (.tmp 48) I, I, "slices.go:154", #[⟨1, .data⟩, ⟨2, .data⟩], none⟩,
     ⟨some 50, .slice T (.tmp 46) (some (.tmp 49)) none none, T, "slices.go:154", #[⟨0, .data⟩, ⟨3, .data⟩], none⟩,
     ⟨some 51, .move (.tmp 0), T, "slices.go:154", #[], none⟩,
     ⟨some 52, .move (.tmp 1), I, "slices.go:154", #[], none⟩,
     ⟨some 53, .slice T (.tmp 51) (some (.tmp 52)) none none, T, "slices.go:154", #[⟨5, .data⟩, ⟨6, .data⟩], none⟩,
     ⟨some 54, .call ⟨.builtin .copy, #[(.tmp 50), (.tmp 53)], #[T, T]⟩, I, "slices.go:154", #[⟨4, .data⟩, ⟨7, .data⟩], none⟩] true)
   (.seq (.region 12 #[
     ⟨some 55, .move (.tmp 9), T, "slices.go:155", #[], none⟩,
     ⟨some 6, .assign (.tmp 55), T, "slices.go:155", #[⟨0, .data⟩, ⟨0, .phase⟩], none⟩] false)
   .ret))))
   .skip))
  (.seq (.region 13 #[
    ⟨some 56, .move (.tmp 0), T, "slices.go:157", #[], none⟩,
    ⟨some 57, .move (.tmp 8), I, "slices.go:157", #[], none⟩,
    ⟨some 58, .move (.tmp 7), I, "slices.go:157", #[], none⟩,
    ⟨some 59, .binOp .add I (.tmp 57) (.tmp 58) I, I, "slices.go:157", #[⟨1, .data⟩, ⟨2, .data⟩], none⟩,
    ⟨some 60, .slice T (.tmp 56) none (some (.tmp 59)) none, T, "slices.go:157", #[⟨0, .data⟩, ⟨3, .data⟩], none⟩,
    ⟨some 0, .assign (.tmp 60), T, "slices.go:157", #[⟨4, .data⟩, ⟨0, .phase⟩, ⟨1, .phase⟩, ⟨2, .phase⟩, ⟨3, .phase⟩, ⟨4, .phase⟩], none⟩] false)
  (.seq (.seq (.region 14 #[
    ⟨some 61, .move (.tmp 2), T, "slices.go:173", #[], none⟩,
    ⟨some 62, .move (.tmp 0), T, "slices.go:173", #[], none⟩,
    ⟨some 63, .move (.tmp 1), I, "slices.go:173", #[], none⟩,
    ⟨some 64, .move (.tmp 7), I, "slices.go:173", #[], none⟩,
    ⟨some 65, .binOp .add I (.tmp 63) (.tmp 64) I, I, "slices.go:173", #[⟨2, .data⟩, ⟨3, .data⟩], none⟩,
    ⟨some 66, .slice T (.tmp 62) (some (.tmp 65)) none none, T, "slices.go:173", #[⟨1, .data⟩, ⟨4, .data⟩], none⟩,
    ⟨some 67, .call ⟨.value (.func fO), #[(.tmp 61), (.tmp 66)], #[T, T]⟩, B, "slices.go:173", #[⟨0, .data⟩, ⟨5, .data⟩], none⟩,
    ⟨some 68, .unOp .not B (.tmp 67), B, "slices.go:173", #[⟨6, .data⟩], none⟩] false)
  (.cond (.tmp 68)
   (.seq (.region 15 #[
     ⟨some 69, .move (.tmp 0), T, "slices.go:178", #[], none⟩,
     ⟨some 70, .move (.tmp 1), I, "slices.go:178", #[], none⟩,
     ⟨some 71, .move (.tmp 7), I, "slices.go:178", #[], none⟩,
     ⟨some 72, .binOp .add I (.tmp 70) (.tmp 71) I, I, "slices.go:178", #[⟨1, .data⟩, ⟨2, .data⟩], none⟩,
     ⟨some 73, .slice T (.tmp 69) (some (.tmp 72)) none none, T, "slices.go:178", #[⟨0, .data⟩, ⟨3, .data⟩], none⟩,
     ⟨some 74, .move (.tmp 0), T, "slices.go:178", #[], none⟩,
     ⟨some 75, .move (.tmp 1), I, "slices.go:178", #[], none⟩,
     ⟨some 76, .slice T (.tmp 74) (some (.tmp 75)) none none, T, "slices.go:178", #[⟨5, .data⟩, ⟨6, .data⟩], none⟩,
     ⟨some 77, .call ⟨.builtin .copy, #[(.tmp 73), (.tmp 76)], #[T, T]⟩, I, "slices.go:178", #[⟨4, .data⟩, ⟨7, .data⟩], none⟩] true)
   (.seq (.region 16 #[
     ⟨some 78, .move (.tmp 0), T, "slices.go:186", #[], none⟩,
     ⟨some 79, .move (.tmp 1), I, "slices.go:186", #[], none⟩,
     ⟨some 80, .slice T (.tmp 78) (some (.tmp 79)) none none, T, "slices.go:186", #[⟨0, .data⟩, ⟨1, .data⟩], none⟩,
     ⟨some 81, .move (.tmp 2), T, "slices.go:186", #[], none⟩,
     ⟨some 82, .call ⟨.builtin .copy, #[(.tmp 80), (.tmp 81)], #[T, T]⟩, I, "slices.go:186", #[⟨2, .data⟩, ⟨3, .data⟩], none⟩] false)
   (.seq (.region 17 #[
     ⟨some 83, .move (.tmp 0), T, "slices.go:193", #[], none⟩,
     ⟨some 6, .assign (.tmp 83), T, "slices.go:193", #[⟨0, .data⟩, ⟨0, .phase⟩], none⟩] false)
   .ret)))
   .skip))
  (.seq (.region 18 #[
    ⟨some 84, .move (.tmp 0), T, "slices.go:200", #[], none⟩,
    ⟨some 85, .move (.tmp 8), I, "slices.go:200", #[], none⟩,
    ⟨some 86, .slice T (.tmp 84) (some (.tmp 85)) none none, T, "slices.go:200", #[⟨0, .data⟩, ⟨1, .data⟩], none⟩,
    ⟨some 87, .move (.tmp 2), T, "slices.go:200", #[], none⟩,
    ⟨some 88, .call ⟨.builtin .copy, #[(.tmp 86), (.tmp 87)], #[T, T]⟩, I, "slices.go:200", #[⟨2, .data⟩, ⟨3, .data⟩], none⟩] false)
  (.seq (.region 19 #[
    ⟨some 89, .move (.tmp 0), T, "slices.go:207", #[], none⟩,
    ⟨some 90, .move (.tmp 1), I, "slices.go:207", #[], none⟩,
    ⟨some 91, .slice T (.tmp 89) (some (.tmp 90)) none none, T, "slices.go:207", #[⟨0, .data⟩, ⟨1, .data⟩], none⟩,
    ⟨some 92, .move (.tmp 7), I, "slices.go:207", #[], none⟩,
    ⟨some 93, .call ⟨.value (.func fR), #[(.tmp 91), (.tmp 92)], #[T, I]⟩, 0, "slices.go:207", #[⟨2, .data⟩, ⟨3, .data⟩], none⟩] false)
  (.seq (.region 20 #[
    ⟨some 94, .move (.tmp 0), T, "slices.go:214", #[], none⟩,
    ⟨some 6, .assign (.tmp 94), T, "slices.go:214", #[⟨0, .data⟩, ⟨0, .phase⟩], none⟩] false)
  .ret))))))))))))
structure ZcE (P:Program) (T B I e:TypeId) (inf:TypeInfo) (z:Value) (k:Nat):Prop where
 mixed:P.follows .mixedOrders=true
 tT:P.underlying T=some (.slice e)
 tI:P.underlying I=some (.int .i64)
 tB:P.underlying B=some .bool
 ie:P.info? e=some inf
 zero:inf.zero=some z
 zsz:z.cells.size=k
 sz:inf.size=k
 pos:0 < k
structure Zdm (P:Program) (T B I:TypeId) (fO:FuncId) (e:TypeId) (inf:TypeInfo) (z:Value) (k:Nat):Prop extends ZcE P T B I e inf z k where
 fO:∀ args w,(callFunc fO args).run P w=((Extern.SlicesOverlaps.overlaps #[T,T] #[B] args).run P w).andThen fun v w'=>.ok (.value v) w'
theorem Zjh {w:World} {b:Nat} {cur:Array Value} {e:TypeId} {fr:Nat×Nat} (h:w.heap[b]? = some (.cells cur e fr)):w.shape? b=some (e,cur.size):=by simp [World.shape?,h]
theorem Zg9 {w:World} {b o:Nat} {cur:Array Value} {e:TypeId} (h:w.heap[b]? = some (.cells cur e (0,0))):w.frozen? ⟨b,o,none⟩=false:=by simp [World.frozen?,h]
def Yz (U:List Value) (k n m i:Nat):List Value:=U.take ((i+m) * k)++(U.drop (i * k)).take ((n - i) * k)++U.drop ((i+m) * k+(n - i) * k)
def ZeA (U vs:List Value) (k n m i:Nat):List Value:=
 (Yz U k n m i).take (i * k)++vs++(Yz U k n m i).drop (i * k+m * k)
theorem Ws {w:World} {b:Nat} {cur:Array Value} {e:TypeId} {fr:Nat×Nat} (h:w.heap[b]? = some (.cells cur e fr)) {l:List Value} {q:Nat} (hl:∀ j v,l[j]? = some v→cur[q+j]? = some v) :
  ∀ j v,l[j]? = some v→w.cell? ((⟨b,q,none⟩:Addr).add j)=some v:=fun j v hj=>by
 rw [Yd,Jv h]
 exact hl j v hj
theorem YF {w:World} {b:Nat} {cur cur':Array Value} {t:TypeId} (h:w.heap[b]? = some (.cells cur t (0,0))):(w.setRow b cur').heap[b]? = some (.cells cur' t (0,0)):=setRow_heap w b cur cur' t (0,0) h
set_option maxHeartbeats 4000000 in
set_option maxRecDepth 100000 in
theorem ZmS {T B I:TypeId} {fO fR:FuncId} {e:TypeId} {inf:TypeInfo} {z:Value} {k:Nat} (L:Zdm P T B I fO e inf z k) {f:FuncId} {fn:Func} (hf:P.funcs[f]? = some fn) (hb:fn.body=some (insCode T B I fO fR)) (hnt:fn.ntmps=95) (hrs:fn.results = #[.tmp 6])
  (b n c i vb m vc:Nat) (cur vcur:Array Value) (w:World) (hi:i < n) (hm:0 < m) (hroom:n+m≤c) (hc63:c≤9223372036854775807) (hvb:vb≠b)
  (hg:w.heap[b]? = some (.cells cur e (0,0))) (hcs:cur.size=c * k) (hvg:w.heap[vb]? = some (.cells vcur e (0,0))) (hvs:vcur.size=vc * k) (hmv:m≤vc)
  (h1c:∀ v∈cur.toList.take (n * k),v.oneCell'=true) (h1v:∀ v∈vcur.toList.take (m * k),v.oneCell'=true) :
  Calls P f #[.slice (some ⟨b,0,none⟩) n c,.int .i64 i,.slice (some ⟨vb,0,none⟩) m vc] w fun e' w'=>
   e' = .returned (.slice (some ⟨b,0,none⟩) (n+m) c)∧w'=(w.drew.setRow b (Yz cur.toList k n m i).toArray).setRow b (ZeA cur.toList (vcur.toList.take (m * k)) k n m i).toArray:=by
 have mixed:=L.mixed
 have t0:=L.tT; have t1:=L.tI; have t2:=L.tB
 have u0:=run_underlying L.tT; have u1:=run_underlying L.tI; have u2:=run_underlying L.tB
 have zsE:∀ w,(Go.sizeOf e).run P w = .ok k w:=fun w=>by rw [ZC L.ie]; rw [ZI L.ie,L.sz]
 have hk:=L.pos
 have hz1:¬ ((m:Int)=0):=by omega
 have hz2:¬ ((i:Int)=(n:Int)):=by omega
 have hn0:(n+m) * k≤c * k:=Nat.mul_le_mul_right _ hroom
 have hn1:(n+m) * k=n * k+m * k:=Nat.add_mul _ _ _
 have hn2:(i+m) * k=i * k+m * k:=Nat.add_mul _ _ _
 have hn3:(n - i) * k=n * k - i * k:=Nat.sub_mul _ _ _
 have hn4:i * k≤n * k:=Nat.mul_le_mul_right _ (by omega)
 have hn5:0 < c * k:=Nat.mul_pos (by omega) hk
 have hn6:m * k≤vc * k:=Nat.mul_le_mul_right _ hmv
 have hov:∀ lb cb W,W.heap[vb]? = w.heap[vb]?→W.heap[b]? = w.heap[b]?→(callFunc fO #[.slice (some ⟨vb,0,none⟩) m vc,.slice (some ⟨b,(i+m) * k,none⟩) lb cb]).run P W = .ok (.value (.bool false)) W:=fun lb cb W h1 h2=>by
  rw [L.fO,Lib.run_overlaps_apart W T B e L.tT k zsE ⟨vb,0,none⟩ ⟨b,(i+m) * k,none⟩ m vc lb cb hvb e e vcur.size cur.size (Zjh (h1.trans hvg)) (Zjh (h2.trans hg)) (by omega) (Zg9 (h1.trans hvg)) (Zg9 (h1.trans hvg))]
  rfl
 have hcl:cur.toList.length=c * k:=by simpa using hcs
 have hin:i≤n:=by omega
 have hcp1:∀ ty dc sc,(Builtin.copy_ #[T,T] ty #[.slice (some ⟨b,(i+m) * k,none⟩) (n+m - (i+m)) dc,.slice (some ⟨b,i * k,none⟩) (n+m - i) sc]).run P w.drew = .ok (goInt ((n - i:Nat):Int)) (w.drew.setRow b (Yz cur.toList k n m i).toArray):=fun ty dc sc=>by
  have hlen:((cur.toList.drop (i * k)).take ((n - i) * k)).length=(n - i) * k:=by rw [List.length_take,List.length_drop,hcl]; omega
  have:=Kf (P:=P) w.drew T T ty e inf b ((i+m) * k) (n+m - (i+m)) dc ⟨b,i * k,none⟩ (n+m - i) sc (n - i) cur e ((cur.toList.drop (i * k)).take ((n - i) * k)) L.tT L.ie hg (by simp only [Nat.min_def]; split <;> omega) (by rw [hlen,L.sz])
   (Ws (w:=w.drew) hg fun j v hj=>by
    rw [List.getElem?_take] at hj
    split at hj
    ·rw [List.getElem?_drop] at hj; simpa using hj
    ·cases hj)
   (by rw [hlen,hcs]; omega) (fun v hv=>h1c v (by
    rw [hn3,← List.drop_take] at hv
    exact List.mem_of_mem_drop hv))
  rw [hlen] at this
  exact this
 have hcp2:∀ W,W.heap[b]? = some (.cells (Yz cur.toList k n m i).toArray e (0,0))→W.heap[vb]? = w.heap[vb]?→∀ ty dc,(Builtin.copy_ #[T,T] ty #[.slice (some ⟨b,i * k,none⟩) (n+m - i) dc,.slice (some ⟨vb,0,none⟩) m vc]).run P W = .ok (goInt m) (W.setRow b (ZeA cur.toList (vcur.toList.take (m * k)) k n m i).toArray):=fun W h1 h2 ty dc=>by
  have hvl:vcur.toList.length=vc * k:=by simpa using hvs
  have hlen:(vcur.toList.take (m * k)).length=m * k:=by rw [List.length_take,hvl]; omega
  have:=Kf (P:=P) W T T ty e inf b (i * k) (n+m - i) dc ⟨vb,0,none⟩ m vc m (Yz cur.toList k n m i).toArray e (vcur.toList.take (m * k)) L.tT L.ie h1 (by simp only [Nat.min_def]; split <;> omega) (by rw [hlen,L.sz])
   (Ws (w:=W) (h2.trans hvg) fun j v hj=>by
    rw [List.getElem?_take] at hj
    split at hj
    ·simpa using hj
    ·cases hj)
   (by
    have:(Yz cur.toList k n m i).length=c * k:=by simp only [Yz,List.length_append,List.length_take,List.length_drop,hcl]; omega
    rw [hlen,List.size_toArray,this]; omega) h1v
  rw [hlen] at this
  exact this
 have hw1:IntKind.i64.wrap ((i:Int)+(m:Int))=(i:Int)+(m:Int):=by rw [IntKind.wrap_i64]; omega
 have hw2:IntKind.i64.wrap ((n:Int)+(m:Int))=(n:Int)+(m:Int):=by rw [IntKind.wrap_i64]; omega
 have hb1:(0:Int)≤(i:Int)+(m:Int):=by omega
 have htn:((i:Int)+(m:Int)).toNat=i+m:=by omega
 have hb2:¬ (c=i+m):=by omega
 have hb3:(i:Int)≤(n:Int)+(m:Int):=by omega
 have hb4:¬ (c=i):=by omega
 have hcp2w:=fun ty dc=>hcp2 (w.drew.setRow b (Yz cur.toList k n m i).toArray) (YF (w:=w.drew) hg) (by simp [World.setRow,Array.getElem?_modify,Ne.symm hvb]; rfl) ty dc
 have hovw:=fun lb cb=>hov lb cb w rfl rfl
 rw [hn2] at hovw hcp1
 clear hcp2 hov hg hvg hcs hcl hvs h1c h1v
 refine calls_of_wp hf hb ?_
 rw [hnt]
 simp only [List.size_toArray,List.length_cons,List.length_nil,Nat.reduceAdd,Nat.reduceSub,Array.replicate_succ,Array.replicate_zero,List.push_toArray,List.append_toArray,List.nil_append,List.cons_append]
 unfold insCode
 go_wp2_with (simp only [hovw])
 go_region_law_o (refine WQ rfl _ _ T T rfl _ _ (by simp [Act.eval,Act.put]) (by simp [Act.eval,Act.put]) (hcp1 _ _ _) ?_)
 go_wp2_with (at_builtin; refine Vw _ rfl _ _ T T rfl _ _ rfl rfl (hcp2w _ _) ?_)
 refine bodyPost_ret (results_tmp hrs _ _ _) rfl ?_
 exact ⟨rfl,rfl⟩
set_option maxHeartbeats 4000000 in
set_option maxRecDepth 100000 in
theorem Zq8 {T B I:TypeId} {fO fR:FuncId} {e:TypeId} {inf:TypeInfo} {z:Value} {k:Nat} (L:Zdm P T B I fO e inf z k) {f:FuncId} {fn:Func} (hf:P.funcs[f]? = some fn) (hb:fn.body=some (insCode T B I fO fR)) (hnt:fn.ntmps=95) (hrs:fn.results = #[.tmp 6])
  (base:Option Addr) (n c:Nat) (vb:Option Addr) (m vc:Nat) (w w1:World) (v1:Value) (hm:0 < m) (hnc:n≤c)
  (hr:∀ ty,(Builtin.append_ #[T,T] ty #[.slice base n c,.slice vb m vc]).run P w = .ok v1 w1) :
  Calls P f #[.slice base n c,.int .i64 n,.slice vb m vc] w fun e' w'=>e' = .returned v1∧w'=w1:=by
 have mixed:=L.mixed
 have t0:=L.tT; have t1:=L.tI; have t2:=L.tB
 have u0:=run_underlying L.tT; have u1:=run_underlying L.tI; have u2:=run_underlying L.tB
 have zsE:∀ w,(Go.sizeOf e).run P w = .ok k w:=fun w=>by rw [ZC L.ie]; rw [ZI L.ie,L.sz]
 have hz1:¬ ((m:Int)=0):=by omega
 refine calls_of_wp hf hb ?_
 rw [hnt]
 simp only [List.size_toArray,List.length_cons,List.length_nil,Nat.reduceAdd,Nat.reduceSub,Array.replicate_succ,Array.replicate_zero,List.push_toArray,List.append_toArray,List.nil_append,List.cons_append]
 unfold insCode
 cases base with
 | none =>
  go_wp2_with (at_builtin; refine Lib.wpList_append_run _ rfl _ _ _ _ rfl _ _ rfl rfl _ _ (hr _) ?_)
  refine bodyPost_ret (results_tmp hrs _ _ _) rfl ?_
  exact ⟨rfl,rfl⟩
 | some a =>
  obtain ⟨ab,ao,asp⟩:=a
  go_wp2_with (at_builtin; refine Lib.wpList_append_run _ rfl _ _ _ _ rfl _ _ rfl rfl _ _ (hr _) ?_)
  all_goals
   refine bodyPost_ret (results_tmp hrs _ _ _) rfl ?_
   exact ⟨rfl,rfl⟩
def V2 (U:List Value) (zc:Array Value) (k n m i G:Nat):Array Value:=(U.take (i * k)).toArray++Builtin.zeroCells zc (n+m - i)++Builtin.zeroCells zc (G - (n+m))
def Vp (R vs:List Value) (k m i:Nat):List Value:=R.take (i * k)++vs++R.drop (i * k+m * k)
def Zcv (R U:List Value) (k n m i:Nat):List Value:=R.take (i * k+m * k)++(U.drop (i * k)).take ((n - i) * k)++R.drop (i * k+m * k+(n - i) * k)
theorem ZbR {U:List Value} {zc:Array Value} {k n m i G:Nat} (hz:zc.size=k) (hi:i≤n) (hG:n+m≤G) (hU:i * k≤U.length):(V2 U zc k n m i G).size=G * k:=by
 simp only [V2,Array.size_append,List.size_toArray,List.length_take,size_zeroCells,hz]
 rw [Nat.min_eq_left hU,← Nat.add_mul,← Nat.add_mul]
 congr 1
 omega
set_option maxHeartbeats 4000000 in
set_option maxRecDepth 100000 in
theorem ZoY {T B I:TypeId} {fO fR:FuncId} {e:TypeId} {inf:TypeInfo} {z:Value} {k:Nat} (L:Zdm P T B I fO e inf z k) {f:FuncId} {fn:Func} (hf:P.funcs[f]? = some fn) (hb:fn.body=some (insCode T B I fO fR)) (hnt:fn.ntmps=95) (hrs:fn.results = #[.tmp 6])
  (b n c i vb m vc:Nat) (cur vcur:Array Value) (w:World) (hi:i < n) (hm:0 < m) (hnc:n≤c) (hroom:c < n+m) (hbig:(n+m) * inf.bytes≤140737488355328) (h62:n+m≤4611686018427387904)
  (hg:w.heap[b]? = some (.cells cur e (0,0))) (hcs:cur.size=c * k) (hvg:w.heap[vb]? = some (.cells vcur e (0,0))) (hvs:vcur.size=vc * k) (hmv:m≤vc)
  (h1c:∀ v∈cur.toList.take (n * k),v.oneCell'=true) (h1v:∀ v∈vcur.toList.take (m * k),v.oneCell'=true) :
  Calls P f #[.slice (some ⟨b,0,none⟩) n c,.int .i64 i,.slice (some ⟨vb,0,none⟩) m vc] w fun e' w'=>
   ∃ G,n+m≤G∧G≤maxLen∧e' = .returned (.slice (some ⟨w.heap.size,0,none⟩) (n+m) G)∧
    w'=(((w.drew.alloc (.cells (V2 cur.toList z.cells k n m i G) e)).setRow w.heap.size (Vp (V2 cur.toList z.cells k n m i G).toList (vcur.toList.take (m * k)) k m i).toArray).drew).setRow w.heap.size
     (Zcv (Vp (V2 cur.toList z.cells k n m i G).toList (vcur.toList.take (m * k)) k m i) cur.toList k n m i).toArray:=by
 have mixed:=L.mixed
 have t0:=L.tT; have t1:=L.tI; have t2:=L.tB
 have u0:=run_underlying L.tT; have u1:=run_underlying L.tI; have u2:=run_underlying L.tB
 have zsE:∀ w,(Go.sizeOf e).run P w = .ok k w:=fun w=>by rw [ZC L.ie]; rw [ZI L.ie,L.sz]
 have hk:=L.pos
 have hz1:¬ ((m:Int)=0):=by omega
 have hz2:¬ ((i:Int)=(n:Int)):=by omega
 have hz3:(c:Int) < (n:Int)+(m:Int):=by omega
 have hn1:(n+m) * k=n * k+m * k:=Nat.add_mul _ _ _
 have hn2:(i+m) * k=i * k+m * k:=Nat.add_mul _ _ _
 have hn3:(n - i) * k=n * k - i * k:=Nat.sub_mul _ _ _
 have hn4:i * k≤n * k:=Nat.mul_le_mul_right _ (by omega)
 have hn5:n * k≤c * k:=Nat.mul_le_mul_right _ hnc
 have hn6:m * k≤vc * k:=Nat.mul_le_mul_right _ hmv
 have hcl:cur.toList.length=c * k:=by simpa using hcs
 have hvl:vcur.toList.length=vc * k:=by simpa using hvs
 have hin:i≤n:=by omega
 have hbw:b < w.heap.size:=(Array.getElem?_eq_some_iff.1 hg).1
 have hvw:vb < w.heap.size:=(Array.getElem?_eq_some_iff.1 hvg).1
 have hkk:(n:Int)+(m:Int) - (i:Int)=((n+m - i:Nat):Int):=by omega
 have hik:i+(n+m - i)=n+m:=by omega
 obtain ⟨G,hG⟩:∃ G,G=grownCap w (n+m) c e:=⟨_,rfl⟩
 have hGn:n+m≤G:=by rw [hG]; exact grownCap_ge w _ _ _
 have hGm:G≤maxLen:=by rw [hG]; exact grownCap_le_maxLen w (n+m) c e (by unfold maxLen; omega)
 have hG63:G≤9223372036854775807:=by unfold maxLen at hGm; omega
 have hmk:(n+m) * k≤G * k:=Nat.mul_le_mul_right _ hGn
 obtain ⟨R0,hR0⟩:∃ R0,R0=V2 cur.toList z.cells k n m i G:=⟨_,rfl⟩
 have hR0s:R0.size=G * k:=by rw [hR0]; exact ZbR L.zsz hin hGn (by rw [hcl]; omega)
 have hR0l:R0.toList.length=G * k:=by simpa using hR0s
 have hold:(Builtin.firstCells inf.size i (.slice (some ⟨b,0,none⟩) i c)).run P w.drew = .ok (cur.toList.take (i * k)).toArray w.drew:=by
  rw [L.sz]
  exact run_firstCells_some w.drew k i ⟨b,0,none⟩ i c (cur.toList.take (i * k)) (by rw [List.length_take,hcl]; omega) (Ws (w:=w.drew) hg fun j v hj=>by
   rw [List.getElem?_take] at hj
   split at hj
   ·simpa using hj
   ·cases hj)
 have hrz:∀ ty,(Builtin.append_ #[T,I] ty #[.slice (some ⟨b,0,none⟩) i c,.int .i64 ((n:Int)+(m:Int) - (i:Int))]).run P w =
   .ok (.slice (some ⟨w.heap.size,0,none⟩) (n+m) G) (w.drew.alloc (.cells R0 e)):=fun ty=>by
  have hb0:(n+m - i) * inf.bytes≤(n+m) * inf.bytes:=Nat.mul_le_mul_right _ (by omega)
  have h:=Lib.run_append_grow_zeros w T I ty e inf z .i64 .i64 L.tT L.tI L.ie L.zero (some ⟨b,0,none⟩) i c (cur.toList.take (i * k)) hold (n+m - i) (by omega) (by rw [L.sz]; exact hk) (by omega) (by omega) (by omega) (by rw [hik]; exact growslice_fits hroom hbig)
  rw [hik,← hG] at h
  rw [hkk,h,hR0]
  rfl
 obtain ⟨R1,hR1⟩:∃ R1,R1=Vp R0.toList (vcur.toList.take (m * k)) k m i:=⟨_,rfl⟩
 have hvtl:(vcur.toList.take (m * k)).length=m * k:=by rw [List.length_take,hvl]; omega
 have hR1l:R1.length=G * k:=by
  rw [hR1]
  simp only [Vp,List.length_append,hvtl,List.length_take,List.length_drop,hR0l]
  omega
 have hcpA:∀ W,W.heap[w.heap.size]? = some (.cells R0 e (0,0))→W.heap[vb]? = w.heap[vb]?→∀ ty dc,(Builtin.copy_ #[T,T] ty #[.slice (some ⟨w.heap.size,i * k,none⟩) (n+m - i) dc,.slice (some ⟨vb,0,none⟩) m vc]).run P W = .ok (goInt m) (W.setRow w.heap.size R1.toArray):=fun W h1 h2 ty dc=>by
  have:=Kf (P:=P) W T T ty e inf w.heap.size (i * k) (n+m - i) dc ⟨vb,0,none⟩ m vc m R0 e (vcur.toList.take (m * k)) L.tT L.ie h1 (by simp only [Nat.min_def]; split <;> omega) (by rw [hvtl,L.sz])
   (Ws (w:=W) (h2.trans hvg) fun j v hj=>by
    rw [List.getElem?_take] at hj
    split at hj
    ·simpa using hj
    ·cases hj)
   (by rw [hvtl,hR0s]; omega) h1v
  rw [hvtl] at this
  rw [this,hR1]
  rfl
 have hcpB:∀ W,W.heap[w.heap.size]? = some (.cells R1.toArray e (0,0))→W.heap[b]? = w.heap[b]?→∀ ty dc sc,(Builtin.copy_ #[T,T] ty #[.slice (some ⟨w.heap.size,i * k+m * k,none⟩) (n+m - (i+m)) dc,.slice (some ⟨b,i * k,none⟩) (n - i) sc]).run P W = .ok (goInt ((n - i:Nat):Int)) (W.setRow w.heap.size (Zcv R1 cur.toList k n m i).toArray):=fun W h1 h2 ty dc sc=>by
  have hlen:((cur.toList.drop (i * k)).take ((n - i) * k)).length=(n - i) * k:=by rw [List.length_take,List.length_drop,hcl]; omega
  have:=Kf (P:=P) W T T ty e inf w.heap.size (i * k+m * k) (n+m - (i+m)) dc ⟨b,i * k,none⟩ (n - i) sc (n - i) R1.toArray e ((cur.toList.drop (i * k)).take ((n - i) * k)) L.tT L.ie h1 (by simp only [Nat.min_def]; split <;> omega) (by rw [hlen,L.sz])
   (Ws (w:=W) (h2.trans hg) fun j v hj=>by
    rw [List.getElem?_take] at hj
    split at hj
    ·rw [List.getElem?_drop] at hj; simpa using hj
    ·cases hj)
   (by rw [hlen,List.size_toArray,hR1l]; omega) (fun v hv=>h1c v (by
    rw [hn3,← List.drop_take] at hv
    exact List.mem_of_mem_drop hv))
  rw [hlen] at this
  exact this
 have hA0:(w.drew.alloc (.cells R0 e)).heap[w.heap.size]? = some (.cells R0 e (0,0)):=Vl w.drew R0 e
 have hAo:∀ x,x < w.heap.size→(w.drew.alloc (.cells R0 e)).heap[x]? = w.heap[x]?:=fun x hx=>heap_alloc_old w.drew _ hx
 have hcpA':=hcpA (w.alloc (.cells R0 e)).drew hA0 (hAo vb hvw)
 have hcpB':=hcpB ((w.alloc (.cells R0 e)).drew.setRow w.heap.size R1.toArray).drew (YF hA0) (by
  have:((w.drew.alloc (.cells R0 e)).setRow w.heap.size R1.toArray).heap[b]? = (w.drew.alloc (.cells R0 e)).heap[b]?:=by simp [World.setRow,Array.getElem?_modify,Nat.ne_of_gt hbw]
  exact this.trans (hAo b hbw))
 have hw1:IntKind.i64.wrap ((i:Int)+(m:Int))=(i:Int)+(m:Int):=by rw [IntKind.wrap_i64]; omega
 have hw2:IntKind.i64.wrap ((n:Int)+(m:Int))=(n:Int)+(m:Int):=by rw [IntKind.wrap_i64]; omega
 have hw3:IntKind.i64.wrap ((n:Int)+(m:Int) - (i:Int))=(n:Int)+(m:Int) - (i:Int):=by rw [IntKind.wrap_i64]; omega
 have hb1:(0:Int)≤(i:Int)+(m:Int):=by omega
 have htn:((i:Int)+(m:Int)).toNat=i+m:=by omega
 have hb3:(i:Int)≤(n:Int):=by omega
 have hb4:(i:Int)≤(n:Int)+(m:Int):=by omega
 have hGi:¬ (G=i):=by omega
 have hGim:¬ (G=i+m):=by omega
 have hci:¬ (c=i):=by omega
 refine Calls.mono ?_ (fun e' w' h=>⟨G,hGn,hGm,h⟩)
 rw [← hR0,← hR1]
 clear hcpA hcpB hold hg hvg hcs hcl hvs h1c h1v hR0 hR1 hG hvl hR0s hR0l hR1l hvtl hkk hik
 refine calls_of_wp hf hb ?_
 rw [hnt]
 simp only [List.size_toArray,List.length_cons,List.length_nil,Nat.reduceAdd,Nat.reduceSub,Array.replicate_succ,Array.replicate_zero,List.push_toArray,List.append_toArray,List.nil_append,List.cons_append]
 unfold insCode
 go_wp2_with (first
  | (at_builtin; refine Lib.wpList_append_run _ rfl _ _ _ _ rfl _ _ rfl rfl _ _ (hrz _) ?_)
  | (at_builtin; refine Vw _ rfl _ _ T T rfl _ _ rfl rfl (hcpA' _ _) ?_))
 go_region_law_o (refine WQ rfl _ _ T T rfl _ _ (by simp [Act.eval,Act.put]) (by simp [Act.eval,Act.put]) (hcpB' _ _ _) ?_)
 go_wp2
 refine bodyPost_ret (results_tmp hrs _ _ _) rfl ?_
 exact ⟨rfl,rfl⟩
def delCode (T B I U:TypeId):Code:=
  (.seq (.region 0 #[
    ⟨some 6, .assign (.const (.slice none 0 0)), T, "slices.go:224", #[], none⟩] false)
  (.seq (.region 1 #[
    ⟨some 8, .move (.tmp 0), T, "slices.go:225", #[], none⟩,
    ⟨some 9, .move (.tmp 1), I, "slices.go:225", #[], none⟩,
    ⟨some 10, .move (.tmp 2), I, "slices.go:225", #[], none⟩,
    ⟨some 11, .move (.tmp 0), T, "slices.go:225", #[], none⟩,
    ⟨some 12, .call ⟨.builtin .len, #[(.tmp 11)], #[T]⟩, I, "slices.go:225", #[⟨3, .data⟩], none⟩,
    ⟨some 13, .slice T (.tmp 8) (some (.tmp 9)) (some (.tmp 10)) (some (.tmp 12)), T, "slices.go:225", #[⟨0, .data⟩, ⟨1, .data⟩, ⟨2, .data⟩, ⟨4, .data⟩], none⟩] false)
  (.seq (.seq (.region 2 #[
    ⟨some 14, .move (.tmp 1), I, "slices.go:227", #[], none⟩,
    ⟨some 15, .move (.tmp 2), I, "slices.go:227", #[], none⟩,
    ⟨some 16, .binOp .eql I (.tmp 14) (.tmp 15) I, B, "slices.go:227", #[⟨0, .data⟩, ⟨1, .data⟩], none⟩] false)
  (.cond (.tmp 16)
   (.seq (.region 3 #[
     ⟨some 17, .move (.tmp 0), T, "slices.go:228", #[], none⟩,
     ⟨some 6, .assign (.tmp 17), T, "slices.go:228", #[⟨0, .data⟩, ⟨0, .phase⟩], none⟩] false)
   .ret)
   .skip))
  (.seq (.region 4 #[
    ⟨some 18, .move (.tmp 0), T, "slices.go:231", #[], none⟩,
    ⟨some 19, .call ⟨.builtin .len, #[(.tmp 18)], #[T]⟩, I, "slices.go:231", #[⟨0, .data⟩], none⟩,
    ⟨some 7, .assign (.tmp 19), I, "slices.go:231", #[⟨1, .data⟩, ⟨0, .phase⟩, ⟨1, .phase⟩], none⟩] false)
  (.seq (.region 5 #[
    ⟨some 20, .move (.tmp 0), T, "slices.go:232", #[], none⟩,
    ⟨some 21, .move (.tmp 1), I, "slices.go:232", #[], none⟩,
    ⟨some 22, .slice T (.tmp 20) none (some (.tmp 21)) none, T, "slices.go:232", #[⟨0, .data⟩, ⟨1, .data⟩], none⟩,
    ⟨some 23, .move (.tmp 0), T, "slices.go:232", #[], none⟩,
    ⟨some 24, .move (.tmp 2), I, "slices.go:232", #[], none⟩,
    ⟨some 25, .slice T (.tmp 23) (some (.tmp 24)) none none, T, "slices.go:232", #[⟨3, .data⟩, ⟨4, .data⟩], none⟩,
    ⟨some 26, .call ⟨.builtin .append, #[(.tmp 22), (.tmp 25)], #[T, T]⟩, T, "slices.go:232", #[⟨2, .data⟩, ⟨5, .data⟩], none⟩,
    ⟨some 0, .assign (.tmp 26), T, "slices.go:232", #[⟨6, .data⟩, ⟨6, .chain⟩, ⟨0, .phase⟩, ⟨1, .phase⟩, ⟨2, .phase⟩, ⟨3, .phase⟩, ⟨4, .phase⟩, ⟨5, .phase⟩, ⟨6, .phase⟩], none⟩] true)
  (.seq (.region 6 #[
    ⟨some 27, .move (.tmp 0), T, "slices.go:233", #[], none⟩,
    ⟨some 28, .move (.tmp 0), T, "slices.go:233", #[], none⟩,
    ⟨some 29, .call ⟨.builtin .len, #[(.tmp 28)], #[T]⟩, I, "slices.go:233", #[⟨1, .data⟩], none⟩,
    ⟨some 30, .move (.tmp 7), I, "slices.go:233", #[], none⟩,
    ⟨some 31, .slice T (.tmp 27) (some (.tmp 29)) (some (.tmp 30)) none, T, "slices.go:233", #[⟨0, .data⟩, ⟨2, .data⟩, ⟨3, .data⟩], none⟩,
    ⟨none, .call ⟨.builtin .clear, #[(.tmp 31)], #[T]⟩, U, "slices.go:233", #[⟨4, .data⟩], none⟩] false)
  (.seq (.region 7 #[
    ⟨some 32, .move (.tmp 0), T, "slices.go:234", #[], none⟩,
    ⟨some 6, .assign (.tmp 32), T, "slices.go:234", #[⟨0, .data⟩, ⟨0, .phase⟩], none⟩] false)
  .ret)))))))
theorem Vb (w:World) {ops:Array Oper} {rest:List Oper} {o:Oper} {a:Act} {Q:Exit→Act→World→Prop} (hgd:o.guard=none) (d:Operand) (t:TypeId)
  (ho:o.op = .call { callee:=.builtin .clear,args:=#[d],argTypes:=#[t] }) (v:Value) (hd:a.eval d=v) {v':Value} {w':World}
  (hr:(Builtin.clear_ #[t] o.type #[v]).run P w = .ok v' w') (h:wpList P ops Q rest (a.put o.dst v') w'):wpList P ops Q (o :: rest) a w:=
 wpList_plain hgd fun _ hK=>by
  unfold Oper.wp execOp
  simp only [ho,resolve,invoke,builtin,Sem.run_bind,Sem.run_pure,Result.andThen_ok,List.map_toArray,List.map_cons,List.map_nil,hd,hr]
  exact hK _ _ h
theorem VD {ops:Array Oper} {o:Oper} {a:Act} {w:World} {K:Act→World→Prop} {Q:Exit→Act→World→Prop} {E:Prop}
  (hg:o.guard=none) (d x:Operand) (dT sT:TypeId) (hop:o.op=Op.call { callee:=Callee.builtin Builtin.append,args:=#[d,x],argTypes:=#[dT,sT] })
  (v u:Value) (hd:a.eval d=v) (hx:a.eval x=u) {v':Value} {w':World} (hr:(Builtin.append_ #[dT,sT] o.type #[v,u]).run P w = .ok v' w') (hK:K (a.put o.dst v') w') :
  if Region.wanted o (yielded ops a.tmps)=true then Oper.wp P o a w K Q else E:=by
 have hw:Region.wanted o (yielded ops a.tmps)=true:=by simp [Region.wanted,hg]
 rw [if_pos hw]
 unfold Oper.wp
 simp [execOp,hop,resolve,invoke,builtin,hd,hx,hr,Result.andThen]
 exact hK
def Yt (U:List Value) (k n i j:Nat):List Value:=U.take (i * k)++(U.drop (j * k)).take ((n - j) * k)++U.drop (i * k+(n - j) * k)
def ZcU (R:List Value) (zc:List Value) (k n q:Nat):List Value:=R.take (q * k)++(List.replicate (n - q) zc).flatten++R.drop (q * k+(n - q) * k)
set_option maxHeartbeats 4000000 in
set_option maxRecDepth 100000 in
theorem Zsc {T B I U e:TypeId} {inf:TypeInfo} {z:Value} {k:Nat} (L:ZcE P T B I e inf z k) {f:FuncId} {fn:Func} (hf:P.funcs[f]? = some fn) (hb:fn.body=some (delCode T B I U)) (hnt:fn.ntmps=33) (hrs:fn.results = #[.tmp 6])
  (b n c i j:Nat) (cur:Array Value) (w:World) (hij:i < j) (hjn:j≤n) (hnc:n≤c) (hc63:c≤9223372036854775807) (hg:w.heap[b]? = some (.cells cur e (0,0))) (hcs:cur.size=c * k)
  (h1c:∀ v∈cur.toList.take (n * k),v.oneCell'=true) (h1z:∀ v∈z.cells.toList,v.oneCell'=true) :
  Calls P f #[.slice (some ⟨b,0,none⟩) n c,.int .i64 i,.int .i64 j] w fun e' w'=>
   e' = .returned (.slice (some ⟨b,0,none⟩) (i+(n - j)) c)∧w'=(w.drew.setRow b (Yt cur.toList k n i j).toArray).setRow b (ZcU (Yt cur.toList k n i j) z.cells.toList k n (i+(n - j))).toArray:=by
 have mixed:=L.mixed
 have t0:=L.tT; have t1:=L.tI; have t2:=L.tB
 have u0:=run_underlying L.tT; have u1:=run_underlying L.tI; have u2:=run_underlying L.tB
 have zsE:∀ w,(Go.sizeOf e).run P w = .ok k w:=fun w=>by rw [ZC L.ie]; rw [ZI L.ie,L.sz]
 have hk:=L.pos
 have hn3:(n - j) * k=n * k - j * k:=Nat.sub_mul _ _ _
 have hn4:i * k≤j * k:=Nat.mul_le_mul_right _ (by omega)
 have hn5:n * k≤c * k:=Nat.mul_le_mul_right _ hnc
 have hn6:j * k≤n * k:=Nat.mul_le_mul_right _ hjn
 have hn7:(i+(n - j)) * k=i * k+(n - j) * k:=Nat.add_mul _ _ _
 have hn8:(n - (i+(n - j))) * k=n * k - (i+(n - j)) * k:=Nat.sub_mul _ _ _
 have hcl:cur.toList.length=c * k:=by simpa using hcs
 have hR1l:(Yt cur.toList k n i j).length=c * k:=by simp only [Yt,List.length_append,List.length_take,List.length_drop,hcl]; omega
 have hlen:((cur.toList.drop (j * k)).take ((n - j) * k)).length=(n - j) * k:=by rw [List.length_take,List.length_drop,hcl]; omega
 have h1n:∀ v∈(cur.toList.drop (j * k)).take ((n - j) * k),v.oneCell'=true:=fun v hv=>h1c v (by
    rw [hn3,← List.drop_take] at hv
    exact List.mem_of_mem_drop hv)
 have hap:∀ (A:Addr) sc ty,(n - j≠0→A=⟨b,j * k,none⟩)→(Builtin.append_ #[T,T] ty #[.slice (some ⟨b,0,none⟩) i c,.slice (some A) (n - j) sc]).run P w.drew = .ok (.slice (some ⟨b,0,none⟩) (i+(n - j)) c) (w.drew.setRow b (Yt cur.toList k n i j).toArray):=fun A sc ty hA=>by
  have:=run_append_room (P:=P) w.drew T ty e inf L.tT L.ie b i c cur hg A (n - j) sc ((cur.toList.drop (j * k)).take ((n - j) * k)) (by rw [hlen,L.sz]) (fun t u ht=>by
    have hlt:=(List.getElem?_eq_some_iff.1 ht).1
    rw [hlen] at hlt
    have hne:n - j≠0:=by
     intro h
     rw [h] at hlt
     omega
    rw [hA hne]
    refine Ws (w:=w.drew) hg (l:=(cur.toList.drop (j * k)).take ((n - j) * k)) (fun t u ht=>?_) t u ht
    rw [List.getElem?_take] at ht
    split at ht
    ·rw [List.getElem?_drop] at ht; simpa using ht
    ·cases ht) h1n (by omega) (by rw [hlen,hcs,L.sz]; omega)
  rw [hlen,L.sz] at this
  exact this
 obtain ⟨p,hp⟩:∃ p,n - (i+(n - j))=p+1:=⟨n - (i+(n - j)) - 1,by omega⟩
 have hclr:∀ ty cc,(Builtin.clear_ #[T] ty #[.slice (some ⟨b,(i+(n - j)) * k,none⟩) (n - (i+(n - j))) cc]).run P (w.drew.setRow b (Yt cur.toList k n i j).toArray) = .ok (.tuple #[]) ((w.drew.setRow b (Yt cur.toList k n i j).toArray).setRow b (ZcU (Yt cur.toList k n i j) z.cells.toList k n (i+(n - j))).toArray):=fun ty cc=>by
  have:=Zbh (P:=P) (w:=w.drew.setRow b (Yt cur.toList k n i j).toArray) (ty:=ty) (o:=i * k+(n - j) * k) (n:=p) (c:=cc) L.tT L.ie L.zero (YF (w:=w.drew) hg) (by
   have hs:(Yt cur.toList k n i j).toArray.size=c * k:=by simpa using hR1l
   rw [hs,← hp,L.zsz,hn8,hn7]; omega) h1z
  rw [← hp,L.zsz,← hn7] at this
  exact this
 have hb0:(i:Int)≤(j:Int):=by omega
 have hb1:(j:Int)≤(n:Int):=by omega
 have hb2:¬ ((i:Int)=(j:Int)):=by omega
 have hb3:(i:Int)≤(n:Int):=by omega
 have hb4:(i:Int)+((n:Int) - (j:Int))≤(n:Int):=by omega
 have hb5:((i+(n - j):Nat):Int)≤(n:Int):=by omega
 have hb6:¬ (c=i+(n - j)):=by omega
 have hic:(i:Int)≤(c:Int):=by omega
 have hjc:(j:Int)≤(c:Int):=by omega
 have hnc':(n:Int)≤(c:Int):=by omega
 obtain ⟨zc,hzc⟩:∃ zc,zc=z.cells.toList:=⟨_,rfl⟩
 rw [← hzc] at hclr ⊢
 clear hg hcs hcl h1c h1z hR1l hlen h1n hn8 hp hn3 hn4 hn5 hn6 hn7 hzc
 refine calls_of_wp hf hb ?_
 rw [hnt]
 simp only [List.size_toArray,List.length_cons,List.length_nil,Nat.reduceAdd,Nat.reduceSub,Array.replicate_succ,Array.replicate_zero,List.push_toArray,List.append_toArray,List.nil_append,List.cons_append]
 unfold delCode
 by_cases hcj:c=j
 ·have hnn:n=c:=by omega
  subst hnn
  subst hcj
  have hap':=fun ty=>hap ⟨b,0,none⟩ (n - n) ty (by omega)
  simp only [Nat.sub_self,Nat.add_zero] at hap' hclr hb6 hb5 ⊢
  go_wp2
  go_region_law_o (refine VD rfl _ _ T T rfl _ _ (by simp [Act.eval,Act.put]) (by simp [Act.eval,Act.put]) (hap' _) ?_)
  go_wp2_with (at_builtin; refine Vb _ rfl _ T rfl _ rfl (hclr _ _) ?_)
  refine bodyPost_ret (results_tmp hrs _ _ _) rfl ?_
  exact ⟨rfl,rfl⟩
 ·have hap':=fun ty=>hap ⟨b,j * k,none⟩ (c - j) ty (fun _=>rfl)
  go_wp2
  go_region_law_o (refine VD rfl _ _ T T rfl _ _ (by simp [Act.eval,Act.put]) (by simp [Act.eval,Act.put]) (hap' _) ?_)
  go_wp2_with (at_builtin; refine Vb _ rfl _ T rfl _ rfl (hclr _ _) ?_)
  refine bodyPost_ret (results_tmp hrs _ _ _) rfl ?_
  exact ⟨rfl,rfl⟩
def ZbJ {α β:Type} (R:α→β→Prop) (A:List α) (B:List β):Prop:=∀ (j:Nat) (z:α) (u:β),A[j]? = some z→B[j]? = some u→R z u
theorem ZbJ.app {α β:Type} {R:α→β→Prop} {A A':List α} {B B':List β} (hl:A.length=B.length) (h:ZbJ R A B) (h':ZbJ R A' B'):ZbJ R (A++A') (B++B'):=by
 intro j z u hz hu
 by_cases hj:j < A.length
 ·rw [List.getElem?_append_left hj] at hz
  rw [List.getElem?_append_left (by omega)] at hu
  exact h j z u hz hu
 ·rw [List.getElem?_append_right (by omega)] at hz
  rw [List.getElem?_append_right (by omega),← hl] at hu
  exact h' _ z u hz hu
theorem ZbJ.take {α β:Type} {R:α→β→Prop} {A:List α} {B:List β} (h:ZbJ R A B) (n:Nat):ZbJ R (A.take n) (B.take n):=by
 intro j z u hz hu
 rw [List.getElem?_take] at hz hu
 split at hz
 ·rename_i hj
  rw [if_pos hj] at hu
  exact h j z u hz hu
 ·cases hz
theorem ZbJ.drop {α β:Type} {R:α→β→Prop} {A:List α} {B:List β} (h:ZbJ R A B) (n:Nat):ZbJ R (A.drop n) (B.drop n):=by
 intro j z u hz hu
 rw [List.getElem?_drop] at hz hu
 exact h _ z u hz hu
theorem ZbJ.cut {α β:Type} {R:α→β→Prop} {A:List α} {B:List β} (h:ZbJ R A B) (n:Nat):ZbJ R A (B.take n):=by
 intro j z u hz hu
 rw [List.getElem?_take] at hu
 split at hu
 ·exact h j z u hz hu
 ·cases hu
theorem ZbJ.ext {α β:Type} {R:α→β→Prop} {A:List α} {B C:List β} (h:ZbJ R A B) (hl:A.length≤B.length):ZbJ R A (B++C):=by
 intro j z u hz hu
 have:=(List.getElem?_eq_some_iff.1 hz).1
 rw [List.getElem?_append_left (by omega)] at hu
 exact h j z u hz hu
theorem Zml {U vs:List Value} {k n m i:Nat} (hi:i≤n) (hU:(n+m) * k≤U.length) :
  ZeA U vs k n m i=U.take (i * k)++vs++((U.drop (i * k)).take ((n - i) * k)++U.drop ((i+m) * k+(n - i) * k)):=by
 have h1:(i+m) * k=i * k+m * k:=Nat.add_mul _ _ _
 have h2:(n+m) * k=n * k+m * k:=Nat.add_mul _ _ _
 have h3:i * k≤n * k:=Nat.mul_le_mul_right _ hi
 have hl:(U.take ((i+m) * k)).length=i * k+m * k:=by rw [List.length_take]; omega
 unfold ZeA Yz
 congr 1
 ·congr 1
  rw [List.append_assoc,List.take_append_of_le_length (by omega),List.take_take]
  congr 1
  omega
 ·rw [List.append_assoc,List.drop_append_of_le_length (by omega),List.drop_of_length_le (by omega),List.nil_append]
theorem Zkt {U vs R:List Value} {k n m i:Nat} (hv:vs.length=m * k) (hR:i * k+m * k≤R.length) (hRU:R.take (i * k)=U.take (i * k)) :
  Zcv (Vp R vs k m i) U k n m i=U.take (i * k)++vs++((U.drop (i * k)).take ((n - i) * k)++(Vp R vs k m i).drop (i * k+m * k+(n - i) * k)):=by
 have hl:(R.take (i * k)++vs).length=i * k+m * k:=by rw [List.length_append,List.length_take,hv]; omega
 unfold Zcv
 rw [List.append_assoc]
 congr 1
 unfold Vp
 rw [List.take_append_of_le_length (by omega),List.take_of_length_le (by omega),hRU]
theorem Zlg {U zc:List Value} {k n i j:Nat} (hij:i≤j) (hj:j≤n) (hU:n * k≤U.length) :
  ZcU (Yt U k n i j) zc k n (i+(n - j))=U.take (i * k)++(U.drop (j * k)).take ((n - j) * k)++
   ((List.replicate (n - (i+(n - j))) zc).flatten++(Yt U k n i j).drop ((i+(n - j)) * k+(n - (i+(n - j))) * k)):=by
 have h1:(i+(n - j)) * k=i * k+(n - j) * k:=Nat.add_mul _ _ _
 have h2:(n - j) * k=n * k - j * k:=Nat.sub_mul _ _ _
 have h3:i * k≤j * k:=Nat.mul_le_mul_right _ hij
 have h4:j * k≤n * k:=Nat.mul_le_mul_right _ hj
 have hl:(U.take (i * k)++(U.drop (j * k)).take ((n - j) * k)).length=(i+(n - j)) * k:=by rw [List.length_append,List.length_take,List.length_take,List.length_drop]; omega
 unfold ZcU
 rw [List.append_assoc]
 congr 1
 unfold Yt
 rw [List.take_append_of_le_length (by omega),List.take_of_length_le (by omega)]
theorem Zfo {w:World} {lim:Nat→Nat} {x:Bool} {e:TypeId} {xs:List (List AV)} {v:Value} {ob:Option Nat} (h:JP P w lim x e xs v ob) (hne:xs≠[]) :
  ∃ b arr cap,ob=some b∧v = .slice (some ⟨b,0,none⟩) xs.length cap∧w.heap[b]? = some (.cells arr e (0,0))∧xs.length≤cap∧cap≤maxLen∧arr.size=cap * P.cellsOf e∧
   (∀ x∈xs,x.length=P.cellsOf e)∧(∀ x∈xs,∀ z∈x,z.isCell=true)∧ZbJ (Rep w lim) xs.flatten arr.toList∧(∀ b',ob=some b'→x=true→lim b'=0):=by
 rcases h with ⟨us,h1,h2,h3,h4,h5,h6⟩ | ⟨h,_⟩
 ·rcases h1.2 with ⟨hv,hn⟩ | ⟨g,cap,cur,hv,hbg,hg,hnc,hcm,hcs,htake⟩
  ·exact (hne (List.eq_nil_of_length_eq_zero hn)).elim
  ·refine ⟨g,cur,cap,by rw [← h2,hv]; rfl,hv,hg,hnc,hcm,hcs,h4,h5,fun j z u hz hu=>h6 j z u hz ?_,fun b' hb' hx=>by rw [h3 b' hb',if_pos hx]⟩
   have hj:=(List.getElem?_eq_some_iff.1 hz).1
   rw [Zx xs _ h4] at hj
   rw [← htake,List.getElem?_take,if_pos hj]
   exact hu
 ·exact (hne h).elim
theorem ZeY {w:World} {lim:Nat→Nat} {xs:List (List AV)} {us:List Value} (hc:∀ x∈xs,∀ z∈x,z.isCell=true) (h:ZbJ (Rep w lim) xs.flatten us) (hl:us.length≤xs.flatten.length):∀ v∈us,v.oneCell'=true:=by
 intro v hv
 obtain ⟨j,hj⟩:=List.mem_iff_getElem?.1 hv
 have hlt:=(List.getElem?_eq_some_iff.1 hj).1
 have hz:=List.getElem?_eq_getElem (l:=xs.flatten) (i:=j) (by omega)
 obtain ⟨y,hy1,hy2⟩:=List.mem_flatten.1 (List.getElem_mem (l:=xs.flatten) (n:=j) (by omega))
 exact (h j _ v hz hj).oneCell (hc y hy1 _ hy2)
theorem Js.trans {w w1 w2:World} {l l1 l2:Nat→Nat} {S S1 S2:Nat→Prop} (h:Js w l w1 l1 S1) (h':Js w1 l1 w2 l2 S2) (h1:∀ b,S1 b→S b) (h2:∀ b,S2 b→S b∨w.heap.size≤b):Js w l w2 l2 S where
 os:=h'.os.trans h.os
 tape:=h'.tape.trans h.tape
 output:=h'.output.trans h.output
 size:=Nat.le_trans h.size h'.size
 frz a ha:=(h'.frz a (Nat.lt_of_lt_of_le ha h.size)).trans (h.frz a ha)
 blk b hb hn:=by
  have k1:=h.blk b hb fun hs=>hn (h1 b hs)
  have k2:=h'.blk b (Nat.lt_of_lt_of_le hb h.size) fun hs=>(h2 b hs).elim hn (fun h=>by omega)
  exact ⟨k2.1.trans k1.1,k2.2.trans k1.2⟩
 ext:=h.ext.trans h'.ext h.size
theorem Zez (x:Bool) {f:FuncId} {args:List AV} {e:TypeId} {zs:List (List AV)} (hc:Callable P f)
  (h:∀ (w:World) (lim:Nat→Nat) (X:Nat→Nat→Option Nat) (cargs:List Value),cargs.length≤args.length→(∀ i,Ja P w lim X (Jg args) i (Jg args i) (cargs.getD i undef))→Znv X→(∀ i k b,X i k=some b→b < w.heap.size)→
   Calls P f cargs.toArray w fun e' w'=>∃ v lim' ob',e' = .returned v∧JP P w' lim' true e zs v ob'∧Js w lim w' lim' (fun b=>∃ i k,X i k=some b)∧∀ b,ob'=some b→b < w'.heap.size∧(((∃ i k,X i k=some b)∧lim b=0)∨w.heap.size≤b)) :
  Yg P f args (.own x e zs) (List.replicate args.length .dead):=by
 refine ⟨hc,fun w lim X cargs hl hrel hd hs=>?_⟩
 refine (h w lim X cargs (by omega) hrel hd hs).mono ?_
 rintro e' w' ⟨v,lim1,ob',he,ho1,hw1,hb1⟩
 have hx:∃ lim',JP P w' lim' x e zs v ob'∧Js w lim w' lim' (fun b=>∃ i k,X i k=some b):=by
  cases x
  case true=>exact ⟨lim1,ho1,hw1⟩
  case false=>
   cases ob' with
   | none =>
    refine ⟨lim1,?_,hw1⟩
    rcases ho1 with ⟨us,h1,h2,h3,h4,h5,h6⟩ | h
    ·exact .inl ⟨us,h1,h2,fun b hb=>(by cases hb),h4,h5,h6⟩
    ·exact .inr h
   | some b0 =>
    have hl0:lim1 b0=0:=by
     rcases ho1 with ⟨us,h1,h2,h3,_⟩ | ⟨_,h,_⟩
     ·rw [h3 b0 rfl]; rfl
     ·cases h
    have hbb:=hb1 b0 rfl
    have hext:Ext w' lim1 w' (V0 lim1 b0 (zs.length * P.cellsOf e)):=fun b _=>by
     refine ⟨?_,fun o u _ hu=>hu⟩
     unfold V0
     split
     ·rename_i h; rw [h,hl0]; exact Nat.zero_le _
     ·exact Nat.le_refl _
    refine ⟨_,Zdb ho1 hext,⟨hw1.os,hw1.tape,hw1.output,hw1.size,hw1.frz,fun b hb hn=>?_,hw1.ext.trans hext hw1.size⟩⟩
    obtain ⟨k1,k2⟩:=hw1.blk b hb hn
    refine ⟨k1,?_⟩
    have hne:b≠b0:=by
     rintro rfl
     rcases hbb.2 with h1 | h1
     ·exact hn h1.1
     ·omega
    show (if b=b0 then _ else lim1 b)=lim b
    rw [if_neg hne]
    exact k2
 obtain ⟨lim',ho,hw⟩:=hx
 have hb:∀ b,ob'=some b→b < w'.heap.size∧((∃ i k,X i k=some b)∨w.heap.size≤b):=fun b hb=>⟨(hb1 b hb).1,(hb1 b hb).2.imp (·.1) id⟩
 have hat:∀ i,Jg (List.replicate args.length AV.dead++[.own x e zs]) i=if i=args.length then .own x e zs else .dead:=by
  intro i
  unfold Jg
  by_cases hi:i < args.length
  ·rw [List.getElem?_append_left (by simpa using hi),List.getElem?_replicate,if_pos hi,if_neg (by omega)]; rfl
  ·rw [List.getElem?_append_right (by simpa using hi),List.length_replicate]
   by_cases hi2:i=args.length
   ·subst hi2
    rw [if_pos rfl,Nat.sub_self]
    rfl
   ·rw [if_neg hi2,List.getElem?_eq_none (by simp; omega)]
    rfl
 refine ⟨v,lim',fun i k=>if i=args.length∧k=0 then ob' else none,he,hw,by simp,fun i=>?_,?_,?_,?_⟩
 ·rw [hat]
  by_cases hi:i=args.length
  ·subst hi
   rw [if_pos rfl]
   show JP P w' lim' x e zs _ _
   unfold ZbD
   rw [if_pos rfl]
   show JP P w' lim' x e zs _ (if args.length=args.length∧0=0 then ob' else none)
   rw [if_pos ⟨rfl,rfl⟩]
   exact ho
  ·rw [if_neg hi]
   trivial
 ·intro d k d' k' b h1 h2
  dsimp only at h1 h2
  split at h1
  ·split at h2
   ·rename_i a1 a2
    exact ⟨a1.1.trans a2.1.symm,a1.2.trans a2.2.symm⟩
   ·cases h2
  ·cases h1
 ·intro i k b h1
  dsimp only at h1
  split at h1
  ·exact hb b h1
  ·cases h1
 ·intro i h1
  rw [hat] at h1
  split at h1 <;> simp [AV.isG] at h1
theorem ZmV {w:World} {lim:Nat→Nat} {e:TypeId} {xs:List (List AV)} {v:Value} {ob:Option Nat} {b:Nat} (h:JP P w lim true e xs v ob) (hb:ob=some b):lim b=0:=by
 rcases h with ⟨us,h1,h2,h3,_⟩ | ⟨_,h,_⟩
 ·rw [h3 b hb]; rfl
 ·rw [h] at hb; cases hb
theorem ZeE {cargs:List Value} (hl:cargs.length≤3) (h:cargs.getD 2 undef≠undef):cargs.toArray = #[cargs.getD 0 undef,cargs.getD 1 undef,cargs.getD 2 undef]:=by
 match cargs,hl,h with
 | [], _, h => exact (h rfl).elim
 | [_], _, h => exact (h rfl).elim
 | [_, _], _, h => exact (h rfl).elim
 | [_, _, _], _, _ => rfl
 | _ :: _ :: _ :: _ :: _, hl, _ => simp at hl
theorem arg_int {w:World} {lim:Nat→Nat} {X:Nat→Nat→Option Nat} {σ:Nat→AV} {d:Nat} {k:IntKind} {z:Int} {v:Value} (h:Ja P w lim X σ d (.val (.int k z)) v):v = .int k z:=VW (show Rep w lim _ v from h)
structure Zzm (P:Program) (T B I:TypeId) (fO fR:FuncId) (f:FuncId):Prop where
 fn : ∃ fn, P.funcs[f]? = some fn ∧ fn.body = some (insCode T B I fO fR) ∧ fn.ntmps = 95 ∧ fn.results = #[.tmp 6] ∧ (fn.name == "runtime.NumGoroutine") = false
theorem ZuG (x:Bool) {T B I:TypeId} {fO fR:FuncId} {e:TypeId} {inf:TypeInfo} {z:Value} {k:Nat} (L:Zdm P T B I fO e inf z k) {f:FuncId} (hF:Zzm P T B I fO fR f) {xs ys:List (List AV)} {i:Int}
  (h0:0≤i) (hi:i.toNat≤xs.length) (hys:ys≠[]) (hroom:(xs.length+ys.length) * (inf.bytes+1)≤JN) :
  Yg P f [.own true e xs,.val (.int .i64 i),.own false e ys] (.own x e (xs.take i.toNat++ys++xs.drop i.toNat)) [.dead,.dead,.dead]:=by
 obtain ⟨fn,hf,hb,hnt,hrs,hname⟩:=hF.fn
 have hce:P.cellsOf e=k:=by rw [ZI L.ie,L.sz]
 have hb1:xs.length+ys.length≤1099511627776:=by
  have:(xs.length+ys.length) * 1≤(xs.length+ys.length) * (inf.bytes+1):=Nat.mul_le_mul_left _ (by omega)
  unfold JN at hroom
  omega
 have hb2:(xs.length+ys.length) * inf.bytes≤1099511627776:=by
  have:(xs.length+ys.length) * inf.bytes≤(xs.length+ys.length) * (inf.bytes+1):=Nat.mul_le_mul_left _ (by omega)
  unfold JN at hroom
  omega
 have hm0:0 < ys.length:=List.length_pos_iff.2 hys
 refine Zez x (args:=[.own true e xs,.val (.int .i64 i),.own false e ys]) ⟨fn,hf,hname,by rw [hb]; rfl⟩ fun w lim X cargs hl hrel hdist hsize=>?_
 have r0:JP P w lim true e xs (cargs.getD 0 undef) (X 0 0):=hrel 0
 have r1:=arg_int (hrel 1)
 have r2:JP P w lim false e ys (cargs.getD 2 undef) (X 2 0):=hrel 2
 obtain ⟨vb,vcur,vc,hX2,hv2,hvg,hmv,hvcm,hvs,hyl,hyc,hyr,_⟩:=Zfo r2 hys
 have hrep2:=JP.rep r2 false rfl
 rw [ZeE hl (by rw [hv2]; simp [undef]),r1]
 have hii:i=((i.toNat:Nat):Int):=by omega
 rw [hii]
 obtain ⟨q,hq⟩:∃ q,q=i.toNat:=⟨_,rfl⟩
 have hqe:(((i.toNat:Nat):Int)).toNat=q:=by omega
 rw [hqe,← hq]
 rw [← hq] at hi
 by_cases hend:q=xs.length
 ·obtain ⟨v',w',lim',ob',hrun,ho,hst,hob⟩:=ZbF (ty:=T) L.tT L.ie L.zero (by rw [L.zsz,L.sz]) r0 hrep2 hroom
  have hvform:∃ base cap,cargs.getD 0 undef = .slice base xs.length cap∧xs.length≤cap:=by
   rcases r0 with ⟨us,hr,_⟩ | ⟨rfl,_,a,hv⟩
   ·rcases hr.2 with ⟨hv,hn⟩ | ⟨g,cap,cur,hv,_,_,hnc,_⟩
    ·exact ⟨none,0,by rw [hv,hn],by omega⟩
    ·exact ⟨_,cap,hv,hnc⟩
   ·exact ⟨_,0,hv,Nat.le_refl _⟩
  obtain ⟨base,cap,hv0,hle⟩:=hvform
  rw [hend,hv0,hv2]
  rw [hv0,hv2] at hrun
  have hty:∀ ty,(Builtin.append_ #[T,T] ty #[.slice base xs.length cap,.slice (some ⟨vb,0,none⟩) ys.length vc]).run P w = .ok v' w':=fun ty=>hrun
  refine (Zq8 L hf hb hnt hrs base xs.length cap _ ys.length vc w w' v' hm0 hle hty).mono ?_
  rintro e' w'' ⟨rfl,rfl⟩
  refine ⟨v',lim',ob',rfl,by rw [List.take_length,List.drop_length,List.append_nil]; exact ho,⟨hst.os,hst.tape,hst.output,hst.size,hst.frz,fun b hb hn=>hst.blk b hb fun h=>hn ⟨0,0,h⟩,hst.ext⟩,fun b hb=>?_⟩
  rcases hob with h | h
  ·rw [h] at hb
   exact ⟨Nat.lt_of_lt_of_le (hsize 0 0 b hb) hst.size,.inl ⟨⟨0,0,hb⟩,ZmV r0 hb⟩⟩
  ·subst h
   cases hb
   rcases ho with ⟨us,g1,g2,_⟩ | ⟨_,h,_⟩
   ·exact ⟨(g1.lt _ g2).2,.inr (Nat.le_refl _)⟩
   ·cases h
 ·have hlt:q < xs.length:=by omega
  have hxs:xs≠[]:=by rintro rfl; simp at hlt
  obtain ⟨b,cur,c,hX0,hv0,hg,hnc,hcm,hcs,hxl,hxc,hxr,hlim⟩:=Zfo r0 hxs
  have hlb:lim b=0:=hlim b hX0 rfl
  have hvb:vb≠b:=by
   rintro rfl
   have:=(hdist 0 0 2 0 vb hX0 hX2).1
   omega
  rw [hce] at hcs hvs hxl hyl
  have hxf:xs.flatten.length=xs.length * k:=Zx xs k hxl
  have hyf:ys.flatten.length=ys.length * k:=Zx ys k hyl
  have hcl:cur.toList.length=c * k:=by simpa using hcs
  have hvl:vcur.toList.length=vc * k:=by simpa using hvs
  have hn5:xs.length * k≤c * k:=Nat.mul_le_mul_right _ hnc
  have hn6:ys.length * k≤vc * k:=Nat.mul_le_mul_right _ hmv
  have hn7:q * k≤xs.length * k:=Nat.mul_le_mul_right _ hi
  have hn8:(xs.length - q) * k=xs.length * k - q * k:=Nat.sub_mul _ _ _
  have hn9:(xs.length+ys.length) * k=xs.length * k+ys.length * k:=Nat.add_mul _ _ _
  have hxt:ZbJ (Rep w lim) xs.flatten (cur.toList.take (xs.length * k)):=hxr.cut _
  have hyt:ZbJ (Rep w lim) ys.flatten (vcur.toList.take (ys.length * k)):=hyr.cut _
  have h1c:∀ v∈cur.toList.take (xs.length * k),v.oneCell'=true:=ZeY hxc hxt (by rw [List.length_take,hxf]; omega)
  have h1v:∀ v∈vcur.toList.take (ys.length * k),v.oneCell'=true:=ZeY hyc hyt (by rw [List.length_take,hyf]; omega)
  have hzl:∀ x∈xs.take q++ys++xs.drop q,x.length=k:=by
   intro x hx
   rcases List.mem_append.1 hx with hx | hx
   ·rcases List.mem_append.1 hx with hx | hx
    ·exact hxl x (List.mem_of_mem_take hx)
    ·exact hyl x hx
   ·exact hxl x (List.mem_of_mem_drop hx)
  have hzc:∀ x∈xs.take q++ys++xs.drop q,∀ y∈x,y.isCell=true:=by
   intro x hx
   rcases List.mem_append.1 hx with hx | hx
   ·rcases List.mem_append.1 hx with hx | hx
    ·exact hxc x (List.mem_of_mem_take hx)
    ·exact hyc x hx
   ·exact hxc x (List.mem_of_mem_drop hx)
  have hzn:(xs.take q++ys++xs.drop q).length=xs.length+ys.length:=by
   simp only [List.length_append,List.length_take,List.length_drop]
   omega
  have heach:∀ rest,ZbJ (Rep w lim) (xs.take q++ys++xs.drop q).flatten (cur.toList.take (q * k)++vcur.toList.take (ys.length * k)++((cur.toList.drop (q * k)).take ((xs.length - q) * k)++rest)):=by
   intro rest
   rw [List.flatten_append,List.flatten_append,KO k xs q hxl,KS k xs q hxl]
   refine ZbJ.app ?_ (ZbJ.app ?_ (hxr.take _) hyt) (ZbJ.ext ((hxr.drop _).cut _) ?_)
   ·simp only [List.length_append,List.length_take,hxf,hyf,hcl,hvl]; omega
   ·simp only [List.length_take,hxf,hcl]; omega
   ·simp only [List.length_take,List.length_drop,hxf,hcl]; omega
  rw [hv0,hv2]
  by_cases hr:xs.length+ys.length≤c
  ·refine (ZmS L hf hb hnt hrs b xs.length c q vb ys.length vc cur vcur w hlt hm0 hr (by unfold maxLen at hcm; omega) hvb hg hcs hvg hvs hmv h1c h1v).mono ?_
   rintro e' w' ⟨rfl,rfl⟩
   have s1:Js w lim (w.drew.setRow b (Yz cur.toList k xs.length ys.length q).toArray) lim (fun x=>x=b):=by
    have:=JG (w:=w.drew) (lim:=lim) (cs:=(Yz cur.toList k xs.length ys.length q).toArray) hg hlb
    exact ⟨this.os,this.tape,this.output,this.size,this.frz,this.blk,this.ext⟩
   have s2:=JG (lim:=lim) (cs:=(ZeA cur.toList (vcur.toList.take (ys.length * k)) k xs.length ys.length q).toArray) (YF (w:=w.drew) (cur':=(Yz cur.toList k xs.length ys.length q).toArray) hg) hlb
   have s3:Js w lim _ lim (fun x=>∃ i j,X i j=some x):=s1.trans s2 (fun x hx=>⟨0,0,by rw [hx]; exact hX0⟩) (fun x hx=>.inl ⟨0,0,by rw [hx]; exact hX0⟩)
   have hU:(xs.length+ys.length) * k≤cur.toList.length:=by rw [hcl]; exact Nat.mul_le_mul_right _ hr
   have heq:=Zml (vs:=vcur.toList.take (ys.length * k)) hi hU
   refine ⟨_,lim,some b,rfl,?_,s3,fun b' hb'=>?_⟩
   ·have hrow:=Zbr (P:=P) (w:=(w.drew.setRow b (Yz cur.toList k xs.length ys.length q).toArray).setRow b (ZeA cur.toList (vcur.toList.take (ys.length * k)) k xs.length ys.length q).toArray) (lim:=lim) (e:=e)
     (xs:=xs.take q++ys++xs.drop q) (b:=b) (cap:=c) (YF (YF (w:=w.drew) hg)) hlb (by rw [hzn]; exact hr) hcm ?_ (by rw [hce]; exact hzl) hzc ?_
    ·rw [hzn] at hrow
     exact hrow
    ·rw [hce,List.size_toArray,heq]
     simp only [List.length_append,List.length_take,List.length_drop,hcl,hvl]
     have:(q+ys.length) * k=q * k+ys.length * k:=Nat.add_mul _ _ _
     have:(xs.length+ys.length) * k≤c * k:=Nat.mul_le_mul_right _ hr
     omega
    ·intro j z u hz hu
     rw [List.getElem?_toArray,heq] at hu
     exact (heach _ j z u hz hu).mono s3.ext
   ·cases hb'
    exact ⟨Nat.lt_of_lt_of_le (hsize 0 0 b hX0) s3.size,.inl ⟨⟨0,0,hX0⟩,hlb⟩⟩
  ·refine (ZoY L hf hb hnt hrs b xs.length c q vb ys.length vc cur vcur w hlt hm0 hnc (by omega) (by omega) (by omega) hg hcs hvg hvs hmv h1c h1v).mono ?_
   rintro e' w' ⟨G,hG1,hG2,rfl,rfl⟩
   obtain ⟨R0,hR0⟩:∃ R0,R0=V2 cur.toList z.cells k xs.length ys.length q G:=⟨_,rfl⟩
   rw [← hR0]
   have hR0s:R0.size=G * k:=by rw [hR0]; exact ZbR L.zsz hi hG1 (by rw [hcl]; omega)
   have hR0l:R0.toList.length=G * k:=by simpa using hR0s
   have hGk:(xs.length+ys.length) * k≤G * k:=Nat.mul_le_mul_right _ hG1
   have hvtl:(vcur.toList.take (ys.length * k)).length=ys.length * k:=by rw [List.length_take,hvl]; omega
   have hRU:R0.toList.take (q * k)=cur.toList.take (q * k):=by
    rw [hR0]
    unfold V2
    rw [Array.toList_append,Array.toList_append]
    rw [List.append_assoc,List.take_append_of_le_length (by simp only [List.length_take,hcl]; omega),List.take_of_length_le (by simp only [List.length_take,hcl]; omega)]
   have heq:=Zkt (U:=cur.toList) (n:=xs.length) (i:=q) hvtl (by rw [hR0l]; omega) hRU
   obtain ⟨W0,hW0⟩:∃ W0,W0=w.drew.alloc (.cells R0 e):=⟨_,rfl⟩
   obtain ⟨l0,hl0⟩:∃ l0,l0=fun x=>if x=w.heap.size then 0 else lim x:=⟨_,rfl⟩
   have s0:Js w lim W0 l0 (fun x=>∃ i j,X i j=some x):=by
    have:=KH w.drew lim R0 e 0 (fun x=>∃ i j,X i j=some x)
    rw [hW0,hl0]
    exact ⟨this.os,this.tape,this.output,this.size,this.frz,this.blk,this.ext⟩
   have g0:W0.heap[w.heap.size]? = some (.cells R0 e (0,0)):=by rw [hW0]; exact Vl w.drew R0 e
   have hll:l0 w.heap.size=0:=by rw [hl0]; exact if_pos rfl
   rw [← hW0]
   obtain ⟨R1,hR1⟩:∃ R1,R1=Vp R0.toList (vcur.toList.take (ys.length * k)) k ys.length q:=⟨_,rfl⟩
   rw [← hR1] at heq ⊢
   obtain ⟨R2,hR2⟩:∃ R2,R2=Zcv R1 cur.toList k xs.length ys.length q:=⟨_,rfl⟩
   rw [← hR2] at heq ⊢
   have hR1l:R1.length=G * k:=by
    rw [hR1]
    simp only [Vp,List.length_append,hvtl,List.length_take,List.length_drop,hR0l]
    omega
   have s1:=JG (cs:=R1.toArray) g0 hll
   have g1:((W0.setRow w.heap.size R1.toArray).drew).heap[w.heap.size]? = some (.cells R1.toArray e (0,0)):=YF g0
   have s2:=JG (w:=(W0.setRow w.heap.size R1.toArray).drew) (cs:=R2.toArray) g1 hll
   have s12:Js w lim (W0.setRow w.heap.size R1.toArray).drew l0 (fun x=>∃ i j,X i j=some x):=(s0.trans s1 (fun x hx=>hx) (fun x hx=>.inr (by omega))).drew
   have s3:=s12.trans (S:=fun x=>∃ i j,X i j=some x) s2 (fun x hx=>hx) (fun x hx=>.inr (by omega))
   refine ⟨_,l0,some w.heap.size,rfl,?_,s3,fun b' hb'=>?_⟩
   ·have hrow:=Zbr (P:=P) (w:=((W0.setRow w.heap.size R1.toArray).drew).setRow w.heap.size R2.toArray) (lim:=l0) (e:=e)
     (xs:=xs.take q++ys++xs.drop q) (b:=w.heap.size) (cap:=G) (YF g1) hll (by rw [hzn]; exact hG1) hG2 ?_ (by rw [hce]; exact hzl) hzc ?_
    ·rw [hzn] at hrow
     exact hrow
    ·rw [hce,List.size_toArray,heq]
     simp only [List.length_append,hvtl,List.length_take,List.length_drop,hcl,hR1l]
     omega
    ·intro j z u hz hu
     rw [List.getElem?_toArray,heq] at hu
     exact (heach _ j z u hz hu).mono s3.ext
   ·cases hb'
    exact ⟨Nat.lt_of_lt_of_le (by have:=(Array.getElem?_eq_some_iff.1 g1).1; exact this) s2.size,.inr (Nat.le_refl _)⟩
set_option maxHeartbeats 4000000 in
set_option maxRecDepth 100000 in
theorem ZnL {T B I U e:TypeId} {inf:TypeInfo} {z:Value} {k:Nat} (L:ZcE P T B I e inf z k) {f:FuncId} {fn:Func} (hf:P.funcs[f]? = some fn) (hb:fn.body=some (delCode T B I U)) (hnt:fn.ntmps=33) (hrs:fn.results = #[.tmp 6])
  (base:Option Addr) (n c i:Nat) (w:World) (hin:i≤n) (hnc:n≤c) :
  Calls P f #[.slice base n c,.int .i64 i,.int .i64 i] w fun e' w'=>e' = .returned (.slice base n c)∧w'=w:=by
 have mixed:=L.mixed
 have t0:=L.tT; have t1:=L.tI; have t2:=L.tB
 have u0:=run_underlying L.tT; have u1:=run_underlying L.tI; have u2:=run_underlying L.tB
 have zsE:∀ w,(Go.sizeOf e).run P w = .ok k w:=fun w=>by rw [ZC L.ie]; rw [ZI L.ie,L.sz]
 have hb0:(i:Int)≤(n:Int):=by omega
 have hb1:(n:Int)≤(c:Int):=by omega
 have hb2:(i:Int)≤(c:Int):=by omega
 refine calls_of_wp hf hb ?_
 rw [hnt]
 simp only [List.size_toArray,List.length_cons,List.length_nil,Nat.reduceAdd,Nat.reduceSub,Array.replicate_succ,Array.replicate_zero,List.push_toArray,List.append_toArray,List.nil_append,List.cons_append]
 unfold delCode
 cases base with
 | none =>
  go_wp2
  all_goals
   refine bodyPost_ret (results_tmp hrs _ _ _) rfl ?_
   exact ⟨rfl,rfl⟩
 | some a =>
  obtain ⟨ab,ao,asp⟩:=a
  go_wp2
  all_goals
   refine bodyPost_ret (results_tmp hrs _ _ _) rfl ?_
   exact ⟨rfl,rfl⟩
structure Zxd (P:Program) (T B I U:TypeId) (z:Value) (f:FuncId):Prop where
 fn : ∃ fn, P.funcs[f]? = some fn ∧ fn.body = some (delCode T B I U) ∧ fn.ntmps = 33 ∧ fn.results = #[.tmp 6] ∧ (fn.name == "runtime.NumGoroutine") = false
 one:∀ v∈z.cells.toList,v.oneCell'=true
theorem Zvw (x:Bool) {T B I U e:TypeId} {inf:TypeInfo} {z:Value} {k:Nat} (L:ZcE P T B I e inf z k) {f:FuncId} (hF:Zxd P T B I U z f) {xs:List (List AV)} {i j:Int}
  (h0:0≤i) (hij:i≤j) (hj:j.toNat≤xs.length) :
  Yg P f [.own true e xs,.val (.int .i64 i),.val (.int .i64 j)] (.own x e (xs.take i.toNat++xs.drop j.toNat)) [.dead,.dead,.dead]:=by
 obtain ⟨fn,hf,hb,hnt,hrs,hname⟩:=hF.fn
 have hce:P.cellsOf e=k:=by rw [ZI L.ie,L.sz]
 refine Zez x (args:=[.own true e xs,.val (.int .i64 i),.val (.int .i64 j)]) ⟨fn,hf,hname,by rw [hb]; rfl⟩ fun w lim X cargs hl hrel hdist hsize=>?_
 have r0:JP P w lim true e xs (cargs.getD 0 undef) (X 0 0):=hrel 0
 have r1:=arg_int (hrel 1)
 have r2:=arg_int (hrel 2)
 rw [ZeE hl (by rw [r2]; simp [undef]),r1,r2]
 obtain ⟨p,rfl⟩:∃ p:Nat,i=p:=⟨i.toNat,by omega⟩
 obtain ⟨q,rfl⟩:∃ q:Nat,j=q:=⟨j.toNat,by omega⟩
 rw [Int.toNat_natCast] at hj ⊢
 rw [Int.toNat_natCast]
 have hpq:p≤q:=by omega
 by_cases heq:p=q
 ·subst heq
  have hvform:∃ base cap,cargs.getD 0 undef = .slice base xs.length cap∧xs.length≤cap:=by
   rcases r0 with ⟨us,hr,_⟩ | ⟨rfl,_,a,hv⟩
   ·rcases hr.2 with ⟨hv,hn⟩ | ⟨g,cap,cur,hv,_,_,hnc,_⟩
    ·exact ⟨none,0,by rw [hv,hn],by omega⟩
    ·exact ⟨_,cap,hv,hnc⟩
   ·exact ⟨_,0,hv,Nat.le_refl _⟩
  obtain ⟨base,cap,hv0,hle⟩:=hvform
  rw [hv0] at r0 ⊢
  refine (ZnL L hf hb hnt hrs base xs.length cap p w hj hle).mono ?_
  rintro e' w' ⟨rfl,rfl⟩
  exact ⟨_,lim,X 0 0,rfl,by rw [List.take_append_drop]; exact r0,Js.refl _ _ _,fun b hb=>⟨hsize 0 0 b hb,.inl ⟨⟨0,0,hb⟩,ZmV r0 hb⟩⟩⟩
 ·have hlt:p < q:=by omega
  have hxs:xs≠[]:=by rintro rfl; simp at hj; omega
  obtain ⟨b,cur,c,hX0,hv0,hg,hnc,hcm,hcs,hxl,hxc,hxr,hlim⟩:=Zfo r0 hxs
  have hlb:lim b=0:=hlim b hX0 rfl
  rw [hce] at hcs hxl
  have hxf:xs.flatten.length=xs.length * k:=Zx xs k hxl
  have hcl:cur.toList.length=c * k:=by simpa using hcs
  have hn5:xs.length * k≤c * k:=Nat.mul_le_mul_right _ hnc
  have hn7:p * k≤q * k:=Nat.mul_le_mul_right _ hpq
  have hn8:q * k≤xs.length * k:=Nat.mul_le_mul_right _ hj
  have hn9:(xs.length - q) * k=xs.length * k - q * k:=Nat.sub_mul _ _ _
  have h1c:∀ v∈cur.toList.take (xs.length * k),v.oneCell'=true:=ZeY hxc (hxr.cut _) (by rw [List.length_take,hxf]; omega)
  have hzl:∀ x∈xs.take p++xs.drop q,x.length=k:=by
   intro x hx
   rcases List.mem_append.1 hx with hx | hx
   ·exact hxl x (List.mem_of_mem_take hx)
   ·exact hxl x (List.mem_of_mem_drop hx)
  have hzc:∀ x∈xs.take p++xs.drop q,∀ y∈x,y.isCell=true:=by
   intro x hx
   rcases List.mem_append.1 hx with hx | hx
   ·exact hxc x (List.mem_of_mem_take hx)
   ·exact hxc x (List.mem_of_mem_drop hx)
  have hzn:(xs.take p++xs.drop q).length=p+(xs.length - q):=by
   simp only [List.length_append,List.length_take,List.length_drop]
   omega
  have heach:∀ rest,ZbJ (Rep w lim) (xs.take p++xs.drop q).flatten (cur.toList.take (p * k)++(cur.toList.drop (q * k)).take ((xs.length - q) * k)++rest):=by
   intro rest
   rw [List.flatten_append,KO k xs p hxl,KS k xs q hxl,List.append_assoc]
   refine ZbJ.app ?_ (hxr.take _) (ZbJ.ext ((hxr.drop _).cut _) ?_)
   ·simp only [List.length_take,hxf,hcl]; omega
   ·simp only [List.length_take,List.length_drop,hxf,hcl]; omega
  rw [hv0]
  refine (Zsc L hf hb hnt hrs b xs.length c p q cur w hlt hj hnc (by unfold maxLen at hcm; omega) hg hcs h1c hF.one).mono ?_
  rintro e' w' ⟨rfl,rfl⟩
  have heq2:=Zlg (U:=cur.toList) (zc:=z.cells.toList) hpq hj (by rw [hcl]; exact hn5)
  obtain ⟨R1,hR1⟩:∃ R1,R1=Yt cur.toList k xs.length p q:=⟨_,rfl⟩
  rw [← hR1] at heq2 ⊢
  obtain ⟨R2,hR2⟩:∃ R2,R2=ZcU R1 z.cells.toList k xs.length (p+(xs.length - q)):=⟨_,rfl⟩
  rw [← hR2] at heq2 ⊢
  have hR1l:R1.length=c * k:=by
   rw [hR1]
   simp only [Yt,List.length_append,List.length_take,List.length_drop,hcl]
   omega
  have s1:Js w lim (w.drew.setRow b R1.toArray) lim (fun x=>x=b):=by
   have:=JG (w:=w.drew) (lim:=lim) (cs:=R1.toArray) hg hlb
   exact ⟨this.os,this.tape,this.output,this.size,this.frz,this.blk,this.ext⟩
  have s2:=JG (lim:=lim) (cs:=R2.toArray) (YF (w:=w.drew) (cur':=R1.toArray) hg) hlb
  have s3:Js w lim _ lim (fun x=>∃ i j,X i j=some x):=s1.trans s2 (fun x hx=>⟨0,0,by rw [hx]; exact hX0⟩) (fun x hx=>.inl ⟨0,0,by rw [hx]; exact hX0⟩)
  refine ⟨_,lim,some b,rfl,?_,s3,fun b' hb'=>?_⟩
  ·have hrow:=Zbr (P:=P) (w:=(w.drew.setRow b R1.toArray).setRow b R2.toArray) (lim:=lim) (e:=e)
    (xs:=xs.take p++xs.drop q) (b:=b) (cap:=c) (YF (YF (w:=w.drew) hg)) hlb (by rw [hzn]; omega) hcm ?_ (by rw [hce]; exact hzl) hzc ?_
   ·rw [hzn] at hrow
    exact hrow
   ·have hfl:((List.replicate (xs.length - (p+(xs.length - q))) z.cells.toList).flatten).length=(xs.length - (p+(xs.length - q))) * k:=by simp [← L.zsz]
    have e1:(p+(xs.length - q)) * k=p * k+(xs.length - q) * k:=Nat.add_mul _ _ _
    have e2:(xs.length - (p+(xs.length - q))) * k=xs.length * k - (p+(xs.length - q)) * k:=Nat.sub_mul _ _ _
    rw [hce,List.size_toArray,heq2]
    simp only [List.length_append,hfl,List.length_take,List.length_drop,hcl,hR1l]
    omega
   ·intro j z u hz hu
    rw [List.getElem?_toArray,heq2] at hu
    exact (heach _ j z u hz hu).mono s3.ext
  ·cases hb'
   exact ⟨Nat.lt_of_lt_of_le (hsize 0 0 b hX0) s3.size,.inl ⟨⟨0,0,hX0⟩,hlb⟩⟩
def ZB0 (bytes:Nat) (xs:LL) (i:Int) (ys:LL):Option LL:=
 ZA (0≤i)<|ZA (i≤(xs.length:Int))<|ZA (ys≠[])<|ZA (Jy xs ys bytes)<|some (xs.take i.toNat++ys++xs.drop i.toNat)
def ZxS (xs:LL) (i j:Int):Option LL:=
 ZA (0≤i)<|ZA (i≤j)<|ZA (j≤(xs.length:Int))<|some (xs.take i.toNat++xs.drop j.toNat)
def ZyB (bytes:Nat):List V→Option LL
 | [.l xs, .i i, .l ys] => ZB0 bytes xs i ys
 | _ => none
def ZxT:List V→Option LL
 | [.l xs, .i i, .i j] => ZxS xs i j
 | _ => none
def ZzZ (x:Bool) (e:TypeId) (bytes:Nat):Fun where
 args:=[.c (.own true e),.c (.int .i64),.c (.own false e)]
 res:=[.c (.own x e)]
 g:=ZyB bytes
def ZAj (x:Bool) (e:TypeId):Fun where
 args:=[.c (.own true e),.c (.int .i64),.c (.int .i64)]
 res:=[.c (.own x e)]
 g:=ZxT
def insChk (P:Program) (T B I e:TypeId) (bytes:Nat):Bool:=
 (match P.underlying T with | some (.slice e')=>e' == e | _=>false)&&(match P.underlying I with | some (.int k)=>k == .i64 | _=>false)&&(match P.underlying B with | some .bool=>true | _=>false)&&
 match P.info? e with
 | some i => i.bytes == bytes && decide (0 < i.size) && (match i.zero with | some z => z.cells.size == i.size && z.cells.toList.all (fun v => v.oneCell') | none => false)
 | none => false
theorem ZeB {T B I e:TypeId} {bytes:Nat} (hm:P.follows .mixedOrders=true) (h:insChk P T B I e bytes=true) :
  ∃ inf z k,inf.bytes=bytes∧(∀ v∈z.cells.toList,v.oneCell'=true)∧ZcE P T B I e inf z k:=by
 simp only [insChk,Bool.and_eq_true] at h
 obtain ⟨⟨⟨h1,h2⟩,h3⟩,h4⟩:=h
 split at h1
 case h_2=>cases h1
 rename_i e' hT
 rw [beq_iff_eq] at h1
 subst h1
 split at h2
 case h_2=>cases h2
 rename_i kk hI
 rw [beq_iff_eq] at h2
 subst h2
 split at h3
 case h_2=>cases h3
 rename_i hB
 split at h4
 case h_2=>cases h4
 rename_i inf hinf
 simp only [Bool.and_eq_true,beq_iff_eq,decide_eq_true_eq] at h4
 obtain ⟨⟨h5,h6⟩,h7⟩:=h4
 split at h7
 case h_2=>cases h7
 rename_i z hz
 simp only [Bool.and_eq_true,beq_iff_eq,List.all_eq_true] at h7
 exact ⟨inf,z,inf.size,h5,fun v hv=>h7.2 v hv,⟨hm,hT,hI,hB,hinf,hz,h7.1,rfl,h6⟩⟩
def Func.looksIns (fn:Func) (T B I:TypeId) (fO fR:FuncId):Prop:=fn.body=some (insCode T B I fO fR)∧fn.ntmps=95∧fn.results = #[.tmp 6]
theorem insF_ok {x : Bool} {T B I e : TypeId} {bytes : Nat} {f fO fR : FuncId} {fn fo : Func} (hm : P.follows .mixedOrders = true) (hc : insChk P T B I e bytes = true) (hf : P.funcs[f]? = some fn) (hname : (fn.name == "runtime.NumGoroutine") = false)
  (hl : Func.looksIns fn T B I fO fR) (hfo : P.funcs[fO]? = some fo) (ho1 : (fo.name == "runtime.NumGoroutine") = false) (ho2 : fo.body.isNone = true) (ho3 : Extern.findNext fo = none)
  (ho4:Extern.find fo=some (Extern.SlicesOverlaps.overlaps #[T,T] #[B])):(ZzZ x e bytes).Ok P f:=by
 obtain ⟨inf,z,k,hb,_,hL⟩:=ZeB hm hc
 have L:Zdm P T B I fO e inf z k:=⟨hL,fun args w=>run_callFunc_extern hfo ho1 ho2 ho3 ho4 args w⟩
 intro vs r h
 have h:ZyB bytes vs=some r:=h
 unfold ZyB at h
 split at h
 case h_2=>cases h
 rename_i xs i ys _
 obtain ⟨h0,h⟩:=Y5 h
 obtain ⟨h1,h⟩:=Y5 h
 obtain ⟨h2,h⟩:=Y5 h
 obtain ⟨h3,h⟩:=Y5 h
 cases h
 rw [Jy,← hb] at h3
 exact ZuG x L ⟨fn,hf,hl.1,hl.2.1,hl.2.2,hname⟩ h0 (show i.toNat≤xs.length by omega) h2 h3
def Func.looksDel (fn:Func) (T B I U:TypeId):Prop:=fn.body=some (delCode T B I U)∧fn.ntmps=33∧fn.results = #[.tmp 6]
theorem delF_ok {x : Bool} {T B I U e : TypeId} {bytes : Nat} {f : FuncId} {fn : Func} (hm : P.follows .mixedOrders = true) (hc : insChk P T B I e bytes = true) (hf : P.funcs[f]? = some fn) (hname : (fn.name == "runtime.NumGoroutine") = false)
  (hl:Func.looksDel fn T B I U):(ZAj x e).Ok P f:=by
 obtain ⟨inf,z,k,_,hz,L⟩:=ZeB hm hc
 intro vs r h
 have h:ZxT vs=some r:=h
 unfold ZxT at h
 split at h
 case h_2=>cases h
 rename_i xs i j _
 obtain ⟨h0,h⟩:=Y5 h
 obtain ⟨h1,h⟩:=Y5 h
 obtain ⟨h2,h⟩:=Y5 h
 cases h
 exact Zvw x L ⟨⟨fn,hf,hl.1,hl.2.1,hl.2.2,hname⟩,hz⟩ h0 h1 (show j.toNat≤xs.length by omega)
end Go.AM
end
