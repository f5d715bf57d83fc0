/- AmRet, AmRun, AmRow, AmLift, AmSem, AmSize, AmIns: texts of the proof, put together. -/
import Derived.Test.YtmjkdbpffdampaaGreatM3
import Derived.ChangeArms
import Derived.ChangeStays
import Derived.ChangeBook
import Derived.ChangeSame
import Derived.RowKit
import Derived.ChangeOld
import GoSem.ClaimJoined
import GoSem.ClaimOpenFrom
import Derived.KernelRfl
import Derived.SizedLaws
import Derived.WalkKit
import Derived.Lib.Walk
import Derived.Lib.SliceRun
import Derived.Lib.AppendZerosOnto
import Derived.Lib.Overlaps
import Derived.Laws.Externs
import Derived.Laws.IdiomCopy
import Derived.Shelf.RegionOpenPlain

section
namespace Go.AM
section
variable {P:Program} {E:Env}
theorem callOk_ofR {R : AV → List AV → Prop} (hm : P.follows .mixedOrders = true) (hps : PlainSound P E.plain) {f : FuncId} {fn : Func} (hf : P.funcs[f]? = some fn) (hname : (fn.name == "runtime.NumGoroutine") = false) {args : List SV} {n : Nat} {ρ : Nat → V}
  (hargs:∀ a∈args,a.bd n) {res:AV} {outs:List AV} (hR:∀ r os,R r os→K2 P (os++[r]) (outs++[res])) (h:(Znm P E fn args n).wp P R (fun _ _=>False) ρ):JC P f (args.map (SV.den ρ)) res outs:=by
 unfold Znm at h
 split at h
 case h_2=>exact h.elim
 rename_i code hbody
 dsimp only at h
 split at h
 case isFalse=>exact h.elim
 rename_i hh
 obtain ⟨hnt,hnm,hal,hng,haf⟩:=hh
 have hat:=Vl args 0 haf
 refine ⟨⟨fn,hf,hname,by rw [hbody];rfl⟩,?_⟩
 intro w lim X cargs hcl hrel hdist hsize
 rw [List.length_map] at hcl
 have hgl:∀ (aZ:List SV) (i:Nat),Jo E aZ i=true→i+aZ.length≤E.nt+((aZ.map (SV.den ρ)).countP AV.isG)∨aZ.length≤(aZ.map (SV.den ρ)).countP AV.isG:=by
  intro aZ
  induction aZ with
  | nil => intro i _; exact .inr (Nat.zero_le _)
  | cons a aZ ih =>
   intro i hf
   have h0:=Vl (a::aZ) i hf 0 a rfl
   have hd:(a.den ρ).isG=a.isG:=by cases a<;>first | rfl | (rename_i x;cases x<;>rfl)
   rw [List.map_cons,List.countP_cons,hd,List.length_cons]
   by_cases hg:a.isG=true
   ·rw [if_pos hg]
    rcases ih (i+1) (Y3 hf) with h1 | h1
    ·left;omega
    ·right;omega
   ·rw [if_neg hg]
    have h2:i < E.nt:=by
     rcases Nat.lt_or_ge i E.nt with h | h
     ·exact h
     ·exact (hg (h0.2.2 (by simpa using h))).elim
    rcases ih (i+1) (Y3 hf) with h1 | h1
    ·left;omega
    ·left;omega
 have hcn:cargs.length≤E.nt:=by
  rcases hgl args 0 haf with h1 | h1<;>omega
 have hcd:∀ d,d < args.length→(∃ a,args[d]? = some a):=fun d hd=>⟨_,List.getElem?_eq_getElem hd⟩
 refine calls_of_wp hf hbody ?_
 let c:Ctx:=⟨P,w,lim,fun b=>∃ i k,X i k=some b,E.nt,fun d=>match args[d]? with | some (.box _)=>some (cargs.getD d undef) | _=>none,fun d=>match args[d]? with | some (.gbox _)=>X d 0 | _=>none⟩
 have hlow:Vj E (Kz args 0):=by
  unfold Vj
  rw [List.all_eq_true]
  intro u hu
  have:=ZbD args 0 E.top (by omega) u hu
  simpa using this
 have hσ:Jc E (Jv (Kz args 0) (.leaf .dead)) ρ=ZY (args.map (SV.den ρ)):=by
  rw [J0 hnt ρ _ _ hlow]
  funext d
  rw [ZbE,Nat.zero_add,Nat.sub_zero]
  split
  ·rfl
  ·rename_i hd
   have h1:Jc E (.leaf .dead) ρ d = .dead:=by
    simp only [Jc,gE]
    split<;>rfl
   have h2:(args.map (SV.den ρ))[d]? = none:=List.getElem?_eq_none (by rw [List.length_map];omega)
   rw [h1]
   simp only [ZY,h2]
   rfl
 have htm:∀ d,(cargs.toArray++Array.replicate (fn.ntmps-cargs.toArray.size) undef).getD d undef=cargs.getD d undef:=by
  intro d
  rw [List.getD_eq_getElem?_getD,Array.getD_eq_getD_getElem?,Array.getElem?_append]
  simp only [List.size_toArray,List.getElem?_toArray]
  split
  ·rfl
  ·rename_i h1
   rw [List.getElem?_eq_none (by omega),Array.getElem?_replicate]
   split<;>rfl
 have hpin:∀ d v,c.pin d=some v→(∃ cs,args[d]? = some (.box cs))∧v=cargs.getD d undef:=by
  intro d v hv
  have hv':(match args[d]? with | some (.box _)=>some (cargs.getD d undef) | _=>none)=some v:=hv
  split at hv'
  ·rename_i cs hcs
   simp only [Option.some.injEq] at hv'
   exact ⟨⟨cs,hcs⟩,hv'.symm⟩
  ·cases hv'
 have hsim:Sim c (Jc E (Jv (Kz args 0) (.leaf .dead)) ρ) (cargs.toArray++Array.replicate (fn.ntmps-cargs.toArray.size) undef) w lim X:=by
  rw [hσ]
  have hG:∀ d,(ZY (args.map (SV.den ρ)) d).isG=true↔∃ cs,args[d]? = some (.gbox cs):=by
   intro d
   cases ha:args[d]? with
   | none =>
    have h2:(args.map (SV.den ρ))[d]? = none:=by rw [List.getElem?_map,ha];rfl
    simp only [ZY,h2]
    exact ⟨fun h=>(by cases h),fun ⟨_,h⟩=>(by cases h)⟩
   | some a =>
    have h2:ZY (args.map (SV.den ρ)) d=a.den ρ:=by simp only [ZY,List.getElem?_map,ha];rfl
    rw [h2]
    cases a with
    | gbox cs => exact ⟨fun _ => ⟨cs, rfl⟩, fun _ => rfl⟩
    | c x => exact ⟨fun h => (by cases x <;> cases h), fun ⟨_, h⟩ => (by cases h)⟩
    | _ => exact ⟨fun h => (by cases h), fun ⟨_, h⟩ => (by cases h)⟩
  refine ⟨fun d=>by rw [htm d];exact hrel d,?_,fun d hd=>?_,fun d hd=>?_,hdist,fun d k b hb=>⟨hsize d k b hb,.inl ⟨d,k,hb⟩⟩,⟨rfl,rfl,rfl,Nat.le_refl _,fun _ _=>rfl,fun _ _ _=>⟨rfl,rfl⟩,Ext.refl w lim⟩,fun d v hv=>?_,fun d b hb=>?_⟩
  ·show _=E.nt
   simp
   omega
  ·cases ha:args[d]? with
   | none =>
    left
    have h2:(args.map (SV.den ρ))[d]? = none:=by rw [List.getElem?_map,ha];rfl
    simp only [ZY,h2]
    rfl
   | some a =>
    right
    have h3:=(hat d a ha).2.2 (by rw [Nat.zero_add];exact hd)
    refine (hG d).2 ?_
    cases a<;>simp [SV.isG] at h3
    exact ⟨_,ha⟩
  ·obtain ⟨cs,hcs⟩:=(hG d).1 hd
   have:=(hat d _ hcs).2.1 rfl
   rwa [Nat.zero_add] at this
  ·obtain ⟨⟨cs,hcs⟩,rfl⟩:=hpin d v hv
   refine ⟨htm d,cs.map (BC.den ρ),?_⟩
   simp only [ZY,List.getElem?_map,hcs]
   rfl
  ·have hb':(match args[d]? with | some (.gbox _)=>X d 0 | _=>none)=some b:=hb
   split at hb'
   ·rename_i cs hcs
    exact ⟨hb',(hG d).2 ⟨cs,hcs⟩⟩
   ·cases hb'
 have hfin:∀ s' n' ρ' (A':Nat→List V→Prop),KC E s' n'→((match Zjm P (gE E s') fn.results.toList with
   | some r => if Zce args fn.results.toList = true then STree.ret r (Zae (gE E s') args 0) else .stuck 124
   | none => .stuck 120) : STree).wp P R A' ρ' → ∀ tm' w' lim' X', Sim c (Jc E s' ρ') tm' w' lim' X' → ∃ v, (results fn tm').run P w' = .ok v w' ∧
    ∃ v1 lim1 X1,Ending.returned v = .returned v1∧Ji w lim w' lim1 (fun b=>∃ i k,X i k=some b)∧outs.length=(args.map (SV.den ρ)).length∧
     (∀ i,ZV P w' lim1 X1 (ZY (outs++[res])) i (ZY (outs++[res]) i) (V6 (args.map (SV.den ρ)).length cargs v1 i))∧ZhP X1∧
     (∀ i k b,X1 i k=some b→b < w'.heap.size∧((∃ i k,X i k=some b)∨w.heap.size≤b))∧∀ i,(ZY (outs++[res]) i).isG=true→(ZY (args.map (SV.den ρ)) i).isG=true∧X1 i 0=X i 0:=by
  intro s' n' ρ' A' _ h' tm' w' lim' X' hsim'
  split at h'
  case h_2=>exact h'.elim
  rename_i r hr
  split at h'
  case isFalse=>exact h'.elim
  rename_i hfine
  obtain ⟨res0,hres⟩:∃ y,SV.den ρ' r=y:=⟨_,rfl⟩
  obtain ⟨outs0,houts⟩:∃ y,(Zae (gE E s') args 0).map (SV.den ρ')=y:=⟨_,rfl⟩
  have hww:=hR _ _ h'
  rw [hres,houts] at hww
  suffices hz:∃ v,(results fn tm').run P w' = .ok v w'∧
    ∃ v1 lim1 X1,Ending.returned v = .returned v1∧Ji w lim w' lim1 (fun b=>∃ i k,X i k=some b)∧outs0.length=(args.map (SV.den ρ)).length∧
     (∀ i,ZV P w' lim1 X1 (ZY (outs0++[res0])) i (ZY (outs0++[res0]) i) (V6 (args.map (SV.den ρ)).length cargs v1 i))∧ZhP X1∧
     (∀ i k b,X1 i k=some b→b < w'.heap.size∧((∃ i k,X i k=some b)∨w.heap.size≤b))∧∀ i,(ZY (outs0++[res0]) i).isG=true→(ZY (args.map (SV.den ρ)) i).isG=true∧X1 i 0=X i 0 by
   obtain ⟨v,hrun,v1,lim1,X1,he,hst,hol,hr,hd,hin,hgh⟩:=hz
   obtain ⟨X3,k1,k3,k2⟩:=Zbv hr hww
   have hX3:∀ i k b,X3 i k=some b→X1 i k=some b:=by
    intro i k b hb
    rcases k1 i k with e | e
    ·rw [← e];exact hb
    ·rw [e] at hb;cases hb
   have hll:outs0.length=outs.length:=by have:=hww.1;simpa using this
   refine ⟨v,hrun,v1,lim1,X3,he,hst,by rw [← hll,hol],k2,ZcP hd k1,fun i k b hb=>hin i k b (hX3 i k b hb),fun i hi=>?_⟩
   obtain ⟨m1,m2⟩:=hgh i (Zb1 hww hi)
   exact ⟨m1,by rw [k3 i (V1 hi),m2]⟩
  -- the value
  have hval:∃ v,(results fn tm').run P w' = .ok v w'∧ZV P w' lim' (fun i k=>(ZaZ args fn.results.toList i k).bind fun p=>X' p.1 p.2) (ZY (outs0++[res0])) args.length res0 v:=by
   have hrow:∀ k,ZaZ args fn.results.toList args.length k=match fn.results.toList with
     | [r] => if k = 0 then some (JN r, Zc8 r) else none
     | rs => match k with | 0 => none | k + 1 => (rs[k]?).map fun r => (JN r, Zc8 r) := by
    intro k
    unfold ZaZ
    rw [if_neg (Nat.lt_irrefl _),if_pos rfl]
    all_goals rfl
   unfold Zjm at hr
   split at hr
   ·rename_i r0 hrs
    cases hx:Zbk P (gE E s') r0 with
    | none => simp [hx] at hr
    | some x =>
     simp only [hx,Option.map_some,Option.some.injEq] at hr
     subst hr
     rw [Zcg] at hres
     subst hres
     obtain ⟨v,h1,h2⟩:=Zda (c:=c) rfl hsim' hx
     refine ⟨v,?_,ZdN ?_⟩
     ·exact W0 (vs:=[v]) (by rw [hrs];rfl) fun i r' v' hr' hv'=>by
       rw [hrs] at hr'
       cases i with
       | zero =>
        simp only [List.getElem?_cons_zero,Option.some.injEq] at hr' hv'
        subst hr'
        subst hv'
        exact h1
       | succ i => simp at hr'
     ·show Yg P w' lim' ((ZaZ args fn.results.toList args.length 0).bind fun p=>X' p.1 p.2) _ v
      rw [hrow,hrs]
      exact h2
   ·rename_i hne
    cases hx:Zbx P (gE E s') fn.results.toList with
    | none => simp [hx] at hr
    | some xs =>
     simp only [hx,Option.map_some,Option.some.injEq] at hr
     subst hr
     subst hres
     obtain ⟨vs,g1,g2,g3⟩:=Zdc (c:=c) rfl hsim' _ _ hx
     have hne1:∀ v,vs≠[v]:=by
      intro v hv
      rw [hv] at g1
      obtain ⟨r',hr'⟩:=List.length_eq_one_iff.1 g1
      exact hne r' hr'
     refine ⟨.tuple vs.toArray,?_,?_⟩
     ·have:=W0 g1 fun i r' v' hr' hv'=>(g3 i r' v' hr' hv').1
      rw [this]
      rcases vs with _ | ⟨v,_ | ⟨u,l⟩⟩
      ·rfl
      ·exact (hne1 v rfl).elim
      ·rfl
     ·refine ⟨vs,rfl,by simp [g2],fun i y u hy hu=>?_⟩
      rw [List.getElem?_map] at hy
      cases hxi:xs[i]? with
      | none => simp [hxi] at hy
      | some x =>
       simp only [hxi,Option.map_some,Option.some.injEq] at hy
       subst hy
       obtain ⟨r',hr'⟩:∃ r',fn.results.toList[i]? = some r':=⟨_,List.getElem?_eq_getElem (by rw [g1];exact (List.getElem?_eq_some_iff.1 hu).1)⟩
       have h3:=(g3 i r' u hr' hu).2 x hxi
       have hsrc:ZaZ args fn.results.toList args.length (i+1)=some (JN r',Zc8 r'):=by
        rw [hrow]
        split
        ·rename_i r1 hr1;exact (hne r1 hr1).elim
        ·simp [hr']
       show Yg P w' lim' ((ZaZ args fn.results.toList args.length (i+1)).bind fun p=>X' p.1 p.2) _ u
       rw [hsrc]
       exact h3
  obtain ⟨v,hv1,hv2⟩:=hval
  have hol:outs0.length=args.length:=by rw [← houts,List.length_map,Zdw]
  have hrt:∀ i,V6 (args.map (SV.den ρ)).length cargs v i=if i=args.length then v else cargs.getD i undef:=by
   intro i
   unfold V6
   rw [List.length_map]
  have hout:∀ i,i < args.length→ZY (outs0++[res0]) i=match args[i]? with | some a=>if a.isBx=true then Jc E s' ρ' i else .dead | none=>.dead:=by
   intro i hi
   simp only [ZY]
   rw [List.getElem?_append_left (by omega),← houts,List.getElem?_map,ZeJ,Nat.zero_add]
   have:=List.getElem?_eq_getElem hi
   rw [this]
   simp only [Option.map_some,Option.getD_some]
   split<;>rfl
  have hgpn:∀ i cs,args[i]? = some (.gbox cs)→X' i 0=X i 0∧(Jc E s' ρ' i).isG=true:=by
   intro i cs hcs
   have hri:=hrel i
   have h2:ZY (args.map (SV.den ρ)) i = .gbox (cs.map (BC.den ρ)):=by simp only [ZY,List.getElem?_map,hcs];rfl
   rw [h2] at hri
   obtain ⟨v',hp⟩:=hri
   obtain ⟨b,hb,_⟩:=YS hp
   obtain ⟨g1,g2⟩:=hsim'.gpin i b (by show (match args[i]? with | some (.gbox _)=>X i 0 | _=>none)=_;rw [hcs];exact hb)
   exact ⟨by rw [g1,hb],g2⟩
  refine ⟨v,hv1,v,lim',fun i k=>(ZaZ args fn.results.toList i k).bind fun p=>X' p.1 p.2,rfl,⟨hsim'.frm.os,hsim'.frm.tape,hsim'.frm.output,hsim'.frm.size,hsim'.frm.frz,hsim'.frm.blk,hsim'.frm.ext⟩,by rw [hol,List.length_map],fun i=>?_,fun d k d' k' b hb hb'=>?_,fun i k b hb=>?_,fun i hi=>?_⟩
  ·rw [hrt]
   rcases Nat.lt_trichotomy i args.length with hi | hi | hi
   ·rw [if_neg (by omega),hout i hi]
    obtain ⟨a,ha⟩:=hcd i hi
    rw [ha]
    dsimp only
    have hrow:a.isBx=true→(fun k=>(ZaZ args fn.results.toList i k).bind fun p=>X' p.1 p.2)=X' i:=by
     intro hbx
     funext k
     unfold ZaZ
     rw [if_pos hi,ha,if_pos (by simp [hbx])]
     rfl
    cases a with
    | box cs =>
     rw [if_pos (show (SV.box cs).isBx=true from rfl)]
     obtain ⟨p1,cs',p2⟩:=hsim'.pin i (cargs.getD i undef) (by show (match args[i]? with | some (.box _)=>some (cargs.getD i undef) | _=>none)=_;rw [ha])
     have hrl:=hsim'.rel i
     rw [p2,p1] at hrl
     rw [p2]
     show ZR P w' lim' (fun k=>(ZaZ args fn.results.toList i k).bind fun p=>X' p.1 p.2) cs' _
     rw [hrow rfl]
     exact hrl
    | gbox cs =>
     rw [if_pos (show (SV.gbox cs).isBx=true from rfl)]
     obtain ⟨_,g2⟩:=hgpn i cs ha
     have hrl:=hsim'.rel i
     generalize Jc E s' ρ' i=x at g2 hrl
     cases x<;>simp [AV.isG] at g2
     obtain ⟨v',hrl⟩:=hrl
     refine ⟨v',?_⟩
     show ZR P w' lim' (fun k=>(ZaZ args fn.results.toList i k).bind fun p=>X' p.1 p.2) _ v'
     rw [hrow rfl]
     exact hrl
    | _ => exact trivial
   ·subst hi
    have hout:ZY (outs0++[res0]) args.length=res0:=by
     simp only [ZY]
     rw [List.getElem?_append_right (by omega),hol]
     simp
    rw [if_pos rfl,hout]
    exact hv2
   ·have hout:ZY (outs0++[res0]) i = .dead:=by
     simp only [ZY]
     rw [List.getElem?_eq_none (by simp;omega)]
     rfl
    rw [hout]
    trivial
  ·cases hp:ZaZ args fn.results.toList d k with
   | none => simp [hp] at hb
   | some p =>
    cases hp':ZaZ args fn.results.toList d' k' with
    | none => simp [hp'] at hb'
    | some p' =>
     simp only [hp,hp',Option.bind_some] at hb hb'
     obtain ⟨e1,e2⟩:=hsim'.dist _ _ _ _ b hb hb'
     have:p=p':=Prod.ext e1 e2
     subst this
     exact Zjv hfine hp hp'
  ·cases hp:ZaZ args fn.results.toList i k with
   | none => simp [hp] at hb
   | some p =>
    simp only [hp,Option.bind_some] at hb
    exact hsim'.ours _ _ b hb
  ·rcases Nat.lt_trichotomy i args.length with hl | hl | hl
   ·rw [hout i hl] at hi
    obtain ⟨a,ha⟩:=hcd i hl
    rw [ha] at hi
    dsimp only at hi
    cases a with
    | gbox cs =>
     obtain ⟨g1,g2⟩:=hgpn i cs ha
     refine ⟨by simp only [ZY,List.getElem?_map,ha];rfl,?_⟩
     show (ZaZ args fn.results.toList i 0).bind (fun p=>X' p.1 p.2)=X i 0
     unfold ZaZ
     rw [if_pos hl,ha,if_pos (show (some (SV.gbox cs)).map SV.isBx=some true from rfl)]
     exact g1
    | box cs =>
     obtain ⟨p1,cs',p2⟩:=hsim'.pin i (cargs.getD i undef) (by show (match args[i]? with | some (.box _)=>some (cargs.getD i undef) | _=>none)=_;rw [ha])
     rw [if_pos (show (SV.box cs).isBx=true from rfl),p2] at hi
     cases hi
    | _ => cases hi
   ·subst hl
    have hres0:ZY (outs0++[res0]) args.length=res0:=by
     simp only [ZY]
     rw [List.getElem?_append_right (by omega),hol]
     simp
    rw [hres0,← hres] at hi
    unfold Zjm at hr
    split at hr
    ·obtain ⟨x,_,rfl⟩:=Option.map_eq_some_iff.1 hr
     rw [Zcg] at hi
     cases x with
     | c y => cases y <;> cases hi
     | _ => cases hi
    ·obtain ⟨x,_,rfl⟩:=Option.map_eq_some_iff.1 hr
     cases hi
   ·have:ZY (outs0++[res0]) i = .dead:=by
     simp only [ZY]
     rw [List.getElem?_eq_none (by simp;omega)]
     rfl
    rw [this] at hi
    cases hi
 refine Zjg hm hps hnt (c:=c) rfl rfl (fun d v hv=>?_) (fun d b hb=>?_) code 0 n _ _ _ _ _ ρ _ w lim X _ ?_ h hsim ?_ ?_ ?_
 ·obtain ⟨⟨cs,hcs⟩,_⟩:=hpin d v hv
  have:=(hat d _ hcs).1 cs rfl
  rwa [Nat.zero_add] at this
 ·have hb':(match args[d]? with | some (.gbox _)=>X d 0 | _=>none)=some b:=hb
  split at hb'
  ·rename_i cs hcs
   have h1:=(hat d _ hcs).2.1 rfl
   have h2:=(List.getElem?_eq_some_iff.1 hcs).1
   exact ⟨by omega,by omega⟩
  ·cases hb'
 ·refine JI hnt _ _ hlow (fun d=>?_) (Zdj args 0 hargs)
  unfold gE
  split<;>trivial
 ·intro s' n' ρ' A' _ hs' h' tm' w' lim' X' hsim'
  obtain ⟨v,h1,h2⟩:=hfin s' n' ρ' A' hs' h' tm' w' lim' X' hsim'
  exact ⟨rfl,v,h1,h2⟩
 ·intro id s' n' ρ' A' _ hs' h'
  exact h'.elim
 ·intro s' n' ρ' A' _ hs' h' tm' w' lim' X' hsim'
  obtain ⟨v,h1,h2⟩:=hfin s' n' ρ' A' hs' h' tm' w' lim' X' hsim'
  exact ⟨rfl,v,h1,h2⟩
end
end Go.AM
end

section
namespace Go.AM
@[reducible] def Sh.T:Sh→Type
 | .int _ => Int
 | .bool => Bool
 | .str => ByteArray
 | .slice _ => List (List AV)
 | .own _ _ => List (List AV)
@[reducible] def ShsT:List Sh→Type
 | [] => Unit
 | [s] => s.T
 | s :: t :: r => s.T × ShsT (t :: r)
def Sh.toV:(s:Sh)→s.T→V
 | .int _, z => .i z
 | .bool, z => .b z
 | .str, z => .s z
 | .slice _, z => .l z
 | .own _ _, z => .l z
def Sh.ofV:(s:Sh)→V→Option s.T
 | .int _, .i z => some z
 | .bool, .b z => some z
 | .str, .s z => some z
 | .slice _, .l z => some z
 | .own _ _, .l z => some z
 | _, _ => none
def ZaY:(l:List Sh)→ShsT l→List V
 | [], _ => []
 | [s], x => [s.toV x]
 | s :: t :: r, x => s.toV x.1 :: ZaY (t :: r) x.2
def ZjR:(l:List Sh)→List V→Option (ShsT l)
 | [], [] => some ()
 | [], _ :: _ => none
 | [s], [v] => s.ofV v
 | [_], [] => none
 | [_], _ :: _ :: _ => none
 | _ :: _ :: _, [] => none
 | s :: t :: r, v :: vs => match s.ofV v, ZjR (t :: r) vs with | some a, some b => some (a, b) | _, _ => none
theorem ZhQ {s:Sh} {v:V} {x:s.T} (h:s.ofV v=some x):s.toV x=v:=by
 cases s<;>cases v<;>simp [Sh.ofV] at h<;>subst h<;>rfl
theorem Zdh:∀ (l:List Sh) (vs:List V) (x:ShsT l),ZjR l vs=some x→ZaY l x=vs
 | [], [], _, _ => rfl
 | [], _ :: _, _, h => by simp [ZjR] at h
 | [s], [v], x, h => by simp only [ZaY, ZhQ (show s.ofV v = some x from h)]
 | [_], [], _, h => by simp [ZjR] at h
 | [_], _ :: _ :: _, _, h => by simp [ZjR] at h
 | _ :: _ :: _, [], _, h => by simp [ZjR] at h
 | s :: t :: r, v :: vs, x, h => by
  simp only [ZjR] at h
  split at h
  ·rename_i a b ha hb
   simp only [Option.some.injEq] at h
   subst h
   simp only [ZaY,ZhQ ha,Zdh (t::r) vs b hb]
  ·cases h
def Sh.ofE:(s:Sh)→AV→Option s.T
 | .int k, .val (.int k' z) => if k' = k then some z else none
 | .bool, .val (.bool b) => some b
 | .str, .val (.string b) => some b
 | .slice s, .slice false s' xs => if s' = s then some xs else none
 | _, _ => none
def Zhj:(l:List Sh)→List AV→Option (ShsT l)
 | [], [] => some ()
 | [], _ :: _ => none
 | [s], [c] => s.ofE c
 | [_], [] => none
 | [_], _ :: _ :: _ => none
 | _ :: _ :: _, [] => none
 | s :: t :: r, c :: cs => match s.ofE c, Zhj (t :: r) cs with | some a, some b => some (a, b) | _, _ => none
theorem ZhF {s:Sh} {c:AV} {x:s.T} {n:Nat} {ρ:Nat→V} (h:s.ofE c=some x) (hρ:ρ n=s.toV x):(Yj s n).den ρ=c:=by
 unfold Sh.ofE at h
 split at h
 ·split at h
  ·simp only [Option.some.injEq] at h
   subst h
   rename_i hk
   subst hk
   simp only [Yj,SC.den,IE.den,hρ,Sh.toV,V.int]
  ·cases h
 ·simp only [Option.some.injEq] at h
  subst h
  simp only [Yj,SC.den,BE.den,hρ,Sh.toV,V.bool]
 ·simp only [Option.some.injEq] at h
  subst h
  simp only [Yj,SC.den,SE.den,hρ,Sh.toV,V.str]
 ·split at h
  ·simp only [Option.some.injEq] at h
   subst h
   rename_i hk
   subst hk
   simp only [Yj,SC.den,LE.den,hρ,Sh.toV,V.list]
  ·cases h
 ·cases h
theorem Zfa:∀ (l:List Sh) (cs:List AV) (x:ShsT l) (n:Nat) (ρ:Nat→V),Zhj l cs=some x→ZeV ρ n (ZaY l x)→(ZZ l n).map (SC.den ρ)=cs
 | [], [], _, _, _, _, _ => rfl
 | [], _ :: _, _, _, _, h, _ => by simp [Zhj] at h
 | [s], [c], x, n, ρ, h, hf => by
  have h0:=hf 0 _ (show (ZaY [s] x)[0]? = some (s.toV x) from rfl)
  rw [Nat.add_zero] at h0
  simp only [ZZ,List.map_cons,List.map_nil,ZhF (show s.ofE c=some x from h) h0]
 | [_], [], _, _, _, h, _ => by simp [Zhj] at h
 | [_], _ :: _ :: _, _, _, _, h, _ => by simp [Zhj] at h
 | _ :: _ :: _, [], _, _, _, h, _ => by simp [Zhj] at h
 | s :: t :: r, c :: cs, x, n, ρ, h, hf => by
  simp only [Zhj] at h
  split at h
  ·rename_i a b ha hb
   simp only [Option.some.injEq] at h
   subst h
   obtain ⟨h0,h1⟩:=ZeV.tail (show ZeV ρ n (s.toV a::ZaY (t::r) b) from hf)
   have h2:=Zfa (t::r) cs b (n+1) ρ hb h1
   rw [ZZ,List.map_cons,ZhF ha h0,h2]
  ·cases h
def Zn {γ:Type} (p:Prop) [Decidable p] (x:Option γ):Option γ:=if p then x else none
theorem Zp {γ:Type} {p:Prop} {_:Decidable p} (h:p) (x:Option γ):Zn p x=x:=if_pos h
theorem ZcO {γ:Type} {p:Prop} {_:Decidable p} {x:Option γ} {r:γ} (h:Zn p x=some r):p∧x=some r:=by
 unfold Zn at h
 split at h
 ·exact ⟨‹_›,h⟩
 ·cases h
def Zkk:Value→Value→Bool
 | .int k z, .int k' z' => decide (k = k') && decide (z = z')
 | .bool b, .bool b' => b == b'
 | .string s, .string s' => decide (s = s')
 | _, _ => false
theorem Zaq {a b:Value} (h:Zkk a b=true):a=b:=by
 unfold Zkk at h
 split at h
 ·simp only [Bool.and_eq_true,decide_eq_true_eq] at h
  rw [h.1,h.2]
 ·rw [beq_iff_eq] at h
  rw [h]
 ·rw [decide_eq_true_eq] at h
  rw [h]
 ·cases h
def Zkh {α:Type} (q:α→α→Bool):List α→List α→Bool
 | [], [] => true
 | a :: aZ, b :: bs => q a b && Zkh q aZ bs
 | _, _ => false
theorem YT {α:Type} {q:α→α→Bool} (hq:∀ a b,q a b=true→a=b):∀ (aZ bs:List α),Zkh q aZ bs=true→aZ=bs
 | [], [], _ => rfl
 | [], _ :: _, h => by cases h
 | _ :: _, [], h => by cases h
 | a :: aZ, b :: bs, h => by
  simp only [Zkh,Bool.and_eq_true] at h
  rw [hq a b h.1,YT hq aZ bs h.2]
def Zm5:Nat→AV→AV→Bool
 | _, .val a, .val b => Zkk a b
 | n + 1, .slice f s xs, .slice f' s' ys => f == f' && (decide (s = s') && Zkh (Zkh (Zm5 n)) xs ys)
 | _, _, _ => false
theorem Zgt:∀ (n:Nat) (a b:AV),Zm5 n a b=true→a=b:=by
 intro n
 induction n with
 | zero =>
  intro a b h
  unfold Zm5 at h
  split at h
  ·rw [Zaq h]
  ·rename_i hn;cases hn
  ·cases h
 | succ n ih =>
  intro a b h
  unfold Zm5 at h
  split at h
  ·rw [Zaq h]
  ·rename_i hn
   cases hn
   simp only [Bool.and_eq_true,beq_iff_eq,decide_eq_true_eq] at h
   rw [h.1,h.2.1,YT (fun x y hxy=>YT ih x y hxy) _ _ h.2.2]
  ·cases h
section
open Classical in
noncomputable instance decLL:DecidableEq (List (List AV)):=fun a b=>if h:Zkh (Zkh (Zm5 8)) a b=true then isTrue (YT (fun x y hxy=>YT (Zgt 8) x y hxy) _ _ h) else propDecidable _
end
@[reducible] noncomputable def Sh.dec:(s:Sh)→DecidableEq s.T
 | .int _ => inferInstanceAs (DecidableEq Int)
 | .bool => inferInstanceAs (DecidableEq Bool)
 | .str => inferInstanceAs (DecidableEq ByteArray)
 | .slice _ => decLL
 | .own _ _ => decLL
@[reducible] noncomputable def decS:(l:List Sh)→DecidableEq (ShsT l)
 | [] => inferInstanceAs (DecidableEq Unit)
 | [s] => s.dec
 | s :: t :: r => @instDecidableEqProd _ _ s.dec (decS (t :: r))
def ZkP {γ:Type} [d:DecidableEq γ] (l:List (List AV)) (k:Bool→Option γ):Option γ:=
 match l with
 | [] => if k true = k false then k true else none
 | _ :: _ => k false
theorem ZgK {γ:Type} {d:DecidableEq γ} {l:List (List AV)} {k:Bool→Option γ} {r:γ} (h:ZkP l k=some r) (b:Bool) (hb:b=true→l = []):k b=some r:=by
 unfold ZkP at h
 split at h
 ·split at h
  ·rename_i he
   cases b
   ·rw [← he];exact h
   ·exact h
  ·cases h
 ·cases b
  ·exact h
  ·cases hb rfl
theorem ZkC {γ:Type} {d:DecidableEq γ} {l:List (List AV)} {k:Bool→Option γ} {r:Option γ} (h1:l = []→k true=r) (h2:k false=r):ZkP l k=r:=by
 unfold ZkP
 split
 ·rw [h1 rfl,h2,if_pos rfl]
 ·exact h2
def Zq {γ:Type} (l:List (List AV)) (i:Int) (sh:List Sh) (k:ShsT sh→Option γ):Option γ:=
 if 0≤i then match l[i.toNat]? with | some cs=>(match Zhj sh cs with | some r=>k r | none=>none) | none=>none else none
theorem ZeO {γ:Type} {l:List (List AV)} {i:Int} {sh:List Sh} {cs:List AV} {r:ShsT sh} (k:ShsT sh→Option γ) (h0:0≤i) (h1:l[i.toNat]? = some cs) (h2:Zhj sh cs=some r):Zq l i sh k=k r:=by
 simp only [Zq,h0,if_true,h1,h2]
theorem ZfU {γ:Type} {l:List (List AV)} {i:Int} {sh:List Sh} {k:ShsT sh→Option γ} {x:γ} (h:Zq l i sh k=some x):0≤i∧∃ cs r,l[i.toNat]? = some cs∧Zhj sh cs=some r∧k r=some x:=by
 unfold Zq at h
 split at h
 ·refine ⟨‹_›,?_⟩
  split at h
  ·split at h
   ·exact ⟨_,_,‹_›,‹_›,h⟩
   ·cases h
  ·cases h
 ·cases h
def Za4 {γ:Type} (F:(List V→Option γ)→List V→Option γ):Nat→List V→Option γ
 | 0 => fun _ => none
 | k + 1 => F (Za4 F k)
def Z2:Nat:=1208925819614629174706176
inductive AP where
 | c (s : Sh)
 | agg (l : List Sh)
 | box (l : List Sh)
 | gbox (l : List Sh)
 | clo (g : FuncId) (ds : List Nat)
 | dead
def RSh.sh:RSh→List Sh
 | .c s => [s]
 | .agg l => l
def JK:List AP→List Sh
 | [] => []
 | .box l :: r => l ++ JK r
 | .gbox l :: r => l ++ JK r
 | _ :: r => JK r
def V9 (rs:List RSh) (aps:List AP):List Sh:=rs.flatMap RSh.sh++JK aps
structure Fun where
 args:List AP
 res:List RSh
 g:List V→Option (ShsT (V9 res args))
def Ks (r:RSh) (us:List V) (j:Nat):AV:=
 match r with
 | .c s => YG s (vAt us j)
 | .agg l => .agg (Z7 l us j)
def JL:List RSh→List V→Nat→List AV
 | [], _, _ => []
 | r :: rs, us, j => Ks r us j :: JL rs us (j + r.sh.length)
def Ki (rs:List RSh) (us:List V) (j:Nat):AV:=
 match rs with
 | [r] => Ks r us j
 | rs => .tuple (JL rs us j)
def Z6:List AP→List V→Nat→List AV
 | [], _, _ => []
 | .box l :: r, us, j => .box (Z7 l us j) :: Z6 r us (j + l.length)
 | .gbox l :: r, us, j => .gbox (Z7 l us j) :: Z6 r us (j + l.length)
 | _ :: r, us, j => .dead :: Z6 r us j
def AP.n:AP→Nat
 | .c _ => 1
 | .agg l => l.length
 | .box l => l.length
 | .gbox l => l.length
 | .clo _ _ => 0
 | .dead => 0
def Zh9 (a:AP) (us:List V) (j:Nat):AV:=
 match a with
 | .c s => YG s (vAt us j)
 | .agg l => .agg (Z7 l us j)
 | .box l => .box (Z7 l us j)
 | .gbox l => .gbox (Z7 l us j)
 | .clo g ds => .clo g ds
 | .dead => .dead
def YQ:List AP→List V→Nat→List AV
 | [], _, _ => []
 | a :: r, us, j => Zh9 a us j :: YQ r us (j + a.n)
def ZfH (rs:List RSh):Nat:=(rs.flatMap RSh.sh).length
def Fun.Ok (P:Program) (f:FuncId) (S:Fun):Prop:=
 ∀ vs r,S.g vs=some r→JC P f (YQ S.args vs 0) (Ki S.res (ZaY _ r) 0) (Z6 S.args (ZaY _ r) (ZfH S.res))
def ZhY (P:Program):List (FuncId×Fun)→Prop
 | [] => True
 | p :: r => p.2.Ok P p.1 ∧ ZhY P r
def AP.sig:AP→Option (FuncId×List Nat)
 | .clo g ds => some (g, ds)
 | _ => none
def SV.sig:SV→Option (FuncId×List Nat)
 | .clo g ds => some (g, ds)
 | _ => none
def Zh3:List (FuncId×Fun)→FuncId→List (FuncId×List Nat)→Option Fun
 | [], _, _ => none
 | p :: r, f, sg => if p.1 = f ∧ p.2.args.filterMap AP.sig = sg then some p.2 else Zh3 r f sg
theorem Ze7 {P:Program} : ∀ {Φ:List (FuncId×Fun)} {f:FuncId} {sg:List (FuncId×List Nat)} {S:Fun},ZhY P Φ→Zh3 Φ f sg=some S→S.Ok P f
 | [], _, _, _, _, h => by simp [Zh3] at h
 | p :: r, f, sg, S, ho, h => by
  simp only [Zh3] at h
  split at h
  ·rename_i hp
   simp only [Option.some.injEq] at h
   obtain ⟨hp,_⟩:=hp
   subst hp
   subst h
   exact ho.1
  ·exact Ze7 ho.2 h
def ZkA (P:Program):Sh→AV→Option V
 | .int k, .val (.int k' z) => if k' = k then some (.i z) else none
 | .bool, .val (.bool b) => some (.b b)
 | .str, .val (.string s) => some (.s s)
 | .slice s, .slice _ s' xs => if s' = s then some (.l xs) else (match xs with | [] => some (.l []) | _ :: _ => none)
 | .slice s, .own x e xs => if P.cellsOf e = s then (match x, xs with | false, xs => some (.l xs) | true, [] => some (.l []) | true, _ :: _ => none) else none
 | .own x e, .own x' e' xs => if e' = e then (match x, x', xs with | false, false, xs => some (.l xs) | true, true, xs => some (.l xs) | _, _, [] => some (.l []) | _, _, _ :: _ => none) else none
 | .own _ _, .slice true _ xs => (match xs with | [] => some (.l []) | _ :: _ => none)
 | _, _ => none
def Zcr (P:Program):List Sh→List AV→Option (List V)
 | [], [] => some []
 | s :: ss, c :: cs => match ZkA P s c, Zcr P ss cs with | some v, some vs => some (v :: vs) | _, _ => none
 | _, _ => none
def ZmO (P:Program):AP→AV→Option (List V)
 | .c s, x => (ZkA P s x).map fun v => [v]
 | .agg l, .agg cs => if l.all Sh.imm = true then Zcr P l cs else none
 | .box l, .box cs => Zcr P l cs
 | .gbox l, .gbox cs => Zcr P l cs
 | .clo g ds, .clo g' ds' => if g' = g ∧ ds' = ds then some [] else none
 | .dead, .dead => some []
 | _, _ => none
def Zar (P:Program):List AP→List AV→Option (List V)
 | [], [] => some []
 | a :: aZ, x :: xs => match ZmO P a x, Zar P aZ xs with | some vs, some us => some (vs ++ us) | _, _ => none
 | _, _ => none
theorem ZhC {P:Program} {s:Sh} {c:AV} {v:V} (h:ZkA P s c=some v):Ym P c (YG s v):=by
 unfold ZkA at h
 split at h
 ·split at h
  ·simp only [Option.some.injEq] at h;subst h;rename_i hk;subst hk;exact .same (.inl rfl)
  ·cases h
 ·simp only [Option.some.injEq] at h;subst h;exact .same (.inl rfl)
 ·simp only [Option.some.injEq] at h;subst h;exact .same (.inl rfl)
 ·split at h
  ·simp only [Option.some.injEq] at h;subst h;rename_i hk;subst hk;exact .imm
  ·split at h
   ·simp only [Option.some.injEq] at h;subst h;exact .immN
   ·cases h
 ·split at h
  ·rename_i hk
   subst hk
   split at h
   ·simp only [Option.some.injEq] at h;subst h;exact .own
   ·simp only [Option.some.injEq] at h;subst h;exact .ownZ
   ·cases h
  ·cases h
 ·split at h
  ·rename_i hk
   subst hk
   split at h
   ·simp only [Option.some.injEq] at h;subst h;exact .same (.inr ⟨_,_,_,rfl⟩)
   ·simp only [Option.some.injEq] at h;subst h;exact .same (.inr ⟨_,_,_,rfl⟩)
   ·simp only [Option.some.injEq] at h;subst h;exact .ownN
   ·cases h
  ·cases h
 ·split at h
  ·simp only [Option.some.injEq] at h;subst h;exact .give
  ·cases h
 ·cases h
theorem WO {P:Program} : ∀ (l:List Sh) (cs:List AV) (vs:List V),Zcr P l cs=some vs→vs.length=l.length∧cs.length=l.length∧∀ pre post:List V,
  ∀ (i:Nat) (c c':AV),cs[i]? = some c→(Z7 l (pre++vs++post) pre.length)[i]? = some c'→Ym P c c'
 | [], [], vs, h => by
  simp only [Zcr,Option.some.injEq] at h
  subst h
  exact ⟨rfl,rfl,fun _ _ i c c' h=>by simp at h⟩
 | [], _ :: _, _, h => by simp [Zcr] at h
 | _ :: _, [], _, h => by simp [Zcr] at h
 | s :: ss, c :: cs, us, h => by
  simp only [Zcr] at h
  split at h
  ·rename_i v vs hv hvs
   simp only [Option.some.injEq] at h
   subst h
   obtain ⟨h1,h2,h3⟩:=WO (P:=P) ss cs vs hvs
   refine ⟨by simp [h1],by simp [h2],fun pre post i c1 c2 hc1 hc2=>?_⟩
   cases i with
   | zero =>
    simp only [Z7,List.getElem?_cons_zero,Option.some.injEq] at hc1 hc2
    subst hc1
    subst hc2
    rw [List.append_assoc,List.cons_append,KD]
    exact ZhC hv
   | succ i =>
    have:=h3 (pre++[v]) post i c1 c2 (by simpa using hc1)
    simp only [List.append_assoc,List.cons_append,List.nil_append,List.length_append,List.length_cons,List.length_nil] at this
    simp only [Z7,List.getElem?_cons_succ,List.append_assoc,List.cons_append] at hc2
    exact this hc2
  ·cases h
theorem Zj9 {P:Program} {a:AP} {x:AV} {vs:List V} (h:ZmO P a x=some vs):vs.length=a.n∧((∃ g ds,a = .clo g ds∧x = .clo g ds)∨∀ pre post:List V,YF P x (Zh9 a (pre++vs++post) pre.length)):=by
 unfold ZmO at h
 split at h
 ·cases hd:ZkA P _ x with
  | none => rw [hd] at h; cases h
  | some v =>
   rw [hd] at h
   simp only [Option.map_some,Option.some.injEq] at h
   subst h
   refine ⟨rfl,.inr fun pre post=>?_⟩
   simp only [Zh9,List.append_assoc,List.cons_append,List.nil_append,KD]
   exact .comp (.cell (ZhC hd))
 ·rename_i l cs
  split at h
  ·rename_i hi
   obtain ⟨h1,h2,h3⟩:=WO (P:=P) _ _ _ h
   exact ⟨h1,.inr fun pre post=>.comp (.agg (by rw [h2,Js]) (Y9 _ _ _ hi) (h3 pre post))⟩
  ·cases h
 ·obtain ⟨h1,h2,h3⟩:=WO (P:=P) _ _ _ h
  exact ⟨h1,.inr fun pre post=>.box (by rw [h2,Js]) (h3 pre post)⟩
 ·obtain ⟨h1,h2,h3⟩:=WO (P:=P) _ _ _ h
  exact ⟨h1,.inr fun pre post=>.gbox (by rw [h2,Js]) (h3 pre post)⟩
 ·split at h
  ·rename_i hh
   simp only [Option.some.injEq] at h
   subst h
   obtain ⟨rfl,rfl⟩:=hh
   exact ⟨rfl,.inl ⟨_,_,rfl,rfl⟩⟩
  ·cases h
 ·simp only [Option.some.injEq] at h
  subst h
  exact ⟨rfl,.inr fun _ _=>.dead⟩
 ·cases h
theorem ZbN:∀ (l:List AP) (us:List V) (j:Nat),(YQ l us j).length=l.length
 | [], _, _ => rfl
 | _ :: ss, us, j => by simp [YQ, ZbN ss us]
theorem ZeA {P:Program} : ∀ (aZ:List AP) (xs:List AV) (vs:List V),Zar P aZ xs=some vs→xs.length=aZ.length∧∀ pre post:List V,
  ∀ (i:Nat) (c c':AV),xs[i]? = some c→(YQ aZ (pre++vs++post) pre.length)[i]? = some c'→(∃ g ds,aZ[i]? = some (.clo g ds)∧c = .clo g ds∧c' = .clo g ds)∨YF P c c'
 | [], [], _, _ => ⟨rfl, fun _ _ i c c' h => by simp at h⟩
 | [], _ :: _, _, h => by simp [Zar] at h
 | _ :: _, [], _, h => by simp [Zar] at h
 | a :: aZ, x :: xs, ws, h => by
  simp only [Zar] at h
  split at h
  ·rename_i vs us hv hus
   simp only [Option.some.injEq] at h
   subst h
   obtain ⟨h1,h2⟩:=Zj9 (P:=P) hv
   obtain ⟨h3,h4⟩:=ZeA (P:=P) aZ xs us hus
   refine ⟨by simp [h3],fun pre post i c1 c2 hc1 hc2=>?_⟩
   cases i with
   | zero =>
    simp only [YQ,List.getElem?_cons_zero,Option.some.injEq] at hc1 hc2
    subst hc1
    subst hc2
    rcases h2 with ⟨g,ds,rfl,rfl⟩ | h2
    ·exact .inl ⟨g,ds,rfl,rfl,rfl⟩
    ·have:=h2 pre (us++post)
     exact .inr (by simpa [List.append_assoc] using this)
   | succ i =>
    have:=h4 (pre++vs) post i c1 c2 (by simpa using hc1)
    rw [List.length_append,h1] at this
    simp only [YQ,List.getElem?_cons_succ] at hc2
    refine this ?_
    simpa [List.append_assoc] using hc2
  ·cases h
def Zaj (aZ:List AP):Bool:=aZ.all fun a=>match a with | .clo _ ds=>ds.all (fun d=>match aZ[d]? with | some (.gbox _)=>true | _=>false) | _=>true
theorem ZcT:∀ (aZ:List AP) (us:List V) (j i:Nat) (a:AP),aZ[i]? = some a→∃ k,(YQ aZ us j)[i]? = some (Zh9 a us k)
 | [], _, _, _, _, h => by simp at h
 | b :: aZ, us, j, 0, a, h => by
  simp only [List.getElem?_cons_zero,Option.some.injEq] at h
  subst h
  exact ⟨j,rfl⟩
 | b :: aZ, us, j, i + 1, a, h => by
  obtain ⟨k,hk⟩:=ZcT aZ us (j+b.n) i a (by simpa using h)
  exact ⟨k,by simpa [YQ] using hk⟩
theorem Zeq {P:Program} {aZ:List AP} {xs:List AV} {vs:List V} (hc:Zaj aZ=true) (h:Zar P aZ xs=some vs):K2 P xs (YQ aZ vs 0):=by
 obtain ⟨h1,h2⟩:=ZeA (P:=P) aZ xs vs h
 refine ⟨by rw [h1,ZbN],fun i c c' hx hc'=>?_⟩
 rcases h2 [] [] i c c' hx (by simpa using hc') with ⟨g,ds,k1,rfl,rfl⟩ | hw
 ·refine .inr ⟨g,ds,rfl,rfl,fun d hd=>?_⟩
  unfold Zaj at hc
  rw [List.all_eq_true] at hc
  have h3:=hc _ (List.mem_of_getElem? k1)
  simp only at h3
  rw [List.all_eq_true] at h3
  have h4:=h3 d hd
  split at h4
  ·rename_i l hl
   obtain ⟨k,hk⟩:=ZcT aZ vs 0 d _ hl
   simp only [ZY,hk]
   rfl
  ·cases h4
 ·exact .inl hw
def Zf5 (a:AP) (x:AV):AV:=
 match a,x with
 | .c (.slice _), .own true e xs => .own false e xs
 | .c (.own false _), .own true e xs => .own false e xs
 | _, x => x
def Zc1:List AP→List AV→List AV
 | a :: aZ, x :: xs => Zf5 a x :: Zc1 aZ xs
 | _, xs => xs
theorem Zab (a:AP) (x:AV):Zf5 a x=x∨∃ e xs,x = .own true e xs∧Zf5 a x = .own false e xs:=by
 unfold Zf5
 split
 ·exact .inr ⟨_,_,rfl,rfl⟩
 ·exact .inr ⟨_,_,rfl,rfl⟩
 ·exact .inl rfl
theorem Zej (pre post:List AV) (x:AV) (i:Nat):ZY (pre++x::post) i=if i=pre.length then x else ZY (pre++.dead::post) i:=by
 unfold ZY
 by_cases hi:i=pre.length
 ·subst hi
  rw [if_pos rfl,List.getElem?_append_right (Nat.le_refl _),Nat.sub_self]
  rfl
 ·rw [if_neg hi]
  by_cases hlt:i < pre.length
  ·rw [List.getElem?_append_left hlt,List.getElem?_append_left hlt]
  ·rw [List.getElem?_append_right (by omega),List.getElem?_append_right (by omega)]
   obtain ⟨j,hj⟩:∃ j,i-pre.length=j+1:=⟨i-pre.length-1,by omega⟩
   rw [hj,List.getElem?_cons_succ,List.getElem?_cons_succ]
theorem Zhv {P:Program} {w:World} {lim:Nat→Nat} {e:TypeId} {xs:List (List AV)} {v:Value} (h:Jr P w lim true e xs v none):Jr P w lim false e xs v none:=by
 rcases h with ⟨us,h1,h2,h3,h4,h5,h6⟩ | h
 ·exact .inl ⟨us,h1,h2,fun b hb=>(by cases hb),h4,h5,h6⟩
 ·exact .inr h
theorem JC.freeze1 {P:Program} {f:FuncId} {pre post:List AV} {e:TypeId} {xs:List (List AV)} {res:AV} {outs:List AV} (h:JC P f (pre++.own false e xs::post) res outs)
  (hn:∀ x∈pre++post,∀ d k,¬ Jq x d k):JC P f (pre++.own true e xs::post) res outs:=by
 refine ⟨h.1,fun w lim X cargs hcl hrel hdist hsize=>?_⟩
 have hat:∀ (b:Bool) (i:Nat),ZY (pre++.own b e xs::post) i=if i=pre.length then .own b e xs else ZY (pre++.dead::post) i:=fun b i=>Zej pre post _ i
 have hnr:∀ i d k,i≠pre.length→¬ Jq (ZY (pre++.dead::post) i) d k:=by
  intro i d k hi hr
  have hx:ZY (pre++.dead::post) i = .dead∨ZY (pre++.dead::post) i∈pre++post:=by
   unfold ZY
   cases hx:(pre++AV.dead::post)[i]? with
   | none => exact .inl rfl
   | some x =>
    have hm:=List.mem_of_getElem? hx
    rw [List.mem_append,List.mem_cons] at hm
    rcases hm with hm | rfl | hm
    ·exact .inr (List.mem_append_left _ hm)
    ·exact .inl rfl
    ·exact .inr (List.mem_append_right _ hm)
  rcases hx with hx | hx
  ·rw [hx] at hr
   rcases hr with hr | ⟨_,hr⟩ <;> cases hr
  ·exact hn _ hx d k hr
 have h0:=hrel pre.length
 rw [hat,if_pos rfl] at h0
 have h0':Jr P w lim true e xs (cargs.getD pre.length undef) (X pre.length 0):=h0
 obtain ⟨lim1,he,hk,hown⟩:∃ lim1,Ext w lim w lim1∧(∀ b,X pre.length 0≠some b→lim1 b=lim b)∧Jr P w lim1 false e xs (cargs.getD pre.length undef) (X pre.length 0):=by
  cases hb:X pre.length 0 with
  | none => rw [hb] at h0'; exact ⟨lim, Ext.refl _ _, fun _ _ => rfl, Zhv h0'⟩
  | some b0 =>
   rw [hb] at h0'
   have hl0:lim b0=0:=by
    rcases h0' with ⟨us,_,_,h3,_⟩ | ⟨_,h,_⟩
    ·rw [h3 b0 rfl];rfl
    ·cases h
   have hext:Ext w lim w (KH lim b0 (xs.length*P.cellsOf e)):=fun b _=>by
    refine ⟨?_,fun o u _ hu=>hu⟩
    unfold KH
    split
    ·rename_i h;rw [h,hl0];exact Nat.zero_le _
    ·exact Nat.le_refl _
   exact ⟨_,hext,fun b hne=>if_neg fun e=>hne (by rw [e]),Zax h0' hext⟩
 have hrel1:∀ i,ZV P w lim1 X (ZY (pre++.own false e xs::post)) i (ZY (pre++.own false e xs::post) i) (cargs.getD i undef):=by
  intro i
  by_cases hi:i=pre.length
  ·subst hi
   rw [hat,if_pos rfl]
   exact hown
  ·have h1:=hrel i
   have hne:ZY (pre++.own false e xs::post) i=ZY (pre++.own true e xs::post) i:=by rw [hat,hat,if_neg hi,if_neg hi]
   rw [hne]
   refine ZV.chg (h1.mono he (fun k b hb=>⟨rfl,hk b fun e=>hi (hdist i k pre.length 0 b hb e).1⟩) fun d' k b hr _=>?_) rfl (fun d' cs hd=>⟨⟨cs,?_⟩,rfl⟩) (fun d' hg=>⟨?_,rfl⟩) fun d' k hr=>?_
   ·rw [hat,if_neg hi] at hr
    exact (hnr i d' k hi (.inl hr)).elim
   ·rw [hat] at hd ⊢
    split at hd
    ·cases hd
    ·rename_i hd'
     rw [if_neg hd'];exact hd
   ·rw [hat] at hg ⊢
    split at hg
    ·cases hg
    ·rename_i hd'
     rw [if_neg hd'];exact hg
   ·rw [hat,if_neg hi] at hr
    exact (hnr i d' k hi hr).elim
 have hcnt:(pre++AV.own true e xs::post).countP AV.isG=(pre++AV.own false e xs::post).countP AV.isG:=by
  simp [List.countP_append,List.countP_cons,AV.isG]
 have hll:(pre++AV.own true e xs::post).length=(pre++AV.own false e xs::post).length:=by simp
 refine (h.2 w lim1 X cargs (by rw [← hcnt,← hll];exact hcl) hrel1 hdist hsize).mono ?_
 rintro e' w' ⟨v,lim',X',he',hst,hol,hr,hd,hin,hgh⟩
 refine ⟨v,lim',X',he',⟨hst.os,hst.tape,hst.output,hst.size,hst.frz,fun b hb hn'=>?_,he.trans hst.ext (Nat.le_refl _)⟩,by rw [hol,hll],fun i=>by rw [hll];exact hr i,hd,hin,fun i hi=>?_⟩
 ·obtain ⟨k1,k2⟩:=hst.blk b hb hn'
  exact ⟨k1,k2.trans (hk b fun e=>hn' ⟨_,_,e⟩)⟩
 ·obtain ⟨m1,m2⟩:=hgh i hi
  refine ⟨?_,m2⟩
  rw [hat] at m1 ⊢
  split at m1
  ·cases m1
  ·rename_i hi'
   rw [if_neg hi'];exact m1
theorem ZbI {d k:Nat} : ∀ (aZ:List AP) (xs:List AV),(∀ x∈Zc1 aZ xs,¬ Jq x d k)→∀ x∈xs,¬ Jq x d k
 | [], xs, h => fun x hx => h x (by cases xs <;> exact hx)
 | _ :: _, [], _ => fun _ hx => by cases hx
 | a :: aZ, y :: ys, h => fun x hx => by
  rcases List.mem_cons.1 hx with rfl | hx
  ·rcases Zab a x with e | ⟨_,_,rfl,_⟩
   ·have:=h (Zf5 a x) (List.mem_cons_self ..)
    rwa [e] at this
   ·rintro (h | ⟨_,h⟩)<;>cases h
  ·exact ZbI aZ ys (fun z hz=>h z (List.mem_cons_of_mem _ hz)) x hx
theorem JC.freeze {P:Program} {f:FuncId} {res:AV} {outs:List AV} : ∀ (aZ:List AP) (xs pre:List AV),JC P f (pre++Zc1 aZ xs) res outs→(∀ x∈pre++Zc1 aZ xs,∀ d k,¬ Jq x d k)→JC P f (pre++xs) res outs
 | [], xs, pre, h, _ => by cases xs <;> exact h
 | _ :: _, [], pre, h, _ => h
 | a :: aZ, x :: xs, pre, h, hn => by
  have h1:=JC.freeze aZ xs (pre++[Zf5 a x]) (by simpa [Zc1] using h) (by simpa [Zc1] using hn)
  rw [List.append_assoc,List.singleton_append] at h1
  rcases Zab a x with e | ⟨e,ys,rfl,e'⟩
  ·rwa [e] at h1
  ·rw [e'] at h1
   refine h1.freeze1 fun y hy d k=>?_
   rcases List.mem_append.1 hy with hy | hy
   ·exact hn y (List.mem_append_left _ hy) d k
   ·exact ZbI aZ xs (fun z hz=>hn z (List.mem_append_right _ (List.mem_cons_of_mem _ hz)) d k) y hy
theorem ZgU {P:Program} {a:AP} {x:AV} {vs:List V} (h:ZmO P a x=some vs) (d k:Nat):¬ Jq x d k:=by
 rintro (rfl | ⟨_,rfl⟩)<;>cases a<;>simp [ZmO,ZkA] at h
 all_goals (rename_i s;cases s<;>simp [ZkA] at h)
theorem Zbj {P:Program} : ∀ (aZ:List AP) (xs:List AV) (vs:List V),Zar P aZ xs=some vs→∀ x∈xs,∀ d k,¬ Jq x d k
 | _, [], _, _ => fun _ hx => by cases hx
 | [], _ :: _, _, h => by simp [Zar] at h
 | a :: aZ, x :: xs, ws, h => by
  simp only [Zar] at h
  split at h
  ·rename_i vs us hv hus
   intro y hy d k
   rcases List.mem_cons.1 hy with rfl | hy
   ·exact ZgU hv d k
   ·exact Zbj aZ xs us hus y hy d k
  ·cases h
def Zj7 {γ:Type} (P:Program) (S:Fun) (aZ:List AV) (k:List V→Option γ):Option γ:=
 match Zar P S.args (Zc1 S.args aZ) with
 | some vs => (S.g vs).bind fun r => k (ZaY _ r)
 | none => none
theorem Zgh {γ:Type} {S:Fun} {aZ:List AV} {k:List V→Option γ} {x:γ} {P:Program} (h:Zj7 P S aZ k=some x):∃ vs r,Zar P S.args (Zc1 S.args aZ)=some vs∧S.g vs=some r∧k (ZaY _ r)=some x:=by
 unfold Zj7 at h
 split at h
 ·rename_i vs hvs
  rw [Option.bind_eq_some_iff] at h
  obtain ⟨r,h1,h2⟩:=h
  exact ⟨vs,r,hvs,h1,h2⟩
 ·cases h
def ZmZ (s:Sh) (x:SC) (m:Nat):Bool:=
 match s,x with
 | .int k, .int k' (.var a) => decide (k' = k) && decide (a = m)
 | .bool, .bool (.var a) => decide (a = m)
 | .str, .str (.var a) => decide (a = m)
 | .slice s, .slice false s' (.var a) => decide (s' = s) && decide (a = m)
 | _, _ => false
def Zgu:List Sh→List SC→Nat→Bool
 | [], [], _ => true
 | s :: ss, c :: cs, m => ZmZ s c m && Zgu ss cs (m + 1)
 | _, _, _ => false
def Znl (r:RSh) (x:TC) (m:Nat):Bool:=
 match r,x with
 | .c s, .c x => ZmZ s x m
 | .c (.own x e), .own x' e' (.var a) => (decide (e' = e) && decide (a = m)) && (x' == x)
 | .agg l, .agg cs => Zgu l cs m
 | _, _ => false
def Zf8:List RSh→List TC→Nat→Bool
 | [], [], _ => true
 | r :: rs, x :: xs, m => Znl r x m && Zf8 rs xs (m + r.sh.length)
 | _, _, _ => false
def Znq:SV→Option TC
 | .c x => some (.c x)
 | .agg cs => some (.agg cs)
 | .own x e l => some (.own x e l)
 | _ => none
def ZnS (rs:List RSh) (x:SV) (m:Nat):Bool:=
 match rs with
 | [r] => match Znq x with | some y => Znl r y m | none => false
 | rs => match x with | .tuple vs => Zf8 rs vs m | _ => false
def Zod (s:Sh) (x:BC) (m:Nat):Bool:=
 match s,x with
 | s, .c x => ZmZ s x m
 | .own x e, .own x' e' (.var a) => (decide (e' = e) && decide (a = m)) && (x' == x)
 | _, _ => false
def Zd9:List Sh→List BC→Nat→Bool
 | [], [], _ => true
 | s :: ss, c :: cs, m => Zod s c m && Zd9 ss cs (m + 1)
 | _, _, _ => false
def KZ:List AP→List SV→Nat→Bool
 | [], [], _ => true
 | .box l :: r, .box cs :: xs, m => Zd9 l cs m && KZ r xs (m + l.length)
 | .gbox l :: r, .gbox cs :: xs, m => Zd9 l cs m && KZ r xs (m + l.length)
 | .c _ :: r, .dead :: xs, m => KZ r xs m
 | .agg _ :: r, .dead :: xs, m => KZ r xs m
 | .clo _ _ :: r, .dead :: xs, m => KZ r xs m
 | .dead :: r, .dead :: xs, m => KZ r xs m
 | _, _, _ => false
section
variable {ρ:Nat→V} {n:Nat} {us:List V}
theorem V7 (j:Nat) (h:j < us.length):bind ρ n us (n+j)=vAt us j:=by
 unfold bind vAt
 rw [if_neg (by omega),show n+j-n=j by omega,List.getElem?_eq_getElem h]
 rfl
theorem Zcb {s:Sh} {x:SC} {j:Nat} (h:ZmZ s x (n+j)=true) (hj:j < us.length):x.den (bind ρ n us)=YG s (vAt us j):=by
 unfold ZmZ at h
 split at h
 ·simp only [Bool.and_eq_true,decide_eq_true_eq] at h
  obtain ⟨rfl,rfl⟩:=h
  simp only [SC.den,IE.den,V7 j hj,YG]
 ·simp only [decide_eq_true_eq] at h
  subst h
  simp only [SC.den,BE.den,V7 j hj,YG]
 ·simp only [decide_eq_true_eq] at h
  subst h
  simp only [SC.den,SE.den,V7 j hj,YG]
 ·simp only [Bool.and_eq_true,decide_eq_true_eq] at h
  obtain ⟨rfl,rfl⟩:=h
  simp only [SC.den,LE.den,V7 j hj,YG]
 ·cases h
theorem ZdA:∀ (l:List Sh) (cs:List SC) (j:Nat),Zgu l cs (n+j)=true→j+l.length≤us.length→cs.map (SC.den (bind ρ n us))=Z7 l us j
 | [], [], _, _, _ => rfl
 | [], _ :: _, _, h, _ => by simp [Zgu] at h
 | _ :: _, [], _, h, _ => by simp [Zgu] at h
 | s :: ss, c :: cs, j, h, hl => by
  simp only [Zgu,Bool.and_eq_true] at h
  simp only [List.length_cons] at hl
  rw [List.map_cons,Z7,Zcb h.1 (by omega),ZdA ss cs (j+1) (by rw [← Nat.add_assoc];exact h.2) (by omega)]
theorem ZeZ {r:RSh} {x:TC} {j:Nat} (h:Znl r x (n+j)=true) (hj:j+r.sh.length≤us.length):x.den (bind ρ n us)=Ks r us j:=by
 unfold Znl at h
 split at h
 ·exact Zcb h (by simp [RSh.sh] at hj;omega)
 ·simp only [Bool.and_eq_true,decide_eq_true_eq,beq_iff_eq] at h
  obtain ⟨⟨rfl,rfl⟩,rfl⟩:=h
  have hj':j < us.length:=by simp [RSh.sh] at hj;omega
  simp only [TC.den,LE.den,V7 j hj',Ks,YG]
 ·simp only [TC.den,Ks,ZdA _ _ j h hj]
 ·cases h
theorem Zdo:∀ (rs:List RSh) (xs:List TC) (j:Nat),Zf8 rs xs (n+j)=true→j+(rs.flatMap RSh.sh).length≤us.length→xs.map (TC.den (bind ρ n us))=JL rs us j
 | [], [], _, _, _ => rfl
 | [], _ :: _, _, h, _ => by simp [Zf8] at h
 | _ :: _, [], _, h, _ => by simp [Zf8] at h
 | r :: rs, x :: xs, j, h, hl => by
  simp only [Zf8,Bool.and_eq_true] at h
  simp only [List.flatMap_cons,List.length_append] at hl
  rw [List.map_cons,JL,ZeZ h.1 (by omega),Zdo rs xs (j+r.sh.length) (by rw [← Nat.add_assoc];exact h.2) (by omega)]
theorem Zfy {x:SV} {y:TC} (h:Znq x=some y) (ρ:Nat→V):x.den ρ=y.den ρ:=by
 unfold Znq at h
 split at h<;>simp at h<;>subst h<;>rfl
theorem Zji {rs:List RSh} {x:SV} (h:ZnS rs x n=true) (hl:ZfH rs≤us.length):x.den (bind ρ n us)=Ki rs us 0:=by
 unfold ZnS at h
 split at h
 ·split at h
  ·rename_i r y hy
   rw [Zfy hy]
   exact ZeZ (j:=0) h (by simpa [ZfH] using hl)
  ·cases h
 ·rename_i hne
  split at h
  ·rename_i vs
   have:Ki rs us 0 = .tuple (JL rs us 0):=by
    unfold Ki
    split
    ·exact (hne _ rfl).elim
    ·rfl
   rw [this]
   simp only [SV.den,Zdo rs vs 0 h (by simpa [ZfH] using hl)]
  ·cases h
theorem Zix {s:Sh} {x:BC} {j:Nat} (h:Zod s x (n+j)=true) (hj:j < us.length):x.den (bind ρ n us)=YG s (vAt us j):=by
 unfold Zod at h
 split at h
 ·exact Zcb h hj
 ·simp only [Bool.and_eq_true,decide_eq_true_eq,beq_iff_eq] at h
  obtain ⟨⟨rfl,rfl⟩,rfl⟩:=h
  simp only [BC.den,LE.den,V7 j hj,YG]
 ·cases h
theorem Zah:∀ (l:List Sh) (cs:List BC) (j:Nat),Zd9 l cs (n+j)=true→j+l.length≤us.length→cs.map (BC.den (bind ρ n us))=Z7 l us j
 | [], [], _, _, _ => rfl
 | [], _ :: _, _, h, _ => by simp [Zd9] at h
 | _ :: _, [], _, h, _ => by simp [Zd9] at h
 | s :: ss, c :: cs, j, h, hl => by
  simp only [Zd9,Bool.and_eq_true] at h
  simp only [List.length_cons] at hl
  rw [List.map_cons,Z7,Zix h.1 (by omega),Zah ss cs (j+1) (by rw [← Nat.add_assoc];exact h.2) (by omega)]
theorem YC:∀ (aps:List AP) (xs:List SV) (j:Nat),KZ aps xs (n+j)=true→j+(JK aps).length≤us.length→xs.map (SV.den (bind ρ n us))=Z6 aps us j
 | [], [], _, _, _ => rfl
 | [], _ :: _, _, h, _ => by simp [KZ] at h
 | .box l :: r, x :: xs, j, h, hl => by
  cases x<;>simp [KZ] at h
  rename_i cs
  simp only [JK,List.length_append] at hl
  have h1:cs.map (BC.den (bind ρ n us))=Z7 l us j:=Zah l cs j h.1 (by omega)
  simp only [List.map_cons,Z6,SV.den,h1,YC r xs (j+l.length) (by rw [← Nat.add_assoc];exact h.2) (by omega)]
 | .gbox l :: r, x :: xs, j, h, hl => by
  cases x<;>simp [KZ] at h
  rename_i cs
  simp only [JK,List.length_append] at hl
  have h1:cs.map (BC.den (bind ρ n us))=Z7 l us j:=Zah l cs j h.1 (by omega)
  simp only [List.map_cons,Z6,SV.den,h1,YC r xs (j+l.length) (by rw [← Nat.add_assoc];exact h.2) (by omega)]
 | .c _ :: r, x :: xs, j, h, hl => by
  cases x<;>simp [KZ] at h
  simp only [JK] at hl
  simp only [List.map_cons,Z6,SV.den,YC r xs j h hl]
 | .agg _ :: r, x :: xs, j, h, hl => by
  cases x<;>simp [KZ] at h
  simp only [JK] at hl
  simp only [List.map_cons,Z6,SV.den,YC r xs j h hl]
 | .clo _ _ :: r, x :: xs, j, h, hl => by
  cases x<;>simp [KZ] at h
  simp only [JK] at hl
  simp only [List.map_cons,Z6,SV.den,YC r xs j h hl]
 | .dead :: r, x :: xs, j, h, hl => by
  cases x<;>simp [KZ] at h
  simp only [JK] at hl
  simp only [List.map_cons,Z6,SV.den,YC r xs j h hl]
 | a :: _, [], _, h, _ => by cases a <;> simp [KZ] at h
end
theorem Zfg:∀ (l:List Sh) (x:ShsT l),(ZaY l x).length=l.length
 | [], _ => rfl
 | [_], _ => rfl
 | _ :: t :: r, x => by simp [ZaY, Zfg (t :: r) x.2]
def Znt (P:Program) (r:RSh) (x:TC):Option (List VE):=
 match r,x with
 | .c s, .c x => (ZjH s x).map fun v => [v]
 | .c s, .own x e l => (ZaC P s x e l).map fun v => [v]
 | .agg l, .agg cs => if l.all Sh.imm = true then Zdg l cs else none
 | _, _ => none
def Zep (P:Program):List RSh→List TC→Option (List VE)
 | [], [] => some []
 | r :: rs, x :: xs => match Znt P r x, Zep P rs xs with | some v, some vs => some (v ++ vs) | _, _ => none
 | _, _ => none
def ZnQ (P:Program) (rs:List RSh) (x:SV):Option (List VE):=
 match rs with
 | [r] => match Znq x with | some y => Znt P r y | none => none
 | rs => match x with | .tuple vs => Zep P rs vs | _ => none
def KB (P:Program):List AP→List SV→Option (List VE)
 | [], [] => some []
 | .box l :: r, .box cs :: xs => match Zba P l cs, KB P r xs with | some v, some vs => some (v ++ vs) | _, _ => none
 | .gbox l :: r, .gbox cs :: xs => match Zba P l cs, KB P r xs with | some v, some vs => some (v ++ vs) | _, _ => none
 | .c _ :: r, .dead :: xs => KB P r xs
 | .agg _ :: r, .dead :: xs => KB P r xs
 | .clo _ _ :: r, .dead :: xs => KB P r xs
 | .dead :: r, .dead :: xs => KB P r xs
 | _, _ => none
def Zen (P:Program) (aps:List AP) (rs:List RSh) (x:SV) (os:List SV):Option (List VE):=
 match ZnQ P rs x,KB P aps os with
 | some vs, some us => some (vs ++ us)
 | _, _ => none
section
variable {P:Program} {ρ:Nat→V}
theorem ZgY {r:RSh} {x:TC} {vs:List VE} (h:Znt P r x=some vs):vs.length=r.sh.length∧∀ pre post:List V,Zbc P (x.den ρ) (Ks r (pre++vs.map (VE.den ρ)++post) pre.length):=by
 unfold Znt at h
 split at h
 ·cases hd:ZjH _ _ with
  | none => rw [hd] at h; cases h
  | some v =>
   rw [hd] at h
   simp only [Option.map_some,Option.some.injEq] at h
   subst h
   refine ⟨rfl,fun pre post=>?_⟩
   simp only [Ks,List.map_cons,List.map_nil,List.append_assoc,List.cons_append,List.nil_append,KD]
   exact .cell (Zch hd)
 ·cases hd:ZaC P _ _ _ _ with
  | none => rw [hd] at h; cases h
  | some v =>
   rw [hd] at h
   simp only [Option.map_some,Option.some.injEq] at h
   subst h
   refine ⟨rfl,fun pre post=>?_⟩
   simp only [Ks,List.map_cons,List.map_nil,List.append_assoc,List.cons_append,List.nil_append,KD]
   exact .cell (Zaa hd)
 ·split at h
  ·rename_i hi
   obtain ⟨h1,h2,h3⟩:=Zcz (P:=P) (ρ:=ρ) _ _ _ h
   exact ⟨h1,fun pre post=>.agg (by rw [List.length_map,h2,Js]) (Y9 _ _ _ hi) (h3 pre post)⟩
  ·cases h
 ·cases h
theorem Wq:∀ (rs:List RSh) (us:List V) (j:Nat),(JL rs us j).length=rs.length
 | [], _, _ => rfl
 | _ :: ss, us, j => by simp [JL, Wq ss us]
theorem Zfp:∀ (rs:List RSh) (xs:List TC) (vs:List VE),Zep P rs xs=some vs→vs.length=(rs.flatMap RSh.sh).length∧xs.length=rs.length∧∀ pre post:List V,
  ∀ (i:Nat) (c c':AV),(xs.map (TC.den ρ))[i]? = some c→(JL rs (pre++vs.map (VE.den ρ)++post) pre.length)[i]? = some c'→Zbc P c c'
 | [], [], vs, h => by
  simp only [Zep,Option.some.injEq] at h
  subst h
  exact ⟨rfl,rfl,fun _ _ i c c' h=>by simp at h⟩
 | [], _ :: _, _, h => by simp [Zep] at h
 | _ :: _, [], _, h => by simp [Zep] at h
 | r :: rs, x :: xs, us, h => by
  simp only [Zep] at h
  split at h
  ·rename_i v vs hv hvs
   simp only [Option.some.injEq] at h
   subst h
   obtain ⟨h1,h2⟩:=ZgY (P:=P) (ρ:=ρ) hv
   obtain ⟨h3,h4,h5⟩:=Zfp rs xs vs hvs
   refine ⟨by simp [h1,h3],by simp [h4],fun pre post i c1 c2 hc1 hc2=>?_⟩
   cases i with
   | zero =>
    simp only [JL,List.map_cons,List.getElem?_cons_zero,Option.some.injEq] at hc1 hc2
    subst hc1
    subst hc2
    have:=h2 pre (vs.map (VE.den ρ)++post)
    simpa [List.append_assoc] using this
   | succ i =>
    have:=h5 (pre++v.map (VE.den ρ)) post i c1 c2 (by simpa using hc1)
    rw [List.length_append,List.length_map,h1] at this
    simp only [JL,List.getElem?_cons_succ] at hc2
    refine this ?_
    simpa [List.append_assoc] using hc2
  ·cases h
theorem Zk3 {rs:List RSh} {x:SV} {vs:List VE} (h:ZnQ P rs x=some vs):vs.length=ZfH rs∧∀ post:List V,YF P (x.den ρ) (Ki rs (vs.map (VE.den ρ)++post) 0):=by
 unfold ZnQ at h
 split at h
 ·split at h
  ·rename_i r y hy
   obtain ⟨h1,h2⟩:=ZgY (P:=P) (ρ:=ρ) h
   refine ⟨by simpa [ZfH] using h1,fun post=>?_⟩
   rw [Zfy hy]
   have:=h2 [] post
   exact .comp (by simpa [Ki] using this)
  ·cases h
 ·rename_i hne
  split at h
  ·rename_i ys
   obtain ⟨h1,h2,h3⟩:=Zfp (P:=P) (ρ:=ρ) _ _ _ h
   refine ⟨h1,fun post=>?_⟩
   have:∀ us,Ki rs us 0 = .tuple (JL rs us 0):=by
    intro us
    unfold Ki
    split
    ·exact (hne _ rfl).elim
    ·rfl
   rw [this]
   refine .tuple (by rw [List.length_map,h2,Wq]) fun i c c' hc hc'=>h3 [] post i c c' hc ?_
   simpa using hc'
  ·cases h
theorem Zai:∀ (aps:List AP) (us:List V) (j:Nat),(Z6 aps us j).length=aps.length
 | [], _, _ => rfl
 | a :: r, us, j => by cases a <;> simp [Z6, Zai r us]
theorem Kd:∀ (aps:List AP) (xs:List SV) (vs:List VE),KB P aps xs=some vs→vs.length=(JK aps).length∧xs.length=aps.length∧∀ pre post:List V,
  ∀ (i:Nat) (c c':AV),(xs.map (SV.den ρ))[i]? = some c→(Z6 aps (pre++vs.map (VE.den ρ)++post) pre.length)[i]? = some c'→YF P c c'
 | [], [], vs, h => by
  simp only [KB,Option.some.injEq] at h
  subst h
  exact ⟨rfl,rfl,fun _ _ i c c' h=>by simp at h⟩
 | [], _ :: _, _, h => by simp [KB] at h
 | a :: _, [], _, h => by cases a <;> simp [KB] at h
 | .box l :: r, x :: xs, us, h => by
  cases x<;>simp only [KB,reduceCtorEq] at h
  split at h
  ·rename_i cs v vs hv hvs
   simp only [Option.some.injEq] at h
   subst h
   obtain ⟨h1,h2,h3⟩:=Vx (P:=P) (ρ:=ρ) _ _ _ hv
   obtain ⟨h4,h5,h6⟩:=Kd r xs vs hvs
   refine ⟨by simp [h1,h4,JK],by simp [h5],fun pre post i c1 c2 hc1 hc2=>?_⟩
   cases i with
   | zero =>
    simp only [Z6,List.map_cons,List.getElem?_cons_zero,Option.some.injEq,SV.den] at hc1 hc2
    subst hc1
    subst hc2
    have:=h3 pre (vs.map (VE.den ρ)++post)
    exact .box (by rw [List.length_map,h2,Js]) (by simpa [List.append_assoc] using this)
   | succ i =>
    have:=h6 (pre++v.map (VE.den ρ)) post i c1 c2 (by simpa using hc1)
    rw [List.length_append,List.length_map,h1] at this
    simp only [Z6,List.getElem?_cons_succ] at hc2
    refine this ?_
    simpa [List.append_assoc] using hc2
  ·cases h
 | .gbox l :: r, x :: xs, us, h => by
  cases x<;>simp only [KB,reduceCtorEq] at h
  split at h
  ·rename_i cs v vs hv hvs
   simp only [Option.some.injEq] at h
   subst h
   obtain ⟨h1,h2,h3⟩:=Vx (P:=P) (ρ:=ρ) _ _ _ hv
   obtain ⟨h4,h5,h6⟩:=Kd r xs vs hvs
   refine ⟨by simp [h1,h4,JK],by simp [h5],fun pre post i c1 c2 hc1 hc2=>?_⟩
   cases i with
   | zero =>
    simp only [Z6,List.map_cons,List.getElem?_cons_zero,Option.some.injEq,SV.den] at hc1 hc2
    subst hc1
    subst hc2
    have:=h3 pre (vs.map (VE.den ρ)++post)
    exact .gbox (by rw [List.length_map,h2,Js]) (by simpa [List.append_assoc] using this)
   | succ i =>
    have:=h6 (pre++v.map (VE.den ρ)) post i c1 c2 (by simpa using hc1)
    rw [List.length_append,List.length_map,h1] at this
    simp only [Z6,List.getElem?_cons_succ] at hc2
    refine this ?_
    simpa [List.append_assoc] using hc2
  ·cases h
 | .c s :: r, x :: xs, us, h => by
  cases x<;>simp only [KB,reduceCtorEq] at h
  exact retOs_dead (a:=.c s) r xs us (Kd r xs us h) (fun _ _=>rfl) rfl
 | .agg l :: r, x :: xs, us, h => by
  cases x<;>simp only [KB,reduceCtorEq] at h
  exact retOs_dead (a:=.agg l) r xs us (Kd r xs us h) (fun _ _=>rfl) rfl
 | .clo g ds :: r, x :: xs, us, h => by
  cases x<;>simp only [KB,reduceCtorEq] at h
  exact retOs_dead (a:=.clo g ds) r xs us (Kd r xs us h) (fun _ _=>rfl) rfl
 | .dead :: r, x :: xs, us, h => by
  cases x<;>simp only [KB,reduceCtorEq] at h
  exact retOs_dead (a:=.dead) r xs us (Kd r xs us h) (fun _ _=>rfl) rfl
where
 retOs_dead {a:AP} (r:List AP) (xs:List SV) (us:List VE) (h:us.length=(JK r).length∧xs.length=r.length∧∀ pre post:List V,
   ∀ (i:Nat) (c c':AV),(xs.map (SV.den ρ))[i]? = some c→(Z6 r (pre++us.map (VE.den ρ)++post) pre.length)[i]? = some c'→YF P c c')
   (ha:∀ vs j,Z6 (a::r) vs j = .dead::Z6 r vs j) (hs:JK (a::r)=JK r):us.length=(JK (a::r)).length∧(SV.dead::xs).length=(a::r).length∧∀ pre post:List V,
   ∀ (i:Nat) (c c':AV),((SV.dead::xs).map (SV.den ρ))[i]? = some c→(Z6 (a::r) (pre++us.map (VE.den ρ)++post) pre.length)[i]? = some c'→YF P c c':=by
  obtain ⟨h4,h5,h6⟩:=h
  refine ⟨by rw [hs];exact h4,by simp [h5],fun pre post i c1 c2 hc1 hc2=>?_⟩
  rw [ha] at hc2
  cases i with
  | zero =>
   simp only [List.map_cons,List.getElem?_cons_zero,Option.some.injEq] at hc1 hc2
   subst hc2
   exact .dead
  | succ i => exact h6 pre post i c1 c2 (by simpa using hc1) (by simpa using hc2)
theorem Zgc {aps:List AP} {rs:List RSh} {x:SV} {os:List SV} {vs:List VE} (h:Zen P aps rs x os=some vs) :
  K2 P (os.map (SV.den ρ)++[x.den ρ]) (Z6 aps (vs.map (VE.den ρ)) (ZfH rs)++[Ki rs (vs.map (VE.den ρ)) 0]):=by
 unfold Zen at h
 split at h
 ·rename_i a b ha hb
  simp only [Option.some.injEq] at h
  subst h
  obtain ⟨h1,h2⟩:=Zk3 (ρ:=ρ) ha
  obtain ⟨h3,h4,h5⟩:=Kd (P:=P) (ρ:=ρ) _ _ _ hb
  have hlo:(os.map (SV.den ρ)).length=(Z6 aps ((a++b).map (VE.den ρ)) (ZfH rs)).length:=by rw [List.length_map,h4,Zai]
  refine ⟨by simp only [List.length_append,hlo,List.length_cons,List.length_nil],fun i c c' hc hc'=>?_⟩
  by_cases hi:i < (os.map (SV.den ρ)).length
  ·rw [List.getElem?_append_left hi] at hc
   rw [List.getElem?_append_left (by rw [← hlo];exact hi)] at hc'
   have:=h5 (a.map (VE.den ρ)) [] i c c' hc
   rw [List.length_map,h1] at this
   exact .inl (this (by simpa using hc'))
  ·rw [List.getElem?_append_right (by omega)] at hc
   rw [List.getElem?_append_right (by rw [← hlo];omega),← hlo] at hc'
   have h0:i-(os.map (SV.den ρ)).length=0:=by
    have:=(List.getElem?_eq_some_iff.1 hc).1
    simp only [List.length_cons,List.length_nil] at this
    omega
   rw [h0] at hc hc'
   simp only [List.getElem?_cons_zero,Option.some.injEq] at hc hc'
   subst hc
   subst hc'
   rw [List.map_append]
   exact .inl (h2 _)
 ·cases h
end
def Zle {γ:Type} (A:Nat→List V→Option γ) (n:Nat) (B:List V→Option γ):Nat→List V→Option γ:=fun i vs=>if i=n then B vs else A i vs
noncomputable def STree.run (P:Program) (Φ:List (FuncId×Fun)) (aps:List AP) (rs:List RSh):STree→(Nat→List V→Option (ShsT (V9 rs aps)))→(Nat→V)→Option (ShsT (V9 rs aps))
 | .stuck _, _, _ => none
 | .branch b t e, A, ρ => if b.den ρ = true then t.run P Φ aps rs A ρ else e.run P Φ aps rs A ρ
 | .req p t, A, ρ => @Zn _ (p.den ρ) (p.decDen ρ) (t.run P Φ aps rs A ρ)
 | .elem l i sh n t, A, ρ => Zq (l.den ρ) (i.den ρ) sh fun r => t.run P Φ aps rs A (bind ρ n (ZaY sh r))
 | .nilq l n t, A, ρ => @ZkP _ (decS _) (l.den ρ) fun b => t.run P Φ aps rs A (bind ρ n [.b b])
 | .call f args res outs n _ t, A, ρ =>
  match Zh3 Φ f (args.filterMap SV.sig) with
  | some S => if ZnS S.res res n = true ∧ KZ S.args outs (n + ZfH S.res) = true ∧ Zaj S.args = true then Zj7 P S (args.map (SV.den ρ)) fun us => t.run P Φ aps rs A (bind ρ n us) else none
  | none => none
 | .loop lv init n t, A, ρ => Za4 (fun rec vs => t.run P Φ aps rs (Zle A lv rec) (bind Zc9 n vs)) Z2 (init.map (VE.den ρ))
 | .again lv vals, A, ρ => A lv (vals.map (VE.den ρ))
 | .ret res outs, _, ρ => match Zen P aps rs res outs with | some vs => ZjR _ (vs.map (VE.den ρ)) | none => none
theorem Zn2 {p:Nat→Prop} (h:∃ k,p k):∃ k,p k∧∀ j,j < k→¬ p j:=by
 obtain ⟨k,hk⟩:=h
 induction k using Nat.strongRecOn with
 | _ k ih =>
  by_cases hj:∃ j,j < k∧p j
  ·obtain ⟨j,h1,h2⟩:=hj
   exact ih j h1 h2
  ·exact ⟨k,hk,fun j h1 h2=>hj ⟨j,h1,h2⟩⟩
section
variable {P:Program} {Φ:List (FuncId×Fun)} {aps:List AP} {rs:List RSh}
theorem Wu (hΦ:ZhY P Φ) {r:ShsT (V9 rs aps)} {R:AV→List AV→Prop} (hR:∀ x os,K2 P (os++[x]) (Z6 aps (ZaY _ r) (ZfH rs)++[Ki rs (ZaY _ r) 0])→R x os) :
  ∀ (t:STree) (A':Nat→List V→Option (ShsT (V9 rs aps))) (A:Nat→List V→Prop) (ρ:Nat→V),(∀ lv vs,A' lv vs=some r→A lv vs)→t.run P Φ aps rs A' ρ=some r→t.wp P R A ρ
 | .stuck _, _, _, _, _, h => by simp [STree.run] at h
 | .branch b t e, A', A, ρ, hA, h => by
  simp only [STree.run] at h
  refine ⟨fun hb=>?_,fun hb=>?_⟩
  ·rw [if_pos hb] at h
   exact Wu hΦ hR t A' A ρ hA h
  ·rw [if_neg (by rw [hb];exact Bool.false_ne_true)] at h
   exact Wu hΦ hR e A' A ρ hA h
 | .req p t, A', A, ρ, hA, h => by
  obtain ⟨h1,h2⟩:=ZcO (show @Zn _ (p.den ρ) (p.decDen ρ) (t.run P Φ aps rs A' ρ)=some r from h)
  exact ⟨h1,Wu hΦ hR t A' A ρ hA h2⟩
 | .elem l i sh n t, A', A, ρ, hA, h => by
  obtain ⟨h0,cs,x,h1,h2,h3⟩:=ZfU (show Zq (l.den ρ) (i.den ρ) sh (fun r=>t.run P Φ aps rs A' (bind ρ n (ZaY sh r)))=some r from h)
  refine ⟨ZaY sh x,h0,?_,Wu hΦ hR t A' A _ hA h3⟩
  rw [h1,Zfa sh cs x n _ h2 (ZeV.bind ρ n _)]
 | .nilq l n t, A', A, ρ, hA, h => fun b hb => Wu hΦ hR t A' A _ hA (ZgK (show @ZkP _ (decS _) (l.den ρ) (fun b => t.run P Φ aps rs A' (bind ρ n [.b b])) = some r from h) b hb)
 | .call f args res outs n sh t, A', A, ρ, hA, h => by
  simp only [STree.run] at h
  split at h
  ·rename_i S hS
   split at h
   ·rename_i hfit
    obtain ⟨vs,x,h1,h2,h3⟩:=Zgh h
    have hlen:=Zfg _ x
    have hl2:(V9 S.res S.args).length=ZfH S.res+(JK S.args).length:=by simp [V9,ZfH]
    refine ⟨ZaY _ x,?_,Wu hΦ hR t A' A _ hA h3⟩
    rw [Zji hfit.1 (by omega),YC S.args outs (ZfH S.res) hfit.2.1 (by omega)]
    exact JC.freeze S.args _ [] ((Ze7 hΦ hS vs x h2).stronger (Zeq hfit.2.2 h1)) (Zbj _ _ _ h1)
   ·cases h
  ·cases h
 | .loop lv init n t, A', A, ρ, hA, h => by
  let F:=fun (rec:List V→Option (ShsT (V9 rs aps))) vs=>t.run P Φ aps rs (Zle A' lv rec) (bind Zc9 n vs)
  have hF:Za4 F Z2 (init.map (VE.den ρ))=some r:=h
  have hm:∀ vs,∃ m:Nat,(∃ k,Za4 F k vs=some r)→Za4 F m vs=some r∧∀ j,Za4 F j vs=some r→m≤j:=by
   intro vs
   by_cases hk:∃ k,Za4 F k vs=some r
   ·obtain ⟨m,h1,h2⟩:=Zn2 hk
    exact ⟨m,fun _=>⟨h1,fun j hj=>Nat.le_of_not_lt fun hlt=>h2 j hlt hj⟩⟩
   ·exact ⟨0,fun h=>(hk h).elim⟩
  obtain ⟨m,hm⟩:=Classical.axiomOfChoice hm
  refine ⟨fun vs=>∃ k,Za4 F k vs=some r,m,⟨Z2,hF⟩,fun vs _ hk=>?_⟩
  obtain ⟨h1,h2⟩:=hm vs hk
  cases hmv:m vs with
  | zero => rw [hmv] at h1; cases h1
  | succ j =>
   rw [hmv] at h1
   refine Wu hΦ hR t (Zle A' lv (Za4 F j)) _ _ (fun lv' vs' hv=>?_) h1
   unfold Zle at hv
   unfold ZlD
   split at hv
   ·rename_i he
    rw [if_pos he]
    refine ⟨⟨j,hv⟩,?_⟩
    have:=(hm vs' ⟨j,hv⟩).2 j hv
    omega
   ·rename_i he
    rw [if_neg he]
    exact hA lv' vs' hv
 | .again lv vals, A', A, ρ, hA, h => hA lv _ h
 | .ret res outs, A', A, ρ, hA, h => by
  simp only [STree.run] at h
  split at h
  ·rename_i vs hvs
   refine hR _ _ ?_
   rw [Zdh _ _ _ h]
   exact Zgc hvs
  ·cases h
end
end Go.AM
end

section
namespace Go.AM
def TyR (P:Program):Nat→TypeId→List AV→Prop
 | 0, _, _ => False
 | d + 1, T, cs =>
  match P.underlying T with
  | some (.int k) => ∃ z, cs = [.val (.int k z)] ∧ (Lit.int k z).wf = true
  | some .bool => ∃ b, cs = [.val (.bool b)]
  | some .string => ∃ s, cs = [.val (.string s)]
  | some (.slice e) => ∃ xs : List (List AV), cs = [.slice false (P.cellsOf e) xs] ∧ xs.length ≤ maxLen ∧ ∀ x ∈ xs, TyR P d e x
  | some (.struct fs) => ∃ parts : List (List AV), cs = parts.flatten ∧ parts.length = fs.size ∧ ∀ (i : Nat) (f : Field) (p : List AV), fs[i]? = some f → parts[i]? = some p → TyR P d f.type p
  | _ => False
def WF (P:Program):Nat→TypeId→Bool
 | 0, _ => false
 | d + 1, T =>
  match P.underlying T with
  | some (.int _) => true
  | some .bool => true
  | some .string => true
  | some (.slice e) => WF P d e && decide (0 < P.cellsOf e)
  | some (.struct fs) => (fs.toList.all fun f => WF P d f.type) && decide (P.cellsOf T = (fs.toList.map fun f => P.cellsOf f.type).sum) &&
    (fs.toList.zipIdx.all fun p=>decide (p.1.offset=((fs.toList.take p.2).map fun f=>P.cellsOf f.type).sum))
  | _ => false
def Kj (w:World):Nat→Nat:=fun b=>match w.heap[b]? with | some (.cells c _ _)=>c.size | _=>0
theorem ZhU {w:World} {b o:Nat} {u:Value} (h:w.cell? ⟨b,o,none⟩=some u):o < Kj w b:=by
 unfold World.cell? at h
 unfold Kj
 split at h
 ·rename_i c t fr hc
  have h':c[o]? = some u:=by simpa using h
  have hc':w.heap[b]? = some (.cells c t fr):=hc
  rw [hc']
  exact (Array.getElem?_eq_some_iff.1 h').1
 ·cases h
theorem Yn.flat {w:World} {lim:Nat→Nat} : ∀ (aZ:List (List AV)) (us:List (List Value)),aZ.length=us.length→(∀ (i:Nat) (a:List AV) (u:List Value),aZ[i]? = some a→us[i]? = some u→Yn w lim a u)→Yn w lim aZ.flatten us.flatten
 | [], [], _, _ => Yn.nil w lim
 | [], _ :: _, h, _ => by simp at h
 | _ :: _, [], h, _ => by simp at h
 | a :: aZ, u :: us, h, hr => by
  have h1:=hr 0 a u rfl rfl
  have h2:=Yn.flat aZ us (by simpa using h) fun i a' u' ha hu=>hr (i+1) a' u' (by simpa using ha) (by simpa using hu)
  refine ⟨by simp [h1.1,h2.1],fun c hc=>?_,fun i c v hc hv=>?_⟩
  ·rw [List.flatten_cons,List.mem_append] at hc
   rcases hc with hc | hc
   ·exact h1.2.1 c hc
   ·exact h2.2.1 c hc
  ·rw [List.flatten_cons] at hc hv
   by_cases hi:i < a.length
   ·rw [List.getElem?_append_left hi] at hc
    rw [List.getElem?_append_left (by rw [← h1.1];exact hi)] at hv
    exact h1.2.2 i c v hc hv
   ·rw [List.getElem?_append_right (by omega)] at hc
    rw [List.getElem?_append_right (by rw [← h1.1];omega),← h1.1] at hv
    exact h2.2.2 _ c v hc hv
theorem ZjX {α:Type} : ∀ (ns:List Nat) (cs:List α),cs.length=ns.sum→∃ ps:List (List α),ps.length=ns.length∧ps.flatten=cs∧∀ (i:Nat) (n:Nat),ns[i]? = some n→ps[i]? = some ((cs.drop (ns.take i).sum).take n)
 | [], cs, h => ⟨[], rfl, by simp at h; simp [h], by simp⟩
 | n :: ns, cs, h => by
  obtain ⟨ps,h1,h2,h3⟩:=ZjX ns (cs.drop n) (by simp only [List.sum_cons] at h;simp;omega)
  refine ⟨cs.take n::ps,by simp [h1],by rw [List.flatten_cons,h2,List.take_append_drop],fun i m hi=>?_⟩
  cases i with
  | zero => simp at hi; subst hi; simp
  | succ i =>
   have:=h3 i m (by simpa using hi)
   simp only [List.getElem?_cons_succ,this,List.take_succ_cons,List.sum_cons,List.drop_drop]
theorem Vd {β:Type} {Q:Nat→β→Prop} : ∀ (n:Nat),(∀ i,i < n→∃ b,Q i b)→∃ l:List β,l.length=n∧∀ (i:Nat) (b:β),l[i]? = some b→Q i b
 | 0, _ => ⟨[], rfl, by simp⟩
 | n + 1, h => by
  obtain ⟨l,h1,h2⟩:=Vd n fun i hi=>h i (by omega)
  obtain ⟨b,hb⟩:=h n (by omega)
  refine ⟨l++[b],by simp [h1],fun i c hc=>?_⟩
  by_cases hi:i < l.length
  ·rw [List.getElem?_append_left hi] at hc
   exact h2 i c hc
  ·rw [List.getElem?_append_right (by omega)] at hc
   have h0:i-l.length=0:=by
    have:=(List.getElem?_eq_some_iff.1 hc).1
    simp at this
    omega
   rw [h0] at hc
   simp only [List.getElem?_cons_zero,Option.some.injEq] at hc
   subst hc
   have:i=n:=by omega
   rw [this]
   exact hb
theorem Zbh {s:Nat} {cell:Nat→Option Value} : ∀ (l:List (List Value)) (o:Nat),(∀ (i:Nat) (us:List Value),l[i]? = some us→us.length=s∧∀ (k:Nat) (u:Value),us[k]? = some u→cell (o+i*s+k)=some u)→
  ∀ (j:Nat) (u:Value),l.flatten[j]? = some u→cell (o+j)=some u
 | [], o, _, j, u, h => by simp at h
 | us :: l, o, h, j, u, hj => by
  obtain ⟨h1,h2⟩:=h 0 us rfl
  rw [List.flatten_cons] at hj
  by_cases hlt:j < us.length
  ·rw [List.getElem?_append_left hlt] at hj
   have:=h2 j u hj
   simpa using this
  ·rw [List.getElem?_append_right (by omega)] at hj
   have:=Zbh l (o+s) (fun i us' hi=>by
    obtain ⟨g1,g2⟩:=h (i+1) us' (by simpa using hi)
    refine ⟨g1,fun k u' hk=>?_⟩
    have:=g2 k u' hk
    rw [Nat.add_mul,Nat.one_mul] at this
    rw [show o+s+i*s+k=o+(i*s+s)+k by omega]
    exact this) (j-us.length) u hj
   rw [show o+s+(j-us.length)=o+j by omega] at this
   exact this
theorem Zgk {H:Type} {f:Func} {s:ChangeSpec} {apart fresh handsOn again:Bool} {W W':World} {args:Array Value} {v:Value} {ds gs:List (DataW H)} {before pa:List MemPlace} {P:Program} {enc:TypeId×Value→H}
  (hW:DataW.Whole enc P f.params.toList s.vars apart W args.toList ds gs before)
  (hres:∀ (b:Nat) (sp:Nat→Bool) (hd:Bool),DataW.TrodAll enc P W' b sp hd f.resultTypes.toList (v.resultList f.resultTypes.size) (s.fn H (ds++gs)).results [])
  (hargs:∀ sp:Nat→Bool,(∀ p∈before,sp p.block=true)→DataW.TrodAll enc P W' 0 sp true f.params.toList args.toList (s.fn H (ds++gs)).args pa)
  (hvars:∀ sp:Nat→Bool,(∀ p∈before,sp p.block=true)→DataW.TrodVars enc P W' sp s.vars (s.fn H (ds++gs)).vars [])
  (hps:before=pa++[]) (hk:W.keptBut W' (·∈before)) (hfz:∀ a:Addr,a.block < W.heap.size→W'.frozen? a=W.frozen? a)
  (hok:∀ (j:Nat) (t:TypeId) (r:Value),f.resultTypes[j]? = some t→(v.resultList f.resultTypes.size)[j]? = some r→Value.okWide P W' .any 0 t r) :
  s.post enc P f apart fresh handsOn again W args v W':=by
 have hin:∀ p∈before,p.block < W.heap.size:=fun p hp=>hW.lt p hp
 have hdec:∀ p∈before,(fun b=>decide (b < W.heap.size)) p.block=true:=fun p hp=>decide_eq_true (hin p hp)
 refine ⟨ds,gs,before,[],pa,[],hW,hres _ _ _,hargs _ hdec,hvars _ hdec,World.keptBut_mono (fun p hp=>⟨hp,?_⟩) hk,fun _=>?_⟩
 ·refine Or.inr (Or.inl ?_)
  rwa [hps,List.append_nil] at hp
 ·have hWp:=hW
  obtain ⟨_,_,_,_,_,hz,hn⟩:=hWp
  refine ⟨hok,_,_,([]++pa)++[],⟨[]++pa,[],ChangeShapes.trodAll_append (hargs _ fun _ _=>rfl) (hres _ _ _),hvars _ fun _ _=>rfl,rfl,?_,?_⟩,?_⟩
  ·intro b off hp
   have hmem:MemPlace.cell b off∈before:=by rw [hps];simpa using hp
   rw [hfz _ (hin _ hmem)]
   exact hz b off hmem
  ·intro ha
   have h1:=hn ha
   rw [hps] at h1
   simpa using h1
  ·intro p hp _
   rw [hps]
   simpa using hp
section
variable {P:Program} {H:Type} {enc:TypeId×Value→H} {w:World} {sp:Nat→Bool} {held:Bool}
theorem Zd7:∀ (d n:Nat) (T:TypeId) (cs:List Value) (x:DataW H×List MemPlace),WF P d T=true→DataW.trod enc P w 0 sp held n T cs=some x→∃ avs,TyR P d T avs∧Yn w (Kj w) avs cs
 | 0, n, T, cs, x, hf, _ => by simp [WF] at hf
 | d + 1, n, T, cs, x, hf, h => by
  simp only [WF] at hf
  split at hf
  ·rename_i k hk
   obtain ⟨z,rfl,_,hw⟩:=DataW.trod_int hk h
   refine ⟨[.val (.int k z)],?_,rfl,by simp [AV.isCell],fun i c u hc hu=>?_⟩
   ·simp only [TyR,hk];exact ⟨z,rfl,hw⟩
   ·cases i with
    | zero => simp at hc hu; subst hc; subst hu; exact .val rfl
    | succ i => simp at hc
  ·rename_i hk
   obtain ⟨b,rfl,_⟩:=DataW.trod_bool hk h
   refine ⟨[.val (.bool b)],?_,rfl,by simp [AV.isCell],fun i c u hc hu=>?_⟩
   ·simp only [TyR,hk];exact ⟨b,rfl⟩
   ·cases i with
    | zero => simp at hc hu; subst hc; subst hu; exact .val rfl
    | succ i => simp at hc
  ·rename_i hk
   obtain ⟨s,rfl,_⟩:=DataW.trod_string hk h
   refine ⟨[.val (.string s)],?_,rfl,by simp [AV.isCell],fun i c u hc hu=>?_⟩
   ·simp only [TyR,hk];exact ⟨s,rfl⟩
   ·cases i with
    | zero => simp at hc hu; subst hc; subst hu; exact .val rfl
    | succ i => simp at hc
  ·rename_i e hk
   simp only [Bool.and_eq_true,decide_eq_true_eq] at hf
   rcases DataW.trod_slice hk h with ⟨rfl,_⟩ | ⟨a,len,cap,VZ,rest,m,_,rfl,_,_,hlc,hcm,hel,hcells,_,_⟩
   ·refine ⟨[.slice false (P.cellsOf e) []],?_,rfl,by simp [AV.isCell],fun i c u hc hu=>?_⟩
    ·simp only [TyR,hk];exact ⟨[],rfl,by simp,by simp⟩
    ·cases i with
     | zero => simp at hc hu; subst hc; subst hu; exact .sliceN
     | succ i => simp at hc
   ·obtain ⟨l,hl1,hl2⟩:=Vd (Q:=fun i (p:List Value×List AV)=>w.cells? 0 (a.add (i*P.cellsOf e)) (P.cellsOf e)=some p.1∧TyR P d e p.2∧Yn w (Kj w) p.2 p.1) len fun i hi=>by
     have h1:=hcells i hi
     obtain ⟨y,hy⟩:∃ y,VZ[i]? = some y:=⟨_,List.getElem?_eq_getElem (by omega)⟩
     rw [hy,Option.bind_eq_some_iff] at h1
     obtain ⟨us,h2,h3⟩:=h1
     obtain ⟨avs,h4,h5⟩:=Zd7 d m e us y hf.1 h3
     exact ⟨(us,avs),h2,h4,h5⟩
    have hall:∀ p∈l,TyR P d e p.2∧Yn w (Kj w) p.2 p.1∧p.1.length=P.cellsOf e:=by
     intro p hp
     obtain ⟨i,hi⟩:=List.mem_iff_getElem?.1 hp
     obtain ⟨g1,g2,g3⟩:=hl2 i p hi
     exact ⟨g2,g3,(World.cells?_some g1).2.1⟩
    refine ⟨[.slice false (P.cellsOf e) (l.map (·.2))],?_,rfl,by simp [AV.isCell],fun i c u hc hu=>?_⟩
    ·simp only [TyR,hk]
     refine ⟨_,rfl,by simp;omega,fun y hy=>?_⟩
     obtain ⟨p,hp,rfl⟩:=List.mem_map.1 hy
     exact (hall p hp).1
    ·cases i with
     | succ i => simp at hc
     | zero =>
      simp only [List.getElem?_cons_zero,Option.some.injEq] at hc hu
      subst hc
      subst hu
      cases l with
      | nil =>
       have:len=0:=by simpa using hl1.symm
       subst this
       exact .sliceE (fun h=>by cases h)
      | cons p l' =>
       have hcell:∀ (j:Nat) (u:Value),((p::l').map (·.1)).flatten[j]? = some u→w.cell? ⟨a.block,a.off+j,none⟩=some u:=by
        refine Zbh (s:=P.cellsOf e) (cell:=fun o=>w.cell? ⟨a.block,o,none⟩) _ a.off fun i us hi=>?_
        rw [List.getElem?_map] at hi
        cases hpi:(p::l')[i]? with
        | none => simp [hpi] at hi
        | some q =>
         simp only [hpi,Option.map_some,Option.some.injEq] at hi
         subst hi
         obtain ⟨g1,_,_⟩:=hl2 i q hpi
         obtain ⟨_,k2,k3⟩:=World.cells?_some g1
         refine ⟨k2,fun k u hu=>?_⟩
         have hk':k < P.cellsOf e:=by rw [← k2];exact (List.getElem?_eq_some_iff.1 hu).1
         have:=k3 k hk'
         rw [hu] at this
         have hblk:((a.add (i*P.cellsOf e)).add k).block=a.block∧((a.add (i*P.cellsOf e)).add k).off=a.off+i*P.cellsOf e+k:=by
          unfold Addr.add
          split<;>split<;>simp_all
         have hspot:((a.add (i*P.cellsOf e)).add k).spot=none:=by
          unfold World.cell? at this
          split at this
          ·split at this
           ·cases this
           ·rename_i hs;simpa using hs
          ·cases this
         have heq:(a.add (i*P.cellsOf e)).add k=⟨a.block,a.off+i*P.cellsOf e+k,none⟩:=by
          rw [← hblk.1,← hblk.2,← hspot]
         rw [heq] at this
         exact this
       have hspot:a.spot=none:=by
        obtain ⟨g1,_,_⟩:=hl2 0 p rfl
        obtain ⟨_,k2,k3⟩:=World.cells?_some g1
        have:=k3 0 hf.2
        obtain ⟨u,hu⟩:∃ u,p.1[0]? = some u:=⟨_,List.getElem?_eq_getElem (by rw [k2];exact hf.2)⟩
        rw [hu] at this
        have ha:(a.add (0*P.cellsOf e)).add 0=a:=by simp [Addr.add]
        rw [ha] at this
        unfold World.cell? at this
        split at this
        ·split at this
         ·cases this
         ·rename_i hs;simpa using hs
        ·cases this
       have ha:a=⟨a.block,a.off,none⟩:=by rw [← hspot]
       have hlen:((p::l').map (·.2)).length=len:=by rw [List.length_map];exact hl1
       rw [ha,← hlen]
       have hrel:Yn w (Kj w) ((p::l').map (·.2)).flatten ((p::l').map (·.1)).flatten:=by
        refine Yn.flat _ _ (by simp) fun i x us hx hus=>?_
        rw [List.getElem?_map] at hx hus
        cases hpi:(p::l')[i]? with
        | none => simp [hpi] at hx
        | some q =>
         simp only [hpi,Option.map_some,Option.some.injEq] at hx hus
         subst hx
         subst hus
         exact (hl2 i q hpi).2.2
       have hsz:∀ x∈(p::l').map (·.2),x.length=P.cellsOf e:=by
        intro x hx
        obtain ⟨q,hq,rfl⟩:=List.mem_map.1 hx
        obtain ⟨_,g2,g3⟩:=hall q hq
        rw [g2.1,g3]
       refine .sliceC (us:=((p::l').map (·.1)).flatten) hsz (fun x hx=>?_) (fun h=>by cases h) (by rw [hlen];exact hlc) (fun hne=>?_) ?_ hcell hrel.2.2
       ·obtain ⟨q,hq,rfl⟩:=List.mem_map.1 hx
        exact (hall q hq).2.1.2.1
       ·have hpos:0 < (((p::l').map (·.1)).flatten).length:=List.length_pos_iff.2 hne
        have hlast:=hcell ((((p::l').map (·.1)).flatten).length-1) _ (List.getElem?_eq_getElem (by omega))
        have:=ZhU hlast
        omega
       ·rw [← hrel.1,Zu _ _ hsz]
  ·rename_i fs hk
   simp only [Bool.and_eq_true,decide_eq_true_eq,List.all_eq_true] at hf
   obtain ⟨⟨h1,h2⟩,h3⟩:=hf
   obtain ⟨xs,m,_,_,hlen,hxl,hparts⟩:=DataW.trod_struct hk h
   obtain ⟨ps,q1,q2,q3⟩:=ZjX (fs.toList.map fun f=>P.cellsOf f.type) cs (by rw [hlen,h2])
   have hps:ps.length=fs.size:=by rw [q1];simp
   obtain ⟨l,hl1,hl2⟩:=Vd (Q:=fun i (avs:List AV)=>∃ (f:Field) (us:List Value),fs[i]? = some f∧ps[i]? = some us∧TyR P d f.type avs∧Yn w (Kj w) avs us) fs.size fun i hi=>by
    have hfi:fs[i]? = some fs[i]:=Array.getElem?_eq_getElem hi
    have hn:(fs.toList.map fun f=>P.cellsOf f.type)[i]? = some (P.cellsOf fs[i].type):=by simp [hi]
    have h4:=q3 i _ hn
    have h5:=hparts i _ hfi
    have hoff:=h3 (fs[i],i) (by rw [List.mem_zipIdx_iff_getElem?];simp [hi])
    simp only at hoff
    rw [hoff,List.map_take] at h5
    obtain ⟨y,hy⟩:∃ y,xs[i]? = some y:=⟨_,List.getElem?_eq_getElem (by omega)⟩
    rw [hy] at h5
    obtain ⟨avs,h6,h7⟩:=Zd7 d m _ _ y (h1 fs[i] (by simp)) h5
    exact ⟨avs,fs[i],_,hfi,h4,h6,h7⟩
   refine ⟨l.flatten,?_,?_⟩
   ·simp only [TyR,hk]
    refine ⟨l,rfl,hl1,fun i f p hf hp=>?_⟩
    obtain ⟨f',us,g1,g2,g3,g4⟩:=hl2 i p hp
    rw [hf] at g1
    cases g1
    exact g3
   ·rw [← q2]
    refine Yn.flat _ _ (by rw [hl1,hps]) fun i avs us ha hu=>?_
    obtain ⟨f',us',g1,g2,g3,g4⟩:=hl2 i avs ha
    rw [hu] at g2
    cases g2
    exact g4
  ·cases hf
def VO (P:Program) (d:Nat) (T:TypeId) (x:AV):Prop:=
 match P.underlying T with
 | some (.struct _) => ∃ cs, x = .agg cs ∧ TyR P d T cs
 | _ => x.isCell = true ∧ TyR P d T [x]
theorem Zjr {lim:Nat→Nat} {avs:List AV} {v:Value} (h:Yn w lim avs [v]):∃ x,avs = [x]∧x.isCell=true∧Rep w lim x v:=by
 obtain ⟨x,rfl⟩:=List.length_eq_one_iff.1 (by simpa using h.1:avs.length=1)
 exact ⟨x,rfl,h.2.1 x (by simp),h.2.2 0 x v rfl rfl⟩
theorem Zjq {d:Nat} {T:TypeId} {v:Value} {x:DataW H} {ps:List MemPlace} {r:Reach} {base:Nat} (hf:WF P d T=true) (hok:Value.okWide P w r base T v)
  (h:DataW.Trod enc P w 0 sp held T v x ps):∃ y,VO P d T y∧∀ X σ k,ZV P w (Kj w) X σ k y v:=by
 obtain ⟨n,h⟩:=h
 obtain ⟨avs,h1,h2⟩:=Zd7 d n T _ _ hf h
 cases d with
 | zero => simp [WF] at hf
 | succ d =>
  have one:v.cells.toList = [v]→(∀ fs,P.underlying T≠some (.struct fs))→∃ y,VO P (d+1) T y∧∀ X σ k,ZV P w (Kj w) X σ k y v:=by
   intro hv hns
   rw [hv] at h2
   obtain ⟨y,rfl,h3,h4⟩:=Zjr h2
   refine ⟨y,?_,fun X σ k=>(KW h3 h4).2⟩
   unfold VO
   split
   ·rename_i fs hfs;exact (hns fs hfs).elim
   ·exact ⟨h3,h1⟩
  simp only [WF] at hf
  split at hf
  ·rename_i kd hk
   obtain ⟨z,hz,_⟩:=DataW.trod_int hk h
   refine one ?_ (by rw [hk];simp)
   simp only [Value.okWide,hk,Cell.okWide] at hok
   cases v<;>simp_all [Cell.ok,Value.cells]
  ·rename_i hk
   refine one ?_ (by rw [hk];simp)
   simp only [Value.okWide,hk,Cell.okWide] at hok
   cases v<;>simp_all [Cell.ok,Value.cells]
  ·rename_i hk
   refine one ?_ (by rw [hk];simp)
   simp only [Value.okWide,hk,Cell.okWide] at hok
   cases v<;>simp_all [Cell.ok,Value.cells]
  ·rename_i e hk
   refine one ?_ (by rw [hk];simp)
   simp only [Value.okWide,hk,Cell.okWide] at hok
   cases v<;>simp_all [Cell.ok,Value.cells]
  ·rename_i fs hk
   simp only [Value.okWide,hk] at hok
   obtain ⟨cs,rfl,_,_⟩:=hok
   refine ⟨.agg avs,?_,?_⟩
   ·unfold VO
    simp only [hk]
    exact ⟨avs,rfl,h1⟩
   ·have:cs=cs.toList.toArray:=by simp
    intro X σ k
    show Rep w (Kj w) (.agg avs) (.agg cs)
    rw [this]
    exact .agg h2.1 h2.2.1 h2.2.2
  ·cases hf
theorem Zdv {d:Nat} {r:Reach} {base:Nat} : ∀ (ts:List TypeId) (vs:List Value) (ds:List (DataW H)) (ps:List MemPlace),(∀ t∈ts,WF P d t=true)→
  (∀ (j:Nat) (t:TypeId) (v:Value),ts[j]? = some t→vs[j]? = some v→Value.okWide P w r base t v)→DataW.TrodAll enc P w 0 sp held ts vs ds ps→
  vs.length=ts.length∧∃ xs:List AV,xs.length=ts.length∧∀ (i:Nat) (t:TypeId) (x:AV) (v:Value),ts[i]? = some t→xs[i]? = some x→vs[i]? = some v→VO P d t x∧∀ X σ k,ZV P w (Kj w) X σ k x v
 | [], [], [], ps, _, _, _ => ⟨rfl, [], rfl, by simp⟩
 | t :: ts, v :: vs, x :: ds, ps, hf, hok, h => by
  obtain ⟨p,q,h1,h2,_⟩:=h
  obtain ⟨y,g1,g2⟩:=Zjq (hf t (by simp)) (hok 0 t v rfl rfl) h1
  obtain ⟨k1,xs,k2,k3⟩:=Zdv ts vs ds q (fun t ht=>hf t (by simp [ht])) (fun j t' v' ht hv=>hok (j+1) t' v' (by simpa using ht) (by simpa using hv)) h2
  refine ⟨by simp [k1],y::xs,by simp [k2],fun i t' x' v' ht hx hv=>?_⟩
  cases i with
  | zero =>
   simp only [List.getElem?_cons_zero,Option.some.injEq] at ht hx hv
   subst ht
   subst hx
   subst hv
   exact ⟨g1,g2⟩
  | succ i => exact k3 i t' x' v' (by simpa using ht) (by simpa using hx) (by simpa using hv)
 | [], _ :: _, _, _, _, _, h => h.elim
 | [], [], _ :: _, _, _, _, h => h.elim
 | _ :: _, [], _, _, _, _, h => h.elim
 | _ :: _, _ :: _, [], _, _, _, h => h.elim
theorem Zdm {w':World} {sp':Nat→Bool} (hl:laidOutB P=true):∀ (ts:List TypeId) (vs:List Value) (ds:List (DataW H)) (ps:List MemPlace),(∀ t∈ts,t < P.types.size∧P.readableRec t=true)→
  DataW.TrodAll enc P w 0 (fun _=>true) true ts vs ds ps→(∀ p∈ps,w.sameAt w' p)→(∀ p∈ps,sp' p.block=true)→DataW.TrodAll enc P w' 0 sp' true ts vs ds ps
 | [], [], [], _, _, h, _, _ => h
 | t :: ts, v :: vs, x :: ds, ps, ht, h, hs, hp => by
  obtain ⟨p,q,⟨n,h1⟩,h2,rfl⟩:=h
  refine ⟨p,q,⟨n,?_⟩,Zdm hl ts vs ds q (fun t' h'=>ht t' (by simp [h'])) h2 (fun z hz=>hs z (by simp [hz])) (fun z hz=>hp z (by simp [hz])),rfl⟩
  have hr:=(ht t (by simp)).2
  exact DataW.trod_stays (T:=InBook P t) (kids_book hl hr) (fun {t' e} h' hu=>book_sized hr h' hu) (fun h=>by cases h) ⟨(ht t (by simp)).1,book_self t⟩ h1 (fun z hz=>hs z (by simp [hz])) (fun z hz=>hp z (by simp [hz]))
 | [], _ :: _, _, _, _, h, _, _ => h.elim
 | [], [], _ :: _, _, _, h, _, _ => h.elim
 | _ :: _, [], _, _, _, h, _, _ => h.elim
 | _ :: _, _ :: _, [], _, _, h, _, _ => h.elim
theorem ZcB {fn:Func} {f:FuncId} {s:ChangeSpec} {apart fresh handsOn again:Bool} {tb:TypeId} {d:Nat} (hl:laidOutB P=true) (hpar:∀ t∈fn.params.toList,WF P d t=true∧t < P.types.size∧P.readableRec t=true)
  (hres:fn.resultTypes = #[tb]) (htb:P.underlying tb=some .bool) (hvars:s.vars = []) (hs:∀ ds,ds.length=fn.params.size→s.fn H ds = { results:=[.lit (.bool true)],args:=ds })
  (hcall:∀ xs:List AV,xs.length=fn.params.toList.length→(∀ (i:Nat) (t:TypeId) (x:AV),fn.params.toList[i]? = some t→xs[i]? = some x→VO P d t x)→∃ outs,JC P f xs (B true) outs)
  (W:World) (base:Nat) (args:Array Value) (ds gs:List (DataW H)) (before:List MemPlace)
  (hval:∀ (j:Nat) t v,fn.params[j]? = some t→args[j]? = some v→Value.okWide P W .any base t v) (hW:DataW.Whole enc P fn.params.toList s.vars apart W args.toList ds gs before) :
  Calls P f args W fun e W'=>∃ v,e = .returned v∧s.post enc P fn apart fresh handsOn again W args v W':=by
 have hW':=hW
 obtain ⟨p,q,hA,hV,rfl,_,_⟩:=hW
 rw [hvars] at hV
 obtain ⟨rfl,rfl⟩:=ChangeShapes.trodVars_none hV
 obtain ⟨hlen,xs,hx1,hx2⟩:=Zdv (r:=.any) (base:=base) _ _ _ _ (fun t ht=>(hpar t ht).1) (fun j t v ht hv=>hval j t v (by simpa using ht) (by simpa using hv)) hA
 have hdl:ds.length=fn.params.size:=by
  have:∀ (ts:List TypeId) (vs:List Value) (ds:List (DataW H)) (ps:List MemPlace),DataW.TrodAll enc P W 0 (fun _=>true) true ts vs ds ps→ds.length=ts.length:=by
   intro ts
   induction ts with
   | nil => intro vs ds ps h; cases vs <;> cases ds <;> simp_all [DataW.TrodAll]
   | cons t ts ih =>
    intro vs ds ps h
    cases vs with
    | nil => exact h.elim
    | cons v vs =>
     cases ds with
     | nil => exact h.elim
     | cons x ds => obtain ⟨_, _, _, h2, _⟩ := h; simp [ih _ _ _ h2]
  simpa using this _ _ _ _ hA
 obtain ⟨outs,_,hc⟩:=hcall xs hx1 fun i t x ht hx=>by
  obtain ⟨v,hv⟩:∃ v,args.toList[i]? = some v:=⟨_,List.getElem?_eq_getElem (by rw [hlen];exact (List.getElem?_eq_some_iff.1 ht).1)⟩
  exact (hx2 i t x v ht hx hv).1
 have hng:xs.countP AV.isG=0:=by
  rw [List.countP_eq_zero]
  intro x hx hg
  obtain ⟨i,hi⟩:=List.mem_iff_getElem?.1 hx
  have hlt:=(List.getElem?_eq_some_iff.1 hi).1
  obtain ⟨v,hv⟩:∃ v,args.toList[i]? = some v:=⟨_,List.getElem?_eq_getElem (by omega)⟩
  obtain ⟨t,ht⟩:∃ t,fn.params.toList[i]? = some t:=⟨_,List.getElem?_eq_getElem (by omega)⟩
  have hr:=(hx2 i t x v ht hi hv).2 (fun _ _=>none) (fun _=>.dead) 0
  cases x<;>simp [AV.isG] at hg
  obtain ⟨v',b,_,_,h,_⟩:=hr
  cases h
 have hcalls:=hc W (Kj W) (fun _ _=>none) args.toList (by rw [hng,hlen,hx1];exact Nat.le_refl _) (fun i=>by
  cases hxi:xs[i]? with
  | none =>
   have:ZY xs i = .dead:=by simp [ZY,hxi]
   rw [this]
   trivial
  | some x =>
   have hi:=(List.getElem?_eq_some_iff.1 hxi).1
   obtain ⟨v,hv⟩:∃ v,args.toList[i]? = some v:=⟨_,List.getElem?_eq_getElem (by omega)⟩
   obtain ⟨t,ht⟩:∃ t,fn.params.toList[i]? = some t:=⟨_,List.getElem?_eq_getElem (by omega)⟩
   have h1:ZY xs i=x:=by simp [ZY,hxi]
   have h2:args.toList.getD i undef=v:=by rw [List.getD_eq_getElem?_getD,hv];rfl
   rw [h1,h2]
   exact (hx2 i t x v ht hxi hv).2 _ _ _) (fun _ _ _ _ _ h=>by cases h) (fun _ _ _ h=>by cases h)
 rw [Array.toArray_toList] at hcalls
 refine hcalls.mono ?_
 rintro e W' ⟨v,lim',X',rfl,hst,hol,hrel,_,_,_⟩
 have hv:v = .bool true:=by
  have h:=hrel xs.length
  have h1:ZY (outs++[B true]) xs.length=B true:=by
   simp only [ZY]
   rw [List.getElem?_append_right (by omega),hol]
   simp
  have h2:V6 xs.length args.toList v xs.length=v:=if_pos rfl
  rw [h1,h2] at h
  exact Yo h
 subst hv
 have hkept:∀ b,b < W.heap.size→W'.heap[b]? = W.heap[b]?:=fun b hb=>(hst.blk b hb (by rintro ⟨_,_,h⟩;cases h)).1
 have hsame:∀ z∈p++[],W.sameAt W' z:=by
  intro z hz
  have hlt:=hW'.lt z hz
  cases z with
  | cell b off =>
   show W'.cell? ⟨b,off,none⟩=W.cell? ⟨b,off,none⟩
   unfold World.cell?
   rw [hkept b hlt]
  | map b => exact hkept b hlt
 refine ⟨_,rfl,Zgk (pa:=p) hW' (fun b sp hd=>?_) (fun sp hp=>?_) (fun sp _=>?_) rfl ?_ hst.frz ?_⟩
 ·rw [hs _ (by simpa using hdl),hres]
  exact ⟨[],[],⟨1,by simp [DataW.trod,htb,Value.cells]⟩,rfl,rfl⟩
 ·rw [hs _ (by simpa using hdl),List.append_nil]
  exact Zdm hl _ _ _ _ (fun t ht=>(hpar t ht).2) hA (fun z hz=>hsame z (by simpa using hz)) (fun z hz=>hp z (by simpa using hz))
 ·rw [hs _ (by simpa using hdl),hvars]
  rfl
 ·refine ⟨hst.os,hst.output,fun i hi=>?_⟩
  rw [hkept i hi]
  cases W.heap[i]? with
  | none => rfl
  | some o => cases o <;> simp
 ·exact RowKit.ok_one hres rfl (RowKit.okWide_bool_mk htb true)
end
end Go.AM
end

section
namespace Go.AM
open Go
set_option linter.unusedSimpArgs false
set_option linter.unusedVariables false
def blank:Char:=Char.ofNat 32
theorem Zes (r:List Char):wordsSigns (blank::r) = []::wordsSigns r:=by
 show wordsSigns (Char.ofNat 32::r)=_
 rw [wordsSigns]
theorem ZdS (c:Char) (r:List Char) (h:c≠blank):wordsSigns (c::r)=match wordsSigns r with | w::ws=>(c::w)::ws | []=>[[c]]:=by
 rw [wordsSigns]
 ·rfl
 ·exact h
theorem KS (r:List Char):∀ (w:List Char),(w.all fun c=>c != blank)=true→wordsSigns (w++blank::r)=w::wordsSigns r
 | [], _ => Zes r
 | c :: w, h => by
  rw [List.all_cons,Bool.and_eq_true] at h
  rw [List.cons_append,ZdS c _ (by simpa using h.1),KS r w h.2]
theorem Zde {L:List Char} (h1:((L.take 7).all fun c=>c != blank)=true) (h2:(((L.drop 8).take 64).all fun c=>c != blank)=true) (h3:(((L.drop 73).take 3).all fun c=>c != blank)=true)
  (hL : L = L.take 7 ++ blank :: ((L.drop 8).take 64 ++ blank :: ((L.drop 73).take 3 ++ blank :: L.drop 77))) (hm : ((L.take 7 == "harness".toList || L.take 7 == "ownmain".toList) && isSumSigns ((L.drop 8).take 64)) = true)
  (hc : (L.drop 73).take 3 = "cut".toList) : ∃ ws, behindMainWord (wordsSigns L) = "cut".toList :: ws := by
 refine ⟨wordsSigns (L.drop 77),?_⟩
 have h:wordsSigns L=L.take 7::(L.drop 8).take 64::(L.drop 73).take 3::wordsSigns (L.drop 77):=by
  rw [hL,KS _ _ h1,KS _ _ h2,KS _ _ h3,← hL]
 rw [h,behindMainWord,if_pos hm,hc]
theorem enters_of {P : Program} {ws : List (List Char)} (h : behindMainWord (wordsSigns P.initOrder.toList) = "cut".toList :: ws) (h1 : P.laysLater = false) (h2 : P.bearsReflect = false) (h3 : P.doorFits [] = true) : P.mayEnter = true := by
 unfold Program.mayEnter
 rw [h]
 have hs : stripLifts liftWords ("cut".toList :: ws) = ([], "cut".toList :: ws) := by kernel_rfl
 simp only [hs]
 simp [h1,h2,h3]
theorem lifts_of {P : Program} {ws : List (List Char)} (h : behindMainWord (wordsSigns P.initOrder.toList) = "cut".toList :: ws) : P.headLifts = [] := by
 unfold Program.headLifts
 rw [h]
 have hs : stripLifts liftWords ("cut".toList :: ws) = ([], "cut".toList :: ws) := by kernel_rfl
 simp only [hs]
 simp
theorem final_of {P : Program} {ws : List (List Char)} (h : behindMainWord (wordsSigns P.initOrder.toList) = "cut".toList :: ws) : P.liftsFinal = false := by
 unfold Program.liftsFinal
 rw [lifts_of h,h]
 have hs : ("cut".toList == "carried".toList) = false := by decide +kernel
 simp [hs]
theorem make_of {P : Program} {ws : List (List Char)} (h : behindMainWord (wordsSigns P.initOrder.toList) = "cut".toList :: ws) : P.make = some .cut := by
 unfold Program.make
 rw [h]
 simp
end Go.AM
end

section
namespace Go.AM
abbrev LL:Type:=List (List AV)
abbrev E0:LL:=[]
def ZlT (l:List (List AV)):Prop:=∀ e∈l,∃ n:Int,0≤n∧n≤255∧e = [.val (.int .u8 n)]
def Z0 (a b:List (List AV)) (k:Nat):Prop:=(a.length+b.length)*(k+1)≤Jx
def Zkl (a:Int) (k:Nat):Prop:=0≤a∧a.toNat*(k+1)≤Jx
instance (l:List (List AV)):Decidable (ZlT l):=ZfJ l
instance (a b:List (List AV)) (k:Nat):Decidable (Z0 a b k):=inferInstanceAs (Decidable ((a.length+b.length)*(k+1)≤Jx))
instance (a:Int) (k:Nat):Decidable (Zkl a k):=inferInstanceAs (Decidable (0≤a∧a.toNat*(k+1)≤Jx))
instance (l:List (List AV)):Decidable (l≠[]):=Zhn l
theorem CQ:(∀ a b:Int,(cop .lss a b=true)=(a < b))∧(∀ a b:Int,(cop .lss a b=false)=(b≤a))∧(∀ a b:Int,(cop .leq a b=true)=(a≤b))∧(∀ a b:Int,(cop .leq a b=false)=(b < a))∧
  (∀ a b:Int,(cop .gtr a b=true)=(b < a))∧(∀ a b:Int,(cop .gtr a b=false)=(a≤b))∧(∀ a b:Int,(cop .geq a b=true)=(b≤a))∧(∀ a b:Int,(cop .geq a b=false)=(a < b))∧
  (∀ a b:Int,(cop .eql a b=true)=(a=b))∧(∀ a b:Int,(cop .eql a b=false)=(a≠b))∧(∀ a b:Int,(cop .neq a b=true)=(a≠b))∧(∀ a b:Int,(cop .neq a b=false)=(a=b))∧
  (∀ b:Bool,(¬b=true)=(b=false))∧(∀ b:Bool,(¬b=false)=(b=true))∧(∀ b:Bool,((!b)=true)=(b=false))∧(∀ b:Bool,((!b)=false)=(b=true))∧
  (∀ a b:Bool,((a&&b)=true)=(a=true∧b=true))∧(∀ a b:Bool,((a||b)=true)=(a=true∨b=true))∧(∀ {p:Prop} [Decidable p],(decide p=true)=p)∧(∀ {p:Prop} {_:Decidable p},decide p=false↔¬p)∧
  ((false=true)=False)∧((true=false)=False)∧(∀ {α β:Type} (a:α) (f:α→Option β),(some a).bind f=f a)∧(∀ {α:Type} (x y:α),(some x=some y)=(x=y))∧
  (∀ p:Prop,(False↔p) = ¬p)∧(∀ p:Prop,(True↔p)=p)∧(∀ p:Prop,(p↔False) = ¬p)∧(∀ p:Prop,(p↔True)=p):=
 ⟨ZG,ZO,ZN,ZK,ZF,ZH,ZC,ZD,ZI,ZE,ZJ,ZM,Bool.not_eq_true,Bool.not_eq_false,Bool.not_eq_true',Bool.not_eq_false',Bool.and_eq_true,Bool.or_eq_true,
  @decide_eq_true_eq,@decide_eq_false_iff_not,Bool.false_eq_true,Bool.true_eq_false,@Option.bind_some,@Option.some.injEq,false_iff,true_iff,iff_false,iff_true⟩
theorem Zk {α:Type} {c:Prop} [Decidable c] {a b x:α} (h1:c→a=x) (h2:¬ c→b=x):(if c then a else b)=x:=by
 by_cases h:c
 ·rw [if_pos h];exact h1 h
 ·rw [if_neg h];exact h2 h
def STree.next:STree→STree
 | .branch _ t _ => t
 | .req _ t => t
 | .elem _ _ _ _ t => t
 | .nilq _ _ t => t
 | .call _ _ _ _ _ _ t => t
 | .loop _ _ _ t => t
 | t => t
def STree.other:STree→STree
 | .branch _ _ e => e
 | t => t
def STree.nexts:Nat→STree→STree
 | 0, t => t
 | k + 1, t => STree.nexts k t.next
def STree.go:STree→List Nat→STree
 | t, [] => t
 | t, 0 :: p => t.next.go p
 | t, 1 :: p => t.other.go p
 | t, k :: p => (STree.nexts k t).go p
@[reducible] def d2 {α β γ:Type} (r:α×β×γ):γ:=r.2.2
@[reducible] def d4 {α β γ δ ε:Type} (r:α×β×γ×δ×ε):ε:=r.2.2.2.2
@[reducible] def d8 {a b c d e f g h i:Type} (r:a×b×c×d×e×f×g×h×i):i:=d4 (d4 r)
@[reducible] def d16 {a b c d e f g h i j k l m n o p q:Type} (r:a×b×c×d×e×f×g×h×i×j×k×l×m×n×o×p×q):q:=d8 (d8 r)
def AP.hp:AP→HP
 | .c s => .c s
 | .agg l => .agg l
 | .box l => .box l
 | .gbox l => .gbox l
 | .clo g ds => .clo g ds
 | .dead => .dead
def VA:List AP→Nat→List SV
 | [], _ => []
 | a :: r, n => Zis a.hp n :: VA r (n + a.n)
def Zlc:List AP→Nat
 | [] => 0
 | a :: r => a.n + Zlc r
def apsFine (l:List AP):Bool:=l.all fun a=>a.hp.fine
theorem Zi5 (a:AP) (us:List V) (j:Nat):Zh9 a us j=Vu a.hp us j:=by cases a<;>rfl
theorem ZbT:∀ (l:List AP) (n:Nat) (us:List V),apsFine l=true→(VA l n).map (SV.den (Zmv us))=YQ l us n
 | [], _, _, _ => rfl
 | a :: r, n, us, h => by
  simp only [apsFine,List.all_cons,Bool.and_eq_true] at h
  rw [VA,List.map_cons,YQ,Zi5,ZgZ (m:=n) h.1 (ρ:=Zmv us) (us:=us) (fun j _=>rfl),ZbT r (n+a.n) us h.2]
theorem ZcK:∀ (l:List AP) (n:Nat),∀ x∈VA l n,x.bd (n+Zlc l)
 | [], _ => by simp [VA]
 | a :: r, n => by
  intro x hx
  simp only [VA,List.mem_cons] at hx
  rcases hx with rfl | hx
  ·have hb:(Zis a.hp n).bd (n+a.n):=by
    cases a with
    | c s => cases s <;> exact Nat.lt_succ_self n
    | agg l => exact J3 l n
    | box l => exact J1 l n
    | gbox l => exact J1 l n
    | clo g ds => trivial
    | dead => trivial
   exact SV.bd_mono (by simp only [Zlc];omega) _ hb
  ·have:=ZcK r (n+a.n) x hx
   rw [Zlc,← Nat.add_assoc]
   exact this
section
variable {P:Program}
theorem fun_ok {Φ : List (FuncId × Fun)} {E : Env} (hm : P.follows .mixedOrders = true) (hps : PlainSound P E.plain) {f : FuncId} {fn : Func} {S : Fun} {n : Nat} {T : STree} (hf : P.funcs[f]? = some fn) (hname : (fn.name == "runtime.NumGoroutine") = false)
  (hfine:apsFine S.args=true) (hn:Zlc S.args=n) (eq:Znm P E fn (VA S.args 0) n=T) (hΦ:ZhY P Φ) (hg:∀ vs,S.g vs=T.run P Φ S.args S.res (fun _ _=>none) (Zmv vs)):S.Ok P f:=by
 intro vs r h
 rw [hg] at h
 have:=callOk_ofR (R:=fun x os=>K2 P (os++[x]) (Z6 S.args (ZaY _ r) (ZfH S.res)++[Ki S.res (ZaY _ r) 0])) hm hps hf hname (args:=VA S.args 0) (n:=n) (ρ:=Zmv vs)
  (fun a ha=>by have:=ZcK S.args 0 a ha;rwa [Nat.zero_add,hn] at this) (fun _ _ h=>h) (by rw [eq];exact Wu hΦ (fun _ _ h=>h) T _ _ _ (fun _ _ h=>by cases h) h)
 rw [ZbT S.args 0 vs hfine] at this
 exact this
end
end Go.AM
end

section
namespace Go.AM
section
variable {P:Program} {H:Type} {enc:TypeId×Value→H} {w:World} {sp:Nat→Bool} {held:Bool}
end
end Go.AM
end

section
set_option linter.unusedVariables false
set_option linter.unusedSimpArgs false
namespace Go.AM
open Go.Shelf Go.RowKit Go.Lib
variable {P:Program}
def ZdJ {α β:Type} (R:α→β→Prop) (A:List α) (B:List β):Prop:=∀ (j:Nat) (z:α) (u:β),A[j]? = some z→B[j]? = some u→R z u
theorem ZdJ.app {α β:Type} {R:α→β→Prop} {A A':List α} {B B':List β} (hl:A.length=B.length) (h:ZdJ R A B) (h':ZdJ R A' B'):ZdJ R (A++A') (B++B'):=by
 intro j z u hz hu
 by_cases hj:j < A.length
 ·rw [List.getElem?_append_left hj] at hz
  rw [List.getElem?_append_left (by omega)] at hu
  exact h j z u hz hu
 ·rw [List.getElem?_append_right (by omega)] at hz
  rw [List.getElem?_append_right (by omega),← hl] at hu
  exact h' _ z u hz hu
theorem ZdJ.take {α β:Type} {R:α→β→Prop} {A:List α} {B:List β} (h:ZdJ R A B) (n:Nat):ZdJ R (A.take n) (B.take n):=by
 intro j z u hz hu
 rw [List.getElem?_take] at hz hu
 split at hz
 ·rename_i hj
  rw [if_pos hj] at hu
  exact h j z u hz hu
 ·cases hz
theorem ZdJ.drop {α β:Type} {R:α→β→Prop} {A:List α} {B:List β} (h:ZdJ R A B) (n:Nat):ZdJ R (A.drop n) (B.drop n):=by
 intro j z u hz hu
 rw [List.getElem?_drop] at hz hu
 exact h _ z u hz hu
theorem ZdJ.cut {α β:Type} {R:α→β→Prop} {A:List α} {B:List β} (h:ZdJ R A B) (n:Nat):ZdJ R A (B.take n):=by
 intro j z u hz hu
 rw [List.getElem?_take] at hu
 split at hu
 ·exact h j z u hz hu
 ·cases hu
theorem ZdJ.ext {α β:Type} {R:α→β→Prop} {A:List α} {B C:List β} (h:ZdJ R A B) (hl:A.length≤B.length):ZdJ R A (B++C):=by
 intro j z u hz hu
 have:=(List.getElem?_eq_some_iff.1 hz).1
 rw [List.getElem?_append_left (by omega)] at hu
 exact h j z u hz hu
theorem Ji.trans {w w1 w2:World} {l l1 l2:Nat→Nat} {S S1 S2:Nat→Prop} (h:Ji w l w1 l1 S1) (h':Ji w1 l1 w2 l2 S2) (h1:∀ b,S1 b→S b) (h2:∀ b,S2 b→S b∨w.heap.size≤b):Ji w l w2 l2 S where
 os:=h'.os.trans h.os
 tape:=h'.tape.trans h.tape
 output:=h'.output.trans h.output
 size:=Nat.le_trans h.size h'.size
 frz a ha:=(h'.frz a (Nat.lt_of_lt_of_le ha h.size)).trans (h.frz a ha)
 blk b hb hn:=by
  have k1:=h.blk b hb fun hs=>hn (h1 b hs)
  have k2:=h'.blk b (Nat.lt_of_lt_of_le hb h.size) fun hs=>(h2 b hs).elim hn (fun h=>by omega)
  exact ⟨k2.1.trans k1.1,k2.2.trans k1.2⟩
 ext:=h.ext.trans h'.ext h.size
theorem ZfN (x:Bool) {f:FuncId} {args:List AV} {e:TypeId} {zs:List (List AV)} (hc:Callable P f)
  (h:∀ (w:World) (lim:Nat→Nat) (X:Nat→Nat→Option Nat) (cargs:List Value),cargs.length≤args.length→(∀ i,ZV P w lim X (ZY args) i (ZY args i) (cargs.getD i undef))→ZhP X→(∀ i k b,X i k=some b→b < w.heap.size)→
   Calls P f cargs.toArray w fun e' w'=>∃ v lim' ob',e' = .returned v∧Jr P w' lim' true e zs v ob'∧Ji w lim w' lim' (fun b=>∃ i k,X i k=some b)∧∀ b,ob'=some b→b < w'.heap.size∧(((∃ i k,X i k=some b)∧lim b=0)∨w.heap.size≤b)) :
  JC P f args (.own x e zs) (List.replicate args.length .dead):=by
 refine ⟨hc,fun w lim X cargs hl hrel hd hs=>?_⟩
 refine (h w lim X cargs (by omega) hrel hd hs).mono ?_
 rintro e' w' ⟨v,lim1,ob',he,ho1,hw1,hb1⟩
 have hx:∃ lim',Jr P w' lim' x e zs v ob'∧Ji w lim w' lim' (fun b=>∃ i k,X i k=some b):=by
  cases x
  case true=>exact ⟨lim1,ho1,hw1⟩
  case false=>
   cases ob' with
   | none =>
    refine ⟨lim1,?_,hw1⟩
    rcases ho1 with ⟨us,h1,h2,h3,h4,h5,h6⟩ | h
    ·exact .inl ⟨us,h1,h2,fun b hb=>(by cases hb),h4,h5,h6⟩
    ·exact .inr h
   | some b0 =>
    have hl0:lim1 b0=0:=by
     rcases ho1 with ⟨us,h1,h2,h3,_⟩ | ⟨_,h,_⟩
     ·rw [h3 b0 rfl];rfl
     ·cases h
    have hbb:=hb1 b0 rfl
    have hext:Ext w' lim1 w' (KH lim1 b0 (zs.length*P.cellsOf e)):=fun b _=>by
     refine ⟨?_,fun o u _ hu=>hu⟩
     unfold KH
     split
     ·rename_i h;rw [h,hl0];exact Nat.zero_le _
     ·exact Nat.le_refl _
    refine ⟨_,Zax ho1 hext,⟨hw1.os,hw1.tape,hw1.output,hw1.size,hw1.frz,fun b hb hn=>?_,hw1.ext.trans hext hw1.size⟩⟩
    obtain ⟨k1,k2⟩:=hw1.blk b hb hn
    refine ⟨k1,?_⟩
    have hne:b≠b0:=by
     rintro rfl
     rcases hbb.2 with h1 | h1
     ·exact hn h1.1
     ·omega
    show (if b=b0 then _ else lim1 b)=lim b
    rw [if_neg hne]
    exact k2
 obtain ⟨lim',ho,hw⟩:=hx
 have hb:∀ b,ob'=some b→b < w'.heap.size∧((∃ i k,X i k=some b)∨w.heap.size≤b):=fun b hb=>⟨(hb1 b hb).1,(hb1 b hb).2.imp (·.1) id⟩
 have hat:∀ i,ZY (List.replicate args.length AV.dead++[.own x e zs]) i=if i=args.length then .own x e zs else .dead:=by
  intro i
  unfold ZY
  by_cases hi:i < args.length
  ·rw [List.getElem?_append_left (by simpa using hi),List.getElem?_replicate,if_pos hi,if_neg (by omega)];rfl
  ·rw [List.getElem?_append_right (by simpa using hi),List.length_replicate]
   by_cases hi2:i=args.length
   ·subst hi2
    rw [if_pos rfl,Nat.sub_self]
    rfl
   ·rw [if_neg hi2,List.getElem?_eq_none (by simp;omega)]
    rfl
 refine ⟨v,lim',fun i k=>if i=args.length∧k=0 then ob' else none,he,hw,by simp,fun i=>?_,?_,?_,?_⟩
 ·rw [hat]
  by_cases hi:i=args.length
  ·subst hi
   rw [if_pos rfl]
   show Jr P w' lim' x e zs _ _
   unfold V6
   rw [if_pos rfl]
   show Jr P w' lim' x e zs _ (if args.length=args.length∧0=0 then ob' else none)
   rw [if_pos ⟨rfl,rfl⟩]
   exact ho
  ·rw [if_neg hi]
   trivial
 ·intro d k d' k' b h1 h2
  dsimp only at h1 h2
  split at h1
  ·split at h2
   ·rename_i a1 a2
    exact ⟨a1.1.trans a2.1.symm,a1.2.trans a2.2.symm⟩
   ·cases h2
  ·cases h1
 ·intro i k b h1
  dsimp only at h1
  split at h1
  ·exact hb b h1
  ·cases h1
 ·intro i h1
  rw [hat] at h1
  split at h1<;>simp [AV.isG] at h1
theorem arg_int {w:World} {lim:Nat→Nat} {X:Nat→Nat→Option Nat} {σ:Nat→AV} {d:Nat} {k:IntKind} {z:Int} {v:Value} (h:ZV P w lim X σ d (.val (.int k z)) v):v = .int k z:=Yo (show Rep w lim _ v from h)
end Go.AM
end
