import Derived.Test.YtpjnmgjphfnmmaaM5
import Derived.Laws.StructEq
import Derived.WalkKit
import Derived.Lib.Walk
import Derived.Lib.SliceRun
import Derived.Lib.AppendZerosOnto
import Derived.Lib.Overlaps
import Derived.Laws.Externs
import Derived.Laws.IdiomCopy
import Derived.Shelf.RegionOpenPlain
import Derived.Test.YtpjnmgjphfnmmaaM4
import Derived.Shelf.SlIterI.Nil
import Derived.Shelf.SortM.Plain
import Derived.Shelf.SortM.SortNone
import Derived.Ground.GgzProg
import Derived.Ground.SlgmProg
import Derived.Sort.OwnSortedInts
import Derived.KernelRfl
import Derived.Test.YtpjnmgjphfnmmaaProg
open Option renaming some→Xa,none→Xe,map_some→Xo,bind_some→XM,map_eq_some_iff→XU,getD_some→UR
open Bool renaming true→Xb,false→Xc,and_eq_true→Xs,true_and→UE,not_eq_true'→UG
open Option.some renaming injEq→Xf,inj→Xr
open List renaming map_cons→Xg,mem_of_getElem?→Xh,getElem?_eq_some_iff→Xi,mem_map→Xj,getElem?_map→Xk,mem_cons→Xl,getElem?_eq_getElem→Xp,length_map→Xq,mem_append→Xt,append_assoc→Xu,getElem?_append_left→Xv,getElem?_take→Xw,getElem?_append_right→Xy,map_nil→Xz,length_append→XA,getElem?_cons_zero→XB,mem_singleton→XC,all_eq_true→XE,length_cons→XJ,cons_append→XP,nodup_cons→XS,nil_append→XX,getElem?_cons_succ→X5,mem_cons_of_mem→We,length_nil→Wi,getElem_mem→Wl,ext_getElem?→Ua,getElem?_eq_none→Uc,getElem?_set→Ug,all_cons→Ur,countP_cons→Uz,mem_append_left→UC,take_append_drop→UV,mem_cons_self→U1,mem_append_right→U5
open Prod.mk renaming injEq→Xn
open Nat renaming lt_or_ge→Xx,le_refl→XD,zero_add→XF,lt_of_lt_of_le→XI,le_add_right→XR,le_trans→XV,zero_le→Wh,lt_succ_self→Wp,add_assoc→Ub,lt_irrefl→UJ,lt_trichotomy→Ti
open Array renaming getElem?_eq_getElem→XZ
set_option linter.unusedVariables false
set_option linter.unusedSimpArgs false
set_option linter.defProp false
namespace Go.AM
section
variable {P:Program} {E:Env}
def Zfl (P:Program) (g:Nat→SV) (rs:List ResultVar):Option SV:=
 match rs with
 | [r] => (Vt P g r).map Zsi
 | rs => (VR P g rs).map .tuple
theorem Ziq {g:Nat→SV} {rs:List ResultVar} {r:SV} (h:ZoZ P g rs=Xa r) :
  (∃ t T cs,rs = [.cell t T]∧ZS P T=Xa Xb∧g t = .box cs∧cs.length=P.cellsOf T∧VT cs=Xb∧r = .aggo cs)∨Zfl P g rs=Xa r:=by
 unfold ZoZ at h
 split at h
 ·rename_i r0
  split at h
  ·rename_i cs hcs
   cases h
   unfold Zmj at hcs
   split at hcs
   ·rename_i t T
    split at hcs
    ·rename_i cs1 hT hg
     split at hcs
     ·rename_i hh
      cases hcs
      exact .inl ⟨t,T,_,rfl,hT,hg,hh.1,hh.2.2,rfl⟩
     ·cases hcs
    ·cases hcs
   ·cases hcs
  ·exact .inr h
 ·rename_i hne
  refine .inr ?_
  unfold Zfl
  split
  ·rename_i r1
   exact (hne r1 rfl).elim
  ·exact h
theorem ZmT {a:SV} {ρ:Nat→V} (h:ZeA P a=Xb):∀ e xs,a.den ρ = .own Xb e xs→Zj P e=Xc:=by
 intro e xs he
 cases a with
 | own x e' l =>
  simp only [SV.den,AV.own.injEq] at he
  obtain ⟨rfl,rfl,_⟩:=he
  simpa [ZeA] using h
 | c y => cases y <;> first | cases he | exact (Z6 he rfl).elim
 | _ => cases he
theorem Zb8 {cs:List BC} {ρ:Nat→V} {k:Nat} {e:TypeId} {xs:List (List AV)} (h:(cs.all fun c=>match c with | .own Xb e _=>!Ze P e | _=>Xb)=Xb)
  (ho:(match (cs.map (BC.den ρ))[k]? with | some (.own Xb e xs)=>Xa (e,xs) | _=>Xe)=Xa (e,xs)):Ze P e=Xc:=by
 rw [Xk] at ho
 cases hc:cs[k]? with
 | none => rw [hc] at ho; cases ho
 | some c =>
  rw [hc] at ho
  have h1:=XE.1 h c (Xh hc)
  cases c with
  | c y =>
   have hy:=J5 ρ y
   have ho':(match Xa (y.den ρ) with | some (.own Xb e xs)=>Xa (e,xs) | _=>Xe)=Xa (e,xs):=ho
   generalize y.den ρ=z at hy ho'
   cases z<;>first | cases ho' | cases hy
  | gone => cases ho
  | own x e' l =>
   cases x with
   | false => cases ho
   | true =>
    simp only [Xo,BC.den,Xf,Xn] at ho
    rw [← ho.1]
    simpa using h1
theorem Ze5 {a:SV} {ρ:Nat→V} (h:ZeA P a=Xb) {k:Nat} {e:TypeId} {xs:List (List AV)} (ho:ZY (a.den ρ) k=Xa (e,xs)):Ze P e=Xc:=by
 cases a with
 | own x e' l =>
  cases x with
  | false => cases k <;> first | cases ho | exact (Z6 ho rfl).elim
  | true =>
   cases k with
   | zero =>
    simp only [SV.den,ZY,Xf,Xn] at ho
    rw [← ho.1]
    exact ZL (by simpa [ZeA] using h)
   | succ k => cases ho
 | box cs => cases k with | zero => cases ho | succ k => exact Zb8 (ρ := ρ) h ho
 | gbox cs => cases k with | zero => cases ho | succ k => exact Zb8 (ρ := ρ) h ho
 | tuple _ => cases h
 | aggo _ => cases h
 | c y =>
  have hy:=Zav ρ y
  have ho':ZY (y.den ρ) k=Xa (e,xs):=ho
  rw [VI hy] at ho';cases ho'
 | _ => cases k <;> first | cases ho | exact (Z6 ho rfl).elim
theorem Zds {s:Tr} {r:ResultVar} {x:TC} (h:Vt P (gE E s) r=Xa x):Je r < E.top:=by
 rcases Xx (Je r) E.top with hlt | hge
 ·exact hlt
 ·have hd:gE E s (Je r) = .dead:=Zaa s _ hge
  cases r with
  | tmp t => simp only [Je] at hd; simp only [Vt, hd] at h; cases h
  | cell t T =>
   simp only [Je] at hd
   simp only [Vt,hd] at h
   cases hT:ZS P T with
   | none => rw [hT] at h; cases h
   | some b => rw [hT] at h; cases b <;> first | cases h | exact (Z6 h rfl).elim
theorem ZcK {s:Tr} : ∀ (rs:List ResultVar) (xs:List TC),VR P (gE E s) rs=Xa xs→∀ r∈rs,Je r < E.top
 | [], _, _, r, hr => by cases hr
 | r0 :: rs, xs, h, r, hr => by
  simp only [VR] at h
  split at h
  ·rename_i x xs' hx hxs
   rcases Xl.1 hr with rfl | hr
   ·exact Zds hx
   ·exact ZcK rs xs' hxs r hr
  ·cases h
theorem Zfs {s:Tr} {ρ:Nat→V} {r:ResultVar} {x:TC} (h:Vt P (gE E s) r=Xa x) {e:TypeId} {xs:List (List AV)} (hx:x.den ρ = .own Xb e xs):ZY (ZE E s ρ (Je r)) (Zbl r)=Xa (e,xs):=by
 cases r with
 | tmp t =>
  simp only [Vt] at h
  split at h
  ·rename_i y hy
   cases h
   cases y<;>first | cases hx | exact (Z6 hx rfl).elim
  ·cases h;cases hx
  ·rename_i b e' l hy
   cases h
   simp only [TC.den,AV.own.injEq] at hx
   obtain ⟨rfl,rfl,rfl⟩:=hx
   simp only [Je,Zbl,ZE,hy]
   rfl
  ·cases h
 | cell t T =>
  simp only [Vt] at h
  split at h
  ·split at h
   ·cases h;cases hx
   ·cases h
  ·rename_i bx e' l hT hy
   cases h
   simp only [TC.den,AV.own.injEq] at hx
   obtain ⟨rfl,rfl,rfl⟩:=hx
   simp only [Je,Zbl,ZE,hy]
   rfl
  ·rename_i y hT hy
   cases h
   cases y<;>first | cases hx | exact (Z6 hx rfl).elim
  ·cases h
theorem Zfo {s:Tr} {ρ:Nat→V} : ∀ (rs:List ResultVar) (xs:List TC),VR P (gE E s) rs=Xa xs→∀ (i:Nat) (x:TC) (e:TypeId) (ys:List (List AV)),xs[i]? = Xa x→x.den ρ = .own Xb e ys→∃ r,rs[i]? = Xa r∧ZY (ZE E s ρ (Je r)) (Zbl r)=Xa (e,ys)
 | [], xs, h, i, x, e, ys, hx, _ => by
  simp only [VR,Xf] at h
  subst h
  simp at hx
 | r0 :: rs, xs, h, i, x, e, ys, hx, ho => by
  simp only [VR] at h
  split at h
  ·rename_i x0 xs' h0 hxs
   cases h
   cases i with
   | zero =>
    simp only [XB,Xf] at hx
    subst hx
    exact ⟨r0,rfl,Zfs h0 ho⟩
   | succ i =>
    obtain ⟨r,h1,h2⟩:=Zfo rs xs' hxs i x e ys (by simpa using hx) ho
    exact ⟨r,by simpa using h1,h2⟩
  ·cases h
theorem ZjI (x:SV) (ρ:Nat→V):(x.den ρ).isG=x.isG:=by
 cases x with
 | c y => exact KC ρ y
 | _ => rfl
theorem Zgs {args:List SV} {ρ:Nat→V} {d:Nat} (h:(ZI (args.map (SV.den ρ)) d).isSto=Xb):∃ l,args[d]? = Xa (.store l):=by
 simp only [ZI,Xk] at h
 cases ha:args[d]? with
 | none => rw [ha] at h; cases h
 | some a =>
  rw [ha] at h
  simp only [Xo,UR,Ko] at h
  cases a with
  | store l => exact ⟨l, rfl⟩
  | _ => cases h
theorem WA:∀ (aZ:List SV) (i:Nat),Ju E aZ i=Xb→∀ (j:Nat) (l:LE),aZ[j]? = Xa (.store l)→E.st=Xa (i+j)
 | [], i, _, j, l, h => by simp at h
 | a :: aZ, i, hf, j, l, h => by
  cases j with
  | zero =>
   simp only [XB,Xf] at h
   subst h
   simp only [Ju,Xs,decide_eq_true_eq] at hf
   exact hf.1.2
  | succ j =>
   rw [show i+(j+1)=i+1+j by omega]
   exact WA aZ (i+1) (Kx hf) j l (by simpa using h)
theorem ZeL:∀ (aZ os:List SV),V4 aZ os=Xb→∀ (i:Nat) (l:LE) (y:SV),aZ[i]? = Xa (.store l)→os[i]? = Xa y→∃ l',y = .store l'
 | [], _, _, i, l, y, h, _ => by simp at h
 | _ :: _, [], _, i, l, y, _, h => by simp at h
 | a :: aZ, o :: os, hf, i, l, y, h, h' => by
  cases i with
  | zero =>
   simp only [XB,Xf] at h h'
   subst h
   subst h'
   cases o with
   | store l' => exact ⟨l', rfl⟩
   | _ => cases hf
  | succ i =>
   refine ZeL aZ os ?_ i l y (by simpa using h) (by simpa using h')
   cases a<;>first | exact hf | (cases o<;>first | exact hf | cases hf)
theorem callOk_ofR {R : AV → List AV → Prop} (hm : P.follows .mixedOrders = Xb) (hps : EnvSound P E) {f : FuncId} {fn : Func} (hf : P.funcs[f]? = Xa fn) (hname : (fn.name == "runtime.NumGoroutine") = Xc) {args : List SV} {n : Nat} {ρ : Nat → V}
  (hargs:∀ a∈args,a.bd n) {res:AV} {outs:List AV} (hR:∀ r os,R r os→Vv P (os++[r]) (outs++[res])) (h:(Ztf P E fn args n).wp P R (fun _ _=>False) ρ):Yo P f (args.map (SV.den ρ)) res outs:=by
 unfold Ztf at h
 split at h
 case h_2=>exact h.elim
 rename_i code hbody
 dsimp only at h
 split at h
 case isFalse=>exact h.elim
 rename_i hh
 obtain ⟨hnt,hnm,hal,hng,haf,hanm⟩:=hh
 have hat:=Zaw args 0 haf
 have hngb:args.length < ngN:=Nat.lt_of_le_of_lt (XV hal hnt) (by decide)
 refine ⟨⟨fn,hf,hname,by rw [hbody];rfl⟩,by rw [Xq];exact hngb,?_⟩
 intro w lim X cargs hcl hrel hdist hsize hxfar
 rw [Xq] at hxfar
 rw [Xq] at hcl
 have hgl:∀ (aZ:List SV) (i:Nat),Ju E aZ i=Xb→i+aZ.length≤E.nt+((aZ.map (SV.den ρ)).countP AV.isG)∨aZ.length≤(aZ.map (SV.den ρ)).countP AV.isG:=by
  intro aZ
  induction aZ with
  | nil => intro i _; exact .inr (Wh _)
  | cons a aZ ih =>
   intro i hf
   have h0:=Zaw (a::aZ) i hf 0 a rfl
   have hd:(a.den ρ).isG=a.isG:=ZjI a ρ
   rw [Xg,Uz,hd,XJ]
   by_cases hg:a.isG=Xb
   ·rw [if_pos hg]
    rcases ih (i+1) (Kx hf) with h1 | h1
    ·left;omega
    ·right;omega
   ·rw [if_neg hg]
    have h2:i < E.nt:=by
     rcases Xx i E.nt with h | h
     ·exact h
     ·exact (hg (h0.2.2 (by simpa using h))).elim
    rcases ih (i+1) (Kx hf) with h1 | h1
    ·left;omega
    ·left;omega
 have hcn:cargs.length≤E.nt:=by
  rcases hgl args 0 haf with h1 | h1<;>omega
 have hcd:∀ d,d < args.length→(∃ a,args[d]? = Xa a):=fun d hd=>⟨_,Xp hd⟩
 refine calls_of_wp hf hbody ?_
 let c:Ctx:=⟨P,w,lim,fun b=>∃ i k,X i k=Xa b,E.nt,fun d=>match args[d]? with | some (.box _)=>Xa (cargs.getD d undef) | _=>Xe,fun d=>match args[d]? with | some (.gbox _)=>X d 0 | _=>Xe,((args.map (SV.den ρ)).any AV.isSto)⟩
 have hlow:YL E (Wm args 0):=by
  unfold YL
  rw [XE]
  intro u hu
  have:=Zfp args 0 E.top (by omega) u hu
  simpa using this
 have hσ:ZE E (Z0 (Wm args 0) (.leaf .dead)) ρ=ZI (args.map (SV.den ρ)):=by
  rw [Jk hnt ρ _ _ hlow]
  funext d
  rw [Zfr,XF,Nat.sub_zero]
  split
  ·rfl
  ·rename_i hd
   have h1:ZE E (.leaf .dead) ρ d = .dead:=by
    simp only [ZE,gE]
    split<;>rfl
   have h2:(args.map (SV.den ρ))[d]? = Xe:=Uc (by rw [Xq];omega)
   rw [h1]
   simp only [ZI,h2]
   rfl
 have htm:∀ d,(cargs.toArray++Array.replicate (fn.ntmps-cargs.toArray.size) undef).getD d undef=cargs.getD d undef:=by
  intro d
  rw [List.getD_eq_getElem?_getD,Array.getD_eq_getD_getElem?,Array.getElem?_append]
  simp only [List.size_toArray,List.getElem?_toArray]
  split
  ·rfl
  ·rename_i h1
   rw [Uc (by omega),Array.getElem?_replicate]
   split<;>rfl
 have hpin:∀ d v,c.pin d=Xa v→(∃ cs,args[d]? = Xa (.box cs))∧v=cargs.getD d undef:=by
  intro d v hv
  have hv':(match args[d]? with | some (.box _)=>Xa (cargs.getD d undef) | _=>Xe)=Xa v:=hv
  split at hv'
  ·rename_i cs hcs
   simp only [Xf] at hv'
   exact ⟨⟨cs,hcs⟩,hv'.symm⟩
  ·cases hv'
 have hsim:Sim c (ZE E (Z0 (Wm args 0) (.leaf .dead)) ρ) (cargs.toArray++Array.replicate (fn.ntmps-cargs.toArray.size) undef) w lim X:=by
  rw [hσ]
  have hG:∀ d,(ZI (args.map (SV.den ρ)) d).isG=Xb↔∃ a,args[d]? = Xa a∧a.isG=Xb:=by
   intro d
   cases ha:args[d]? with
   | none =>
    have h2:(args.map (SV.den ρ))[d]? = Xe:=by rw [Xk,ha];rfl
    simp only [ZI,h2]
    exact ⟨fun h=>(by cases h),fun ⟨_,h,_⟩=>(by cases h)⟩
   | some a =>
    have h2:ZI (args.map (SV.den ρ)) d=a.den ρ:=by simp only [ZI,Xk,ha];rfl
    rw [h2,ZjI]
    exact ⟨fun h=>⟨a,rfl,h⟩,fun ⟨_,h,h'⟩=>by cases h;exact h'⟩
  have hst1:∀ d d',(ZI (args.map (SV.den ρ)) d).isSto=Xb→(ZI (args.map (SV.den ρ)) d').isSto=Xb→d=d':=by
   intro d d' h1 h2
   obtain ⟨l,h3⟩:=Zgs h1
   obtain ⟨l',h4⟩:=Zgs h2
   have h5:=WA args 0 haf d l h3
   have h6:=WA args 0 haf d' l' h4
   rw [h5,XF,XF] at h6
   exact Xr h6
  have hst0:((args.map (SV.den ρ)).any AV.isSto)=Xc→∀ d,(ZI (args.map (SV.den ρ)) d).isSto=Xc:=by
   intro h1 d
   cases h2:(ZI (args.map (SV.den ρ)) d).isSto with
   | false => rfl
   | true =>
    obtain ⟨l,h3⟩:=Zgs h2
    have h4:(args.map (SV.den ρ)).any AV.isSto=Xb:=List.any_eq_true.2 ⟨_,Xj.2 ⟨_,Xh h3,rfl⟩,rfl⟩
    rw [h1] at h4;cases h4
  refine ⟨fun d=>by rw [htm d];exact hrel d,?_,fun d hd=>?_,fun d hd=>?_,hdist,fun d k b hb=>⟨hsize d k b hb,.inl ⟨d,k,hb⟩⟩,⟨rfl,rfl,rfl,XD _,fun _ _=>rfl,fun _ _ _=>⟨rfl,rfl⟩,Ext.refl w lim,fun _=>rfl⟩,fun d v hv=>?_,fun d e xs hdo=>?_,fun d b hb=>?_,XV (XV (XR _ _) hnt) (by decide),fun d hd=>?_,fun d k e xs b m1 m2 _=>?_,fun b m b' hb=>?_,hst0,hst1⟩
  ·show _=E.nt
   simp
   omega
  ·cases ha:args[d]? with
   | none =>
    left
    have h2:(args.map (SV.den ρ))[d]? = Xe:=by rw [Xk,ha];rfl
    simp only [ZI,h2]
    rfl
   | some a =>
    right
    have h3:=(hat d a ha).2.2 (by rw [XF];exact hd)
    exact (hG d).2 ⟨a,ha,h3⟩
  ·obtain ⟨a,hcs,hga⟩:=(hG d).1 hd
   have:=(hat d _ hcs).2.1 hga
   rwa [XF] at this
  ·obtain ⟨⟨cs,hcs⟩,rfl⟩:=hpin d v hv
   refine ⟨htm d,cs.map (BC.den ρ),?_⟩
   simp only [ZI,Xk,hcs]
   rfl
  ·cases ha:args[d]? with
   | none =>
    have h2:(args.map (SV.den ρ))[d]? = Xe:=by rw [Xk,ha];rfl
    simp only [ZI,h2] at hdo
    cases hdo
   | some a =>
    have h2:ZI (args.map (SV.den ρ)) d=a.den ρ:=by simp only [ZI,Xk,ha];rfl
    rw [h2] at hdo
    rw [XE] at hanm
    exact .noMap (ZmT (hanm a (Xh ha)) e xs hdo)
  ·have hb':(match args[d]? with | some (.gbox _)=>X d 0 | _=>Xe)=Xa b:=hb
   split at hb'
   ·rename_i cs hcs
    exact ⟨hb',(hG d).2 ⟨_,hcs,rfl⟩⟩
   ·cases hb'
  ·have h2:(args.map (SV.den ρ))[d]? = Xe:=Uc (by rw [Xq];omega)
   simp only [ZI,h2]
   rfl
  ·exfalso
   cases ha:args[d]? with
   | none =>
    have h2:(args.map (SV.den ρ))[d]? = Xe:=by rw [Xk,ha];rfl
    simp only [ZI,h2,Option.getD_none] at m1
    cases k<;>first | cases m1 | exact (Z6 m1 rfl).elim
   | some a =>
    have h2:ZI (args.map (SV.den ρ)) d=a.den ρ:=by simp only [ZI,Xk,ha];rfl
    rw [h2] at m1
    rw [XE] at hanm
    have h3:=Ze5 (hanm a (Xh ha)) m1
    have m2':Ze P e=Xb:=m2
    rw [h3] at m2'
    cases m2'
  ·rw [hxfar _ (by omega)] at hb;cases hb
 have hfin:∀ s' n' ρ' (A':Nat→List V→Prop),YY E s' n'→((match ZmZ (gE E s') args fn.results.toList with
   | some (_, cs) => if (YA (gE E s') args 0).all (ZeA P) = Xb ∧ V4 args (YA (gE E s') args 0) = Xb then .ret (.box cs) (YA (gE E s') args 0) else .stuck 125
   | none =>
   match ZoZ P (gE E s') fn.results.toList with
   | some r => if ZbM args fn.results.toList = Xb ∧ (YA (gE E s') args 0).all (ZeA P) = Xb ∧ V4 args (YA (gE E s') args 0) = Xb then STree.ret r (YA (gE E s') args 0) else .stuck 124
   | none => .stuck 120) : STree).wp P R A' ρ' → ∀ tm' w' lim' X', Sim c (ZE E s' ρ') tm' w' lim' X' → ∃ v, (results fn tm').run P w' = .ok v w' ∧
    ∃ v1 lim1 X1,Ending.returned v = .returned v1∧VY w lim w' lim1 (fun b=>∃ i k,X i k=Xa b) ((args.map (SV.den ρ)).any AV.isSto)∧outs.length=(args.map (SV.den ρ)).length∧
     (∀ i,ZQ P w' lim1 X1 (ZI (outs++[res])) i (ZI (outs++[res]) i) (ZaK (args.map (SV.den ρ)).length cargs v1 i))∧ZlI X1∧
     (∀ i k b,X1 i k=Xa b→b < w'.heap.size∧((∃ i k,X i k=Xa b)∨w.heap.size≤b))∧(∀ i,(ZI (outs++[res]) i).isG=Xb→(ZI (args.map (SV.den ρ)) i).isG=Xb∧X1 i 0=X i 0)∧V8 P outs∧ZrX P w' lim1 X1 res (args.map (SV.den ρ)).length:=by
  intro s' n' ρ' A' _ h' tm' w' lim' X' hsim'
  obtain ⟨r,SRC,hA,hB,hval,hG0,h',hnd,hlo,hsf,hD⟩:∃ (r:SV) (SRC:Nat→Nat→Option (Nat×Nat)),(∀ i,i < args.length→∀ k,SRC i k=if (args[i]?).map SV.isBx=Xa Xb then Xa (i,k) else Xe)∧
    (∀ i k i' k' p,SRC i k=Xa p→SRC i' k'=Xa p→i=i'∧k=k')∧
    (∃ v,(results fn tm').run P w' = .ok v w'∧ZQ P w' lim' (fun i k=>(SRC i k).bind fun p=>X' p.1 p.2) (ZI ((YA (gE E s') args 0).map (SV.den ρ')++[r.den ρ'])) args.length (r.den ρ') v)∧
    (r.den ρ').isG=Xc∧(STree.ret r (YA (gE E s') args 0)).wp P R A' ρ'∧(YA (gE E s') args 0).all (ZeA P)=Xb∧(∀ i k p,SRC i k=Xa p→p.1 < ngN)∧V4 args (YA (gE E s') args 0)=Xb∧
    ∀ k e xs,ZY (r.den ρ') k=Xa (e,xs)→∀ p,SRC args.length k=Xa p→ZY (ZE E s' ρ' p.1) p.2=Xa (e,xs):=by
   split at h'
   ·rename_i d0 cs hbr
    unfold ZmZ at hbr
    split at hbr
    case h_2=>cases hbr
    rename_i t hrs
    split at hbr
    case h_2=>cases hbr
    rename_i d1 hgt
    split at hbr
    case h_2=>cases hbr
    rename_i cs1 hgd
    split at hbr
    case isFalse=>cases hbr
    rename_i hna
    simp only [Xf,Xn] at hbr
    obtain ⟨rfl,rfl⟩:=hbr
    split at h'
    case isFalse=>exact h'.elim
    rename_i hndl0
    obtain ⟨hndl,hsf0⟩:=hndl0
    have hd1:d1 < ngN:=by
     rcases Xx d1 E.top with hlt | hge
     ·exact XI hlt (XV hnt (by decide))
     ·rw [Zaa s' _ hge] at hgd;cases hgd
    have hnb:∀ a,args[d1]? = Xa a→a.isBx=Xb→False:=by
     intro a ha hax
     rw [ha] at hna
     cases a<;>simp [SV.isBx] at hax<;>cases hna
    refine ⟨.box cs1,fun i k=>if i < args.length then (if (args[i]?).map SV.isBx=Xa Xb then Xa (i,k) else Xe) else if i=args.length then Xa (d1,k) else Xe,fun i hi k=>if_pos hi,?_,?_,rfl,h',hndl,fun i k p hp=>?_,hsf0,fun k e xs ho p hp=>?_⟩
    rotate_left 2
    ·dsimp only at hp
     split at hp
     ·split at hp
      ·cases hp;dsimp only;omega
      ·cases hp
     ·split at hp
      ·cases hp;exact hd1
      ·cases hp
    ·dsimp only at hp
     rw [if_neg (UJ _),if_pos rfl] at hp
     cases hp
     show ZY (ZE E s' ρ' d1) k=_
     have e2:ZE E s' ρ' d1 = .box (cs1.map (BC.den ρ')):=by simp only [ZE,hgd];rfl
     rw [e2]
     exact ho
    ·intro i k i' k' p h1 h2
     dsimp only at h1 h2
     split at h1
     ·split at h1
      ·rename_i hi hb
       simp only [Xf] at h1
       subst h1
       obtain ⟨a,ha,hax⟩:=XU.1 hb
       split at h2
       ·split at h2
        ·simp only [Xf,Xn] at h2;exact ⟨h2.1.symm,h2.2.symm⟩
        ·cases h2
       ·split at h2
        ·simp only [Xf,Xn] at h2
         exact (hnb a (by rw [h2.1];exact ha) hax).elim
        ·cases h2
      ·cases h1
     ·split at h1
      ·rename_i hi
       simp only [Xf] at h1
       subst h1
       split at h2
       ·split at h2
        ·rename_i hi' hb
         simp only [Xf,Xn] at h2
         obtain ⟨a,ha,hax⟩:=XU.1 hb
         exact (hnb a (by rw [← h2.1];exact ha) hax).elim
        ·cases h2
       ·split at h2
        ·rename_i hi'
         simp only [Xf,Xn] at h2
         exact ⟨by rw [hi,hi'],h2.2.symm⟩
        ·cases h2
      ·cases h1
    ·have ht:=hsim'.rel t
     have hd:=hsim'.rel d1
     have e1:ZE E s' ρ' t = .ptr d1 0:=by simp only [ZE,hgt];rfl
     have e2:ZE E s' ρ' d1 = .box (cs1.map (BC.den ρ')):=by simp only [ZE,hgd];rfl
     rw [e1] at ht
     rw [e2] at hd
     obtain ⟨b,cs',hb,_,hv⟩:=ht
     have hp:ZG P w' lim' (X' d1) (cs1.map (BC.den ρ')) (tm'.getD d1 undef):=hd
     obtain ⟨b',hb',hv'⟩:=KB hp
     rw [hb] at hb'
     simp only [Xf] at hb'
     subst hb'
     refine ⟨tm'.getD t undef,?_,?_⟩
     ·exact VL (vs:=[tm'.getD t undef]) (by rw [hrs];rfl) fun i r' v' hr' hv2=>by
       rw [hrs] at hr'
       cases i with
       | zero =>
        simp only [XB,Xf] at hr' hv2
        subst hr'
        subst hv2
        rfl
       | succ i => simp at hr'
     ·show ZG P w' lim' (fun k=>((if args.length < args.length then (if (args[args.length]?).map SV.isBx=Xa Xb then Xa (args.length,k) else Xe) else if args.length=args.length then Xa (d1,k) else Xe:Option (Nat×Nat)).bind fun p=>X' p.1 p.2)) (cs1.map (BC.den ρ')) (tm'.getD t undef)
      have e3:(fun k=>((if args.length < args.length then (if (args[args.length]?).map SV.isBx=Xa Xb then Xa (args.length,k) else Xe) else if args.length=args.length then Xa (d1,k) else Xe:Option (Nat×Nat)).bind fun p=>X' p.1 p.2))=X' d1:=by
       funext k
       rw [if_neg (UJ _),if_pos rfl];rfl
      rw [e3,hv,← hv']
      exact hp
   ·split at h'
    case h_2=>exact h'.elim
    rename_i r hr
    split at h'
    case isFalse=>exact h'.elim
    rename_i hfine
    obtain ⟨hfine,hndl,hsf0⟩:=hfine
    rcases Ziq hr with ⟨t,T,cs,hrs,hT,hgt,hcl2,hwh,rfl⟩ | hr
    ·-- a struct that owns what its cells own
     have htn:t < ngN:=by
      rcases Xx t E.top with hlt | hge
      ·exact XI hlt (XV hnt (by decide))
      ·rw [Zaa s' _ hge] at hgt;cases hgt
     have hna:∀ a,args[t]? = Xa a→a.isBx=Xb→False:=by
      intro a ha hax
      have h1:ZbM args [.cell t T]=Xb:=by rw [← hrs];exact hfine
      simp only [ZbM,Xs,Ur,List.all_nil,Bool.and_true,Je] at h1
      have h2:=h1.2
      rw [ha] at h2
      cases a<;>simp [SV.isBx] at hax<;>cases h2
     have e2:ZE E s' ρ' t = .box (cs.map (BC.den ρ')):=by simp only [ZE,hgt];rfl
     refine ⟨.aggo cs,fun i k=>if i < args.length then (if (args[i]?).map SV.isBx=Xa Xb then Xa (i,k) else Xe) else if i=args.length then (if k=0 then Xe else Xa (t,k)) else Xe,fun i hi k=>if_pos hi,?_,?_,rfl,h',hndl,fun i k p hp=>?_,hsf0,fun k e xs ho p hp=>?_⟩
     ·intro i k i' k' p h1 h2
      dsimp only at h1 h2
      split at h1
      ·split at h1
       ·rename_i hi hb
        cases h1
        obtain ⟨a,ha,hax⟩:=XU.1 hb
        split at h2
        ·split at h2
         ·cases h2;exact ⟨rfl,rfl⟩
         ·cases h2
        ·split at h2
         ·split at h2
          ·cases h2
          ·simp only [Xf,Xn] at h2
           exact (hna a (by rw [h2.1];exact ha) hax).elim
         ·cases h2
       ·cases h1
      ·split at h1
       ·rename_i hi
        split at h1
        ·cases h1
        ·cases h1
         split at h2
         ·split at h2
          ·rename_i hi' hb
           simp only [Xf,Xn] at h2
           obtain ⟨a,ha,hax⟩:=XU.1 hb
           exact (hna a (by rw [← h2.1];exact ha) hax).elim
          ·cases h2
         ·split at h2
          ·rename_i hi'
           split at h2
           ·cases h2
           ·simp only [Xf,Xn] at h2
            exact ⟨by rw [hi,hi'],h2.2.symm⟩
          ·cases h2
       ·cases h1
     ·have hd:=hsim'.rel t
      rw [e2] at hd
      obtain ⟨b,arr,ty,g1,g2,g3,g4,g5,g6,g7⟩:=(show ZG P w' lim' (X' t) (cs.map (BC.den ρ')) (tm'.getD t undef) from hd)
      have hal:arr.toList.length=cs.length:=by simpa using g4
      refine ⟨.agg arr.toList.toArray,?_,?_⟩
      ·exact VL (vs:=[.agg arr.toList.toArray]) (by rw [hrs];rfl) fun i r' v' hr' hv'=>by
        rw [hrs] at hr'
        cases i with
        | zero =>
         simp only [XB,Xf] at hr' hv'
         subst hr'
         subst hv'
         obtain ⟨i,hi⟩:=Zbw hT
         have hl2:=run_loadCells_list (P:=P) w' ⟨b,0,Xe⟩ arr.toList (fun j v hj=>by rw [Jc,Zh g3,XF];simpa using hj)
         rw [hal,hcl2] at hl2
         simp [Wx,g2,asAddr,loadVar,WN hT,Zu hi,hl2]
        | succ i => simp at hr'
      ·refine ⟨arr.toList,rfl,by rw [hal,Xq],⟨g6,fun u hu=>?_⟩,fun j x u hx hu=>?_⟩
       ·obtain ⟨j,hj⟩:=List.mem_iff_getElem?.1 hu
        have hlt:j < (cs.map (BC.den ρ')).length:=by rw [Xq,← hal];exact (Xi.1 hj).1
        have hr:=g7 j _ u (Xp hlt) (by simpa using hj)
        rcases g6 _ (Wl hlt) with hx | ⟨x,e,xs,hx⟩ | hx
        ·generalize (cs.map (BC.den ρ'))[j]=y at hr hx
         cases y<;>simp [AV.isCell] at hx<;>exact Rep.oneCell hr rfl
        ·rw [hx] at hr
         exact (ZV.cells1 (show ZV P w' lim' x e xs u _ from hr)).2
        ·exact (WB hwh ρ' _ (Wl hlt) hx).elim
       ·show J8 P w' lim' ((if args.length < args.length then (if (args[args.length]?).map SV.isBx=Xa Xb then Xa (args.length,j+1) else Xe) else if args.length=args.length then (if j+1=0 then Xe else Xa (t,j+1)) else Xe:Option (Nat×Nat)).bind fun p=>X' p.1 p.2) x u
        rw [if_neg (UJ _),if_pos rfl,if_neg (by omega)]
        exact g7 j x u hx (by simpa using hu)
     ·dsimp only at hp
      split at hp
      ·split at hp
       ·cases hp;dsimp only;omega
       ·cases hp
      ·split at hp
       ·split at hp
        ·cases hp
        ·cases hp;exact htn
       ·cases hp
     ·dsimp only at hp
      rw [if_neg (UJ _),if_pos rfl] at hp
      split at hp
      ·cases hp
      ·cases hp
       show ZY (ZE E s' ρ' t) k=_
       rw [e2]
       cases k with
       | zero => cases ho
       | succ k => exact ho
    have hlo0:∀ i k p,ZgD args fn.results.toList i k=Xa p→p.1 < ngN:=by
     intro i k p hp
     have hrs:∀ r∈fn.results.toList,Je r < ngN:=by
      intro r0 hr0
      have:Je r0 < E.top:=by
       unfold Zfl at hr
       split at hr
       ·rename_i r1 hrs
        rw [hrs,XC] at hr0
        subst hr0
        obtain ⟨x,hx,_⟩:=XU.1 hr
        exact Zds hx
       ·obtain ⟨xs,hx,_⟩:=XU.1 hr
        exact ZcK _ _ hx r0 hr0
      exact XI this (XV hnt (by decide))
     unfold ZgD at hp
     split at hp
     ·split at hp
      ·cases hp;dsimp only;omega
      ·cases hp
     ·split at hp
      ·split at hp
       ·rename_i r1 hr1
        split at hp
        ·cases hp;exact hrs r1 (by rw [hr1];simp)
        ·cases hp
       ·split at hp
        ·cases hp
        ·obtain ⟨r1,hr1,rfl⟩:=XU.1 hp
         exact hrs r1 (Xh hr1)
      ·cases hp
    have hD0:∀ k e xs,ZY (r.den ρ') k=Xa (e,xs)→∀ p,ZgD args fn.results.toList args.length k=Xa p→ZY (ZE E s' ρ' p.1) p.2=Xa (e,xs):=by
     intro k e xs ho p hp
     have hrow:∀ k,ZgD args fn.results.toList args.length k=match fn.results.toList with
       | [r] => if k = 0 then Xa (Je r, Zbl r) else Xe
       | rs => match k with | 0 => Xe | k + 1 => (rs[k]?).map fun r => (Je r, Zbl r) := by
      intro k
      unfold ZgD
      rw [if_neg (UJ _),if_pos rfl]
      all_goals rfl
     rw [hrow] at hp
     unfold Zfl at hr
     split at hr
     ·rename_i r1 hrs
      obtain ⟨x,hx,rfl⟩:=XU.1 hr
      rw [hrs] at hp
      dsimp only at hp
      split at hp
      ·rename_i hk
       subst hk
       cases hp
       rw [Zcr] at ho
       refine Zfs hx ?_
       cases x with
       | c y =>
        have hy:=Zav ρ' y
        have ho':ZY (y.den ρ') 0=Xa (e,xs):=ho
        rw [VI hy] at ho';cases ho'
       | agg cs => cases ho
       | gone => cases ho
       | own b e' l =>
        cases b with
        | false => cases ho
        | true =>
         simp only [TC.den,ZY,Xf,Xn] at ho ⊢
         obtain ⟨rfl,rfl⟩:=ho
         rfl
      ·cases hp
     ·rename_i hne
      obtain ⟨xs1,hx,rfl⟩:=XU.1 hr
      split at hp
      ·rename_i r1 hr1;exact (hne r1 hr1).elim
      ·cases k with
       | zero => cases hp
       | succ k =>
        obtain ⟨r1,hr1,rfl⟩:=XU.1 hp
        simp only [SV.den,ZY] at ho
        split at ho
        ·rename_i e1 ys1 hk
         simp only [Xf,Xn] at ho
         obtain ⟨rfl,rfl⟩:=ho
         rw [Xk] at hk
         obtain ⟨x,hxk,hxd⟩:=XU.1 hk
         obtain ⟨r2,h1,h2⟩:=Zfo (ρ:=ρ') _ _ hx k x e1 ys1 hxk hxd
         rw [hr1] at h1
         cases h1
         exact h2
        ·cases ho
    refine ⟨r,ZgD args fn.results.toList,fun i hi k=>?_,fun i k i' k' p h1 h2=>Zp3 hfine h1 h2,?_,?_,h',hndl,hlo0,hsf0,hD0⟩
    ·unfold ZgD;rw [if_pos hi]
    ·generalize (YA (gE E s') args 0).map (SV.den ρ')=outs0
     have hrow:∀ k,ZgD args fn.results.toList args.length k=match fn.results.toList with
       | [r] => if k = 0 then Xa (Je r, Zbl r) else Xe
       | rs => match k with | 0 => Xe | k + 1 => (rs[k]?).map fun r => (Je r, Zbl r) := by
      intro k
      unfold ZgD
      rw [if_neg (UJ _),if_pos rfl]
      all_goals rfl
     unfold Zfl at hr
     split at hr
     ·rename_i r0 hrs
      cases hx:Vt P (gE E s') r0 with
      | none => simp [hx] at hr
      | some x =>
       simp only [hx,Xo,Xf] at hr
       subst hr
       rw [Zcr]
       obtain ⟨v,h1,h2⟩:=Zh9 (c:=c) rfl hsim' hx
       refine ⟨v,?_,Zin ?_⟩
       ·exact VL (vs:=[v]) (by rw [hrs];rfl) fun i r' v' hr' hv'=>by
         rw [hrs] at hr'
         cases i with
         | zero =>
          simp only [XB,Xf] at hr' hv'
          subst hr'
          subst hv'
          exact h1
         | succ i => simp at hr'
       ·show J8 P w' lim' ((ZgD args fn.results.toList args.length 0).bind fun p=>X' p.1 p.2) _ v
        rw [hrow,hrs]
        exact h2
     ·rename_i hne
      cases hx:VR P (gE E s') fn.results.toList with
      | none => simp [hx] at hr
      | some xs =>
       simp only [hx,Xo,Xf] at hr
       subst hr
       obtain ⟨vs,g1,g2,g3⟩:=Zg5 (c:=c) rfl hsim' _ _ hx
       have hne1:∀ v,vs≠[v]:=by
        intro v hv
        rw [hv] at g1
        obtain ⟨r',hr'⟩:=List.length_eq_one_iff.1 g1
        exact hne r' hr'
       refine ⟨.tuple vs.toArray,?_,?_⟩
       ·have:=VL g1 fun i r' v' hr' hv'=>(g3 i r' v' hr' hv').1
        rw [this]
        rcases vs with _ | ⟨v,_ | ⟨u,l⟩⟩
        ·rfl
        ·exact (hne1 v rfl).elim
        ·rfl
       ·refine ⟨vs,rfl,by simp [g2],fun i y u hy hu=>?_⟩
        rw [Xk] at hy
        cases hxi:xs[i]? with
        | none => simp [hxi] at hy
        | some x =>
         simp only [hxi,Xo,Xf] at hy
         subst hy
         obtain ⟨r',hr'⟩:∃ r',fn.results.toList[i]? = Xa r':=⟨_,Xp (by rw [g1];exact (Xi.1 hu).1)⟩
         have h3:=(g3 i r' u hr' hu).2 x hxi
         have hsrc:ZgD args fn.results.toList args.length (i+1)=Xa (Je r',Zbl r'):=by
          rw [hrow]
          split
          ·rename_i r1 hr1;exact (hne r1 hr1).elim
          ·simp [hr']
         show J8 P w' lim' ((ZgD args fn.results.toList args.length (i+1)).bind fun p=>X' p.1 p.2) _ u
         rw [hsrc]
         exact h3
    ·unfold Zfl at hr
     split at hr
     ·obtain ⟨x,_,rfl⟩:=XU.1 hr
      rw [Zcr]
      cases x with
      | c y => exact KC ρ' y
      | _ => rfl
     ·obtain ⟨x,_,rfl⟩:=XU.1 hr
      rfl
  obtain ⟨res0,hres⟩:∃ y,SV.den ρ' r=y:=⟨_,rfl⟩
  obtain ⟨outs0,houts⟩:∃ y,(YA (gE E s') args 0).map (SV.den ρ')=y:=⟨_,rfl⟩
  have hww:=hR _ _ h'
  rw [hres,houts] at hww
  suffices hz:∃ v,(results fn tm').run P w' = .ok v w'∧
    ∃ v1 lim1 X1,Ending.returned v = .returned v1∧VY w lim w' lim1 (fun b=>∃ i k,X i k=Xa b) ((args.map (SV.den ρ)).any AV.isSto)∧outs0.length=(args.map (SV.den ρ)).length∧
     (∀ i,ZQ P w' lim1 X1 (ZI (outs0++[res0])) i (ZI (outs0++[res0]) i) (ZaK (args.map (SV.den ρ)).length cargs v1 i))∧ZlI X1∧
     (∀ i k b,X1 i k=Xa b→b < w'.heap.size∧((∃ i k,X i k=Xa b)∨w.heap.size≤b))∧(∀ i,(ZI (outs0++[res0]) i).isG=Xb→(ZI (args.map (SV.den ρ)) i).isG=Xb∧X1 i 0=X i 0)∧V8 P outs0∧ZrX P w' lim1 X1 res0 (args.map (SV.den ρ)).length by
   obtain ⟨v,hrun,v1,lim1,X1,he,hst,hol,hr,hd,hin,hgh,hnl,hnr⟩:=hz
   obtain ⟨X3,k1,k3,k2,k4⟩:=Zfj hr hww
   have hX3:∀ i k b,X3 i k=Xa b→X1 i k=Xa b:=by
    intro i k b hb
    rcases k1 i k with e | e
    ·rw [← e];exact hb
    ·rw [e] at hb;cases hb
   have hll:outs0.length=outs.length:=by have:=hww.1;simpa using this
   refine ⟨v,hrun,v1,lim1,X3,he,hst,by rw [← hll,hol],k2,Zg3 hd k1,fun i k b hb=>hin i k b (hX3 i k b hb),fun i hi=>?_,Zi8 hww hnl,fun k e xs b m1 m2 m3=>?_⟩
   ·obtain ⟨m1,m2⟩:=hgh i (Zgi hww hi)
    exact ⟨m1,by rw [k3 i (ZbJ hi),m2]⟩
   ·have hal2:outs0.length=args.length:=by rw [hol,Xq]
    rw [← Zg0 (aZ:=outs) (x:=res)] at m1
    have h1:=ZdK hww m1 m2
    rw [← hll,Zg0] at h1
    rw [k4 _ (by simp;omega)]
    exact hnr k e xs b h1 m2 (hX3 _ _ _ m3)
  rw [hres,houts] at hval
  obtain ⟨v,hv1,hv2⟩:=hval
  have hol:outs0.length=args.length:=by rw [← houts,Xq,ZhD]
  have hrt:∀ i,ZaK (args.map (SV.den ρ)).length cargs v i=if i=args.length then v else cargs.getD i undef:=by
   intro i
   unfold ZaK
   rw [Xq]
  have hout:∀ i,i < args.length→ZI (outs0++[res0]) i=match args[i]? with | some a=>if a.isBx=Xb then ZE E s' ρ' i else .dead | none=>.dead:=by
   intro i hi
   simp only [ZI]
   rw [Xv (by omega),← houts,Xk,Zgv,XF]
   have:=Xp hi
   rw [this]
   simp only [Xo,UR]
   split<;>rfl
  have hgpn:∀ i cs,args[i]? = Xa (.gbox cs)→X' i 0=X i 0∧(ZE E s' ρ' i).isG=Xb∧∃ b,X i 0=Xa b:=by
   intro i cs hcs
   have hri:=hrel i
   have h2:ZI (args.map (SV.den ρ)) i = .gbox (cs.map (BC.den ρ)):=by simp only [ZI,Xk,hcs];rfl
   rw [h2] at hri
   obtain ⟨v',hp⟩:=hri
   obtain ⟨b,hb,_⟩:=KB hp
   obtain ⟨g1,g2⟩:=hsim'.gpin i b (by show (match args[i]? with | some (.gbox _)=>X i 0 | _=>Xe)=_;rw [hcs];exact hb)
   exact ⟨by rw [g1,hb],g2,b,hb⟩
  have hstoO:∀ i l,args[i]? = Xa (.store l)→∃ rows,ZE E s' ρ' i = .store rows:=by
   intro i l hl
   have h9:(YA (gE E s') args 0)[i]? = Xa (gE E s' i):=by
    rw [Zgv,hl,XF];rfl
   obtain ⟨l',hl'⟩:=ZeL _ _ hsf i l _ hl h9
   exact ⟨l'.den ρ',by simp only [ZE,hl',SV.den]⟩
  obtain ⟨SRC2,hS2⟩:∃ SRC2:Nat→Nat→Option (Nat×Nat),SRC2=fun i k=>if ngN≤i then Xa (i,k) else SRC i k:=⟨_,rfl⟩
  have hSlo:∀ i,i < ngN→∀ k,SRC2 i k=SRC i k:=fun i hi k=>by rw [hS2];exact if_neg (by omega)
  have hShi:∀ i,ngN≤i→∀ k,SRC2 i k=Xa (i,k):=fun i hi k=>by rw [hS2];exact if_pos hi
  have hA:∀ i,i < args.length→∀ k,SRC2 i k=if (args[i]?).map SV.isBx=Xa Xb then Xa (i,k) else Xe:=fun i hi k=>(hSlo i (by omega) k).trans (hA i hi k)
  have hB2:∀ i k i' k' p,SRC2 i k=Xa p→SRC2 i' k'=Xa p→i=i'∧k=k':=fun i k i' k' p h1 h2=>by
   rcases Xx i ngN with hi | hi<;>rcases Xx i' ngN with hi' | hi'
   ·rw [hSlo i hi] at h1;rw [hSlo i' hi'] at h2;exact hB i k i' k' p h1 h2
   ·rw [hSlo i hi] at h1;rw [hShi i' hi'] at h2;cases h2;have:=hlo i k _ h1;dsimp only at this;omega
   ·rw [hShi i hi] at h1;rw [hSlo i' hi'] at h2;cases h1;have:=hlo i' k' _ h2;dsimp only at this;omega
   ·rw [hShi i hi] at h1;rw [hShi i' hi'] at h2;cases h1;cases h2;exact ⟨rfl,rfl⟩
  have hdlt:∀ d,ZI (outs0++[res0]) d≠.dead→d < ngN:=fun d hd=>by
   rcases Xx d ngN with h | h
   ·exact h
   ·refine (hd ?_).elim
    have:(outs0++[res0])[d]? = Xe:=Uc (by simp;omega)
    simp only [ZI,this]
    rfl
  have hv2:ZQ P w' lim' (fun i k=>(SRC2 i k).bind fun p=>X' p.1 p.2) (ZI (outs0++[res0])) args.length res0 v:=by
   have hrow:∀ i,i < ngN→(fun k=>(SRC2 i k).bind fun p=>X' p.1 p.2)=fun k=>(SRC i k).bind fun p=>X' p.1 p.2:=fun i hi=>by
    funext k;rw [hSlo i hi]
   have hat:∀ i,i < ngN→∀ k,(SRC2 i k).bind (fun p=>X' p.1 p.2)=(SRC i k).bind fun p=>X' p.1 p.2:=fun i hi k=>by rw [hSlo i hi]
   refine hv2.chg (hrow _ (by omega)) (fun d' cs hd'=>⟨⟨cs,hd'⟩,hat d' (hdlt d' (by rw [hd'];exact fun h=>by cases h)) 0⟩) (fun d' hd'=>⟨hd',hat d' (hdlt d' (by intro h;rw [h] at hd';cases hd')) 0⟩) fun d' k hr=>⟨KO.refl _ _,?_⟩
   obtain ⟨p,hp⟩:=ZgT hv2 hr
   exact hat d' (hdlt d' (by intro h;rw [h] at hp;cases hp)) k
  have hlow2:∀ k p,SRC2 args.length k=Xa p→SRC args.length k=Xa p:=fun k p hp=>by rw [← hSlo _ hngb];exact hp
  refine ⟨v,hv1,v,lim',fun i k=>(SRC2 i k).bind fun p=>X' p.1 p.2,rfl,⟨hsim'.frm.os,hsim'.frm.tape,hsim'.frm.output,hsim'.frm.size,hsim'.frm.frz,hsim'.frm.blk,hsim'.frm.ext,hsim'.frm.t⟩,by rw [hol,Xq],fun i=>?_,fun d k d' k' b hb hb'=>?_,fun i k b hb=>?_,fun i hi=>?_,fun i k e xs hi=>?_,fun k e xs b m1 m2 m3=>?_⟩
  ·rw [hrt]
   rcases Ti i args.length with hi | hi | hi
   ·rw [if_neg (by omega),hout i hi]
    obtain ⟨a,ha⟩:=hcd i hi
    rw [ha]
    dsimp only
    have hrow:a.isBx=Xb→(fun k=>(SRC2 i k).bind fun p=>X' p.1 p.2)=X' i:=by
     intro hbx
     funext k
     rw [hA i hi k,ha,if_pos (by simp [hbx])]
     rfl
    cases a with
    | box cs =>
     rw [if_pos (show (SV.box cs).isBx=Xb from rfl)]
     obtain ⟨p1,cs',p2⟩:=hsim'.pin i (cargs.getD i undef) (by show (match args[i]? with | some (.box _)=>Xa (cargs.getD i undef) | _=>Xe)=_;rw [ha])
     have hrl:=hsim'.rel i
     rw [p2,p1] at hrl
     rw [p2]
     show ZG P w' lim' (fun k=>(SRC2 i k).bind fun p=>X' p.1 p.2) cs' _
     rw [hrow rfl]
     exact hrl
    | gbox cs =>
     rw [if_pos (show (SV.gbox cs).isBx=Xb from rfl)]
     obtain ⟨g1,g2,g3⟩:=hgpn i cs ha
     have hrl:=hsim'.rel i
     generalize ZE E s' ρ' i=x at g2 hrl
     cases x<;>simp [AV.isG] at g2
     rotate_left
     ·obtain ⟨b,hb⟩:=g3;rw [hrl.2.1,hb] at g1;cases g1
     obtain ⟨v',hrl⟩:=hrl
     refine ⟨v',?_⟩
     show ZG P w' lim' (fun k=>(SRC2 i k).bind fun p=>X' p.1 p.2) _ v'
     rw [hrow rfl]
     exact hrl
    | store l =>
     rw [if_pos (show (SV.store l).isBx=Xb from rfl)]
     obtain ⟨rows,hrw⟩:=hstoO i l ha
     have hrl:=hsim'.rel i
     rw [hrw] at hrl
     rw [hrw]
     show YG P w' lim' (fun k=>(SRC2 i k).bind fun p=>X' p.1 p.2) rows
     rw [hrow rfl]
     exact hrl
    | _ => exact trivial
   ·subst hi
    have hout:ZI (outs0++[res0]) args.length=res0:=by
     simp only [ZI]
     rw [Xy (by omega),hol]
     simp
    rw [if_pos rfl,hout]
    exact hv2
   ·have hout:ZI (outs0++[res0]) i = .dead:=by
     simp only [ZI]
     rw [Uc (by simp;omega)]
     rfl
    rw [hout]
    trivial
  ·cases hp:SRC2 d k with
   | none => simp [hp] at hb
   | some p =>
    cases hp':SRC2 d' k' with
    | none => simp [hp'] at hb'
    | some p' =>
     simp only [hp,hp',XM] at hb hb'
     obtain ⟨e1,e2⟩:=hsim'.dist _ _ _ _ b hb hb'
     have:p=p':=Prod.ext e1 e2
     subst this
     exact hB2 _ _ _ _ _ hp hp'
  ·cases hp:SRC2 i k with
   | none => simp [hp] at hb
   | some p =>
    simp only [hp,XM] at hb
    exact hsim'.ours _ _ b hb
  ·rcases Ti i args.length with hl | hl | hl
   ·rw [hout i hl] at hi
    obtain ⟨a,ha⟩:=hcd i hl
    rw [ha] at hi
    dsimp only at hi
    cases a with
    | gbox cs =>
     obtain ⟨g1,g2,g3⟩:=hgpn i cs ha
     refine ⟨by simp only [ZI,Xk,ha];rfl,?_⟩
     show (SRC2 i 0).bind (fun p=>X' p.1 p.2)=X i 0
     rw [hA i hl 0,ha,if_pos (show (Xa (SV.gbox cs)).map SV.isBx=Xa Xb from rfl)]
     exact g1
    | box cs =>
     obtain ⟨p1,cs',p2⟩:=hsim'.pin i (cargs.getD i undef) (by show (match args[i]? with | some (.box _)=>Xa (cargs.getD i undef) | _=>Xe)=_;rw [ha])
     rw [if_pos (show (SV.box cs).isBx=Xb from rfl),p2] at hi
     cases hi
    | store l =>
     obtain ⟨rows,hrw⟩:=hstoO i l ha
     have hrl:=hsim'.rel i
     rw [hrw] at hrl
     have hri:=hrel i
     rw [show ZI (args.map (SV.den ρ)) i = .store (l.den ρ) by simp only [ZI,Xk,ha];rfl] at hri
     refine ⟨by simp only [ZI,Xk,ha];rfl,?_⟩
     show (SRC2 i 0).bind (fun p=>X' p.1 p.2)=X i 0
     rw [hA i hl 0,ha,if_pos (show (Xa (SV.store l)).map SV.isBx=Xa Xb from rfl)]
     exact hrl.2.1.trans hri.2.1.symm
    | _ => cases hi
   ·subst hl
    have hres0:ZI (outs0++[res0]) args.length=res0:=by
     simp only [ZI]
     rw [Xy (by omega),hol]
     simp
    rw [hres0,← hres,hG0] at hi
    cases hi
   ·have:ZI (outs0++[res0]) i = .dead:=by
     simp only [ZI]
     rw [Uc (by simp;omega)]
     rfl
    rw [this] at hi
    cases hi
  ·cases hd:Ze P e with
   | false => rfl
   | true =>
    exfalso
    rw [← houts] at hi
    cases hg:(YA (gE E s') args 0)[i]? with
    | none =>
     have h2:((YA (gE E s') args 0).map (SV.den ρ'))[i]? = Xe:=by rw [Xk,hg];rfl
     simp only [ZI,h2,Option.getD_none] at hi
     cases k<;>first | cases hi | exact (Z6 hi rfl).elim
    | some a =>
     have h2:ZI ((YA (gE E s') args 0).map (SV.den ρ')) i=a.den ρ':=by simp only [ZI,Xk,hg];rfl
     rw [h2] at hi
     rw [Ze5 (XE.1 hnd a (Xh hg)) hi] at hd
     cases hd
  ·rw [Xq] at m3
   have m3':(SRC2 args.length k).bind (fun p=>X' p.1 p.2)=Xa b:=m3
   cases hp:SRC2 args.length k with
   | none => rw [hp] at m3'; cases m3'
   | some p =>
    rw [hp] at m3'
    rw [← hres] at m1
    have h1:=hD k e xs m1 p (hlow2 k p hp)
    have h2:=hsim'.nst p.1 p.2 e xs b h1 m2 m3'
    have h3:(fun k=>(SRC2 (ngN+b) k).bind fun p=>X' p.1 p.2)=X' (ngN+b):=by
     funext k
     rw [hShi _ (XR _ _)]
     rfl
    show VZ P w' lim' e xs b (fun k=>(SRC2 (ngN+b) k).bind fun p=>X' p.1 p.2)
    rw [h3]
    exact h2
 refine Zo0 hm hps hnt (c:=c) rfl rfl (fun d v hv=>?_) (fun d b hb=>?_) code 0 n _ _ _ _ _ ρ _ w lim X _ ?_ h hsim ?_ ?_ ?_
 ·obtain ⟨⟨cs,hcs⟩,_⟩:=hpin d v hv
  have:=(hat d _ hcs).1 cs rfl
  rwa [XF] at this
 ·have hb':(match args[d]? with | some (.gbox _)=>X d 0 | _=>Xe)=Xa b:=hb
  split at hb'
  ·rename_i cs hcs
   have h1:=(hat d _ hcs).2.1 rfl
   have h2:=(Xi.1 hcs).1
   exact ⟨by omega,by omega⟩
  ·cases hb'
 ·refine Jf hnt _ _ hlow (fun d=>?_) (Zhj args 0 hargs)
  unfold gE
  split<;>trivial
 ·intro s' n' ρ' A' _ hs' h' tm' w' lim' X' hsim'
  obtain ⟨g1,lim2,X2,g2⟩:=Zf8 (P:=P) (E:=E) hnt rfl (id:=1000000) (ops:=#[]) hs' hsim'
  obtain ⟨v,h1,h2⟩:=hfin _ n' ρ' A' g1 h' tm' w' lim2 X2 g2
  exact ⟨rfl,v,h1,h2⟩
 ·intro id s' n' ρ' A' _ hs' h'
  exact h'.elim
 ·intro s' n' ρ' A' _ hs' h' tm' w' lim' X' hsim'
  obtain ⟨g1,lim2,X2,g2⟩:=Zf8 (P:=P) (E:=E) hnt rfl (id:=1000000) (ops:=#[]) hs' hsim'
  obtain ⟨v,h1,h2⟩:=hfin _ n' ρ' A' g1 h' tm' w' lim2 X2 g2
  exact ⟨rfl,v,h1,h2⟩
end
def ZpH (P:Program) (rec:TypeId→Bool) (e:Nat):List Field→Nat→Bool
 | [], _ => Xb
 | f :: fs, off => (f.name != "_") && (f.offset == off) &&
  (match P.underlying f.type with
   | some (.int _) => Xb
   | some .bool => Xb
   | some (.struct _) => rec f.type && (P.info? f.type).isSome
   | _ => Xc) &&
  (match YZ P e f.type with | some l=>(P.cellsOf f.type == l.length)&&ZpH P rec e fs (off+l.length) | none=>Xc)
def Zlh (P:Program):Nat→TypeId→Bool
 | 0, _ => Xc
 | e + 1, T =>
  match P.underlying T with
  | some (.struct fs) => ZpH P (Zlh P e) e fs.toList 0 && !P.stoodInHeld T
  | _ => Xc
def Zsk (P:Program) (T:TypeId):Bool:=Zlh P 8 T&&!P.eqGuardType P.depth T
theorem WS:∀ (L1 L2:List Sh) (us:List Value),Kq (L1++L2) us→Kq L1 (us.take L1.length)∧Kq L2 (us.drop L1.length)∧(us.take L1.length).length=L1.length
 | [], L2, us, h => ⟨by simp [Kq], by simpa using h, by simp⟩
 | s :: L1, L2, [], h => by cases s <;> exact h.elim
 | s :: L1, L2, u :: us, h => by
  cases s<;>cases u<;>try exact h.elim
  ·obtain ⟨h1,h2,h3⟩:=WS L1 L2 us h.2
   exact ⟨⟨h.1,h1⟩,h2,by simpa using h3⟩
  ·obtain ⟨h1,h2,h3⟩:=WS L1 L2 us h
   exact ⟨h1,h2,by simpa using h3⟩
theorem ZiE:∀ (L:List Sh) (a c b d:List Value),Kq L a→Kq L c→eqV (a++b) (c++d)=(eqV a c&&eqV b d)
 | [], [], [], b, d, _, _ => by simp [eqV]
 | [], _ :: _, _, _, _, h, _ => h.elim
 | [], [], _ :: _, _, _, _, h => h.elim
 | s :: L, [], _, _, _, h, _ => by cases s <;> exact h.elim
 | s :: L, _ :: _, [], _, _, _, h => by cases s <;> exact h.elim
 | s :: L, x :: a, y :: c, b, d, h, h' => by
  cases s<;>cases x<;>(try exact h.elim)<;>cases y<;>try exact h'.elim
  ·simp only [XP,eqV,ZiE L a c b d h.2 h'.2,Bool.and_assoc]
  ·simp only [XP,eqV,ZiE L a c b d h h',Bool.and_assoc]
section
variable {P:Program}
def Zqv (P:Program) (e k:Nat) (T:TypeId):Prop:=∀ (L:List Sh) (us vs:List Value) (w:World),YZ P e T=Xa L→Kq L us→Kq L vs→
 (Op.equalIn (k+e) T (.agg us.toArray) (.agg vs.toArray)).run P w = .ok (eqV us vs) w
theorem ZdO (e k:Nat) (rec:TypeId→Bool) (hrec:∀ T,rec T=Xb→Zqv P e k T) (w:World) (us vs:List Value):∀ (fs:List Field) (n:Nat) (L:List Sh),ZpH P rec e fs n=Xb→
  fs.foldr (fun f acc=>match YZ P e f.type,acc with | some a,Xa b=>Xa (a++b) | _,_=>Xe) (Xa [])=Xa L→Kq L (us.drop n)→Kq L (vs.drop n)→
  (Op.eqFields (k+e) us.toArray vs.toArray fs).run P w = .ok (eqV (us.drop n) (vs.drop n)) w
 | [], n, L, _, hL, hu, hv => by
  simp only [List.foldr_nil,Xf] at hL
  subst hL
  cases h:us.drop n with
  | nil => simp [Op.eqFields, eqV]
  | cons x l => rw [h] at hu; exact hu.elim
 | f :: fs, n, L, hf, hL, hu, hv => by
  simp only [ZpH,Xs,bne_iff_ne,ne_eq,beq_iff_eq] at hf
  obtain ⟨⟨⟨hname,hoff⟩,hty⟩,hrest⟩:=hf
  simp only [List.foldr_cons] at hL
  split at hL
  case h_2=>cases hL
  rename_i a L' ha hL'
  simp only [Xf] at hL
  subst hL
  rw [ha] at hrest
  simp only [Xs,beq_iff_eq] at hrest
  obtain ⟨hcells,hrest⟩:=hrest
  obtain ⟨u1,u2,u3⟩:=WS a L' _ hu
  obtain ⟨v1,v2,v3⟩:=WS a L' _ hv
  rw [List.drop_drop] at u2 v2
  have ih:=ZdO e k rec hrec w us vs fs (n+a.length) L' hrest hL' u2 v2
  have hus:us.drop n=(us.drop n).take a.length++us.drop (n+a.length):=by
   rw [← List.drop_drop,UV]
  have hvs:vs.drop n=(vs.drop n).take a.length++vs.drop (n+a.length):=by
   rw [← List.drop_drop,UV]
  have hev:eqV (us.drop n) (vs.drop n)=(eqV ((us.drop n).take a.length) ((vs.drop n).take a.length)&&eqV (us.drop (n+a.length)) (vs.drop (n+a.length))):=by
   rw [hus,hvs]
   have:=ZiE a ((us.drop n).take a.length) ((vs.drop n).take a.length) (us.drop (n+a.length)) (vs.drop (n+a.length)) u1 v1
   rw [← hus,← hvs] at this ⊢
   exact this
  rw [hev]
  -- the field's value
  suffices hx:∃ x y,(part f.type us.toArray f.offset).run P w = .ok x w∧(part f.type vs.toArray f.offset).run P w = .ok y w∧(Op.equalIn (k+e) f.type x y).run P w = .ok (eqV ((us.drop n).take a.length) ((vs.drop n).take a.length)) w by
   obtain ⟨x,y,p1,p2,p3⟩:=hx
   simp only [Op.eqFields,hname,ne_eq,not_false_eq_true,if_true,Sem.run_bind,p1,p2,p3,Result.andThen_ok,Sem.run_ite]
   cases h:eqV ((us.drop n).take a.length) ((vs.drop n).take a.length)
   ·simp
   ·simpa using ih
  have he:∃ e',e=e'+1:=by
   cases e with
   | zero => simp [YZ] at ha
   | succ e' => exact ⟨e', rfl⟩
  obtain ⟨e',rfl⟩:=he
  have one:∀ (l:List Value),((l.drop n).take 1).length=1→∃ x,(l.drop n).take 1 = [x]∧l[n]? = Xa x:=by
   intro l hl
   cases h:l.drop n with
   | nil => rw [h] at hl; simp at hl
   | cons x r =>
    refine ⟨x,rfl,?_⟩
    have:=congrArg (fun l=>l[0]?) h
    simpa using this
  split at hty
  ·rename_i kk hk
   have ha':a = [.int kk]:=by
    simp only [YZ,hk,Xf] at ha
    exact ha.symm
   subst ha'
   obtain ⟨x,x1,x2⟩:=one us u3
   obtain ⟨y,y1,y2⟩:=one vs v3
   simp only [XJ,Wi,XF] at u1 v1 ⊢
   rw [x1] at u1 ⊢
   rw [y1] at v1 ⊢
   cases x<;>try exact u1.elim
   cases y<;>try exact v1.elim
   obtain ⟨rfl,_⟩:=u1
   obtain ⟨rfl,_⟩:=v1
   have p1:∀ (l:List Value) (x:Value),l[n]? = Xa x→(part f.type l.toArray f.offset).run P w = .ok x w:=by
    intro l x h
    rw [hoff]
    have:l.toArray[n]? = Xa x:=by simpa using h
    simp [part,isAgg,run_underlying hk,this]
   refine ⟨_,_,p1 us _ x2,p1 vs _ y2,?_⟩
   rw [show k+(e'+1)=(k+e')+1 from rfl,run_equalIn_int w (k+e') f.type _ _ _ _ hk]
   simp [eqV]
  ·rename_i hk
   have ha':a = [.bool]:=by
    simp only [YZ,hk,Xf] at ha
    exact ha.symm
   subst ha'
   obtain ⟨x,x1,x2⟩:=one us u3
   obtain ⟨y,y1,y2⟩:=one vs v3
   simp only [XJ,Wi,XF] at u1 v1 ⊢
   rw [x1] at u1 ⊢
   rw [y1] at v1 ⊢
   cases x<;>try exact u1.elim
   cases y<;>try exact v1.elim
   have p1:∀ (l:List Value) (x:Value),l[n]? = Xa x→(part f.type l.toArray f.offset).run P w = .ok x w:=by
    intro l x h
    rw [hoff]
    have:l.toArray[n]? = Xa x:=by simpa using h
    simp [part,isAgg,run_underlying hk,this]
   refine ⟨_,_,p1 us _ x2,p1 vs _ y2,?_⟩
   rw [show k+(e'+1)=(k+e')+1 from rfl,run_equalIn_bool' w (k+e') f.type _ _ hk]
   simp [eqV]
  ·rename_i gs hk
   rw [Xs] at hty
   obtain ⟨inf,hinf⟩:=Option.isSome_iff_exists.1 hty.2
   have hsz:P.cellsOf f.type=inf.size:=ZH hinf
   have p1:∀ (l:List Value),(part f.type l.toArray f.offset).run P w = .ok (.agg ((l.drop n).take a.length).toArray) w:=by
    intro l
    rw [hoff]
    have hag:(isAgg f.type).run P w = .ok Xb w:=by simp [isAgg,run_underlying hk]
    have:l.toArray.extract n (n+inf.size)=((l.drop n).take a.length).toArray:=by
     apply Array.toList_inj.1
     rw [Array.toList_extract]
     simp [List.extract_eq_take_drop,← hcells,hsz]
    rw [← hsz,hcells] at this
    simp [part,hag,Zu hinf,← hsz,hcells]
   exact ⟨_,_,p1 us,p1 vs,hrec f.type hty.1 a _ _ w ha u1 v1⟩
  ·cases hty
theorem Znb:∀ (e k:Nat) (T:TypeId),Zlh P e T=Xb→Zqv P e k T
 | 0, _, _, h => by simp [Zlh] at h
 | e + 1, k, T, h => by
  intro L us vs w hL hu hv
  unfold Zlh at h
  split at h
  ·rename_i fs hfs
   simp only [Xs,UG] at h
   have hfo:P.fieldsOf T=fs:=by simp only [Program.fieldsOf,hfs]
   rw [show k+(e+1)=(k+e)+1 from rfl,run_equalIn_struct w (k+e) T _ _ (by rw [hfo];exact hfs) h.2,hfo]
   have:=ZdO e k (Zlh P e) (fun T' h'=>Znb e k T' h') w us vs fs.toList 0 L h.1 (by
    rw [YZ] at hL
    simp only [hfs] at hL
    exact hL) (by simpa using hu) (by simpa using hv)
   simpa using this
  ·cases h
theorem Zo6 {plain:List TypeId} (h:plain.all (Zsk P)=Xb):WW P plain:=by
 intro T hT
 rw [XE] at h
 have hf:=h T hT
 unfold Zsk at hf
 simp only [Xs,UG] at hf
 exact ⟨hf.2,fun L hL us vs hu hv w=>Znb 8 9992 T hf.1 L us vs w hL hu hv⟩
end
def Zs2 (l:List V):Nat→V:=fun n=>(l[n]?).getD (.i 0)
abbrev I (z:Int):AV:=.val (.int .i64 z)
abbrev B (b:Bool):AV:=.val (.bool b)
theorem Ziu {z:Int} (h1 : -(2^63:Int)≤z) (h2:z < 2^63):IntKind.i64.wrap z=z:=by
 have e:(2:Int)^63=9223372036854775808:=by decide
 rw [e] at h1 h2
 simp only [IntKind.wrap]
 have:IntKind.i64.signed=Xb:=rfl
 simp [this,IntKind.bits]
 omega
theorem ZiD {a b:Int} (h1 : -(2^63:Int)≤a+b) (h2:a+b < 2^63):iop .add .i64 a b=a+b:=Ziu h1 h2
theorem ZtH {a b:Int} (h1 : -(2^63:Int)≤a*b) (h2:a*b < 2^63):iop .mul .i64 a b=a*b:=Ziu h1 h2
@[reducible] def Sh.T:Sh→Type
 | .int _ => Int
 | .bool => Bool
 | .str => ByteArray
 | .slice _ => List (List AV)
 | .own _ _ => List (List AV)
 | .cel => List (List AV)
@[reducible] def ShsT:List Sh→Type
 | [] => Unit
 | [s] => s.T
 | s :: t :: r => s.T × ShsT (t :: r)
def Sh.toV:(s:Sh)→s.T→V
 | .int _, z => .i z
 | .bool, z => .b z
 | .str, z => .s z
 | .slice _, z => .l z
 | .own _ _, z => .l z
 | .cel, z => .l z
def Sh.ofV:(s:Sh)→V→Option s.T
 | .int _, .i z => Xa z
 | .bool, .b z => Xa z
 | .str, .s z => Xa z
 | .slice _, .l z => Xa z
 | .own _ _, .l z => Xa z
 | .cel, .l z => Xa z
 | _, _ => Xe
def Zeo:(l:List Sh)→ShsT l→List V
 | [], _ => []
 | [s], x => [s.toV x]
 | s :: t :: r, x => s.toV x.1 :: Zeo (t :: r) x.2
def Zqw:(l:List Sh)→List V→Option (ShsT l)
 | [], [] => Xa ()
 | [], _ :: _ => Xe
 | [s], [v] => s.ofV v
 | [_], [] => Xe
 | [_], _ :: _ :: _ => Xe
 | _ :: _ :: _, [] => Xe
 | s :: t :: r, v :: vs => match s.ofV v, Zqw (t :: r) vs with | some a, Xa b => Xa (a, b) | _, _ => Xe
theorem Zns {s:Sh} {v:V} {x:s.T} (h:s.ofV v=Xa x):s.toV x=v:=by
 cases s<;>cases v<;>simp [Sh.ofV] at h<;>subst h<;>rfl
theorem ZgH:∀ (l:List Sh) (vs:List V) (x:ShsT l),Zqw l vs=Xa x→Zeo l x=vs
 | [], [], _, _ => rfl
 | [], _ :: _, _, h => by simp [Zqw] at h
 | [s], [v], x, h => by simp only [Zeo, Zns (show s.ofV v = Xa x from h)]
 | [_], [], _, h => by simp [Zqw] at h
 | [_], _ :: _ :: _, _, h => by simp [Zqw] at h
 | _ :: _ :: _, [], _, h => by simp [Zqw] at h
 | s :: t :: r, v :: vs, x, h => by
  simp only [Zqw] at h
  split at h
  ·rename_i a b ha hb
   simp only [Xf] at h
   subst h
   simp only [Zeo,Zns ha,ZgH (t::r) vs b hb]
  ·cases h
def Sh.ofE:(s:Sh)→AV→Option s.T
 | .int k, .val (.int k' z) => if k' = k then Xa z else Xe
 | .bool, .val (.bool b) => Xa b
 | .str, .val (.string b) => Xa b
 | .slice s, .slice Xc s' xs => if s' = s then Xa xs else Xe
 | .cel, c => if JC c = Xb then Xa [[c]] else Xe
 | _, _ => Xe
def ZoD:(l:List Sh)→List AV→Option (ShsT l)
 | [], [] => Xa ()
 | [], _ :: _ => Xe
 | [s], [c] => s.ofE c
 | [_], [] => Xe
 | [_], _ :: _ :: _ => Xe
 | _ :: _ :: _, [] => Xe
 | s :: t :: r, c :: cs => match s.ofE c, ZoD (t :: r) cs with | some a, Xa b => Xa (a, b) | _, _ => Xe
theorem Zmw {s:Sh} {c:AV} {x:s.T} {n:Nat} {ρ:Nat→V} (h:s.ofE c=Xa x) (hρ:ρ n=s.toV x):(Ji s n).den ρ=c:=by
 unfold Sh.ofE at h
 split at h
 ·split at h
  ·simp only [Xf] at h
   subst h
   rename_i hk
   subst hk
   simp only [Ji,SC.den,IE.den,hρ,Sh.toV,V.int]
  ·cases h
 ·simp only [Xf] at h
  subst h
  simp only [Ji,SC.den,BE.den,hρ,Sh.toV,V.bool]
 ·simp only [Xf] at h
  subst h
  simp only [Ji,SC.den,SE.den,hρ,Sh.toV,V.str]
 ·split at h
  ·simp only [Xf] at h
   subst h
   rename_i hk
   subst hk
   simp only [Ji,SC.den,LE.den,hρ,Sh.toV,V.list]
  ·cases h
 ·split at h
  ·rename_i hc
   simp only [Xf] at h
   subst h
   simp only [Ji,SC.den,LE.den,hρ,Sh.toV,V.list,Zd2 hc]
  ·cases h
 ·cases h
theorem Zka:∀ (l:List Sh) (cs:List AV) (x:ShsT l) (n:Nat) (ρ:Nat→V),ZoD l cs=Xa x→ZjD ρ n (Zeo l x)→(Zv l n).map (SC.den ρ)=cs
 | [], [], _, _, _, _, _ => rfl
 | [], _ :: _, _, _, _, h, _ => by simp [ZoD] at h
 | [s], [c], x, n, ρ, h, hf => by
  have h0:=hf 0 _ (show (Zeo [s] x)[0]? = Xa (s.toV x) from rfl)
  rw [Nat.add_zero] at h0
  simp only [Zv,Xg,Xz,Zmw (show s.ofE c=Xa x from h) h0]
 | [_], [], _, _, _, h, _ => by simp [ZoD] at h
 | [_], _ :: _ :: _, _, _, _, h, _ => by simp [ZoD] at h
 | _ :: _ :: _, [], _, _, _, h, _ => by simp [ZoD] at h
 | s :: t :: r, c :: cs, x, n, ρ, h, hf => by
  simp only [ZoD] at h
  split at h
  ·rename_i a b ha hb
   simp only [Xf] at h
   subst h
   obtain ⟨h0,h1⟩:=ZjD.tail (show ZjD ρ n (s.toV a::Zeo (t::r) b) from hf)
   have h2:=Zka (t::r) cs b (n+1) ρ hb h1
   rw [Zv,Xg,Zmw ha h0,h2]
  ·cases h
def ZW {γ:Type} (p:Prop) [Decidable p] (x:Option γ):Option γ:=if p then x else Xe
theorem Za {γ:Type} {p:Prop} {_:Decidable p} (h:p) (x:Option γ):ZW p x=x:=if_pos h
theorem ZgR {γ:Type} {p:Prop} {_:Decidable p} {x:Option γ} {r:γ} (h:ZW p x=Xa r):p∧x=Xa r:=by
 unfold ZW at h
 split at h
 ·exact ⟨‹_›,h⟩
 ·cases h
def ZqI:Value→Value→Bool
 | .int k z, .int k' z' => decide (k = k') && decide (z = z')
 | .bool b, .bool b' => b == b'
 | .string s, .string s' => decide (s = s')
 | _, _ => Xc
theorem Zdh {a b:Value} (h:ZqI a b=Xb):a=b:=by
 unfold ZqI at h
 split at h
 ·simp only [Xs,decide_eq_true_eq] at h
  rw [h.1,h.2]
 ·rw [beq_iff_eq] at h
  rw [h]
 ·rw [decide_eq_true_eq] at h
  rw [h]
 ·cases h
def ZrP {α:Type} (q:α→α→Bool):List α→List α→Bool
 | [], [] => Xb
 | a :: aZ, b :: bs => q a b && ZrP q aZ bs
 | _, _ => Xc
theorem Vo {α:Type} {q:α→α→Bool} (hq:∀ a b,q a b=Xb→a=b):∀ (aZ bs:List α),ZrP q aZ bs=Xb→aZ=bs
 | [], [], _ => rfl
 | [], _ :: _, h => by cases h
 | _ :: _, [], h => by cases h
 | a :: aZ, b :: bs, h => by
  simp only [ZrP,Xs] at h
  rw [hq a b h.1,Vo hq aZ bs h.2]
def Zsj:Nat→AV→AV→Bool
 | _, .val a, .val b => ZqI a b
 | n + 1, .slice f s xs, .slice f' s' ys => f == f' && (decide (s = s') && ZrP (ZrP (Zsj n)) xs ys)
 | _ + 1, .oref j o, .oref j' o' => decide (j = j') && decide (o = o')
 | _ + 1, .osl e j o, .osl e' j' o' => decide (j = j') && (decide (o = o') && decide (e = e'))
 | _ + 1, .omap j, .omap j' => decide (j = j')
 | _, _, _ => Xc
theorem Zlu:∀ (n:Nat) (a b:AV),Zsj n a b=Xb→a=b:=by
 intro n
 induction n with
 | zero =>
  intro a b h
  unfold Zsj at h
  split at h
  ·rw [Zdh h]
  ·rename_i hn;cases hn
  ·rename_i hn;cases hn
  ·rename_i hn;cases hn
  ·rename_i hn;cases hn
  ·cases h
 | succ n ih =>
  intro a b h
  unfold Zsj at h
  split at h
  ·rw [Zdh h]
  ·rename_i hn
   cases hn
   simp only [Xs,beq_iff_eq,decide_eq_true_eq] at h
   rw [h.1,h.2.1,Vo (fun x y hxy=>Vo ih x y hxy) _ _ h.2.2]
  ·simp only [Xs,decide_eq_true_eq] at h
   rw [h.1,h.2]
  ·simp only [Xs,decide_eq_true_eq] at h
   rw [h.1,h.2.1,h.2.2]
  ·rw [of_decide_eq_true h]
  ·cases h
open Classical in
noncomputable instance decLL:DecidableEq (List (List AV)):=fun a b=>if h:ZrP (ZrP (Zsj 8)) a b=Xb then isTrue (Vo (fun x y hxy=>Vo (Zlu 8) x y hxy) _ _ h) else propDecidable _
@[reducible] noncomputable def Sh.dec:(s:Sh)→DecidableEq s.T
 | .int _ => inferInstanceAs (DecidableEq Int)
 | .bool => inferInstanceAs (DecidableEq Bool)
 | .str => inferInstanceAs (DecidableEq ByteArray)
 | .slice _ => decLL
 | .own _ _ => decLL
 | .cel => decLL
@[reducible] noncomputable def decS:(l:List Sh)→DecidableEq (ShsT l)
 | [] => inferInstanceAs (DecidableEq Unit)
 | [s] => s.dec
 | s :: t :: r => @instDecidableEqProd _ _ s.dec (decS (t :: r))
def ZrA {γ:Type} [d:DecidableEq γ] (l:List (List AV)) (k:Bool→Option γ):Option γ:=
 match l with
 | [] => if k Xb = k Xc then k Xb else Xe
 | _ :: _ => k Xc
theorem Zmi {γ:Type} {d:DecidableEq γ} {l:List (List AV)} {k:Bool→Option γ} {r:γ} (h:ZrA l k=Xa r) (b:Bool) (hb:b=Xb→l = []):k b=Xa r:=by
 unfold ZrA at h
 split at h
 ·split at h
  ·rename_i he
   cases b
   ·rw [← he];exact h
   ·exact h
  ·cases h
 ·cases b
  ·exact h
  ·cases hb rfl
theorem ZqO {γ:Type} {d:DecidableEq γ} {l:List (List AV)} {k:Bool→Option γ} {r:Option γ} (h1:l = []→k Xb=r) (h2:k Xc=r):ZrA l k=r:=by
 unfold ZrA
 split
 ·rw [h1 rfl,h2,if_pos rfl]
 ·exact h2
def Jn {γ:Type} (l:List (List AV)) (i:Int) (sh:List Sh) (k:ShsT sh→Option γ):Option γ:=
 if 0≤i then match l[i.toNat]? with | some cs=>(match ZoD sh cs with | some r=>k r | none=>Xe) | none=>Xe else Xe
theorem Vx {γ:Type} {l:List (List AV)} {i:Int} {sh:List Sh} {cs:List AV} {r:ShsT sh} (k:ShsT sh→Option γ) (h0:0≤i) (h1:l[i.toNat]? = Xa cs) (h2:ZoD sh cs=Xa r):Jn l i sh k=k r:=by
 simp only [Jn,h0,if_true,h1,h2]
theorem Zk5 {γ:Type} {l:List (List AV)} {i:Int} {sh:List Sh} {k:ShsT sh→Option γ} {x:γ} (h:Jn l i sh k=Xa x):0≤i∧∃ cs r,l[i.toNat]? = Xa cs∧ZoD sh cs=Xa r∧k r=Xa x:=by
 unfold Jn at h
 split at h
 ·refine ⟨‹_›,?_⟩
  split at h
  ·split at h
   ·exact ⟨_,_,‹_›,‹_›,h⟩
   ·cases h
  ·cases h
 ·cases h
def ZeF {γ:Type} (F:(List V→Option γ)→List V→Option γ):Nat→List V→Option γ
 | 0 => fun _ => Xe
 | k + 1 => F (ZeF F k)
def ZeD:Nat:=1208925819614629174706176
inductive AP where
 | c (s : Sh)
 | agg (l : List Sh)
 | box (l : List Sh)
 | gbox (l : List Sh)
 | clo (g : FuncId) (ds : List Nat)
 | ref (j q : Nat)
 | dead
 | sto
def RSh.sh:RSh→List Sh
 | .c s => [s]
 | .agg l => l
 | .box l => l
 | .aggo l => l
def Yb:List AP→List Sh
 | [] => []
 | .box l :: r => l ++ Yb r
 | .gbox l :: r => l ++ Yb r
 | .sto :: r => .cel :: Yb r
 | _ :: r => Yb r
def Zeq (rs:List RSh) (aps:List AP):List Sh:=rs.flatMap RSh.sh++Yb aps
structure Fun where
 args:List AP
 res:List RSh
 g:List V→Option (ShsT (Zeq res args))
def Kt (r:RSh) (us:List V) (j:Nat):AV:=
 match r with
 | .c s => Kb s (vAt us j)
 | .agg l => .agg (Jb l us j)
 | .box l => .box (Jb l us j)
 | .aggo l => .aggo (Jb l us j)
def YQ:List RSh→List V→Nat→List AV
 | [], _, _ => []
 | r :: rs, us, j => Kt r us j :: YQ rs us (j + r.sh.length)
def KD (rs:List RSh) (us:List V) (j:Nat):AV:=
 match rs with
 | [r] => Kt r us j
 | rs => .tuple (YQ rs us j)
def Z7:List AP→List V→Nat→List AV
 | [], _, _ => []
 | .box l :: r, us, j => .box (Jb l us j) :: Z7 r us (j + l.length)
 | .gbox l :: r, us, j => .gbox (Jb l us j) :: Z7 r us (j + l.length)
 | .sto :: r, us, j => .store (vAt us j).list :: Z7 r us (j + 1)
 | _ :: r, us, j => .dead :: Z7 r us j
def AP.n:AP→Nat
 | .c _ => 1
 | .agg l => l.length
 | .box l => l.length
 | .gbox l => l.length
 | .clo _ _ => 0
 | .ref _ _ => 0
 | .dead => 0
 | .sto => 1
def Zhv (a:AP) (us:List V) (j:Nat):AV:=
 match a with
 | .c s => Kb s (vAt us j)
 | .agg l => .agg (Jb l us j)
 | .box l => .box (Jb l us j)
 | .gbox l => .gbox (Jb l us j)
 | .clo g ds => .clo g ds
 | .ref j q => .mref j q
 | .dead => .dead
 | .sto => .store (vAt us j).list
def VU:List AP→List V→Nat→List AV
 | [], _, _ => []
 | a :: r, us, j => Zhv a us j :: VU r us (j + a.n)
def ZgF (rs:List RSh):Nat:=(rs.flatMap RSh.sh).length
def Fun.Ok (P:Program) (f:FuncId) (S:Fun):Prop:=
 ∀ vs r,S.g vs=Xa r→Yo P f (VU S.args vs 0) (KD S.res (Zeo _ r) 0) (Z7 S.args (Zeo _ r) (ZgF S.res))
def Zoz (P:Program):List (FuncId×Fun)→Prop
 | [] => True
 | p :: r => p.2.Ok P p.1 ∧ Zoz P r
def AP.sig:AP→Option (FuncId×List Nat)
 | .clo g ds => Xa (g, ds)
 | .ref j q => Xa (1000000, [j, q])
 | _ => Xe
def SV.sig:SV→Option (FuncId×List Nat)
 | .clo g ds => Xa (g, ds)
 | .mref j q => Xa (1000000, [j, q])
 | _ => Xe
def ZnD:List (FuncId×Fun)→FuncId→List (FuncId×List Nat)→Option Fun
 | [], _, _ => Xe
 | p :: r, f, sg => if p.1 = f ∧ p.2.args.filterMap AP.sig = sg then Xa p.2 else ZnD r f sg
theorem Zkb {P:Program} : ∀ {Φ:List (FuncId×Fun)} {f:FuncId} {sg:List (FuncId×List Nat)} {S:Fun},Zoz P Φ→ZnD Φ f sg=Xa S→S.Ok P f
 | [], _, _, _, _, h => by simp [ZnD] at h
 | p :: r, f, sg, S, ho, h => by
  simp only [ZnD] at h
  split at h
  ·rename_i hp
   simp only [Xf] at h
   obtain ⟨hp,_⟩:=hp
   subst hp
   subst h
   exact ho.1
  ·exact Zkb ho.2 h
def ZqH (P:Program):Sh→AV→Option V
 | .int k, .val (.int k' z) => if k' = k then Xa (.i z) else Xe
 | .bool, .val (.bool b) => Xa (.b b)
 | .str, .val (.string s) => Xa (.s s)
 | .slice s, .slice _ s' xs => if s' = s then Xa (.l xs) else (match xs with | [] => Xa (.l []) | _ :: _ => Xe)
 | .slice s, .own x e xs => if P.cellsOf e = s then (match x, xs with | false, xs => Xa (.l xs) | true, [] => Xa (.l []) | true, _ :: _ => Xe) else Xe
 | .own x e, .own x' e' xs => if e' = e then (match x, x', xs with | false, Xc, xs => Xa (.l xs) | true, Xb, xs => Xa (.l xs) | _, _, [] => if e < 2097152 then Xa (.l []) else Xe | _, _, _ :: _ => Xe) else Xe
 | .own _ e, .slice Xb _ xs => (match xs with | [] => if e < 2097152 then Xa (.l []) else Xe | _ :: _ => Xe)
 | .cel, c => if JC c = Xb then Xa (.l [[c]]) else Xe
 | _, _ => Xe
def ZfB (P:Program):List Sh→List AV→Option (List V)
 | [], [] => Xa []
 | s :: ss, c :: cs => match ZqH P s c, ZfB P ss cs with | some v, Xa vs => Xa (v :: vs) | _, _ => Xe
 | _, _ => Xe
def ZrW (P:Program):AP→AV→Option (List V)
 | .c s, x => (ZqH P s x).map fun v => [v]
 | .agg l, .agg cs => if l.all Sh.imm = Xb then ZfB P l cs else Xe
 | .box l, .box cs => ZfB P l cs
 | .gbox l, .gbox cs => ZfB P l cs
 | .clo g ds, .clo g' ds' => if g' = g ∧ ds' = ds then Xa [] else Xe
 | .ref j q, .mref j' q' => if j' = j ∧ q' = q ∧ q ≠ 0 then Xa [] else Xe
 | .dead, .dead => Xa []
 | .sto, .store rows => Xa [.l rows]
 | _, _ => Xe
def ZsK (P:Program) (a:AP) (h:Option (List (List AV))) (x:AV):Option (List V):=
 match a,h with
 | .c .cel, Xa l => Xa [.l l]
 | a, _ => ZrW P a x
def Zai (P:Program):List AP→List (Option (List (List AV)))→List AV→Option (List V)
 | [], [], [] => Xa []
 | a :: aZ, h :: hs, x :: xs => match ZsK P a h x, Zai P aZ hs xs with | some vs, Xa us => Xa (vs ++ us) | _, _ => Xe
 | _, _, _ => Xe
def KH (hs:List (Option (List (List AV)))) (xs:List AV):Prop:=∀ (i:Nat) (l:List (List AV)) (y:AV),hs[i]? = Xa (Xa l)→xs[i]? = Xa y→y=Zk l
theorem KH.head {h:Option (List (List AV))} {hs:List (Option (List (List AV)))} {x:AV} {xs:List AV} (k:KH (h::hs) (x::xs)):∀ l,h=Xa l→x=Zk l:=fun l hl=>k 0 l x (by rw [hl];rfl) rfl
theorem KH.tail {h:Option (List (List AV))} {hs:List (Option (List (List AV)))} {x:AV} {xs:List AV} (k:KH (h::hs) (x::xs)):KH hs xs:=fun i l y h1 h2=>k (i+1) l y (by simpa using h1) (by simpa using h2)
theorem Zn3 {P:Program} {s:Sh} {c:AV} {v:V} (h:ZqH P s c=Xa v):Y2 P c (Kb s v):=by
 unfold ZqH at h
 split at h
 ·split at h
  ·simp only [Xf] at h;subst h;rename_i hk;subst hk;exact .same (.inl rfl)
  ·cases h
 ·simp only [Xf] at h;subst h;exact .same (.inl rfl)
 ·simp only [Xf] at h;subst h;exact .same (.inl rfl)
 ·split at h
  ·simp only [Xf] at h;subst h;rename_i hk;subst hk;exact .imm
  ·split at h
   ·simp only [Xf] at h;subst h;exact .immN
   ·cases h
 ·split at h
  ·rename_i hk
   subst hk
   split at h
   ·simp only [Xf] at h;subst h;exact .own
   ·simp only [Xf] at h;subst h;exact .ownZ
   ·cases h
  ·cases h
 ·split at h
  ·rename_i hk
   subst hk
   split at h
   ·simp only [Xf] at h;subst h;exact .same (.inr ⟨_,_,_,rfl⟩)
   ·simp only [Xf] at h;subst h;exact .same (.inr ⟨_,_,_,rfl⟩)
   ·split at h
    ·rename_i hlt
     simp only [Xf] at h;subst h;exact .ownN hlt
    ·cases h
   ·cases h
  ·cases h
 ·split at h
  ·split at h
   ·rename_i hlt
    simp only [Xf] at h;subst h;exact .give hlt
   ·cases h
  ·cases h
 ·split at h
  ·rename_i hc
   simp only [Xf] at h;subst h
   have:Kb .cel (.l [[c]])=c:=Zd2 hc
   rw [this]
   exact .same (.inl (KN hc))
  ·cases h
 ·cases h
theorem Zcx {P:Program} : ∀ (l:List Sh) (cs:List AV) (vs:List V),ZfB P l cs=Xa vs→vs.length=l.length∧cs.length=l.length∧∀ pre post:List V,
  ∀ (i:Nat) (c c':AV),cs[i]? = Xa c→(Jb l (pre++vs++post) pre.length)[i]? = Xa c'→Y2 P c c'
 | [], [], vs, h => by
  simp only [ZfB,Xf] at h
  subst h
  exact ⟨rfl,rfl,fun _ _ i c c' h=>by simp at h⟩
 | [], _ :: _, _, h => by simp [ZfB] at h
 | _ :: _, [], _, h => by simp [ZfB] at h
 | s :: ss, c :: cs, us, h => by
  simp only [ZfB] at h
  split at h
  ·rename_i v vs hv hvs
   simp only [Xf] at h
   subst h
   obtain ⟨h1,h2,h3⟩:=Zcx (P:=P) ss cs vs hvs
   refine ⟨by simp [h1],by simp [h2],fun pre post i c1 c2 hc1 hc2=>?_⟩
   cases i with
   | zero =>
    simp only [Jb,XB,Xf] at hc1 hc2
    subst hc1
    subst hc2
    rw [Xu,XP,Y8]
    exact Zn3 hv
   | succ i =>
    have:=h3 (pre++[v]) post i c1 c2 (by simpa using hc1)
    simp only [Xu,XP,XX,XA,XJ,Wi] at this
    simp only [Jb,X5,Xu,XP] at hc2
    exact this hc2
  ·cases h
theorem ZqX {P:Program} {a:AP} {x:AV} {vs:List V} (h:ZrW P a x=Xa vs):vs.length=a.n∧((∃ g ds,a = .clo g ds∧x = .clo g ds)∨(∃ j q,a = .ref j q∧x = .mref j q)∨∀ pre post:List V,YX P x (Zhv a (pre++vs++post) pre.length)):=by
 unfold ZrW at h
 split at h
 ·cases hd:ZqH P _ x with
  | none => rw [hd] at h; cases h
  | some v =>
   rw [hd] at h
   simp only [Xo,Xf] at h
   subst h
   refine ⟨rfl,.inr<|.inr fun pre post=>?_⟩
   simp only [Zhv,Xu,XP,XX,Y8]
   exact .comp (.cell (Zn3 hd))
 ·rename_i l cs
  split at h
  ·rename_i hi
   obtain ⟨h1,h2,h3⟩:=Zcx (P:=P) _ _ _ h
   exact ⟨h1,.inr<|.inr fun pre post=>.comp (.agg (by rw [h2,JG]) (Vz _ _ _ hi) (h3 pre post))⟩
  ·cases h
 ·obtain ⟨h1,h2,h3⟩:=Zcx (P:=P) _ _ _ h
  exact ⟨h1,.inr<|.inr fun pre post=>.box (by rw [h2,JG]) (h3 pre post)⟩
 ·obtain ⟨h1,h2,h3⟩:=Zcx (P:=P) _ _ _ h
  exact ⟨h1,.inr<|.inr fun pre post=>.gbox (by rw [h2,JG]) (h3 pre post)⟩
 ·split at h
  ·rename_i hh
   simp only [Xf] at h
   subst h
   obtain ⟨rfl,rfl⟩:=hh
   exact ⟨rfl,.inl ⟨_,_,rfl,rfl⟩⟩
  ·cases h
 ·split at h
  ·rename_i hh
   simp only [Xf] at h
   subst h
   obtain ⟨rfl,rfl,_⟩:=hh
   exact ⟨rfl,.inr (.inl ⟨_,_,rfl,rfl⟩)⟩
  ·cases h
 ·simp only [Xf] at h
  subst h
  exact ⟨rfl,.inr<|.inr fun _ _=>.dead⟩
 ·simp only [Xf] at h
  subst h
  refine ⟨rfl,.inr<|.inr fun pre post=>?_⟩
  simp only [Zhv,Xu,XP,XX,Y8]
  exact .store
 ·cases h
theorem Ze4:∀ (l:List AP) (us:List V) (j:Nat),(VU l us j).length=l.length
 | [], _, _ => rfl
 | _ :: ss, us, j => by simp [VU, Ze4 ss us]
theorem ZrH {P:Program} {a:AP} {h:Option (List (List AV))} {x:AV} {vs:List V} (hh:∀ l,h=Xa l→x=Zk l) (hd:ZsK P a h x=Xa vs):vs.length=a.n∧((∃ g ds,a = .clo g ds∧x = .clo g ds)∨(∃ j q,a = .ref j q∧x = .mref j q)∨∀ pre post:List V,YX P x (Zhv a (pre++vs++post) pre.length)):=by
 unfold ZsK at hd
 split at hd
 ·rename_i l
  simp only [Xf] at hd
  subst hd
  refine ⟨rfl,.inr<|.inr fun pre post=>?_⟩
  rw [hh l rfl]
  simp only [Zhv,Xu,XP,XX,Y8]
  exact .comp (.cell (.same (.inl (KN (YT l)))))
 ·exact ZqX hd
theorem ZjN {P:Program} : ∀ (aZ:List AP) (hs:List (Option (List (List AV)))) (xs:List AV) (vs:List V),KH hs xs→Zai P aZ hs xs=Xa vs→xs.length=aZ.length∧∀ pre post:List V,
  ∀ (i:Nat) (c c':AV),xs[i]? = Xa c→(VU aZ (pre++vs++post) pre.length)[i]? = Xa c'→(∃ g ds,aZ[i]? = Xa (.clo g ds)∧c = .clo g ds∧c' = .clo g ds)∨(∃ j q,aZ[i]? = Xa (.ref j q)∧c = .mref j q∧c' = .mref j q)∨YX P c c'
 | [], [], [], _, _, _ => ⟨rfl, fun _ _ i c c' h => by simp at h⟩
 | [], [], _ :: _, _, _, h => by simp [Zai] at h
 | [], _ :: _, _, _, _, h => by simp [Zai] at h
 | _ :: _, [], _, _, _, h => by simp [Zai] at h
 | _ :: _, _ :: _, [], _, _, h => by simp [Zai] at h
 | a :: aZ, hh :: hs, x :: xs, ws, hk, h => by
  simp only [Zai] at h
  split at h
  ·rename_i vs us hv hus
   simp only [Xf] at h
   subst h
   obtain ⟨h1,h2⟩:=ZrH (P:=P) hk.head hv
   obtain ⟨h3,h4⟩:=ZjN (P:=P) aZ hs xs us hk.tail hus
   refine ⟨by simp [h3],fun pre post i c1 c2 hc1 hc2=>?_⟩
   cases i with
   | zero =>
    simp only [VU,XB,Xf] at hc1 hc2
    subst hc1
    subst hc2
    rcases h2 with ⟨g,ds,rfl,rfl⟩ | ⟨j,q,rfl,rfl⟩ | h2
    ·exact .inl ⟨g,ds,rfl,rfl,rfl⟩
    ·exact .inr (.inl ⟨j,q,rfl,rfl,rfl⟩)
    ·have:=h2 pre (us++post)
     exact .inr (.inr (by simpa [Xu] using this))
   | succ i =>
    have:=h4 (pre++vs) post i c1 c2 (by simpa using hc1)
    rw [XA,h1] at this
    simp only [VU,X5] at hc2
    refine this ?_
    simpa [Xu] using hc2
  ·cases h
def Zbh (aZ:List AP):Bool:=aZ.all fun a=>match a with | .clo _ ds=>ds.all (fun d=>match aZ[d]? with | some (.gbox _)=>Xb | _=>Xc) | .ref j q=>(match aZ[j]? with | some (.gbox l)=>(HP.gbox l).isPl q | _=>Xc) | _=>Xb
theorem ZcP:∀ (aZ:List AP) (us:List V) (j i:Nat) (a:AP),aZ[i]? = Xa a→∃ k,(VU aZ us j)[i]? = Xa (Zhv a us k)
 | [], _, _, _, _, h => by simp at h
 | b :: aZ, us, j, 0, a, h => by
  simp only [XB,Xf] at h
  subst h
  exact ⟨j,rfl⟩
 | b :: aZ, us, j, i + 1, a, h => by
  obtain ⟨k,hk⟩:=ZcP aZ us (j+b.n) i a (by simpa using h)
  exact ⟨k,by simpa [VU] using hk⟩
theorem Zjd {P:Program} {aZ:List AP} {hs:List (Option (List (List AV)))} {xs:List AV} {vs:List V} (hk:KH hs xs) (hc:Zbh aZ=Xb) (h:Zai P aZ hs xs=Xa vs):Vv P xs (VU aZ vs 0):=by
 obtain ⟨h1,h2⟩:=ZjN (P:=P) aZ hs xs vs hk h
 refine ⟨by rw [h1,Ze4],fun i c c' hx hc'=>?_⟩
 rcases h2 [] [] i c c' hx (by simpa using hc') with ⟨g,ds,k1,rfl,rfl⟩ | ⟨j,q,k1,rfl,rfl⟩ | hw
 case inr.inl=>
  refine .inr (.inr ⟨j,q,rfl,rfl,?_⟩)
  unfold Zbh at hc
  rw [XE] at hc
  have h3:=hc _ (Xh k1)
  simp only at h3
  split at h3
  ·rename_i l hl
   obtain ⟨k,hk⟩:=ZcP aZ vs 0 j _ hl
   simp only [ZI,hk]
   exact ZfV h3 vs k
  ·cases h3
 ·refine .inr (.inl ⟨g,ds,rfl,rfl,fun d hd=>?_⟩)
  unfold Zbh at hc
  rw [XE] at hc
  have h3:=hc _ (Xh k1)
  simp only at h3
  rw [XE] at h3
  have h4:=h3 d hd
  split at h4
  ·rename_i l hl
   obtain ⟨k,hk⟩:=ZcP aZ vs 0 d _ hl
   simp only [ZI,hk]
   rfl
  ·cases h4
 ·exact .inl hw
def ZkW (P:Program) (a:AP) (x:AV):AV:=
 match a,x with
 | .c (.slice _), .own Xb e xs => .own (Zj P e) e xs
 | .c (.own Xc _), .own Xb e xs => .own (Zj P e) e xs
 | _, x => x
def Zd3 (P:Program):List AP→List AV→List AV
 | a :: aZ, x :: xs => ZkW P a x :: Zd3 P aZ xs
 | _, xs => xs
theorem ZaB (P:Program) (a:AP) (x:AV):ZkW P a x=x∨∃ e xs,x = .own Xb e xs∧ZkW P a x = .own Xc e xs∧Zj P e=Xc:=by
 unfold ZkW
 split
 ·rename_i e xs
  cases h:Zj P e with
  | true => exact .inl rfl
  | false => exact .inr ⟨e, xs, rfl, rfl, h⟩
 ·rename_i e xs
  cases h:Zj P e with
  | true => exact .inl rfl
  | false => exact .inr ⟨e, xs, rfl, rfl, h⟩
 ·exact .inl rfl
theorem Zi6 (pre post:List AV) (x:AV) (i:Nat):ZI (pre++x::post) i=if i=pre.length then x else ZI (pre++.dead::post) i:=by
 unfold ZI
 by_cases hi:i=pre.length
 ·subst hi
  rw [if_pos rfl,Xy (XD _),Nat.sub_self]
  rfl
 ·rw [if_neg hi]
  by_cases hlt:i < pre.length
  ·rw [Xv hlt,Xv hlt]
  ·rw [Xy (by omega),Xy (by omega)]
   obtain ⟨j,hj⟩:∃ j,i-pre.length=j+1:=⟨i-pre.length-1,by omega⟩
   rw [hj,X5,X5]
theorem Zm2 {P:Program} {w:World} {lim:Lm} {e:TypeId} {xs:List (List AV)} {v:Value} (hnm:Zj P e=Xc) (h:ZV P w lim Xb e xs v Xe):ZV P w lim Xc e xs v Xe:=by
 rcases h.noMap hnm with ⟨us,h1,h2,h3,h4,h5,h6⟩ | h
 ·exact .inl ⟨us,h1,h2,fun b hb=>(by cases hb),h4,h5,h6⟩
 ·exact .inr (.inl h)
theorem Yo.freeze1 {P:Program} {f:FuncId} {pre post:List AV} {e:TypeId} {xs:List (List AV)} {res:AV} {outs:List AV} (h:Yo P f (pre++.own Xc e xs::post) res outs)
  (hn:∀ x∈pre++post,∀ d,¬ Jh x d 0) (hnm:Zj P e=Xc):Yo P f (pre++.own Xb e xs::post) res outs:=by
 have hll:(pre++AV.own Xb e xs::post).length=(pre++AV.own Xc e xs::post).length:=by simp
 refine ⟨h.1,by rw [hll];exact h.2.1,fun w lim X cargs hcl hrel hdist hsize hfar=>?_⟩
 have hat:∀ (b:Bool) (i:Nat),ZI (pre++.own b e xs::post) i=if i=pre.length then .own b e xs else ZI (pre++.dead::post) i:=fun b i=>Zi6 pre post _ i
 have hnr:∀ i d,i≠pre.length→¬ Jh (ZI (pre++.dead::post) i) d 0:=by
  intro i d hi hr
  have hx:ZI (pre++.dead::post) i = .dead∨ZI (pre++.dead::post) i∈pre++post:=by
   unfold ZI
   cases hx:(pre++AV.dead::post)[i]? with
   | none => exact .inl rfl
   | some x =>
    have hm:=Xh hx
    rw [Xt,Xl] at hm
    rcases hm with hm | rfl | hm
    ·exact .inr (UC _ hm)
    ·exact .inl rfl
    ·exact .inr (U5 _ hm)
  rcases hx with hx | hx
  ·rw [hx] at hr
   rcases hr with hr | ⟨_,hr⟩ <;> cases hr
  ·exact hn _ hx d hr
 have h0:=hrel pre.length
 rw [hat,if_pos rfl] at h0
 have h0':ZV P w lim Xb e xs (cargs.getD pre.length undef) (X pre.length 0):=h0
 obtain ⟨lim1,he,hk,hown,hlt⟩:∃ lim1:Lm,Ext w lim w lim1∧(∀ b,X pre.length 0≠Xa b→lim1 b=lim b)∧ZV P w lim1 Xc e xs (cargs.getD pre.length undef) (X pre.length 0)∧lim1.t=lim.t:=by
  cases hb:X pre.length 0 with
  | none => rw [hb] at h0'; exact ⟨lim, Ext.refl _ _, fun _ _ => rfl, Zm2 hnm h0', rfl⟩
  | some b0 =>
   rw [hb] at h0'
   have hl0:lim b0=0:=by
    rcases h0'.noMap hnm with ⟨us,_,_,h3,_⟩ | ⟨_,h,_⟩
    ·rw [h3 b0 rfl];rfl
    ·cases h
   have hext:Ext w lim w (Zbi lim b0 (xs.length*P.cellsOf e)):=by
    refine ⟨fun b _=>?_,fun _ _ h=>h⟩
    refine ⟨?_,fun o u _ hu=>hu⟩
    unfold Zbi
    dsimp only
    split
    ·rename_i h;rw [h,hl0];exact Wh _
    ·exact XD _
   exact ⟨_,hext,fun b hne=>if_neg fun e=>hne (by rw [e]),ZhQ h0' hnm hext,rfl⟩
 have hrel1:∀ i,ZQ P w lim1 X (ZI (pre++.own Xc e xs::post)) i (ZI (pre++.own Xc e xs::post) i) (cargs.getD i undef):=by
  intro i
  by_cases hi:i=pre.length
  ·subst hi
   rw [hat,if_pos rfl]
   exact hown
  ·have h1:=hrel i
   have hne:ZI (pre++.own Xc e xs::post) i=ZI (pre++.own Xb e xs::post) i:=by rw [hat,hat,if_neg hi,if_neg hi]
   rw [hne]
   refine ZQ.chg (h1.mono he (fun k b hb=>⟨rfl,hk b fun e=>hi (hdist i k pre.length 0 b hb e).1⟩) (fun d' k b hr _=>.of rfl) fun _ _=>hlt) rfl (fun d' cs hd=>⟨⟨cs,?_⟩,rfl⟩) (fun d' hg=>⟨?_,rfl⟩) fun d' k hr=>?_
   ·rw [hat] at hd ⊢
    split at hd
    ·cases hd
    ·rename_i hd'
     rw [if_neg hd'];exact hd
   ·rw [hat] at hg ⊢
    split at hg
    ·cases hg
    ·rename_i hd'
     rw [if_neg hd'];exact hg
   ·rw [hat,if_neg hi] at hr
    refine ⟨?_,rfl⟩
    rw [hat,hat]
    by_cases hd:d'=pre.length
    ·rw [if_pos hd,if_pos hd]
     cases k with
     | zero => exact (hnr i d' hi hr).elim
     | succ k => intro _ _ h; cases h
    ·rw [if_neg hd,if_neg hd]
     exact KO.refl _ _
 have hcnt:(pre++AV.own Xb e xs::post).countP AV.isG=(pre++AV.own Xc e xs::post).countP AV.isG:=by
  simp [List.countP_append,Uz,AV.isG]
 refine (h.2.2 w lim1 X cargs (by rw [← hcnt,← hll];exact hcl) hrel1 hdist hsize (by rw [← hll];exact hfar)).mono ?_
 rintro e' w' ⟨v,lim',X',he',hst,hol,hr,hd,hin,hgh,hnl,hnr⟩
 refine ⟨v,lim',X',he',⟨hst.os,hst.tape,hst.output,hst.size,hst.frz,fun b hb hn'=>?_,he.trans hst.ext (XD _),fun hh=>(hst.t (by rw [List.any_append,List.any_cons] at hh ⊢; exact hh)).trans hlt⟩,by rw [hol,hll],fun i=>by rw [hll];exact hr i,hd,hin,fun i hi=>?_,hnl,by rw [hll];exact hnr⟩
 ·obtain ⟨k1,k2⟩:=hst.blk b hb hn'
  exact ⟨k1,k2.trans (hk b fun e=>hn' ⟨_,_,e⟩)⟩
 ·obtain ⟨m1,m2⟩:=hgh i hi
  refine ⟨?_,m2⟩
  rw [hat] at m1 ⊢
  split at m1
  ·cases m1
  ·rename_i hi'
   rw [if_neg hi'];exact m1
theorem ZeW {P:Program} {d k:Nat} : ∀ (aZ:List AP) (xs:List AV),(∀ x∈Zd3 P aZ xs,¬ Jh x d k)→∀ x∈xs,¬ Jh x d k
 | [], xs, h => fun x hx => h x (by cases xs <;> exact hx)
 | _ :: _, [], _ => fun _ hx => by cases hx
 | a :: aZ, y :: ys, h => fun x hx => by
  rcases Xl.1 hx with rfl | hx
  ·rcases ZaB P a x with e | ⟨_,_,rfl,_⟩
   ·have:=h (ZkW P a x) (U1 ..)
    rwa [e] at this
   ·rintro (h | ⟨_,h⟩)<;>cases h
  ·exact ZeW aZ ys (fun z hz=>h z (We _ hz)) x hx
theorem Yo.freeze {P:Program} {f:FuncId} {res:AV} {outs:List AV} : ∀ (aZ:List AP) (xs pre:List AV),Yo P f (pre++Zd3 P aZ xs) res outs→(∀ x∈pre++Zd3 P aZ xs,∀ d,¬ Jh x d 0)→Yo P f (pre++xs) res outs
 | [], xs, pre, h, _ => by cases xs <;> exact h
 | _ :: _, [], pre, h, _ => h
 | a :: aZ, x :: xs, pre, h, hn => by
  have h1:=Yo.freeze aZ xs (pre++[ZkW P a x]) (by simpa [Zd3] using h) (by simpa [Zd3] using hn)
  rw [Xu,List.singleton_append] at h1
  rcases ZaB P a x with e | ⟨e,ys,rfl,e',hnm⟩
  ·rwa [e] at h1
  ·rw [e'] at h1
   refine h1.freeze1 (fun y hy d=>?_) hnm
   rcases Xt.1 hy with hy | hy
   ·exact hn y (UC _ hy) d
   ·exact ZeW aZ xs (fun z hz=>hn z (U5 _ (We _ hz)) d) y hy
theorem Zm7 {P:Program} {a:AP} {x:AV} {vs:List V} (h:ZrW P a x=Xa vs) (d:Nat):¬ Jh x d 0:=by
 rintro (rfl | ⟨_,rfl⟩)<;>cases a
 case inl.ref j q=>
  simp only [ZrW] at h
  split at h
  ·rename_i hh;exact hh.2.2 hh.2.1.symm
  ·cases h
 all_goals simp [ZrW,ZqH] at h
 all_goals (rename_i s;cases s<;>simp [ZqH,JC] at h)
theorem Znl {P:Program} {a:AP} {h:Option (List (List AV))} {x:AV} {vs:List V} (hh:∀ l,h=Xa l→x=Zk l) (hd:ZsK P a h x=Xa vs) (d:Nat):¬ Jh x d 0:=by
 unfold ZsK at hd
 split at hd
 ·rename_i l
  rw [hh l rfl]
  rintro (h | ⟨_,h⟩)<;>exact Z6 h rfl
 ·exact Zm7 hd d
theorem Ze3 {P:Program} : ∀ (aZ:List AP) (hs:List (Option (List (List AV)))) (xs:List AV) (vs:List V),KH hs xs→Zai P aZ hs xs=Xa vs→∀ x∈xs,∀ d,¬ Jh x d 0
 | _, _, [], _, _, _ => fun _ hx => by cases hx
 | [], [], _ :: _, _, _, h => by simp [Zai] at h
 | [], _ :: _, _ :: _, _, _, h => by simp [Zai] at h
 | _ :: _, [], _ :: _, _, _, h => by simp [Zai] at h
 | a :: aZ, hh :: hs, x :: xs, ws, hk, h => by
  simp only [Zai] at h
  split at h
  ·rename_i vs us hv hus
   intro y hy d
   rcases Xl.1 hy with rfl | hy
   ·exact Znl hk.head hv d
   ·exact Ze3 aZ hs xs us hk.tail hus y hy d
  ·cases h
theorem ZdZ {P:Program} : ∀ (aZ:List AP) (hs:List (Option (List (List AV)))) (xs:List AV),KH hs xs→KH hs (Zd3 P aZ xs)
 | [], _, xs, h => by cases xs <;> exact h
 | _ :: _, _, [], h => h
 | a :: aZ, [], x :: xs, _ => fun i l y h1 _ => by simp at h1
 | a :: aZ, hh :: hs, x :: xs, h => by
  intro i l y h1 h2
  cases i with
  | zero =>
   simp only [Zd3,XB,Xf] at h1 h2
   have hx:=h.head l h1
   rcases ZaB P a x with e | ⟨e,ys,hx',_⟩
   ·rw [← h2,e,hx]
   ·rw [hx] at hx'
    exact (Z6 hx' rfl).elim
  | succ i => exact ZdZ aZ hs xs h.tail i l y (by simpa using h1) (by simpa [Zd3] using h2)
def ZrV {γ:Type} (P:Program) (S:Fun) (hs:List (Option (List (List AV)))) (aZ:List AV) (k:List V→Option γ):Option γ:=
 match Zai P S.args hs (Zd3 P S.args aZ) with
 | some vs => (S.g vs).bind fun r => k (Zeo _ r)
 | none => Xe
theorem ZkO {γ:Type} {S:Fun} {hs:List (Option (List (List AV)))} {aZ:List AV} {k:List V→Option γ} {x:γ} {P:Program} (h:ZrV P S hs aZ k=Xa x):∃ vs r,Zai P S.args hs (Zd3 P S.args aZ)=Xa vs∧S.g vs=Xa r∧k (Zeo _ r)=Xa x:=by
 unfold ZrV at h
 split at h
 ·rename_i vs hvs
  rw [Option.bind_eq_some_iff] at h
  obtain ⟨r,h1,h2⟩:=h
  exact ⟨vs,r,hvs,h1,h2⟩
 ·cases h
def Zsp (s:Sh) (x:SC) (m:Nat):Bool:=
 match s,x with
 | .int k, .int k' (.var a) => decide (k' = k) && decide (a = m)
 | .bool, .bool (.var a) => decide (a = m)
 | .str, .str (.var a) => decide (a = m)
 | .slice s, .slice Xc s' (.var a) => decide (s' = s) && decide (a = m)
 | .cel, .cel (.var a) => decide (a = m)
 | _, _ => Xc
def Zlf:List Sh→List SC→Nat→Bool
 | [], [], _ => Xb
 | s :: ss, c :: cs, m => Zsp s c m && Zlf ss cs (m + 1)
 | _, _, _ => Xc
def Ztj (r:RSh) (x:TC) (m:Nat):Bool:=
 match r,x with
 | .c s, .c x => Zsp s x m
 | .c (.own x e), .own x' e' (.var a) => (decide (e' = e) && decide (a = m)) && (x' == x)
 | .agg l, .agg cs => Zlf l cs m
 | _, _ => Xc
def Zlq:List RSh→List TC→Nat→Bool
 | [], [], _ => Xb
 | r :: rs, x :: xs, m => Ztj r x m && Zlq rs xs (m + r.sh.length)
 | _, _, _ => Xc
def Ztp:SV→Option TC
 | .c x => Xa (.c x)
 | .agg cs => Xa (.agg cs)
 | .own x e l => Xa (.own x e l)
 | _ => Xe
def Ztz (s:Sh) (x:BC) (m:Nat):Bool:=
 match s,x with
 | s, .c x => Zsp s x m
 | .own x e, .own x' e' (.var a) => (decide (e' = e) && decide (a = m)) && (x' == x)
 | _, _ => Xc
def ZfF:List Sh→List BC→Nat→Bool
 | [], [], _ => Xb
 | s :: ss, c :: cs, m => Ztz s c m && ZfF ss cs (m + 1)
 | _, _, _ => Xc
def Zts (rs:List RSh) (x:SV) (m:Nat):Bool:=
 match rs with
 | [r] => match r, x with | .box l, .box cs => ZfF l cs m | .aggo l, .aggo cs => ZfF l cs m | _, _ => match Ztp x with | some y => Ztj r y m | none => Xc
 | rs => match x with | .tuple vs => Zlq rs vs m | _ => Xc
def K7:List AP→List SV→Nat→Bool
 | [], [], _ => Xb
 | .box l :: r, .box cs :: xs, m => ZfF l cs m && K7 r xs (m + l.length)
 | .gbox l :: r, .gbox cs :: xs, m => ZfF l cs m && K7 r xs (m + l.length)
 | .c _ :: r, .dead :: xs, m => K7 r xs m
 | .agg _ :: r, .dead :: xs, m => K7 r xs m
 | .clo _ _ :: r, .dead :: xs, m => K7 r xs m
 | .ref _ _ :: r, .dead :: xs, m => K7 r xs m
 | .dead :: r, .dead :: xs, m => K7 r xs m
 | .sto :: r, .store (.var a) :: xs, m => decide (a = m) && K7 r xs (m + 1)
 | _, _, _ => Xc
section
variable {ρ:Nat→V} {n:Nat} {us:List V}
theorem WE (j:Nat) (h:j < us.length):bind ρ n us (n+j)=vAt us j:=by
 unfold bind vAt
 rw [if_neg (by omega),show n+j-n=j by omega,Xp h]
 rfl
theorem ZfX {s:Sh} {x:SC} {j:Nat} (h:Zsp s x (n+j)=Xb) (hj:j < us.length):x.den (bind ρ n us)=Kb s (vAt us j):=by
 unfold Zsp at h
 split at h
 ·simp only [Xs,decide_eq_true_eq] at h
  obtain ⟨rfl,rfl⟩:=h
  simp only [SC.den,IE.den,WE j hj,Kb]
 ·simp only [decide_eq_true_eq] at h
  subst h
  simp only [SC.den,BE.den,WE j hj,Kb]
 ·simp only [decide_eq_true_eq] at h
  subst h
  simp only [SC.den,SE.den,WE j hj,Kb]
 ·simp only [Xs,decide_eq_true_eq] at h
  obtain ⟨rfl,rfl⟩:=h
  simp only [SC.den,LE.den,WE j hj,Kb]
 ·simp only [decide_eq_true_eq] at h
  subst h
  simp only [SC.den,LE.den,WE j hj,Kb]
 ·cases h
theorem Zhm:∀ (l:List Sh) (cs:List SC) (j:Nat),Zlf l cs (n+j)=Xb→j+l.length≤us.length→cs.map (SC.den (bind ρ n us))=Jb l us j
 | [], [], _, _, _ => rfl
 | [], _ :: _, _, h, _ => by simp [Zlf] at h
 | _ :: _, [], _, h, _ => by simp [Zlf] at h
 | s :: ss, c :: cs, j, h, hl => by
  simp only [Zlf,Xs] at h
  simp only [XJ] at hl
  rw [Xg,Jb,ZfX h.1 (by omega),Zhm ss cs (j+1) (by rw [← Ub];exact h.2) (by omega)]
theorem Zjx {r:RSh} {x:TC} {j:Nat} (h:Ztj r x (n+j)=Xb) (hj:j+r.sh.length≤us.length):x.den (bind ρ n us)=Kt r us j:=by
 unfold Ztj at h
 split at h
 ·exact ZfX h (by simp [RSh.sh] at hj;omega)
 ·simp only [Xs,decide_eq_true_eq,beq_iff_eq] at h
  obtain ⟨⟨rfl,rfl⟩,rfl⟩:=h
  have hj':j < us.length:=by simp [RSh.sh] at hj;omega
  simp only [TC.den,LE.den,WE j hj',Kt,Kb]
 ·simp only [TC.den,Kt,Zhm _ _ j h hj]
 ·cases h
theorem ZhE:∀ (rs:List RSh) (xs:List TC) (j:Nat),Zlq rs xs (n+j)=Xb→j+(rs.flatMap RSh.sh).length≤us.length→xs.map (TC.den (bind ρ n us))=YQ rs us j
 | [], [], _, _, _ => rfl
 | [], _ :: _, _, h, _ => by simp [Zlq] at h
 | _ :: _, [], _, h, _ => by simp [Zlq] at h
 | r :: rs, x :: xs, j, h, hl => by
  simp only [Zlq,Xs] at h
  simp only [List.flatMap_cons,XA] at hl
  rw [Xg,YQ,Zjx h.1 (by omega),ZhE rs xs (j+r.sh.length) (by rw [← Ub];exact h.2) (by omega)]
theorem Zky {x:SV} {y:TC} (h:Ztp x=Xa y) (ρ:Nat→V):x.den ρ=y.den ρ:=by
 unfold Ztp at h
 split at h<;>simp at h<;>subst h<;>rfl
theorem ZpU {s:Sh} {x:BC} {j:Nat} (h:Ztz s x (n+j)=Xb) (hj:j < us.length):x.den (bind ρ n us)=Kb s (vAt us j):=by
 unfold Ztz at h
 split at h
 ·exact ZfX h hj
 ·simp only [Xs,decide_eq_true_eq,beq_iff_eq] at h
  obtain ⟨⟨rfl,rfl⟩,rfl⟩:=h
  simp only [BC.den,LE.den,WE j hj,Kb]
 ·cases h
theorem V1:∀ (l:List Sh) (cs:List BC) (j:Nat),ZfF l cs (n+j)=Xb→j+l.length≤us.length→cs.map (BC.den (bind ρ n us))=Jb l us j
 | [], [], _, _, _ => rfl
 | [], _ :: _, _, h, _ => by simp [ZfF] at h
 | _ :: _, [], _, h, _ => by simp [ZfF] at h
 | s :: ss, c :: cs, j, h, hl => by
  simp only [ZfF,Xs] at h
  simp only [XJ] at hl
  rw [Xg,Jb,ZpU h.1 (by omega),V1 ss cs (j+1) (by rw [← Ub];exact h.2) (by omega)]
theorem ZpX {rs:List RSh} {x:SV} (h:Zts rs x n=Xb) (hl:ZgF rs≤us.length):x.den (bind ρ n us)=KD rs us 0:=by
 unfold Zts at h
 split at h
 ·split at h
  ·rename_i l cs
   have h1:cs.map (BC.den (bind ρ n us))=Jb l us 0:=V1 l cs 0 h (by simpa [ZgF,RSh.sh] using hl)
   simp only [SV.den,KD,Kt,h1]
  ·rename_i l cs
   have h1:cs.map (BC.den (bind ρ n us))=Jb l us 0:=V1 l cs 0 h (by simpa [ZgF,RSh.sh] using hl)
   simp only [SV.den,KD,Kt,h1]
  ·split at h
   ·rename_i y hy
    rw [Zky hy]
    exact Zjx (j:=0) h (by simpa [ZgF] using hl)
   ·cases h
 ·rename_i hne
  split at h
  ·rename_i vs
   have:KD rs us 0 = .tuple (YQ rs us 0):=by
    unfold KD
    split
    ·exact (hne _ rfl).elim
    ·rfl
   rw [this]
   simp only [SV.den,ZhE rs vs 0 h (by simpa [ZgF] using hl)]
  ·cases h
theorem YU:∀ (aps:List AP) (xs:List SV) (j:Nat),K7 aps xs (n+j)=Xb→j+(Yb aps).length≤us.length→xs.map (SV.den (bind ρ n us))=Z7 aps us j
 | [], [], _, _, _ => rfl
 | [], _ :: _, _, h, _ => by simp [K7] at h
 | .box l :: r, x :: xs, j, h, hl => by
  cases x<;>simp [K7] at h
  rename_i cs
  simp only [Yb,XA] at hl
  have h1:cs.map (BC.den (bind ρ n us))=Jb l us j:=V1 l cs j h.1 (by omega)
  simp only [Xg,Z7,SV.den,h1,YU r xs (j+l.length) (by rw [← Ub];exact h.2) (by omega)]
 | .gbox l :: r, x :: xs, j, h, hl => by
  cases x<;>simp [K7] at h
  rename_i cs
  simp only [Yb,XA] at hl
  have h1:cs.map (BC.den (bind ρ n us))=Jb l us j:=V1 l cs j h.1 (by omega)
  simp only [Xg,Z7,SV.den,h1,YU r xs (j+l.length) (by rw [← Ub];exact h.2) (by omega)]
 | .c _ :: r, x :: xs, j, h, hl => by
  cases x<;>simp [K7] at h
  simp only [Yb] at hl
  simp only [Xg,Z7,SV.den,YU r xs j h hl]
 | .agg _ :: r, x :: xs, j, h, hl => by
  cases x<;>simp [K7] at h
  simp only [Yb] at hl
  simp only [Xg,Z7,SV.den,YU r xs j h hl]
 | .clo _ _ :: r, x :: xs, j, h, hl => by
  cases x<;>simp [K7] at h
  simp only [Yb] at hl
  simp only [Xg,Z7,SV.den,YU r xs j h hl]
 | .ref _ _ :: r, x :: xs, j, h, hl => by
  cases x<;>simp [K7] at h
  simp only [Yb] at hl
  simp only [Xg,Z7,SV.den,YU r xs j h hl]
 | .dead :: r, x :: xs, j, h, hl => by
  cases x<;>simp [K7] at h
  simp only [Yb] at hl
  simp only [Xg,Z7,SV.den,YU r xs j h hl]
 | .sto :: r, x :: xs, j, h, hl => by
  cases x<;>try (simp [K7] at h;done)
  rename_i l
  cases l<;>simp [K7] at h
  obtain ⟨rfl,h2⟩:=h
  simp only [Yb,XJ] at hl
  have hjl:j < us.length:=by omega
  simp only [Xg,Z7,SV.den,LE.den,WE j hjl,YU r xs (j+1) (by rw [← Ub];exact h2) (by omega)]
 | a :: _, [], _, h, _ => by cases a <;> simp [K7] at h
end
theorem Zki:∀ (l:List Sh) (x:ShsT l),(Zeo l x).length=l.length
 | [], _ => rfl
 | [_], _ => rfl
 | _ :: t :: r, x => by simp [Zeo, Zki (t :: r) x.2]
def Ztq (P:Program) (r:RSh) (x:TC):Option (List VE):=
 match r,x with
 | .c s, .c x => (Zqs s x).map fun v => [v]
 | .c s, .own x e l => (ZdY P s x e l).map fun v => [v]
 | .agg l, .agg cs => if l.all Sh.imm = Xb then Zhh l cs else Xe
 | _, _ => Xe
def Zi7 (P:Program):List RSh→List TC→Option (List VE)
 | [], [] => Xa []
 | r :: rs, x :: xs => match Ztq P r x, Zi7 P rs xs with | some v, Xa vs => Xa (v ++ vs) | _, _ => Xe
 | _, _ => Xe
def ZtR (P:Program) (rs:List RSh) (x:SV):Option (List VE):=
 match rs with
 | [r] => match r, x with | .box l, .box cs => Zch P l cs | .aggo l, .aggo cs => Zch P l cs | _, _ => match Ztp x with | some y => Ztq P r y | none => Xe
 | rs => match x with | .tuple vs => Zi7 P rs vs | _ => Xe
def Vb (P:Program):List AP→List SV→Option (List VE)
 | [], [] => Xa []
 | .box l :: r, .box cs :: xs => match Zch P l cs, Vb P r xs with | some v, Xa vs => Xa (v ++ vs) | _, _ => Xe
 | .gbox l :: r, .gbox cs :: xs => match Zch P l cs, Vb P r xs with | some v, Xa vs => Xa (v ++ vs) | _, _ => Xe
 | .c _ :: r, .dead :: xs => Vb P r xs
 | .agg _ :: r, .dead :: xs => Vb P r xs
 | .clo _ _ :: r, .dead :: xs => Vb P r xs
 | .ref _ _ :: r, .dead :: xs => Vb P r xs
 | .dead :: r, .dead :: xs => Vb P r xs
 | .sto :: r, .store l :: xs => (Vb P r xs).map fun vs => .l l :: vs
 | _, _ => Xe
def Zje (P:Program) (aps:List AP) (rs:List RSh) (x:SV) (os:List SV):Option (List VE):=
 match ZtR P rs x,Vb P aps os with
 | some vs, Xa us => Xa (vs ++ us)
 | _, _ => Xe
section
variable {P:Program} {ρ:Nat→V}
theorem ZmL {r:RSh} {x:TC} {vs:List VE} (h:Ztq P r x=Xa vs):vs.length=r.sh.length∧∀ pre post:List V,Zcl P (x.den ρ) (Kt r (pre++vs.map (VE.den ρ)++post) pre.length):=by
 unfold Ztq at h
 split at h
 ·cases hd:Zqs _ _ with
  | none => rw [hd] at h; cases h
  | some v =>
   rw [hd] at h
   simp only [Xo,Xf] at h
   subst h
   refine ⟨rfl,fun pre post=>?_⟩
   simp only [Kt,Xg,Xz,Xu,XP,XX,Y8]
   exact .cell (ZfQ hd)
 ·cases hd:ZdY P _ _ _ _ with
  | none => rw [hd] at h; cases h
  | some v =>
   rw [hd] at h
   simp only [Xo,Xf] at h
   subst h
   refine ⟨rfl,fun pre post=>?_⟩
   simp only [Kt,Xg,Xz,Xu,XP,XX,Y8]
   exact .cell (Zdd hd)
 ·split at h
  ·rename_i hi
   obtain ⟨h1,h2,h3⟩:=ZfY (P:=P) (ρ:=ρ) _ _ _ h
   exact ⟨h1,fun pre post=>.agg (by rw [Xq,h2,JG]) (Vz _ _ _ hi) (h3 pre post)⟩
  ·cases h
 ·cases h
theorem Zb2:∀ (rs:List RSh) (us:List V) (j:Nat),(YQ rs us j).length=rs.length
 | [], _, _ => rfl
 | _ :: ss, us, j => by simp [YQ, Zb2 ss us]
theorem Zj5:∀ (rs:List RSh) (xs:List TC) (vs:List VE),Zi7 P rs xs=Xa vs→vs.length=(rs.flatMap RSh.sh).length∧xs.length=rs.length∧∀ pre post:List V,
  ∀ (i:Nat) (c c':AV),(xs.map (TC.den ρ))[i]? = Xa c→(YQ rs (pre++vs.map (VE.den ρ)++post) pre.length)[i]? = Xa c'→Zcl P c c'
 | [], [], vs, h => by
  simp only [Zi7,Xf] at h
  subst h
  exact ⟨rfl,rfl,fun _ _ i c c' h=>by simp at h⟩
 | [], _ :: _, _, h => by simp [Zi7] at h
 | _ :: _, [], _, h => by simp [Zi7] at h
 | r :: rs, x :: xs, us, h => by
  simp only [Zi7] at h
  split at h
  ·rename_i v vs hv hvs
   simp only [Xf] at h
   subst h
   obtain ⟨h1,h2⟩:=ZmL (P:=P) (ρ:=ρ) hv
   obtain ⟨h3,h4,h5⟩:=Zj5 rs xs vs hvs
   refine ⟨by simp [h1,h3],by simp [h4],fun pre post i c1 c2 hc1 hc2=>?_⟩
   cases i with
   | zero =>
    simp only [YQ,Xg,XB,Xf] at hc1 hc2
    subst hc1
    subst hc2
    have:=h2 pre (vs.map (VE.den ρ)++post)
    simpa [Xu] using this
   | succ i =>
    have:=h5 (pre++v.map (VE.den ρ)) post i c1 c2 (by simpa using hc1)
    rw [XA,Xq,h1] at this
    simp only [YQ,X5] at hc2
    refine this ?_
    simpa [Xu] using hc2
  ·cases h
theorem Zrm {rs:List RSh} {x:SV} {vs:List VE} (h:ZtR P rs x=Xa vs):vs.length=ZgF rs∧∀ post:List V,YX P (x.den ρ) (KD rs (vs.map (VE.den ρ)++post) 0):=by
 unfold ZtR at h
 split at h
 ·split at h
  ·rename_i l cs
   obtain ⟨h1,h2,h3⟩:=VC (P:=P) (ρ:=ρ) _ _ _ h
   refine ⟨by simpa [ZgF,RSh.sh] using h1,fun post=>?_⟩
   have:=h3 [] post
   exact .box (by rw [Xq,h2,JG]) (by simpa [KD,Kt] using this)
  ·rename_i l cs
   obtain ⟨h1,h2,h3⟩:=VC (P:=P) (ρ:=ρ) _ _ _ h
   refine ⟨by simpa [ZgF,RSh.sh] using h1,fun post=>?_⟩
   have:=h3 [] post
   exact .aggo (by rw [Xq,h2,JG]) (by simpa [KD,Kt] using this)
  ·split at h
   ·rename_i y hy
    obtain ⟨h1,h2⟩:=ZmL (P:=P) (ρ:=ρ) h
    refine ⟨by simpa [ZgF] using h1,fun post=>?_⟩
    rw [Zky hy]
    have:=h2 [] post
    exact .comp (by simpa [KD] using this)
   ·cases h
 ·rename_i hne
  split at h
  ·rename_i ys
   obtain ⟨h1,h2,h3⟩:=Zj5 (P:=P) (ρ:=ρ) _ _ _ h
   refine ⟨h1,fun post=>?_⟩
   have:∀ us,KD rs us 0 = .tuple (YQ rs us 0):=by
    intro us
    unfold KD
    split
    ·exact (hne _ rfl).elim
    ·rfl
   rw [this]
   refine .tuple (by rw [Xq,h2,Zb2]) fun i c c' hc hc'=>h3 [] post i c c' hc ?_
   simpa using hc'
  ·cases h
theorem Zd0:∀ (aps:List AP) (us:List V) (j:Nat),(Z7 aps us j).length=aps.length
 | [], _, _ => rfl
 | a :: r, us, j => by cases a <;> simp [Z7, Zd0 r us]
theorem KA:∀ (aps:List AP) (xs:List SV) (vs:List VE),Vb P aps xs=Xa vs→vs.length=(Yb aps).length∧xs.length=aps.length∧∀ pre post:List V,
  ∀ (i:Nat) (c c':AV),(xs.map (SV.den ρ))[i]? = Xa c→(Z7 aps (pre++vs.map (VE.den ρ)++post) pre.length)[i]? = Xa c'→YX P c c'
 | [], [], vs, h => by
  simp only [Vb,Xf] at h
  subst h
  exact ⟨rfl,rfl,fun _ _ i c c' h=>by simp at h⟩
 | [], _ :: _, _, h => by simp [Vb] at h
 | a :: _, [], _, h => by cases a <;> simp [Vb] at h
 | .box l :: r, x :: xs, us, h => by
  cases x<;>simp only [Vb,reduceCtorEq] at h
  split at h
  ·rename_i cs v vs hv hvs
   simp only [Xf] at h
   subst h
   obtain ⟨h1,h2,h3⟩:=VC (P:=P) (ρ:=ρ) _ _ _ hv
   obtain ⟨h4,h5,h6⟩:=KA r xs vs hvs
   refine ⟨by simp [h1,h4,Yb],by simp [h5],fun pre post i c1 c2 hc1 hc2=>?_⟩
   cases i with
   | zero =>
    simp only [Z7,Xg,XB,Xf,SV.den] at hc1 hc2
    subst hc1
    subst hc2
    have:=h3 pre (vs.map (VE.den ρ)++post)
    exact .box (by rw [Xq,h2,JG]) (by simpa [Xu] using this)
   | succ i =>
    have:=h6 (pre++v.map (VE.den ρ)) post i c1 c2 (by simpa using hc1)
    rw [XA,Xq,h1] at this
    simp only [Z7,X5] at hc2
    refine this ?_
    simpa [Xu] using hc2
  ·cases h
 | .gbox l :: r, x :: xs, us, h => by
  cases x<;>simp only [Vb,reduceCtorEq] at h
  split at h
  ·rename_i cs v vs hv hvs
   simp only [Xf] at h
   subst h
   obtain ⟨h1,h2,h3⟩:=VC (P:=P) (ρ:=ρ) _ _ _ hv
   obtain ⟨h4,h5,h6⟩:=KA r xs vs hvs
   refine ⟨by simp [h1,h4,Yb],by simp [h5],fun pre post i c1 c2 hc1 hc2=>?_⟩
   cases i with
   | zero =>
    simp only [Z7,Xg,XB,Xf,SV.den] at hc1 hc2
    subst hc1
    subst hc2
    have:=h3 pre (vs.map (VE.den ρ)++post)
    exact .gbox (by rw [Xq,h2,JG]) (by simpa [Xu] using this)
   | succ i =>
    have:=h6 (pre++v.map (VE.den ρ)) post i c1 c2 (by simpa using hc1)
    rw [XA,Xq,h1] at this
    simp only [Z7,X5] at hc2
    refine this ?_
    simpa [Xu] using hc2
  ·cases h
 | .c s :: r, x :: xs, us, h => by
  cases x<;>simp only [Vb,reduceCtorEq] at h
  exact retOs_dead (a:=.c s) r xs us (KA r xs us h) (fun _ _=>rfl) rfl
 | .agg l :: r, x :: xs, us, h => by
  cases x<;>simp only [Vb,reduceCtorEq] at h
  exact retOs_dead (a:=.agg l) r xs us (KA r xs us h) (fun _ _=>rfl) rfl
 | .clo g ds :: r, x :: xs, us, h => by
  cases x<;>simp only [Vb,reduceCtorEq] at h
  exact retOs_dead (a:=.clo g ds) r xs us (KA r xs us h) (fun _ _=>rfl) rfl
 | .ref g ds :: r, x :: xs, us, h => by
  cases x<;>simp only [Vb,reduceCtorEq] at h
  exact retOs_dead (a:=.ref g ds) r xs us (KA r xs us h) (fun _ _=>rfl) rfl
 | .sto :: r, x :: xs, us, h => by
  cases x<;>simp only [Vb,reduceCtorEq] at h
  rename_i l
  obtain ⟨vs,hvs,rfl⟩:=XU.1 h
  obtain ⟨h4,h5,h6⟩:=KA r xs vs hvs
  refine ⟨by simp [h4,Yb],by simp [h5],fun pre post i c1 c2 hc1 hc2=>?_⟩
  cases i with
  | zero =>
   simp only [Z7,Xg,XB,Xf,SV.den] at hc1 hc2
   subst hc1
   subst hc2
   rw [Xu,XP,Y8]
   exact .store
  | succ i =>
   have:=h6 (pre++[.l (l.den ρ)]) post i c1 c2 (by simpa using hc1)
   rw [XA] at this
   simp only [Z7,X5] at hc2
   refine this ?_
   simpa [Xu,VE.den] using hc2
 | .dead :: r, x :: xs, us, h => by
  cases x<;>simp only [Vb,reduceCtorEq] at h
  exact retOs_dead (a:=.dead) r xs us (KA r xs us h) (fun _ _=>rfl) rfl
where
 retOs_dead {a:AP} (r:List AP) (xs:List SV) (us:List VE) (h:us.length=(Yb r).length∧xs.length=r.length∧∀ pre post:List V,
   ∀ (i:Nat) (c c':AV),(xs.map (SV.den ρ))[i]? = Xa c→(Z7 r (pre++us.map (VE.den ρ)++post) pre.length)[i]? = Xa c'→YX P c c')
   (ha:∀ vs j,Z7 (a::r) vs j = .dead::Z7 r vs j) (hs:Yb (a::r)=Yb r):us.length=(Yb (a::r)).length∧(SV.dead::xs).length=(a::r).length∧∀ pre post:List V,
   ∀ (i:Nat) (c c':AV),((SV.dead::xs).map (SV.den ρ))[i]? = Xa c→(Z7 (a::r) (pre++us.map (VE.den ρ)++post) pre.length)[i]? = Xa c'→YX P c c':=by
  obtain ⟨h4,h5,h6⟩:=h
  refine ⟨by rw [hs];exact h4,by simp [h5],fun pre post i c1 c2 hc1 hc2=>?_⟩
  rw [ha] at hc2
  cases i with
  | zero =>
   simp only [Xg,XB,Xf] at hc1 hc2
   subst hc2
   exact .dead
  | succ i => exact h6 pre post i c1 c2 (by simpa using hc1) (by simpa using hc2)
theorem ZkJ {aps:List AP} {rs:List RSh} {x:SV} {os:List SV} {vs:List VE} (h:Zje P aps rs x os=Xa vs) :
  Vv P (os.map (SV.den ρ)++[x.den ρ]) (Z7 aps (vs.map (VE.den ρ)) (ZgF rs)++[KD rs (vs.map (VE.den ρ)) 0]):=by
 unfold Zje at h
 split at h
 ·rename_i a b ha hb
  simp only [Xf] at h
  subst h
  obtain ⟨h1,h2⟩:=Zrm (ρ:=ρ) ha
  obtain ⟨h3,h4,h5⟩:=KA (P:=P) (ρ:=ρ) _ _ _ hb
  have hlo:(os.map (SV.den ρ)).length=(Z7 aps ((a++b).map (VE.den ρ)) (ZgF rs)).length:=by rw [Xq,h4,Zd0]
  refine ⟨by simp only [XA,hlo,XJ,Wi],fun i c c' hc hc'=>?_⟩
  by_cases hi:i < (os.map (SV.den ρ)).length
  ·rw [Xv hi] at hc
   rw [Xv (by rw [← hlo];exact hi)] at hc'
   have:=h5 (a.map (VE.den ρ)) [] i c c' hc
   rw [Xq,h1] at this
   exact .inl (this (by simpa using hc'))
  ·rw [Xy (by omega)] at hc
   rw [Xy (by rw [← hlo];omega),← hlo] at hc'
   have h0:i-(os.map (SV.den ρ)).length=0:=by
    have:=(Xi.1 hc).1
    simp only [XJ,Wi] at this
    omega
   rw [h0] at hc hc'
   simp only [XB,Xf] at hc hc'
   subst hc
   subst hc'
   rw [List.map_append]
   exact .inl (h2 _)
 ·cases h
end
def Zr5 {γ:Type} (A:Nat→List V→Option γ) (n:Nat) (B:List V→Option γ):Nat→List V→Option γ:=fun i vs=>if i=n then B vs else A i vs
def ZnF (ρ:Nat→V):SV→Option (List (List AV))
 | .c (.cel p) => Xa (p.den ρ)
 | _ => Xe
theorem ZjA (ρ:Nat→V) (args:List SV):KH (args.map (ZnF ρ)) (args.map (SV.den ρ)):=by
 intro i l y h1 h2
 rw [Xk] at h1 h2
 cases ha:args[i]? with
 | none => rw [ha] at h1; cases h1
 | some a =>
  rw [ha] at h1 h2
  simp only [Xo,Xf] at h1 h2
  unfold ZnF at h1
  split at h1
  ·cases h1
   exact h2.symm
  ·cases h1
noncomputable def STree.run (P:Program) (Φ:List (FuncId×Fun)) (aps:List AP) (rs:List RSh):STree→(Nat→List V→Option (ShsT (Zeq rs aps)))→(Nat→V)→Option (ShsT (Zeq rs aps))
 | .stuck _, _, _ => Xe
 | .branch b t e, A, ρ => if b.den ρ = Xb then t.run P Φ aps rs A ρ else e.run P Φ aps rs A ρ
 | .req p t, A, ρ => @ZW _ (p.den ρ) (p.decDen ρ) (t.run P Φ aps rs A ρ)
 | .elem l i sh n t, A, ρ => Jn (l.den ρ) (i.den ρ) sh fun r => t.run P Φ aps rs A (bind ρ n (Zeo sh r))
 | .nilq l n t, A, ρ => @ZrA _ (decS _) (l.den ρ) fun b => t.run P Φ aps rs A (bind ρ n [.b b])
 | .call f args res outs n _ t, A, ρ =>
  match ZnD Φ f (args.filterMap SV.sig) with
  | some S => if Zts S.res res n = Xb ∧ K7 S.args outs (n + ZgF S.res) = Xb ∧ Zbh S.args = Xb then ZrV P S (args.map (ZnF ρ)) (args.map (SV.den ρ)) fun us => t.run P Φ aps rs A (bind ρ n us) else Xe
  | none => Xe
 | .loop lv init n t, A, ρ => ZeF (fun rec vs => t.run P Φ aps rs (Zr5 A lv rec) (bind ZgY n vs)) ZeD (init.map (VE.den ρ))
 | .again lv vals, A, ρ => A lv (vals.map (VE.den ρ))
 | .ret res outs, _, ρ => match Zje P aps rs res outs with | some vs => Zqw _ (vs.map (VE.den ρ)) | none => Xe
theorem ZtC {p:Nat→Prop} (h:∃ k,p k):∃ k,p k∧∀ j,j < k→¬ p j:=by
 obtain ⟨k,hk⟩:=h
 induction k using Nat.strongRecOn with
 | _ k ih =>
  by_cases hj:∃ j,j < k∧p j
  ·obtain ⟨j,h1,h2⟩:=hj
   exact ih j h1 h2
  ·exact ⟨k,hk,fun j h1 h2=>hj ⟨j,h1,h2⟩⟩
section
variable {P:Program} {Φ:List (FuncId×Fun)} {aps:List AP} {rs:List RSh}
theorem ZbY (hΦ:Zoz P Φ) {r:ShsT (Zeq rs aps)} {R:AV→List AV→Prop} (hR:∀ x os,Vv P (os++[x]) (Z7 aps (Zeo _ r) (ZgF rs)++[KD rs (Zeo _ r) 0])→R x os) :
  ∀ (t:STree) (A':Nat→List V→Option (ShsT (Zeq rs aps))) (A:Nat→List V→Prop) (ρ:Nat→V),(∀ lv vs,A' lv vs=Xa r→A lv vs)→t.run P Φ aps rs A' ρ=Xa r→t.wp P R A ρ
 | .stuck _, _, _, _, _, h => by simp [STree.run] at h
 | .branch b t e, A', A, ρ, hA, h => by
  simp only [STree.run] at h
  refine ⟨fun hb=>?_,fun hb=>?_⟩
  ·rw [if_pos hb] at h
   exact ZbY hΦ hR t A' A ρ hA h
  ·rw [if_neg (by rw [hb];exact Bool.false_ne_true)] at h
   exact ZbY hΦ hR e A' A ρ hA h
 | .req p t, A', A, ρ, hA, h => by
  obtain ⟨h1,h2⟩:=ZgR (show @ZW _ (p.den ρ) (p.decDen ρ) (t.run P Φ aps rs A' ρ)=Xa r from h)
  exact ⟨h1,ZbY hΦ hR t A' A ρ hA h2⟩
 | .elem l i sh n t, A', A, ρ, hA, h => by
  obtain ⟨h0,cs,x,h1,h2,h3⟩:=Zk5 (show Jn (l.den ρ) (i.den ρ) sh (fun r=>t.run P Φ aps rs A' (bind ρ n (Zeo sh r)))=Xa r from h)
  refine ⟨Zeo sh x,h0,?_,ZbY hΦ hR t A' A _ hA h3⟩
  rw [h1,Zka sh cs x n _ h2 (ZjD.bind ρ n _)]
 | .nilq l n t, A', A, ρ, hA, h => fun b hb => ZbY hΦ hR t A' A _ hA (Zmi (show @ZrA _ (decS _) (l.den ρ) (fun b => t.run P Φ aps rs A' (bind ρ n [.b b])) = Xa r from h) b hb)
 | .call f args res outs n sh t, A', A, ρ, hA, h => by
  simp only [STree.run] at h
  split at h
  ·rename_i S hS
   split at h
   ·rename_i hfit
    obtain ⟨vs,x,h1,h2,h3⟩:=ZkO h
    have hlen:=Zki _ x
    have hl2:(Zeq S.res S.args).length=ZgF S.res+(Yb S.args).length:=by simp [Zeq,ZgF]
    refine ⟨Zeo _ x,?_,ZbY hΦ hR t A' A _ hA h3⟩
    rw [ZpX hfit.1 (by omega),YU S.args outs (ZgF S.res) hfit.2.1 (by omega)]
    exact Yo.freeze S.args _ [] ((Zkb hΦ hS vs x h2).stronger (Zjd (ZdZ _ _ _ (ZjA ρ args)) hfit.2.2 h1)) (Ze3 _ _ _ _ (ZdZ _ _ _ (ZjA ρ args)) h1)
   ·cases h
  ·cases h
 | .loop lv init n t, A', A, ρ, hA, h => by
  let F:=fun (rec:List V→Option (ShsT (Zeq rs aps))) vs=>t.run P Φ aps rs (Zr5 A' lv rec) (bind ZgY n vs)
  have hF:ZeF F ZeD (init.map (VE.den ρ))=Xa r:=h
  have hm:∀ vs,∃ m:Nat,(∃ k,ZeF F k vs=Xa r)→ZeF F m vs=Xa r∧∀ j,ZeF F j vs=Xa r→m≤j:=by
   intro vs
   by_cases hk:∃ k,ZeF F k vs=Xa r
   ·obtain ⟨m,h1,h2⟩:=ZtC hk
    exact ⟨m,fun _=>⟨h1,fun j hj=>Nat.le_of_not_lt fun hlt=>h2 j hlt hj⟩⟩
   ·exact ⟨0,fun h=>(hk h).elim⟩
  obtain ⟨m,hm⟩:=Classical.axiomOfChoice hm
  refine ⟨fun vs=>∃ k,ZeF F k vs=Xa r,m,⟨ZeD,hF⟩,fun vs _ hk=>?_⟩
  obtain ⟨h1,h2⟩:=hm vs hk
  cases hmv:m vs with
  | zero => rw [hmv] at h1; cases h1
  | succ j =>
   rw [hmv] at h1
   refine ZbY hΦ hR t (Zr5 A' lv (ZeF F j)) _ _ (fun lv' vs' hv=>?_) h1
   unfold Zr5 at hv
   unfold Zs9
   split at hv
   ·rename_i he
    rw [if_pos he]
    refine ⟨⟨j,hv⟩,?_⟩
    have:=(hm vs' ⟨j,hv⟩).2 j hv
    omega
   ·rename_i he
    rw [if_neg he]
    exact hA lv' vs' hv
 | .again lv vals, A', A, ρ, hA, h => hA lv _ h
 | .ret res outs, A', A, ρ, hA, h => by
  simp only [STree.run] at h
  split at h
  ·rename_i vs hvs
   refine hR _ _ ?_
   rw [ZgH _ _ _ h]
   exact ZkJ hvs
  ·cases h
end
abbrev LL:Type:=List (List AV)
abbrev E0:LL:=[]
def ZsS (l:List (List AV)):Prop:=∀ e∈l,∃ n:Int,0≤n∧n≤255∧e = [.val (.int .u8 n)]
def Zaz (a b:List (List AV)) (k:Nat):Prop:=(a.length+b.length)*(k+1)≤ZZ
def ZtB (a:Int) (k:Nat):Prop:=0≤a∧a.toNat*(k+1)≤ZZ
instance (l:List (List AV)):Decidable (ZsS l):=Zj8 l
instance (a b:List (List AV)) (k:Nat):Decidable (Zaz a b k):=inferInstanceAs (Decidable ((a.length+b.length)*(k+1)≤ZZ))
instance (a:Int) (k:Nat):Decidable (ZtB a k):=inferInstanceAs (Decidable (0≤a∧a.toNat*(k+1)≤ZZ))
instance (l:List (List AV)):Decidable (l≠[]):=ZnL l
def STree.next:STree→STree
 | .branch _ t _ => t
 | .req _ t => t
 | .elem _ _ _ _ t => t
 | .nilq _ _ t => t
 | .call _ _ _ _ _ _ t => t
 | .loop _ _ _ t => t
 | t => t
def STree.other:STree→STree
 | .branch _ _ e => e
 | t => t
def STree.nexts:Nat→STree→STree
 | 0, t => t
 | k + 1, t => STree.nexts k t.next
def STree.go:STree→List Nat→STree
 | t, [] => t
 | t, 0 :: p => t.next.go p
 | t, 1 :: p => t.other.go p
 | t, k :: p => (STree.nexts k t).go p
@[reducible] def d2 {α β γ:Type} (r:α×β×γ):γ:=r.2.2
@[reducible] def d4 {α β γ δ ε:Type} (r:α×β×γ×δ×ε):ε:=r.2.2.2.2
@[reducible] def d8 {a b c d e f g h i:Type} (r:a×b×c×d×e×f×g×h×i):i:=d4 (d4 r)
@[reducible] def d16 {a b c d e f g h i j k l m n o p q:Type} (r:a×b×c×d×e×f×g×h×i×j×k×l×m×n×o×p×q):q:=d8 (d8 r)
def AP.hp:AP→HP
 | .c s => .c s
 | .agg l => .agg l
 | .box l => .box l
 | .gbox l => .gbox l
 | .clo g ds => .clo g ds
 | .ref j q => .mref j q
 | .dead => .dead
 | .sto => .sto
def ZaI:List AP→Nat→List SV
 | [], _ => []
 | a :: r, n => ZlJ a.hp n :: ZaI r (n + a.n)
def Zr3:List AP→Nat
 | [] => 0
 | a :: r => a.n + Zr3 r
def apsFine (l:List AP):Bool:=l.all fun a=>a.hp.fine
theorem ZoP (a:AP) (us:List V) (j:Nat):Zhv a us j=KE a.hp us j:=by cases a<;>rfl
theorem ZeK:∀ (l:List AP) (n:Nat) (us:List V),apsFine l=Xb→(ZaI l n).map (SV.den (Zs2 us))=VU l us n
 | [], _, _, _ => rfl
 | a :: r, n, us, h => by
  simp only [apsFine,Ur,Xs] at h
  rw [ZaI,Xg,VU,ZoP,ZlR (m:=n) h.1 (ρ:=Zs2 us) (us:=us) (fun j _=>rfl),ZeK r (n+a.n) us h.2]
theorem Zhy:∀ (l:List AP) (n:Nat),∀ x∈ZaI l n,x.bd (n+Zr3 l)
 | [], _ => by simp [ZaI]
 | a :: r, n => by
  intro x hx
  simp only [ZaI,Xl] at hx
  rcases hx with rfl | hx
  ·have hb:(ZlJ a.hp n).bd (n+a.n):=by
    cases a with
    | c s => cases s <;> exact Wp n
    | agg l => exact Jr l n
    | box l => exact Yk l n
    | gbox l => exact Yk l n
    | clo g ds => trivial
    | ref j q => trivial
    | dead => trivial
    | sto => exact Wp n
   exact SV.bd_mono (by simp only [Zr3];omega) _ hb
  ·have:=Zhy r (n+a.n) x hx
   rw [Zr3,← Ub]
   exact this
section
variable {P:Program}
theorem fun_ok {Φ : List (FuncId × Fun)} {E : Env} (hm : P.follows .mixedOrders = Xb) (hps : EnvSound P E) {f : FuncId} {fn : Func} {S : Fun} {n : Nat} {T : STree} (hf : P.funcs[f]? = Xa fn) (hname : (fn.name == "runtime.NumGoroutine") = Xc)
  (hfine:apsFine S.args=Xb) (hn:Zr3 S.args=n) (eq:Ztf P E fn (ZaI S.args 0) n=T) (hΦ:Zoz P Φ) (hg:∀ vs,S.g vs=T.run P Φ S.args S.res (fun _ _=>Xe) (Zs2 vs)):S.Ok P f:=by
 intro vs r h
 rw [hg] at h
 have:=callOk_ofR (R:=fun x os=>Vv P (os++[x]) (Z7 S.args (Zeo _ r) (ZgF S.res)++[KD S.res (Zeo _ r) 0])) hm hps hf hname (args:=ZaI S.args 0) (n:=n) (ρ:=Zs2 vs)
  (fun a ha=>by have:=Zhy S.args 0 a ha;rwa [XF,hn] at this) (fun _ _ h=>h) (by rw [eq];exact ZbY hΦ (fun _ _ h=>h) T _ _ _ (fun _ _ h=>by cases h) h)
 rw [ZeK S.args 0 vs hfine] at this
 exact this
end
section
open Go.Shelf Go.RowKit Go.Lib
variable {P:Program}
def Zii {α β:Type} (R:α→β→Prop) (A:List α) (B:List β):Prop:=∀ (j:Nat) (z:α) (u:β),A[j]? = Xa z→B[j]? = Xa u→R z u
theorem Zii.app {α β:Type} {R:α→β→Prop} {A A':List α} {B B':List β} (hl:A.length=B.length) (h:Zii R A B) (h':Zii R A' B'):Zii R (A++A') (B++B'):=by
 intro j z u hz hu
 by_cases hj:j < A.length
 ·rw [Xv hj] at hz
  rw [Xv (by omega)] at hu
  exact h j z u hz hu
 ·rw [Xy (by omega)] at hz
  rw [Xy (by omega),← hl] at hu
  exact h' _ z u hz hu
theorem Zii.take {α β:Type} {R:α→β→Prop} {A:List α} {B:List β} (h:Zii R A B) (n:Nat):Zii R (A.take n) (B.take n):=by
 intro j z u hz hu
 rw [Xw] at hz hu
 split at hz
 ·rename_i hj
  rw [if_pos hj] at hu
  exact h j z u hz hu
 ·cases hz
theorem Zii.drop {α β:Type} {R:α→β→Prop} {A:List α} {B:List β} (h:Zii R A B) (n:Nat):Zii R (A.drop n) (B.drop n):=by
 intro j z u hz hu
 rw [List.getElem?_drop] at hz hu
 exact h _ z u hz hu
theorem Zii.cut {α β:Type} {R:α→β→Prop} {A:List α} {B:List β} (h:Zii R A B) (n:Nat):Zii R A (B.take n):=by
 intro j z u hz hu
 rw [Xw] at hu
 split at hu
 ·exact h j z u hz hu
 ·cases hu
theorem Zii.ext {α β:Type} {R:α→β→Prop} {A:List α} {B C:List β} (h:Zii R A B) (hl:A.length≤B.length):Zii R A (B++C):=by
 intro j z u hz hu
 have:=(Xi.1 hz).1
 rw [Xv (by omega)] at hu
 exact h j z u hz hu
theorem ZU.trans {w w1 w2:World} {l l1 l2:Lm} {S S1 S2:Nat→Prop} (h:ZU w l w1 l1 S1) (h':ZU w1 l1 w2 l2 S2) (h1:∀ b,S1 b→S b) (h2:∀ b,S2 b→S b∨w.heap.size≤b):ZU w l w2 l2 S where
 os:=h'.os.trans h.os
 tape:=h'.tape.trans h.tape
 output:=h'.output.trans h.output
 size:=XV h.size h'.size
 frz a ha:=(h'.frz a (XI ha h.size)).trans (h.frz a ha)
 blk b hb hn:=by
  have k1:=h.blk b hb fun hs=>hn (h1 b hs)
  have k2:=h'.blk b (XI hb h.size) fun hs=>(h2 b hs).elim hn (fun h=>by omega)
  exact ⟨k2.1.trans k1.1,k2.2.trans k1.2⟩
 ext:=h.ext.trans h'.ext h.size
 t:=h'.t.trans h.t
theorem arg_int {w:World} {lim:Lm} {X:Nat→Nat→Option Nat} {σ:Nat→AV} {d:Nat} {k:IntKind} {z:Int} {v:Value} (h:ZQ P w lim X σ d (.val (.int k z)) v):v = .int k z:=YR (show Rep w lim _ v from h)
end
end Go.AM
namespace Go.W
open Go Go.AM
abbrev Zbq:=List (Nat×List AV)
def ZO (rows:LL) (H:Zbq):Prop:=(H.map (·.1)).Nodup∧∀ p∈H,rows[p.1]? = Xa p.2
theorem ZO.perm {rows:LL} {H H':Zbq} (h:ZO rows H) (hp:H.Perm H'):ZO rows H':=
 ⟨(hp.map _).nodup_iff.1 h.1,fun p hm=>h.2 p (hp.mem_iff.2 hm)⟩
theorem ZO.get {rows:LL} {H:Zbq} (h:ZO rows H) {j:Nat} {row:List AV} (hm:(j,row)∈H):rows[j]? = Xa row:=h.2 _ hm
theorem ZO.lt {rows:LL} {H:Zbq} (h:ZO rows H) {p:Nat×List AV} (hm:p∈H):p.1 < rows.length:=(Xi.1 (h.2 p hm)).1
theorem ZO.push {rows:LL} {H:Zbq} (h:ZO rows H) (x:List AV):ZO (rows++[x]) ((rows.length,x)::H):=by
 refine ⟨?_,fun p hm=>?_⟩
 ·rw [Xg,XS]
  refine ⟨fun hm=>?_,h.1⟩
  obtain ⟨p,hp,he⟩:=Xj.1 hm
  have:=h.lt hp
  omega
 ·rcases Xl.1 hm with rfl | hm
  ·simp
  ·rw [Xv (h.lt hm)]
   exact h.2 p hm
theorem ZO.set {rows:LL} {H:Zbq} {j:Nat} {row:List AV} (h:ZO rows ((j,row)::H)) (row':List AV):ZO (rows.set j row') ((j,row')::H):=by
 have h0:=h.lt (U1 ..)
 have hn:=h.1
 rw [Xg,XS] at hn
 refine ⟨by rw [Xg,XS];exact hn,fun p hm=>?_⟩
 rcases Xl.1 hm with rfl | hm
 ·rw [List.getElem?_set_self h0]
 ·have hne:j≠p.1:=fun e=>hn.1 (Xj.2 ⟨p,hm,e.symm⟩)
  rw [List.getElem?_set_ne hne]
  exact h.2 p (We _ hm)
theorem ZO.tail {rows:LL} {p:Nat×List AV} {H:Zbq} (h:ZO rows (p::H)):ZO rows H:=by
 have hn:=h.1
 rw [Xg,XS] at hn
 exact ⟨hn.2,fun q hm=>h.2 q (We _ hm)⟩
theorem ZO.right {rows:LL} {A H:Zbq} (h:ZO rows (A++H)):ZO rows H:=by
 induction A with
 | nil => exact h
 | cons a A ih => exact ih h.tail
theorem ZO.left {rows:LL} {A H:Zbq} (h:ZO rows (A++H)):ZO rows A:=(h.perm List.perm_append_comm).right
theorem Zub {c:AV} (h:JC c=Xb):Zk [[c]]=c:=Zd2 h
theorem Yt {rows:LL} {j:Nat} {row:List AV} (h:rows[j]? = Xa row):Z9 rows (j+1)=row:=by simp only [Z9,h,UR]
theorem Yr {x:LL} {j o:Nat} (h:Zk x = .oref (j+1) o):Zf .pnn x 0 E0 [] = [[]]:=by simp only [Zf,h,okL]
theorem Zsy {x:LL} {o:Nat} (h:Zk x = .oref 0 o):Zf .pnn x 0 E0 [] = []:=by simp only [Zf,h,okL]
theorem ZaO {x:LL} {j o k:Nat} (h:Zk x = .oref j o):Zf (.padd k) x 0 E0 [] = [[.oref j (o+k)]]:=by simp only [Zf,h,pJ,pO]
theorem Zsb {x:LL} {j o:Nat} (h:Zk x = .oref (j+1) o):Zf .pisr x 0 E0 [] = [[]]:=by simp only [Zf,h,okL]
theorem Zri {x:LL} (h:Zk x = .oref 0 0):Zf .pisr x 0 E0 [] = [[]]:=by simp only [Zf,h,okL]
theorem Zfn {rows:LL} {x:LL} {j o:Nat} {row:List AV} {c:AV} (h:Zk x = .oref (j+1) o) (hr:rows[j]? = Xa row) (h0:JQ row=Xb) (hc:row[o]? = Xa c):Zf (.get 1) rows 0 x [] = [[c]]:=by
 have hlt:=(Xi.1 hc).1
 have hd:(row.drop o).take 1 = [c]:=by
  apply Ua
  intro i
  rw [Xw]
  cases i with
  | zero => simpa using hc
  | succ i => simp
 simp only [Zf,ZoG,h,Yt hr,h0,UE,show decide (o+1≤row.length)=Xb from decide_eq_true (by omega),hd]
theorem ZsC {rows:LL} {x:LL} {j n:Nat} {row:List AV} (h:Zk x = .oref (j+1) 0) (hr:rows[j]? = Xa row) (h0:JQ row=Xb) (hn:row.length=n):Zf (.get n) rows 0 x [] = [row]:=by
 simp only [Zf,ZoG,h,Yt hr,h0,UE,List.drop_zero,show decide (0+n≤row.length)=Xb from decide_eq_true (by omega),show row.take n=row from List.take_of_length_le (by omega)]
theorem Zng {rows:LL} {x:LL} {j o:Nat} {row:List AV} {c:AV} (h:Zk x = .oref (j+1) o) (hr:rows[j]? = Xa row) (ho:o < row.length):Zf .set rows 0 x [c]=rows.set j (row.set o c):=by
 simp only [Zf,Ztn,h,ZC]
 apply Ua
 intro i
 rw [List.getElem?_modify,Ug]
 have hlt:=(Xi.1 hr).1
 by_cases hij:j=i
 ·subst hij
  rw [if_pos rfl,if_pos hlt,hr]
  show Xa (if j=j then setCells row o [c] else row)=Xa (row.set o c)
  rw [if_pos rfl]
  congr 1
  unfold setCells
  apply Ua
  intro k
  rw [JS row [c] o (by simp;omega),Ug]
  by_cases hk:o=k
  ·subst hk
   rw [if_pos ⟨XD _,by simp⟩,if_pos rfl,if_pos ho,Nat.sub_self]
   rfl
  ·rw [if_neg (by simp only [List.length_singleton];omega),if_neg hk]
 ·rw [if_neg hij]
  simp [hij]
end Go.W
namespace Go.Proofs.Ytpjnmgjphfnmmaa
open Go Go.AM Go.RowKit Go.Maps Go.Sort Go.Shelf Go.Proofs
def ZcZ:Go.Shelf.Ren:=⟨fun | 7=>51 | 10=>69 | n=>n,fun | 23=>69 | 26=>3 | 3=>68 | 28=>90 | 0=>0 | 27=>89 | 33=>67 | 4=>4 | n=>n,fun | n=>n⟩
theorem Zow:Go.Proofs.SlLaysZI.n7 Try.prog ZcZ:={
 mixed:=by kernel_rfl
 f7:=⟨Try.f51.name,by decide,Try.func51.trans (congrArg Xa (by kernel_rfl))⟩
 f10:=⟨Try.f69.name,by decide,Try.func69.trans (congrArg Xa (by kernel_rfl))⟩
 t0:=Try.underlying0
 a0:=Try.isAgg0
 z0:=Try.sizeOf0
 v0:=Try.zeroValue0
 t4:=Try.underlying4
 a4:=Try.isAgg4
 z4:=Try.sizeOf4
 v4:=Try.zeroValue4
 t23:=Try.underlying69
 a23:=Try.isAgg69
 z23:=Try.sizeOf69
 v23:=Try.zeroValue69
 t26:=Try.underlying3
 a26:=Try.isAgg3
 z26:=Try.sizeOf3
 v26:=Try.zeroValue3
 t27:=Try.underlying89
 a27:=Try.isAgg89
 z27:=Try.sizeOf89
 v27:=Try.zeroValue89
 t28:=Try.underlying90
 a28:=Try.isAgg90
 z28:=Try.sizeOf90
 v28:=Try.zeroValue90
 t33:=Try.underlying67
 a33:=Try.isAgg67
 z33:=Try.sizeOf67
 v33:=Try.zeroValue67 }
def ZaJ:Go.Shelf.Ren:=⟨fun | 6=>50 | 8=>68 | 9=>43 | 11=>85 | 12=>62 | 13=>63 | 14=>73 | 15=>74 | 16=>75 | 17=>76 | 18=>77 | 19=>78 | 20=>79 | 21=>80 | 22=>81 | 23=>82 | 24=>83 | 25=>88 | 26=>89 | 27=>90 | 28=>91 | 29=>92 | 30=>93 | 31=>94 | n=>n,fun | 0=>0 | 3=>3 | 4=>4 | 5=>5 | 9=>9 | 24=>22 | 26=>3 | 28=>90 | 33=>67 | 37=>99 | 39=>106 | 40=>107 | 45=>112 | 48=>115 | 50=>117 | 51=>119 | 55=>123 | 57=>125 | 58=>126 | n=>n,fun | n=>n⟩
theorem Zl2:Go.Proofs.SlLaysZI.n6 Try.prog ZaJ:={
 mixed:=by kernel_rfl
 f6:=⟨Try.f50.name,by decide,Try.func50.trans (congrArg Xa (by kernel_rfl))⟩
 f8:=⟨Try.f68.name,by decide,Try.func68.trans (congrArg Xa (by kernel_rfl))⟩
 f11:=⟨Try.f85.name,by decide,Try.func85.trans (congrArg Xa (by kernel_rfl))⟩
 t0:=Try.underlying0
 a0:=Try.isAgg0
 z0:=Try.sizeOf0
 v0:=Try.zeroValue0
 t24:=Try.underlying22
 a24:=Try.isAgg22
 z24:=Try.sizeOf22
 v24:=Try.zeroValue22
 t26:=Try.underlying3
 a26:=Try.isAgg3
 z26:=Try.sizeOf3
 v26:=Try.zeroValue3
 t28:=Try.underlying90
 a28:=Try.isAgg90
 z28:=Try.sizeOf90
 v28:=Try.zeroValue90
 i26:=by kernel_rfl }
def ZiN:Go.Shelf.Ren:=⟨fun | 5=>43 | 8=>63 | 7=>62 | 19=>82 | 20=>83 | 10=>73 | 11=>74 | 12=>75 | 13=>76 | 14=>77 | 15=>78 | 16=>79 | 17=>80 | 18=>81 | 30=>88 | 31=>89 | 32=>90 | 33=>91 | 34=>92 | 35=>93 | 40=>94 | n=>n,fun | 23=>22 | 25=>3 | 3=>3 | 32=>99 | 22=>22 | 0=>0 | 44=>115 | 46=>117 | 4=>4 | 36=>107 | 35=>106 | 41=>112 | 5=>5 | 9=>9 | 53=>119 | 57=>123 | 63=>125 | 64=>126 | n=>n,fun | n=>n⟩
theorem Znf:Go.Proofs.SlLaysM.n5 Try.prog ZiN:={
 mixed:=by kernel_rfl
 f5:=⟨Try.f43.name,by decide,Try.func43.trans (congrArg Xa (by kernel_rfl))⟩
 f7:=⟨Try.f62.name,by decide,Try.func62.trans (congrArg Xa (by kernel_rfl))⟩
 f8:=Try.func63.trans (congrArg Xa (by kernel_rfl))
 f10:=⟨Try.f73.name,by decide,Try.func73.trans (congrArg Xa (by kernel_rfl))⟩
 f11:=⟨Try.f74.name,by decide,Try.func74.trans (congrArg Xa (by kernel_rfl))⟩
 f12:=⟨Try.f75.name,by decide,Try.func75.trans (congrArg Xa (by kernel_rfl))⟩
 f13:=⟨Try.f76.name,by decide,Try.func76.trans (congrArg Xa (by kernel_rfl))⟩
 f14:=⟨Try.f77.name,by decide,Try.func77.trans (congrArg Xa (by kernel_rfl))⟩
 f15:=⟨Try.f78.name,by decide,Try.func78.trans (congrArg Xa (by kernel_rfl))⟩
 f16:=⟨Try.f79.name,by decide,Try.func79.trans (congrArg Xa (by kernel_rfl))⟩
 f17:=⟨Try.f80.name,by decide,Try.func80.trans (congrArg Xa (by kernel_rfl))⟩
 f18:=⟨Try.f81.name,by decide,Try.func81.trans (congrArg Xa (by kernel_rfl))⟩
 f19:=Try.func82.trans (congrArg Xa (by kernel_rfl))
 f20:=Try.func83.trans (congrArg Xa (by kernel_rfl))
 f30:=⟨Try.f88.name,by decide,Try.func88.trans (congrArg Xa (by kernel_rfl))⟩
 f31:=Try.func89.trans (congrArg Xa (by kernel_rfl))
 f32:=Try.func90.trans (congrArg Xa (by kernel_rfl))
 f33:=⟨Try.f91.name,by decide,Try.func91.trans (congrArg Xa (by kernel_rfl))⟩
 f34:=⟨Try.f92.name,by decide,Try.func92.trans (congrArg Xa (by kernel_rfl))⟩
 f35:=⟨Try.f93.name,by decide,Try.func93.trans (congrArg Xa (by kernel_rfl))⟩
 f40:=⟨Try.f94.name,by decide,Try.func94.trans (congrArg Xa (by kernel_rfl))⟩
 t0:=Try.underlying0
 a0:=Try.isAgg0
 z0:=Try.sizeOf0
 v0:=Try.zeroValue0
 t3:=Try.underlying3
 a3:=Try.isAgg3
 z3:=Try.sizeOf3
 v3:=Try.zeroValue3
 t4:=Try.underlying4
 a4:=Try.isAgg4
 z4:=Try.sizeOf4
 v4:=Try.zeroValue4
 t5:=Try.underlying5
 a5:=Try.isAgg5
 z5:=Try.sizeOf5
 v5:=Try.zeroValue5
 t9:=Try.underlying9
 a9:=Try.isAgg9
 z9:=Try.sizeOf9
 v9:=Try.zeroValue9
 t22:=Try.underlying22
 a22:=Try.isAgg22
 z22:=Try.sizeOf22
 v22:=Try.zeroValue22
 t23:=Try.underlying22
 a23:=Try.isAgg22
 z23:=Try.sizeOf22
 v23:=Try.zeroValue22
 t25:=Try.underlying3
 a25:=Try.isAgg3
 z25:=Try.sizeOf3
 v25:=Try.zeroValue3
 t32:=Try.underlying99
 a32:=Try.isAgg99
 z32:=Try.sizeOf99
 v32:=Try.zeroValue99
 t35:=Try.underlying106
 a35:=Try.isAgg106
 z35:=Try.sizeOf106
 v35:=Try.zeroValue106
 t36:=Try.underlying107
 a36:=Try.isAgg107
 z36:=Try.sizeOf107
 v36:=Try.zeroValue107
 t41:=Try.underlying112
 a41:=Try.isAgg112
 z41:=Try.sizeOf112
 v41:=Try.zeroValue112
 t44:=Try.underlying115
 a44:=Try.isAgg115
 z44:=Try.sizeOf115
 v44:=Try.zeroValue115
 t46:=Try.underlying117
 a46:=Try.isAgg117
 z46:=Try.sizeOf117
 v46:=Try.zeroValue117
 t53:=Try.underlying119
 a53:=Try.isAgg119
 z53:=Try.sizeOf119
 v53:=Try.zeroValue119
 t57:=Try.underlying123
 a57:=Try.isAgg123
 z57:=Try.sizeOf123
 v57:=Try.zeroValue123
 t63:=Try.underlying125
 a63:=Try.isAgg125
 z63:=Try.sizeOf125
 v63:=Try.zeroValue125
 t64:=Try.underlying126
 a64:=Try.isAgg126
 z64:=Try.sizeOf126
 v64:=Try.zeroValue126 }
open Go.Sort Go.RowKit in
theorem Zpn (m:Nat):AnyZI.SortsIn Try.prog ZaJ Fence.wide m:=
  ⟨fun blk off cap ss W hH hblk hsz=>callsIn_wide.2 (AnyM.slices_Sort_int Znf blk off cap ss W hH hblk hsz),
   fun p cap W=>callsIn_wide.2 (AnyM.slices_Sort_int_none Znf p cap W)⟩
theorem Zmk:Vp Try.prog [(51,50,69)]:=by
 intro p hp
 obtain rfl:=XC.1 hp
 refine ⟨⟨_,Try.func51,by kernel_rfl,by kernel_rfl⟩,⟨_,Try.func50,by kernel_rfl,by kernel_rfl⟩,fun b w=>?_,fun w B b es clock hB hb hs hsz hk=>?_⟩
 ·have cK:CallsIn Fence.wide 5 Try.prog 51 #[.map (Xa b)] w fun e w'=>e = .returned (.func (.func 69) #[] #[.pointer (Xa ⟨w.heap.size,0,Xe⟩)])∧w'=w.alloc (.cells #[.map (Xa b)] 69):=AnyZI.keys_in Zow Fence.wide 5 trivial rfl (Xa b) w
  exact (callsIn_wide.1 cK).mono (by rintro e w' ⟨rfl,rfl⟩;exact ⟨rfl,69,rfl⟩)
 ·have hml:(1048576:Nat)≤maxLen:=by decide
  let R:Value→Option (DataW Unit×List MemPlace):=fun _=>Xa (.nil,[])
  have hrd:∀ x∈es.toList,∃ z:Int,x.key = .int .i64 z∧WideElems.rd Try.prog 3 R x=Xa (.int .i64 z,.nil):=fun x hx=>by
   obtain ⟨z,h1,h2,h3⟩:=hk x hx
   refine ⟨z,h1,?_⟩
   have hkey:keyOf Try.prog 3 x.key=Xa (.int .i64 z):=by
    rw [h1]
    have e1:IntKind.i64.min = -9223372036854775808:=by decide
    have e2:IntKind.i64.max=9223372036854775807:=by decide
    exact keyOf_int_mk Try.underlying3 (by simp [Lit.wf,e1,e2];omega)
   simp [WideElems.rd,hkey,R]
  obtain ⟨D0,hD⟩:∃ D0:DataW Unit,D0 = .map ((es.toList.map (WideElems.rg Try.prog 3 R)).foldr DataW.insert []):=⟨_,rfl⟩
  have hown:w.ownsMap Try.prog 3 R b es.size D0:=⟨es,clock,hb,⟨XV hsz hml,hs,fun x hx=>by obtain ⟨z,_,h⟩:=hrd x hx;exact ⟨_,h⟩⟩,XD _,hD⟩
  have hperm:(intKeys D0).Perm (es.toList.map Zik):=by
   have h1:intKeys D0=((es.toList.map (WideElems.rg Try.prog 3 R)).foldr DataW.insert []).map fun p=>Go.intOf p.1:=by rw [hD];rfl
   rw [h1]
   refine ((WideShapes.sorted_perm _).map _).trans ?_
   rw [List.map_map]
   have:es.toList.map ((fun p:Lit×DataW Unit=>Go.intOf p.1) ∘ WideElems.rg Try.prog 3 R)=es.toList.map Zik:=List.map_congr_left fun x hx=>by
    obtain ⟨z,h1,h2⟩:=hrd x hx
    simp only [Function.comp]
    rw [WideElems.rg_of h2]
    simp [Go.intOf,Zik,h1]
   rw [this]
  have hsize:Maps.size D0=es.size:=by
   rw [hD,Maps.size_eq,(WideShapes.sorted_perm _).length_eq]
   simp
  have hseq:SeqGives Fence.wide 2 Try.prog 69 #[.pointer (Xa ⟨B,0,Xe⟩)] encZ (fun ss=>ss.Perm (intKeys D0)) (Maps.size D0) w:=
   AnyZI.keys_gives (ρ:=ZcZ) { Zow with } Fence.wide _ trivial rfl (by omega) B b es.size D0 w (World.block_lt_of_cell? w ⟨B,0,Xe⟩ hB) hB hown
  have cS:=AnyZI.sorted_in Zl2 Fence.wide 5 trivial trivial trivial trivial rfl (by omega) (Zpn _) (enters_of Try.func43 (by kernel_rfl) rfl) 69 #[.pointer (Xa ⟨B,0,Xe⟩)] trivial (enters_of Try.func69 (by kernel_rfl) rfl) _ _ (by rw [hsize];exact XV hsz hml) (by rw [hsize];omega) _ hseq
  change CallsIn _ _ Try.prog 50 _ _ _ at cS
  refine (callsIn_wide.1 cS).mono ?_
  rintro e w' ⟨v,ss,rfl,hS,hrow,_,hbel⟩
  have hp2:=hS.trans hperm
  have hlen:ss.length=es.size:=by rw [hp2.length_eq];simp
  rw [hlen,mergeSort_of_perm_i hp2] at hrow
  exact ⟨v,3,rfl,hrow,hbel⟩
end Go.Proofs.Ytpjnmgjphfnmmaa
namespace Go.AM
section
variable {P:Program}
noncomputable def ZcA (h:FuncId) (c rows:LL):Option (LL×LL):=
 match Zk c with
 | .fnc h' [jb + 1] =>
  match Z9 rows (jb+1) with
  | [.omap (q + 1)] => ZW (h' = h ∧ Yu (Z9 rows (q + 1)) = Xb ∧ (Kv (Z9 rows (q + 1))).length ≤ 1048576 ∧ (Kv (Z9 rows (q + 1))).all Zbv = Xb) <| some (ZdH (Kv (Z9 rows (q + 1))), rows)
  | _ => Xe
 | _ => Xe
noncomputable def Zga (h:FuncId):List V→Option (LL×LL)
 | [.l c, .l rows] => ZcA h c rows
 | _ => Xe
noncomputable def ZfC (h:FuncId):Fun where
 args:=[.c .cel,.sto]
 res:=[.c (.slice 1)]
 g:=Zga h
theorem Zht {w:World} {lim:Lm} {Xd:Nat→Option Nat} {rows:List (List AV)} {j:Nat} (h:YG P w lim Xd rows) (hc:JQ (Z9 rows (j+1))=Xb) :
  ∃ (b cap:Nat) (arr:Array Value) (t:TypeId),Xd (j+1)=Xa b∧lim.t (j+1)=Xa (b,cap,t)∧w.heap[b]? = Xa (.cells arr t (0,0))∧lim b=0∧cap≤maxLen∧arr.size=cap*P.cellsOf t∧(Z9 rows (j+1)).length≤arr.size∧
   (∀ x∈Z9 rows (j+1),x.isCell=Xb)∧∀ (i:Nat) (x:AV) (u:Value),(Z9 rows (j+1))[i]? = Xa x→arr[i]? = Xa u→Rep w lim x u:=by
 have hr:=Zby hc
 generalize Z9 rows (j+1)=row at hc hr
 rcases h.2.2 j row hr with rfl | ⟨b,cap,ty,h1,h2,h3,h4⟩
 ·cases hc
 ·rcases h4 with ⟨arr,g0,g1,g2,g3,g4,g5⟩ | ⟨_,_,_,_,rfl,_⟩
  ·exact ⟨b,cap,arr,ty,h2,h1,g1,h3,g0,g2,g3,g4,g5⟩
  ·cases hc
theorem Zpy {w w':World} {lim lim':Lm} {X:Nat→Nat→Option Nat} {cargs:List Value} {rows rows':List (List AV)} {c res:AV} {v:Value} (hc:JC c=Xb) (hs:ZU w lim w' lim' (fun b=>∃ i k,X i k=Xa b)) (hr:YG P w' lim' (X 1) rows') (hd:ZlI X) (hz:∀ i k b,X i k=Xa b→b < w.heap.size)
  (hv:Rep w' lim' res v∨(res = .tuple []∧v = .tuple #[])) (hp:res.isCell=Xb∨res = .tuple []) :
  ∃ v' lim'' X',Ending.returned v = .returned v'∧VY w lim w' lim'' (fun b=>∃ i k,X i k=Xa b) ([c,AV.store rows].any AV.isSto)∧[AV.dead,AV.store rows'].length = [c,AV.store rows].length∧
   (∀ i,ZQ P w' lim'' X' (ZI ([AV.dead,AV.store rows']++[res])) i (ZI ([AV.dead,AV.store rows']++[res]) i) (ZaK [c,AV.store rows].length cargs v' i))∧ZlI X'∧
   (∀ i k b,X' i k=Xa b→b < w'.heap.size∧((∃ i k,X i k=Xa b)∨w.heap.size≤b))∧(∀ i,(ZI ([AV.dead,AV.store rows']++[res]) i).isG=Xb→(ZI [c,AV.store rows] i).isG=Xb∧X' i 0=X i 0)∧V8 P [AV.dead,AV.store rows']∧ZrX P w' lim'' X' res [c,AV.store rows].length:=by
 have hX:∀ i k b,(if i=1 then X 1 k else Xe)=Xa b→i=1∧X 1 k=Xa b:=fun i k b h=>by
  split at h
  ·exact ⟨by assumption,h⟩
  ·cases h
 have hat:∀ i,ZI ([AV.dead,AV.store rows']++[res]) i=if i=1 then .store rows' else if i=2 then res else .dead:=fun i=>by
  match i with
  | 0 => rfl
  | 1 => rfl
  | 2 => rfl
  | i + 3 => simp [ZI]
 have hnown:∀ k e xs,ZY res k=Xa (e,xs)→False:=fun k e xs h=>by
  rcases hp with hp | rfl
  ·cases res<;>first | (cases k<;>cases h;done) | cases hp
  ·cases k with
   | zero => cases h
   | succ k => simp [ZY] at h
 refine ⟨v,lim',fun i k=>if i=1 then X 1 k else Xe,rfl,hs.c _,rfl,fun i=>?_,fun d k d' k' b h1 h2=>?_,fun i k b h=>?_,fun i h=>?_,fun i k e xs h=>?_,fun k e xs b h1 _ _=>(hnown k e xs h1).elim⟩
 ·rw [hat]
  by_cases h1:i=1
  ·subst h1
   rw [if_pos rfl]
   show YG P w' lim' (fun k=>if 1=1 then X 1 k else Xe) rows'
   simpa using hr
  ·rw [if_neg h1]
   by_cases h2:i=2
   ·subst h2
    rw [if_pos rfl]
    show ZQ P w' lim' _ _ 2 res (if 2=2 then v else cargs.getD 2 undef)
    rw [if_pos rfl]
    rcases hv with hv | ⟨rfl,rfl⟩
    ·rcases hp with hp | rfl
     ·exact (Kc (k:=2) hp hv).2
     ·cases hv
    ·exact ⟨[],rfl,rfl,fun j c u hj _=>by simp at hj⟩
   ·rw [if_neg h2]
    trivial
 ·obtain ⟨rfl,g1⟩:=hX _ _ _ h1
  obtain ⟨rfl,g2⟩:=hX _ _ _ h2
  exact ⟨rfl,(hd _ _ _ _ _ g1 g2).2⟩
 ·obtain ⟨rfl,g1⟩:=hX _ _ _ h
  exact ⟨XI (hz _ _ _ g1) hs.size,.inl ⟨1,k,g1⟩⟩
 ·rw [hat] at h
  by_cases h1:i=1
  ·subst h1
   exact ⟨rfl,if_pos rfl⟩
  ·rw [if_neg h1] at h
   split at h
   ·rcases hp with hp | rfl
    ·cases res<;>first | (cases h;done) | cases hp
    ·cases h
   ·cases h
 ·exfalso
  have:ZI [AV.dead,AV.store rows'] i = .dead∨ZI [AV.dead,AV.store rows'] i = .store rows':=by
   match i with
   | 0 => exact .inl rfl
   | 1 => exact .inr rfl
   | i + 2 => exact .inl rfl
  rcases this with e1 | e1<;>rw [e1] at h<;>cases k<;>cases h
theorem ZqV {c:AV} {rows:List (List AV)} {cargs:List Value} {v:Value} (hl:cargs.length + [c,AV.store rows].countP AV.isG≤[c,AV.store rows].length) (hc:JC c=Xb) (hv:cargs.getD 0 undef=v) (hne:v≠undef):cargs.toArray = #[v]:=by
 have hcc : [c,AV.store rows].countP AV.isG=1:=by
  rcases YH hc with ⟨_,_,rfl⟩ | ⟨_,_,_,rfl⟩ | ⟨_,rfl⟩ | ⟨_,_,rfl⟩ <;> rfl
 rw [hcc] at hl
 simp only [XJ,Wi] at hl
 match cargs,hl,hv with
 | [], _, hv => exact (hne (by rw [← hv]; rfl)).elim
 | [x], _, hv => rw [show x = v from hv]
 | _ :: _ :: _, hl, _ => simp at hl
theorem Zl4:∀ (es:List MapEntry) (kvs:List (List AV)),es.length=kvs.length→(∀ (i:Nat) (en:MapEntry) (kv:List AV),es[i]? = Xa en→kvs[i]? = Xa kv→∃ (k:Int) (q:Nat),kv = [.val (.int .i64 k),.oref q 0]∧en.key = .int .i64 k)→kvs.filterMap ZM=es.map Zik
 | [], [], _, _ => rfl
 | [], _ :: _, h, _ => by cases h
 | _ :: _, [], h, _ => by cases h
 | en :: es, row :: kvs, hl, h => by
  obtain ⟨k,q,h1,h2⟩:=h 0 en row rfl rfl
  have hk:Zik en=k:=by simp [Zik,h2]
  have ih:=Zl4 es kvs (by simpa using hl) fun i en row g1 g2=>h (i+1) en row (by simpa using g1) (by simpa using g2)
  rw [h1,List.filterMap_cons_some (f:=ZM) (b:=k) rfl,ih,Xg,hk]
theorem ZkL {ks:List (FuncId×FuncId×FuncId)} {p:FuncId×FuncId×FuncId} (hks:Vp P ks) (hp:p∈ks):(ZfC p.2.2).Ok P p.2.1:=by
 intro vs r hg
 have hg:Zga p.2.2 vs=Xa r:=hg
 unfold Zga at hg
 split at hg
 case h_2=>cases hg
 rename_i c rows _
 obtain ⟨_,hf,_,k4⟩:=hks p hp
 obtain ⟨r1,r2⟩:=r
 show Yo P p.2.1 [Zk c,.store rows] (.slice Xc 1 r1) [.dead,.store r2]
 refine ⟨hf,show (2:Nat) < ngN by decide,fun w lim X cargs hl hrel hd hs hX=>?_⟩
 have hr0:ZQ P w lim X (ZI [Zk c,.store rows]) 0 (Zk c) (cargs.getD 0 undef):=hrel 0
 have hr1:YG P w lim (X 1) rows:=hrel 1
 have hrep:Rep w lim (Zk c) (cargs.getD 0 undef):=Y5 (Q:=fun z=>ZQ P w lim X (ZI [Zk c,.store rows]) 0 z (cargs.getD 0 undef)→Rep w lim z (cargs.getD 0 undef)) _ (fun _ _ h=>h) (fun _ _ _ h=>h) (fun _ h=>h) (fun _ _ h=>h) hr0
 unfold ZcA at hg
 split at hg
 case h_2=>cases hg
 rename_i h' jb hce
 split at hg
 case h_2=>cases hg
 rename_i q hrow
 obtain ⟨⟨rfl,hmap,hlen,hfine⟩,hg2⟩:=ZgR hg
 have hg3:(ZdH (Kv (Z9 rows (q+1))),rows)=(r1,r2):=Xr hg2
 have e1:=congrArg Prod.fst hg3
 have e2:=congrArg Prod.snd hg3
 dsimp only at e1 e2
 subst e1
 subst e2
 rw [hce] at hrep
 obtain ⟨B,capB,tB,hlB,hval⟩:∃ B cap ty,lim.t (jb+1)=Xa (B,cap,ty)∧cargs.getD 0 undef = .func (.func p.2.2) #[] #[.pointer (Xa ⟨B,0,Xe⟩)]:=by
  generalize cargs.getD 0 undef=v at hrep
  cases hrep with
  | @fnc _ _ bs hbl h =>
   match bs,hbl,h with
   | [b], _, h =>
    obtain ⟨_,cap,ty,ht⟩:=h 0 (jb+1) b rfl rfl
    exact ⟨b,cap,ty,ht,rfl⟩
 obtain ⟨b0,cap0,arr0,t0,g1,g2,g4,g5,g0,g6,g7,g8,g9⟩:=Zht hr1 (j:=jb) (by rw [hrow];rfl)
 rw [g2] at hlB
 obtain ⟨rfl,rfl,rfl⟩:b0=B∧cap0=capB∧t0=tB:=by cases hlB;exact ⟨rfl,rfl,rfl⟩
 have hlt:0 < arr0.size:=by rw [hrow] at g7;simp at g7;omega
 have hu:arr0[0]? = Xa arr0[0]:=XZ hlt
 obtain ⟨b,cap,ty,m1,m2⟩:=Za5 (g9 0 (.omap (q+1)) _ (by rw [hrow];rfl) hu)
 have hcell:w.cell? ⟨b0,0,Xe⟩=Xa (.map (Xa b)):=by
  rw [Zh g4]
  simp [← m2]
 -- the map
 have hq:rows[q]? = Xa (Z9 rows (q+1)):=by
  simp only [Z9] at hmap ⊢
  cases hr:rows[q]? with
  | none => rw [hr] at hmap; cases hmap
  | some row => rfl
 obtain ⟨es,clock,n1,n2,n3,n4⟩:∃ (es:Array MapEntry) (clock:Nat),w.heap[b]? = Xa (.map es clock)∧es.size=(Kv (Z9 rows (q+1))).length∧MapKept.Stamped es clock∧
   ∀ (i:Nat) (en:MapEntry) (kv:List AV),es[i]? = Xa en→(Kv (Z9 rows (q+1)))[i]? = Xa kv→∃ (k:Int) (q:Nat),kv = [.val (.int .i64 k),.oref q 0]∧en.key = .int .i64 k:=by
  generalize Z9 rows (q+1)=row at hq hmap
  rcases hr1.2.2 q row hq with rfl | ⟨b1,cap1,t1,z1,z2,z3,z4⟩
  ·cases hmap
  ·rw [m1] at z1
   cases z1
   rcases z4 with ⟨arr,_,_,_,_,z5,_⟩ | ⟨es,clock,kvs,z5,rfl,z6,z7,z8⟩
   ·unfold Yu at hmap
    split at hmap
    ·have:=z5 .dead (by simp)
     cases this
    ·cases hmap
   ·exact ⟨es,clock,z5,z6,z7,fun i en kv a1 a2=>by obtain ⟨k,q,y1,y2,_⟩:=z8 i en kv a1 a2;exact ⟨k,q,y1,y2⟩⟩
 generalize hkvs:Kv (Z9 rows (q+1))=kvs at *
 rw [ZqV hl (YT c) hval (by intro h;cases h)]
 have hkeys:kvs.filterMap ZM=es.toList.map Zik:=Zl4 es.toList kvs (by simpa using n2) fun i en row g1 g2=>by
  obtain ⟨k,q,y1,y2⟩:=n4 i en row (by simpa using g1) g2
  exact ⟨k,q,y1,y2⟩
 refine (k4 w b0 b es clock hcell n1 n3 (by omega) fun x hx=>?_).mono ?_
 ·obtain ⟨i,hi,rfl⟩:=List.mem_iff_getElem.1 hx
  have hi':i < es.size:=by simpa using hi
  obtain ⟨k,q',h2,h3⟩:=n4 i es[i] (kvs[i]'(by omega)) (XZ hi') (Xp _)
  have hf:=XE.1 hfine (kvs[i]'(by omega)) (Wl _)
  rw [h2] at hf
  have hf:(decide (-9223372036854775808≤k)&&decide (k≤9223372036854775807))=Xb:=hf
  simp only [Xs,decide_eq_true_eq] at hf
  have:es.toList[i]=es[i]:=by simp
  exact ⟨k,by rw [this];exact h3,hf.1,hf.2⟩
 ·rintro e1 w' ⟨v,et,rfl,hown,hbel⟩
  have hstep:ZU w lim w' ⟨fun b'=>if b' < w.heap.size then lim b' else es.size,lim.t⟩ (fun _=>False):=Zan hbel _
  refine Zpy (c:=Zk c) (YT c) (hstep.sub fun _ h=>h.elim) (hr1.mono hstep.ext (fun k b hb=>hstep.blk b (hs _ _ _ hb) fun h=>h.elim) rfl) hd hs (.inl ?_) (.inl rfl)
  have hmk:ZdH kvs=((es.toList.map Zik).mergeSort fun x y=>decide (x≤y)).map fun z=>[.val (.int .i64 z)]:=by simp only [ZdH,hkeys]
  rw [hmk]
  generalize hz:(es.toList.map Zik).mergeSort (fun x y=>decide (x≤y))=zs at hown
  have hzl:zs.length=es.size:=by rw [← hz];simp
  rcases hown.2 with ⟨rfl,hn0⟩ | ⟨g,cap,cur,rfl,hbg,hg,hnc,hcm,hcs,htake⟩
  ·have:zs = []:=List.eq_nil_of_length_eq_zero (by omega)
   subst this
   exact .sliceN
  ·rw [← hzl] at hnc ⊢
   have hl2:(zs.map fun z=>[AV.val (.int .i64 z)]).length=zs.length:=by simp
   have hfl:(zs.map fun z=>[AV.val (.int .i64 z)]).flatten=zs.map fun z=>AV.val (.int .i64 z):=ZaT zs
   have key:=Rep.sliceC (w:=w') (lim:=(⟨fun b'=>if b' < w.heap.size then lim b' else zs.length,lim.t⟩:Lm)) (full:=Xc) (s:=1) (xs:=zs.map fun z=>[AV.val (.int .i64 z)]) (b:=g) (o:=0) (cap:=cap) (us:=zs.map (Value.int .i64))
    (fun x hx=>by obtain ⟨z,_,rfl⟩:=Xj.1 hx;rfl) (fun x hx y hy=>by obtain ⟨z,_,rfl⟩:=Xj.1 hx;rw [XC.1 hy];rfl) (fun h=>by cases h) (by rw [hl2];exact hnc)
    (fun _=>by dsimp only;rw [if_neg (by omega)];simp) (by simp) (fun j u hj=>?_) (fun j y u hy hu=>?_)
   ·rw [hl2] at key
    exact key
   ·have hcell:=hown.cells (g:=g) rfl j u hj
    have hadd:(⟨g,0,Xe⟩:Addr).add j=⟨g,0+j,Xe⟩:=by unfold Addr.add;split<;>simp_all
    rw [hadd] at hcell
    exact hcell
   ·rw [hfl,Xk] at hy
    rw [Xk] at hu
    cases hzj:zs[j]? with
    | none => rw [hzj] at hy; cases hy
    | some z =>
     rw [hzj] at hy hu
     cases hy
     cases hu
     exact .val rfl
end
end Go.AM
namespace Go.Proofs.Ytpjnmgjphfnmmaa
open Go Go.AM
theorem ZiX:(ZfC 69).Ok Try.prog 50:=ZkL Zmk (p:=(51,50,69)) (by simp)
end Go.Proofs.Ytpjnmgjphfnmmaa
