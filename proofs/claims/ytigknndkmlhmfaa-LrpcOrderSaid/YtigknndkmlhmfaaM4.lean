/- AmSnd2, AmSnd3, AmReg, AmEvo: texts of the proof, put together. -/
import Derived.Test.YtigknndkmlhmfaaM3
import Derived.Orders

section
namespace Go.AM
theorem ZgS (ρ:Nat→V) (c:SC):(c.den ρ).isCell=true:=by cases c<;>rfl
theorem KX {x:SV} {cs:List SC} (ρ:Nat→V) (h:x.cells=some cs):(x.den ρ).cells? = some (cs.map (SC.den ρ)):=by
 cases x with
 | c y =>
  simp only [SV.cells,Option.some.injEq] at h
  subst h
  cases y<;>rfl
 | agg ds =>
  simp only [SV.cells,Option.some.injEq] at h
  subst h
  rfl
 | _ => simp [SV.cells] at h
theorem Wj {x:SV} {cs:List SC} {n:Nat} (h:x.cells=some cs) (hx:x.bd n):∀ c∈cs,c.bd n:=by
 cases x with
 | c y =>
  simp only [SV.cells,Option.some.injEq] at h
  subst h
  intro c hc
  simp at hc
  subst hc
  exact hx
 | agg ds =>
  simp only [SV.cells,Option.some.injEq] at h
  subst h
  exact hx
 | _ => simp [SV.cells] at h
theorem Zbe (ρ:Nat→V) (place:Nat→Option (Nat×Nat)):∀ (parts:List (Nat×SV)) (cells out:List SC),Zdm place cells parts=some out→
  ZbJ place (cells.map (SC.den ρ)) (parts.map fun p=>(p.1,p.2.den ρ))=some (out.map (SC.den ρ))
 | [], cells, out, h => by simp only [Zdm, Option.some.injEq] at h; subst h; rfl
 | (i, v) :: parts, cells, out, h => by
  simp only [Zdm] at h
  split at h
  ·rename_i off size vc hp hv
   split at h
   ·rename_i hc
    have ih:=Zbe ρ place parts _ out h
    simp only [List.map_append,List.map_take,List.map_drop] at ih
    simp only [List.map_cons,ZbJ,hp,KX ρ hv]
    rw [if_pos (by simpa using hc)]
    exact ih
   ·cases h
  ·cases h
theorem Zds {n:Nat} (place:Nat→Option (Nat×Nat)):∀ (parts:List (Nat×SV)) (cells out:List SC),(∀ c∈cells,c.bd n)→(∀ p∈parts,p.2.bd n)→Zdm place cells parts=some out→∀ c∈out,c.bd n
 | [], cells, out, hc, _, h => by simp only [Zdm, Option.some.injEq] at h; subst h; exact hc
 | (i, v) :: parts, cells, out, hc, hp, h => by
  simp only [Zdm] at h
  split at h
  ·rename_i off size vc hpl hv
   split at h
   ·refine Zds place parts _ out (fun c hcc=>?_) (fun p hp'=>hp p (by simp [hp'])) h
    rcases List.mem_append.1 hcc with h1 | h1
    ·rcases List.mem_append.1 h1 with h1 | h1
     ·exact hc c (List.mem_of_mem_take h1)
     ·exact Wj hv (hp (i,v) (by simp)) c h1
    ·exact hc c (List.mem_of_mem_drop h1)
   ·cases h
  ·cases h
theorem Vd (ρ:Nat→V):∀ (cs:List SC),(ZgQ cs).den ρ=cs.map (SC.den ρ)
 | [] => rfl
 | c :: cs => by simp only [ZgQ, CE.den, Vd ρ cs, List.map_cons]
theorem WC {n:Nat} : ∀ (cs:List SC),(∀ c∈cs,c.bd n)→(ZgQ cs).bd n
 | [], _ => trivial
 | c :: cs, h => ⟨h c (by simp), WC cs fun x hx => h x (by simp [hx])⟩
theorem Zh3 (ρ:Nat→V) (size:Nat) (cs:List SC):∀ (n:Nat),(lOf size cs n).den ρ=Wh size (cs.map (SC.den ρ)) n
 | 0 => rfl
 | n + 1 => by
  simp only [lOf,LE.den,Zh3 ρ size cs n,Vd,Wh,List.range_succ,List.map_append,List.map_cons,List.map_nil,List.map_take,List.map_drop]
theorem Zk3 {m:Nat} (size:Nat) (cs:List SC) (h:∀ c∈cs,c.bd m):∀ (n:Nat),(lOf size cs n).bd m
 | 0 => trivial
 | n + 1 => ⟨Zk3 size cs h n, WC _ fun c hc => h c (List.mem_of_mem_drop (List.mem_of_mem_take hc))⟩
theorem Zcc (P:Program) (ρ:Nat→V) (b:BC):(ZcM P b).den ρ=J9 P (b.den ρ):=by
 cases b with
 | c x => cases x <;> rfl
 | own x e l => rfl
 | gone => rfl
theorem Zbp {cs:List BC} (h:KZ cs=true) (ρ:Nat→V):Zbo (cs.map (BC.den ρ)):=by
 intro c hc e xs he
 obtain ⟨b,hb,rfl⟩:=List.mem_map.1 hc
 unfold KZ at h
 rw [List.all_eq_true] at h
 have:=h b hb
 cases b with
 | c x => cases x <;> cases he
 | own x e l =>
  cases x with
  | false => cases he
  | true => cases this
 | gone => cases he
theorem Wd {cs:List BC} (h:K7 cs=true) (ρ:Nat→V):Whole (cs.map (BC.den ρ)):=by
 intro c hc he
 obtain ⟨b,hb,rfl⟩:=List.mem_map.1 hc
 unfold K7 at h
 rw [List.all_eq_true] at h
 have:=h b hb
 cases b with
 | c x => cases x <;> cases he
 | own x e l => cases he
 | gone => cases this
theorem ZiT {P:Program} {n:Nat} {b:BC} (h:b.bd n):(ZcM P b).bd n:=by
 cases b<;>exact h
theorem Zku {P:Program} {T:TypeId} {cs:List BC} (ρ:Nat→V) (n:Nat) (h:Zma P T=some cs) :
  ∃ i z,P.info? T=some i∧i.zero=some z∧Zk9 (cs.map (BC.den ρ)) z.cells.toList∧∀ c∈cs,c.bd n:=by
 unfold Zma at h
 split at h
 ·rename_i i hi
  split at h
  ·rename_i z hz
   split at h
   ·rename_i sc hsc
    split at h
    ·rename_i hlen
     simp only [Option.some.injEq] at h
     subst h
     have hl:sc.length=z.cells.toList.length:=by
      have h1:=Y6 ρ z.cells.toList
      rw [hsc] at h1
      have h2:=(V8 (w:=default) (lim:=fun _=>0) h1.symm).1
      simpa using h2
     refine ⟨i,z,hi,hz,⟨by simp [hlen,hl],fun j x u hx hu=>?_⟩,fun c hc=>?_⟩
     ·rw [List.getElem?_map,List.getElem?_zipWith] at hx
      cases h1:(Yh P 8 T)[j]? with
      | none => simp [h1] at hx
      | some e =>
       cases h2:sc[j]? with
       | none => simp [h1, h2] at hx
       | some c =>
        simp only [h1,h2,Option.map_some,Option.some.injEq] at hx
        have hcu:ofC u=some c:=by
         have key:∀ (vs:List Value) (cs:List SC) (j:Nat),ZeN vs=some cs→cs[j]? = some c→vs[j]? = some u→ofC u=some c:=by
          intro vs
          induction vs with
          | nil => intro cs j _ _ h; simp at h
          | cons v vs ih =>
           intro cs j h hc hv
           simp only [ZeN] at h
           split at h
           ·rename_i c' cs' hc' hcs'
            simp only [Option.some.injEq] at h
            subst h
            cases j with
            | zero => simp at hc hv; subst hc; subst hv; exact hc'
            | succ j => exact ih cs' j hcs' (by simpa using hc) (by simpa using hv)
           ·cases h
         exact key _ _ j hsc h2 hu
        have hnorm:(∃ e',Zaj e c = .own false e' .nil∧u = .slice none 0 0)∨Zaj e c = .c c:=by
         cases e with
         | none => right; cases c <;> rfl
         | some e =>
          cases c with
          | slice f s l =>
           cases f with
           | false => right; cases l <;> rfl
           | true =>
            cases l with
            | nil =>
             left
             refine ⟨e,rfl,?_⟩
             unfold ofC at hcu
             split at hcu<;>simp at hcu
             rfl
            | _ => right; rfl
          | _ => right; rfl
        rcases hnorm with ⟨e',h3,h4⟩ | h3
        ·rw [h3] at hx
         exact .inr ⟨_,e',hx.symm,h4⟩
        ·rw [h3] at hx
         left
         rw [← ZfB ρ,hcu,← hx]
         rfl
     ·obtain ⟨j,hj⟩:=List.mem_iff_getElem?.1 hc
      rw [List.getElem?_zipWith] at hj
      cases h1:(Yh P 8 T)[j]? with
      | none => simp [h1] at hj
      | some e =>
       cases h2:sc[j]? with
       | none => simp [h1, h2] at hj
       | some c' =>
        simp only [h1,h2,Option.some.injEq] at hj
        subst hj
        have hb:c'.bd n:=KT hsc c' (List.mem_of_getElem? h2)
        unfold Zaj
        split
        ·trivial
        ·exact hb
    ·cases h
   ·cases h
  ·cases h
 ·cases h
theorem ZgY (s:Sh) (n:Nat):(Jv s n).bd (n+1):=by cases s<;>exact Nat.lt_succ_self n
theorem Jt:∀ (l:List Sh) (n:Nat),∀ c∈ZC l n,c.bd (n+l.length)
 | [], n, c, h => by simp [ZC] at h
 | s :: ss, n, c, h => by
  rcases List.mem_cons.1 h with rfl | h
  ·exact SC.bd_mono (by simp) _ (ZgY s n)
  ·have:=Jt ss (n+1) c h
   exact SC.bd_mono (by simp only [List.length_cons];omega) _ this
theorem ZjH (s:Sh) (n:Nat):(Zlt s n).bd (n+1):=by cases s<;>exact Nat.lt_succ_self n
theorem JH:∀ (l:List Sh) (n:Nat),∀ c∈YQ l n,c.bd (n+l.length)
 | [], n, c, h => by simp [YQ] at h
 | s :: ss, n, c, h => by
  rcases List.mem_cons.1 h with rfl | h
  ·exact BC.bd_mono (by simp) _ (ZjH s n)
  ·have:=JH ss (n+1) c h
   exact BC.bd_mono (by simp only [List.length_cons];omega) _ this
theorem YK:∀ (aZ:List SV) (n:Nat),n≤(Jh aZ n).2.2
 | [], n => Nat.le_refl n
 | a :: aZ, n => by
  cases a with
  | box cs =>
   simp only [Jh]
   exact Nat.le_trans (Nat.le_add_right _ _) (YK aZ _)
  | gbox cs =>
   simp only [Jh]
   exact Nat.le_trans (Nat.le_add_right _ _) (YK aZ _)
  | _ => exact YK aZ n
theorem Zcw:∀ (aZ:List SV) (n:Nat),(Jh aZ n).1.length=aZ.length
 | [], n => rfl
 | a :: aZ, n => by
  cases a<;>simp only [Jh,List.length_cons,Zcw aZ]
theorem V3:∀ (aZ:List SV) (n:Nat),∀ x∈(Jh aZ n).1,x.bd (Jh aZ n).2.2
 | [], n, x, h => by simp [Jh] at h
 | a :: aZ, n, x, h => by
  cases a with
  | box cs =>
   simp only [Jh] at h ⊢
   rcases List.mem_cons.1 h with rfl | h
   ·intro c hc
    have h1:=JH (cs.map Zj1) n c hc
    exact BC.bd_mono (YK aZ _) _ h1
   ·exact V3 aZ _ x h
  | gbox cs =>
   simp only [Jh] at h ⊢
   rcases List.mem_cons.1 h with rfl | h
   ·intro c hc
    have h1:=JH (cs.map Zj1) n c hc
    exact BC.bd_mono (YK aZ _) _ h1
   ·exact V3 aZ _ x h
  | _ =>
   simp only [Jh] at h ⊢
   rcases List.mem_cons.1 h with rfl | h
   ·trivial
   ·exact V3 aZ _ x h
theorem Vc:∀ (aZ:List SV) (n i:Nat) (to:Bool) (cs:List BC) (y:SV),aZ[i]? = some (Zjt to cs)→(Jh aZ n).1[i]? = some y→∃ cs',y=Zjt to cs'
 | [], n, i, to, cs, y, h, _ => by simp at h
 | a :: aZ, n, i, to, cs, y, h, h' => by
  cases i with
  | zero =>
   simp only [List.getElem?_cons_zero,Option.some.injEq] at h
   subst h
   cases to with
   | false =>
    simp only [Zjt,Jh,List.getElem?_cons_zero,Option.some.injEq] at h'
    exact ⟨_,h'.symm⟩
   | true =>
    simp only [Zjt,Jh,List.getElem?_cons_zero,Option.some.injEq] at h'
    exact ⟨_,h'.symm⟩
  | succ i =>
   have h1:aZ[i]? = some (Zjt to cs):=by simpa using h
   cases a with
   | box ds => simp only [Jh, List.getElem?_cons_succ] at h'; exact Vc aZ _ i to cs y h1 h'
   | gbox ds => simp only [Jh, List.getElem?_cons_succ] at h'; exact Vc aZ _ i to cs y h1 h'
   | _ => simp only [Jh, List.getElem?_cons_succ] at h'; exact Vc aZ _ i to cs y h1 h'
theorem Zjw (r:RSh) (n:Nat):(Zmd r n).1.bd (n+(Zmd r n).2.length):=by
 cases r with
 | c s => cases s <;> exact Nat.lt_succ_self n
 | agg l => exact Jt l n
 | box l => exact Jt l n
 | aggo l => exact Jt l n
theorem VJ {P:Program} {fresh:Nat} : ∀ (Ts:List TypeId) (n:Nat) (vs:List TC) (sh:List Sh) (n':Nat),VT P fresh Ts n=some (vs,sh,n')→n≤n'∧∀ v∈vs,v.bd n'∧v≠.gone
 | [], n, vs, sh, n', h => by
  simp only [VT,Option.some.injEq,Prod.mk.injEq] at h
  obtain ⟨rfl,rfl,rfl⟩:=h
  exact ⟨Nat.le_refl _,by simp⟩
 | T :: Ts, n, vs, sh, n', h => by
  simp only [VT] at h
  split at h
  ·rename_i r hr
   split at h
   ·rename_i vs' sh' m hm
    simp only [Option.some.injEq,Prod.mk.injEq] at h
    obtain ⟨rfl,rfl,rfl⟩:=h
    obtain ⟨h1,h2⟩:=VJ Ts _ vs' sh' m hm
    refine ⟨by omega,fun v hv=>?_⟩
    rcases List.mem_cons.1 hv with rfl | hv
    ·exact ⟨TC.bd_mono h1 _ (Zjw r n),by cases r with | c s=>cases s<;>exact fun h=>(by cases h) | agg l=>exact fun h=>(by cases h) | box l=>exact fun h=>(by cases h) | aggo l=>exact fun h=>(by cases h)⟩
    ·exact h2 v hv
   ·cases h
  ·cases h
theorem Zas (ρ:Nat→V) (x:TC):(ZmA x).den ρ=x.den ρ:=by cases x<;>rfl
theorem Zlg {n:Nat} {x:TC} (h:x.bd n):(ZmA x).bd n:=by cases x<;>exact h
theorem ZiE (ρ:Nat→V) (x:TC) (hx:x≠.gone):ZeV (x.den ρ):=by
 cases x with
 | c y => cases y <;> first | exact .inl (.inl ⟨_, rfl⟩) | exact .inl (.inr (.inr ⟨_, _, _, rfl⟩))
 | agg cs => exact .inl (.inr (.inl ⟨_, rfl⟩))
 | own x e l => exact .inr (.inl ⟨_, _, _, rfl⟩)
 | gone => exact (hx rfl).elim
theorem Ze4 {P:Program} {fresh:Nat} {Ts:List TypeId} {n n':Nat} {res:SV} {sh:List Sh} (h:Zc2 P fresh Ts n=some (res,sh,n')) :
  n≤n'∧res.bd n'∧∀ ρ,ZeV (res.den ρ):=by
 unfold Zc2 at h
 split at h
 ·rename_i x sh' m hm
  simp only [Option.some.injEq,Prod.mk.injEq] at h
  obtain ⟨rfl,rfl,rfl⟩:=h
  obtain ⟨h1,h2⟩:=VJ Ts n [x] sh' m hm
  exact ⟨h1,Zlg (h2 x (by simp)).1,fun ρ=>by rw [Zas];exact ZiE ρ x (h2 x (by simp)).2⟩
 ·rename_i vs sh' m _ hm
  simp only [Option.some.injEq,Prod.mk.injEq] at h
  obtain ⟨rfl,rfl,rfl⟩:=h
  obtain ⟨h1,h2⟩:=VJ Ts n vs sh' m hm
  exact ⟨h1,fun v hv=>(h2 v hv).1,fun ρ=>.inr (.inr (.inl ⟨_,rfl⟩))⟩
 ·cases h
theorem ZgW {P:Program} {E:Env} {f:FuncId} {Ts:List TypeId} {n n':Nat} {res:SV} {sh:List Sh} (h:Zfc P E f Ts n=some (res,sh,n')) :
  n≤n'∧res.bd n'∧∀ ρ,ZeV (res.den ρ):=by
 unfold Zfc at h
 split at h
 ·rename_i l _
  simp only [Option.some.injEq,Prod.mk.injEq] at h
  obtain ⟨rfl,rfl,rfl⟩:=h
  exact ⟨Nat.le_add_right _ _,JH l n,fun ρ=>.inr (.inr (.inr (.inr ⟨_,rfl⟩)))⟩
 ·split at h
  ·rename_i l _
   simp only [Option.some.injEq,Prod.mk.injEq] at h
   obtain ⟨rfl,rfl,rfl⟩:=h
   exact ⟨Nat.le_add_right _ _,JH l n,fun ρ=>.inr (.inr (.inr (.inl ⟨_,rfl⟩)))⟩
  ·exact Ze4 h
def SAK.den (ρ:Nat→V):SAK→AK
 | .imm x => .imm (x.den ρ)
 | .own t x e l => .own t x e (l.den ρ)
 | .box d fr to cs => .box d fr to (cs.map (BC.den ρ))
 | .clo g ds gs => .clo g ds gs
 | .ref t d q j => .ref t d q j
 | .pad => .pad
theorem Zav (ρ:Nat→V) (gh:Bool) (cs:List BC):(Zjt gh cs).den ρ=mkB gh (cs.map (BC.den ρ)):=by cases gh<;>rfl
theorem Zk0 (ρ:Nat→V) (a:SAK):(a.den ρ).av=a.sv.den ρ:=by
 cases a with
 | box d fr to cs => exact (Zav ρ to cs).symm
 | _ => rfl
theorem Zap (ρ:Nat→V) (a:SAK):(a.den ρ).slot=a.slot:=by cases a<;>rfl
theorem ZgZ {x:SV} {ρ:Nat→V} {b:Bool} {e:TypeId} {ys:List (List AV)} (h:x.den ρ = .own b e ys):∃ l,x = .own b e l:=by
 cases x with
 | own b' e' l => simp only [SV.den, AV.own.injEq] at h; obtain ⟨rfl, rfl, _⟩ := h; exact ⟨l, rfl⟩
 | c y => cases y <;> cases h
 | _ => cases h
theorem Zfx {x:SV} {ρ:Nat→V} {d q:Nat} (h:x.den ρ = .mref d q):x = .mref d q:=by
 cases x with
 | mref d' q' => simp only [SV.den, AV.mref.injEq] at h; obtain ⟨rfl, rfl⟩ := h; rfl
 | c y => cases y <;> cases h
 | _ => cases h
theorem ZeA {x:SV} {k:Nat} {e:TypeId} {l:LE} (ρ:Nat→V) (h:Ja x k=some (e,l)):Zj (x.den ρ) k=some (e,l.den ρ):=by
 unfold Ja at h
 split at h
 ·simp only [Option.some.injEq,Prod.mk.injEq] at h
  obtain ⟨rfl,rfl⟩:=h
  rfl
 ·rename_i cs q
  split at h
  ·rename_i e' l' hc
   simp only [Option.some.injEq,Prod.mk.injEq] at h
   obtain ⟨rfl,rfl⟩:=h
   simp only [SV.den,Zj,List.getElem?_map,hc]
   rfl
  ·cases h
 ·rename_i cs q
  split at h
  ·rename_i e' l' hc
   simp only [Option.some.injEq,Prod.mk.injEq] at h
   obtain ⟨rfl,rfl⟩:=h
   simp only [SV.den,Zj,List.getElem?_map,hc]
   rfl
  ·cases h
 ·cases h
theorem Zj0 {P:Program} {g:Nat→SV} {x:Operand} {a:SAK} (ρ:Nat→V) (h:Zl7 P g x=some a):(a.den ρ).ok P (fun d=>(g d).den ρ) (.op x)∧a.sv.isG=false∧∀ h ds gs,a = .clo h ds gs→gs = []:=by
 unfold Zl7 at h
 split at h
 ·rename_i t b e l h1 h2
  simp only [Option.some.injEq] at h
  subst h
  have hx:x = .tmp t:=by cases x<;>simp [ZM] at h1;rw [h1]
  subst hx
  simp only [ZM,Option.map_some,Option.some.injEq] at h2
  exact ⟨⟨rfl,by show (g t).den ρ=_;rw [h2];rfl⟩,rfl,fun _ _ _ h=>by cases h⟩
 ·rename_i hno
  split at h
  ·rename_i v hv
   simp only [Option.some.injEq] at h
   subst h
   refine ⟨.inl ⟨Za ρ hv,?_⟩,rfl,fun _ _ _ h=>by cases h⟩
   cases v<;>first | exact .inl ⟨_,rfl⟩ | exact .inr (.inr ⟨_,_,_,rfl⟩)
  ·rename_i cs hv
   simp only [Option.some.injEq] at h
   subst h
   exact ⟨.inl ⟨Za ρ hv,.inr (.inl ⟨_,rfl⟩)⟩,rfl,fun _ _ _ h=>by cases h⟩
  ·rename_i d hv
   split at h
   ·rename_i cs hcs
    split at h
    ·simp only [Option.some.injEq] at h
     subst h
     exact ⟨⟨Za ρ hv,by show (g d).den ρ=_;rw [hcs];rfl,rfl,rfl⟩,rfl,fun _ _ _ h=>by cases h⟩
    ·cases h
   ·cases h
  ·rename_i f ds hv
   simp only [Option.some.injEq] at h
   subst h
   exact ⟨Za ρ hv,rfl,fun _ _ _ h=>by cases h;rfl⟩
  ·rename_i d q hv
   split at h
   ·rename_i e l hp
    split at h
    ·rename_i h0
     simp only [Option.some.injEq] at h
     subst h
     refine ⟨.inr ⟨d,q,e,l.den ρ,⟨Za ρ hv,fun t e' ys hx ht=>?_⟩,ZeA ρ hp,⟨by omega,h0.2⟩,rfl⟩,rfl,fun _ _ _ h=>by cases h⟩
     obtain ⟨l',hl'⟩:=ZgZ (show (g t).den ρ=_ from ht)
     subst hx
     exact hno t true e' l' rfl (by simp only [ZM,Option.map_some,hl'])
    ·cases h
   ·cases h
  ·cases h
def KG (P:Program) (g:Nat→SV) (ρ:Nat→V) (xs:List Zaf) (aZ:List SAK):Prop:=
 xs.length=aZ.length∧∀ (i:Nat) (x:Zaf) (a:SAK),xs[i]? = some x→aZ[i]? = some a→(a.den ρ).ok P (fun d=>(g d).den ρ) x
theorem KG.append {P:Program} {g:Nat→SV} {ρ:Nat→V} {xs ys:List Zaf} {aZ bs:List SAK} (h:KG P g ρ xs aZ) (k:KG P g ρ ys bs):KG P g ρ (xs++ys) (aZ++bs):=by
 refine ⟨by rw [List.length_append,List.length_append,h.1,k.1],fun i x a hx ha=>?_⟩
 rcases Nat.lt_or_ge i xs.length with hi | hi
 ·rw [List.getElem?_append_left hi] at hx
  rw [List.getElem?_append_left (by rw [← h.1];exact hi)] at ha
  exact h.2 i x a hx ha
 ·rw [List.getElem?_append_right hi] at hx
  rw [List.getElem?_append_right (by rw [← h.1];exact hi),← h.1] at ha
  exact k.2 _ x a hx ha
def Raw (aZ:List SAK):Prop:=∀ a∈aZ,a.sv.isG=false∧∀ h ds gs,a = .clo h ds gs→gs = []
theorem ZkE {P:Program} {g:Nat→SV} {x:Operand} {a:SAK} (ρ:Nat→V) (h:Zbv g x=some a):(a.den ρ).ok P (fun d=>(g d).den ρ) (.op x)∧a.sv.isG=false∧(∀ h ds gs,a = .clo h ds gs→gs = [])∧∃ t d q j,a = .ref t d q j:=by
 unfold Zbv at h
 split at h
 ·rename_i t d q h1 h2
  simp only [Option.some.injEq] at h
  subst h
  have hx:x = .tmp t:=by cases x<;>simp [ZM] at h1;rw [h1]
  subst hx
  simp only [ZM,Option.map_some,Option.some.injEq] at h2
  exact ⟨⟨rfl,by show (g t).den ρ=_;rw [h2];rfl⟩,rfl,(fun _ _ _ h=>by cases h),t,d,q,0,rfl⟩
 ·cases h
def ZmT (rf:List Nat) (g:Nat→SV) (xs:List Operand) (aZ:List SAK) (i0:Nat):Prop:=∀ (i:Nat) (a:SAK) (x:Operand),xs[i]? = some x→aZ[i]? = some a→(rf.contains (i0+i)&&(Zbv g x).isSome)=true→∃ t d q j,a = .ref t d q j
theorem Wo {P:Program} {g:Nat→SV} {rf:List Nat} (ρ:Nat→V):∀ (xs:List Operand) (i0:Nat) (aZ:List SAK),Zbz P g rf xs i0=some aZ→KG P g ρ (xs.map .op) aZ∧Raw aZ∧ZmT rf g xs aZ i0
 | [], i0, aZ, h => by simp only [Zbz, Option.some.injEq] at h; subst h; exact ⟨⟨rfl, by simp⟩, by simp [Raw], by simp [ZmT]⟩
 | x :: xs, i0, aZ, h => by
  simp only [Zbz] at h
  split at h
  ·rename_i a as' ha has
   simp only [Option.some.injEq] at h
   subst h
   obtain ⟨⟨h1,h2⟩,h3,h4⟩:=Wo ρ xs (i0+1) as' has
   obtain ⟨k1,k2,k3,k4⟩:(a.den ρ).ok P (fun d=>(g d).den ρ) (.op x)∧a.sv.isG=false∧(∀ h ds gs,a = .clo h ds gs→gs = [])∧((rf.contains i0&&(Zbv g x).isSome)=true→∃ t d q j,a = .ref t d q j):=by
    split at ha
    ·obtain ⟨k1,k2,k3,k4⟩:=ZkE (P:=P) ρ ha
     exact ⟨k1,k2,k3,fun _=>k4⟩
    ·rename_i hn
     obtain ⟨k1,k2,k3⟩:=Zj0 ρ ha
     exact ⟨k1,k2,k3,fun h=>(hn h).elim⟩
   refine ⟨⟨by simpa using h1,fun i y b hy hb=>?_⟩,fun b hb=>?_,fun i b y hy hb hc=>?_⟩
   ·cases i with
    | zero =>
     simp only [List.map_cons,List.getElem?_cons_zero,Option.some.injEq] at hy hb
     subst hy
     subst hb
     exact k1
    | succ i => exact h2 i y b (by simpa using hy) (by simpa using hb)
   ·rcases List.mem_cons.1 hb with rfl | hb
    ·exact ⟨k2,k3⟩
    ·exact h3 b hb
   ·cases i with
    | zero =>
     simp only [List.getElem?_cons_zero,Option.some.injEq] at hb hy
     subst hb
     subst hy
     exact k4 hc
    | succ i => exact h4 i b y (by simpa using hy) (by simpa using hb) (by rw [Nat.add_assoc, Nat.add_comm 1 i]; exact hc)
  ·cases h
theorem Zkr {g:Nat→SV} {to:Bool} {d:Nat} {a:SAK} (ρ:Nat→V) (h:Zlh g to d=some a):∃ fr cs,a = .box d fr to cs∧(g d).den ρ=mkB fr (cs.map (BC.den ρ)):=by
 unfold Zlh at h
 split at h
 ·rename_i cs hcs
  split at h
  ·simp only [Option.some.injEq] at h
   exact ⟨false,cs,h.symm,by rw [hcs];rfl⟩
  ·cases h
 ·rename_i cs hcs
  split at h
  ·simp only [Option.some.injEq] at h
   exact ⟨true,cs,h.symm,by rw [hcs];rfl⟩
  ·cases h
 ·cases h
theorem Wq {g:Nat→SV} {to:Bool} (ρ:Nat→V):∀ (ds:List Nat) (aZ:List SAK),V5 g to ds=some aZ→aZ.length=ds.length∧∀ (i d:Nat),ds[i]? = some d→∃ fr cs,aZ[i]? = some (.box d fr to cs)∧
  (g d).den ρ=mkB fr (cs.map (BC.den ρ))
 | [], aZ, h => by simp only [V5, Option.some.injEq] at h; subst h; exact ⟨rfl, by simp⟩
 | d :: ds, aZ, h => by
  simp only [V5] at h
  split at h
  ·rename_i a as' ha has
   simp only [Option.some.injEq] at h
   subst h
   obtain ⟨h1,h2⟩:=Wq ρ ds as' has
   refine ⟨by simp [h1],fun i e he=>?_⟩
   cases i with
   | zero =>
    simp only [List.getElem?_cons_zero,Option.some.injEq] at he
    subst he
    obtain ⟨fr,cs,rfl,k2⟩:=Zkr ρ ha
    exact ⟨fr,cs,rfl,k2⟩
   | succ i => exact h2 i e (by simpa using he)
  ·cases h
theorem Zl5 {P:Program} {g:Nat→SV} (ρ:Nat→V) {ds:List Nat} {aZ:List SAK} (h:V5 g false ds=some aZ):KG P g ρ (ds.map .cap) aZ∧Raw aZ:=by
 obtain ⟨h1,h2⟩:=Wq ρ ds aZ h
 refine ⟨⟨by simp [h1],fun i x a hx ha=>?_⟩,fun a ha=>?_⟩
 ·rw [List.getElem?_map] at hx
  cases hd:ds[i]? with
  | none => rw [hd] at hx; cases hx
  | some d =>
   rw [hd] at hx
   simp only [Option.map_some,Option.some.injEq] at hx
   subst hx
   obtain ⟨fr,cs,k1,k2⟩:=h2 i d hd
   rw [k1] at ha
   simp only [Option.some.injEq] at ha
   subst ha
   exact ⟨rfl,k2,rfl⟩
 ·obtain ⟨i,hi⟩:=List.mem_iff_getElem?.1 ha
  have hlt:i < ds.length:=by rw [← h1];exact (List.getElem?_eq_some_iff.1 hi).1
  obtain ⟨fr,cs,k1,_⟩:=h2 i _ (List.getElem?_eq_getElem hlt)
  rw [k1] at hi
  simp only [Option.some.injEq] at hi
  subst hi
  exact ⟨rfl,fun _ _ _ h=>by cases h⟩
theorem Zh1 {P:Program} {g:Nat→SV} (ρ:Nat→V) {ds:List Nat} {aZ:List SAK} (h:V5 g true ds=some aZ):KG P g ρ (ds.map fun _=>.ghost) aZ:=by
 obtain ⟨h1,h2⟩:=Wq ρ ds aZ h
 refine ⟨by simp [h1],fun i x a hx ha=>?_⟩
 rw [List.getElem?_map] at hx
 cases hd:ds[i]? with
 | none => rw [hd] at hx; cases hx
 | some d =>
  rw [hd] at hx
  simp only [Option.map_some,Option.some.injEq] at hx
  subst hx
  obtain ⟨fr,cs,k1,k2⟩:=h2 i d hd
  rw [k1] at ha
  simp only [Option.some.injEq] at ha
  subst ha
  exact ⟨k2,rfl⟩
theorem Y7:∀ (aZ:List SAK) (h:FuncId) (ds gs:List Nat),SAK.clo h ds gs∈aZ→∀ d∈ds,d∈Zo aZ
 | [], _, _, _, hm, _, _ => by simp at hm
 | a :: aZ, h, ds, gs, hm, d, hd => by
  have htail:d∈Zo aZ→d∈Zo (a::aZ):=by
   intro hx
   cases a with
   | clo _ _ _ => exact List.mem_append.2 (.inr hx)
   | ref _ _ _ _ =>
    simp only [Zo]
    split
    ·exact hx
    ·exact List.mem_cons_of_mem _ hx
   | _ => exact hx
  rcases List.mem_cons.1 hm with rfl | hm
  ·by_cases hx:d∈Zo aZ
   ·exact htail hx
   ·refine List.mem_append.2 (.inl ?_)
    rw [List.mem_eraseDups,List.mem_filter]
    exact ⟨hd,by simpa using hx⟩
  ·exact htail (Y7 aZ h ds gs hm d hd)
theorem YU:∀ (aZ:List SAK) (t d q j:Nat),SAK.ref t d q j∈aZ→d∈Zo aZ
 | [], _, _, _, _, hm => by simp at hm
 | a :: aZ, t, d, q, j, hm => by
  rcases List.mem_cons.1 hm with rfl | hm
  ·simp only [Zo]
   split
   ·rename_i hx;simpa using hx
   ·exact List.mem_cons_self
  ·have hx:=YU aZ t d q j hm
   cases a with
   | clo _ _ _ => exact List.mem_append.2 (.inr hx)
   | ref _ _ _ _ =>
    simp only [Zo]
    split
    ·exact hx
    ·exact List.mem_cons_of_mem _ hx
   | _ => exact hx
theorem Zfz:∀ (l:List Nat) (d:Nat),d∈l→l[Zjr d l]? = some d
 | [], _, h => by simp at h
 | x :: xs, d, h => by
  unfold Zjr
  split
  ·rename_i hx;rw [hx];rfl
  ·rename_i hx
   rcases List.mem_cons.1 h with rfl | h
   ·exact (hx rfl).elim
   ·simpa using Zfz xs d h
theorem Zii {P:Program} {σ:Nat→AV} {ρ:Nat→V} {base:Nat} {gh:List Nat} {x:Zaf} {a:SAK} (h:(a.den ρ).ok P σ x):((W8 base gh a).den ρ).ok P σ x:=by
 cases a with
 | clo f ds gs => cases x <;> exact h
 | ref t d q j => cases x <;> exact h
 | _ => exact h
theorem WP (ρ:Nat→V) {x:SC} (h:W4 x=true):Vx (x.den ρ)=true:=by cases x<;>first | rfl | cases h
theorem ZcA (ρ:Nat→V) {x:SV} (h:Zgx x=true):ZbV (x.den ρ)=true:=by
 have hcs:∀ cs:List SC,cs.all W4=true→(cs.map (SC.den ρ)).all Vx=true:=by
  intro cs h
  rw [List.all_eq_true] at h ⊢
  intro y hy
  obtain ⟨z,hz,rfl⟩:=List.mem_map.1 hy
  exact WP ρ (h z hz)
 have hbs:∀ cs:List BC,cs.all ZhO=true→(cs.map (BC.den ρ)).all Vx=true:=by
  intro cs h
  rw [List.all_eq_true] at h ⊢
  intro y hy
  obtain ⟨z,hz,rfl⟩:=List.mem_map.1 hy
  have:=h z hz
  cases z with
  | c w => exact WP ρ this
  | own _ _ _ => cases this
  | gone => cases this
 cases x with
 | c y => cases y <;> first | rfl | cases h
 | dead => rfl
 | agg cs => exact hcs cs h
 | box cs => exact hbs cs h
 | gbox cs => exact hbs cs h
 | tuple vs =>
  simp only [Zgx,List.all_eq_true] at h
  simp only [SV.den,ZbV,List.all_eq_true]
  intro y hy
  obtain ⟨z,hz,rfl⟩:=List.mem_map.1 hy
  have:=h z hz
  cases z with
  | c w =>
   have h2:=WP ρ (show W4 w=true from this)
   cases w<;>first | rfl | cases this
  | agg cs => exact hcs cs this
  | own _ _ _ => cases this
  | gone => cases this
 | _ => cases h
theorem Zew {P:Program} {g:Nat→SV} {rf:List Nat} (ρ:Nat→V):∀ {args:List Operand} {i0 i:Nat} {x:Operand} {d q:Nat},args[i]? = some x→(rf.contains (i0+i)&&(Zbv g x).isSome)=false→Zn P (fun d=>(g d).den ρ) x = .mref d q→(∀ t e' ys,x = .tmp t→(g t).den ρ≠.own true e' ys)→(d,q)∈VA P g rf args i0
 | [], _, i, _, _, _, hx, _, _, _ => by simp at hx
 | y :: rest, i0, i, x, d, q, hx, hi, h, hno => by
  have hg:Jc P g x = .mref d q:=Zfx (ρ:=ρ) (by rw [J2];exact h)
  unfold VA
  cases i with
  | zero =>
   simp only [List.getElem?_cons_zero,Option.some.injEq] at hx
   subst hx
   rw [if_neg (by rw [Nat.add_zero] at hi;rw [hi];simp)]
   split
   ·rename_i b e l hb
    cases y with
    | tmp t =>
     simp only [ZM,Option.map_some,Option.some.injEq] at hb
     cases b with
     | true => exact (hno t e (l.den ρ) rfl (by rw [hb]; rfl)).elim
     | false => simp only [Jc, hb] at hg; cases hg
    | _ => simp [ZM] at hb
   ·rw [hg]
    exact List.mem_cons_self
  | succ i =>
   have ih:=Zew (P:=P) (g:=g) (rf:=rf) ρ (args:=rest) (i0:=i0+1) (i:=i) (by simpa using hx) (by rw [Nat.add_assoc,Nat.add_comm 1 i];exact hi) h hno
   split
   ·exact ih
   ·split
    ·exact ih
    ·split
     ·exact List.mem_cons_of_mem _ ih
     ·exact ih
theorem Kv (ρ:Nat→V):∀ (aZ:List SAK),(∀ a∈aZ,a.sv.isG=false)→((aZ.map (SAK.den ρ)).map AK.av).countP AV.isG=0
 | [], _ => rfl
 | a :: aZ, h => by
  have h0:=h a (by simp)
  have:(a.den ρ).av.isG=false:=by
   rw [Zk0]
   cases a with
   | imm x => cases x <;> first | rfl | (rename_i y; cases y <;> rfl) | (simp [SAK.sv, SV.isG] at h0)
   | own t x e l => rfl
   | box d fr to cs => cases to <;> first | rfl | (simp [SAK.sv, Zjt, SV.isG] at h0)
   | clo g ds gs => rfl
   | ref t d q j => rfl
   | pad => rfl
  rw [List.map_cons,List.map_cons,List.countP_cons,Kv ρ aZ fun b hb=>h b (by simp [hb]),this]
  rfl
theorem Zhn {P:Program} {g:Nat→SV} (ρ:Nat→V) {xs:List Zaf} {aZ saks:List SAK} {nt:Nat} (hx:KG P g ρ xs aZ) (hr:Raw aZ) (h:Wu g nt aZ=some saks) :
  ∃ tail,KG P g ρ (xs++tail) saks∧(∀ x∈tail,x = .pad∨x = .ghost)∧xs.length+((saks.map (SAK.den ρ)).map AK.av).countP AV.isG≤saks.length∧Zmt (saks.map (SAK.den ρ))∧Zmv (saks.map (SAK.den ρ))∧∀ (i t d q j:Nat),aZ[i]? = some (SAK.ref t d q j)→∃ j',saks[i]? = some (SAK.ref t d q j'):=by
 unfold Wu at h
 split at h
 ·rename_i hg
  simp only [Option.some.injEq] at h
  subst h
  refine ⟨[],by rw [List.append_nil];exact hx,by simp,by rw [Kv ρ aZ fun a ha=>(hr a ha).1,hx.1];exact Nat.le_refl _,fun i f ds gs hi=>?_,fun i t d q j hi=>?_,fun i t d q j hi=>⟨j,hi⟩⟩
  case refine_2=>
   rw [List.getElem?_map] at hi
   cases ha:aZ[i]? with
   | none => rw [ha] at hi; cases hi
   | some a =>
    rw [ha] at hi
    simp only [Option.map_some,Option.some.injEq] at hi
    cases a<;>simp only [SAK.den,reduceCtorEq] at hi
    have:=YU aZ _ _ _ _ (List.mem_of_getElem? ha)
    rw [hg] at this
    cases this
  rw [List.getElem?_map] at hi
  cases ha:aZ[i]? with
  | none => rw [ha] at hi; cases hi
  | some a =>
   rw [ha] at hi
   simp only [Option.map_some,Option.some.injEq] at hi
   have hm:=List.mem_of_getElem? ha
   cases a<;>simp only [SAK.den,reduceCtorEq] at hi
   rename_i f' ds' gs'
   simp only [AK.clo.injEq] at hi
   obtain ⟨rfl,rfl,rfl⟩:=hi
   have hgs:=(hr _ hm).2 _ _ _ rfl
   have hds:ds' = []:=by
    refine List.eq_nil_iff_forall_not_mem.2 fun d hd=>?_
    have:=Y7 aZ f' ds' gs' hm d hd
    rw [hg] at this
    cases this
   subst hgs
   subst hds
   exact ⟨rfl,fun k d j hk=>by simp at hk⟩
 ·split at h
  ·rename_i hle
   cases hc:V5 g true (Zo aZ) with
   | none => rw [hc] at h; cases h
   | some gs =>
    rw [hc] at h
    simp only [Option.map_some,Option.some.injEq] at h
    subst h
    obtain ⟨c1,c2⟩:=Wq ρ (Zo aZ) gs hc
    have hpad:KG P g ρ (List.replicate (nt-aZ.length) Zaf.pad) (List.replicate (nt-aZ.length) SAK.pad):=by
     refine ⟨by simp,fun i x a hx ha=>?_⟩
     have h1:=List.mem_of_getElem? hx
     have h2:=List.mem_of_getElem? ha
     rw [(List.mem_replicate.1 h1).2,(List.mem_replicate.1 h2).2]
     trivial
    have hset:KG P g ρ xs (aZ.map (W8 nt (Zo aZ))):=by
     refine ⟨by simp [hx.1],fun i x a hxi ha=>?_⟩
     rw [List.getElem?_map] at ha
     cases hai:aZ[i]? with
     | none => rw [hai] at ha; cases ha
     | some b =>
      rw [hai] at ha
      simp only [Option.map_some,Option.some.injEq] at ha
      subst ha
      exact Zii (hx.2 i x b hxi hai)
    refine ⟨List.replicate (nt-aZ.length) Zaf.pad++(Zo aZ).map fun _=>Zaf.ghost,?_,fun x hx=>?_,?_,fun i f ds js hi=>?_,fun i t d q j hi=>?_,fun i t d q j hi=>?_⟩
    ·rw [← List.append_assoc]
     exact (hset.append hpad).append (Zh1 ρ hc)
    ·rcases List.mem_append.1 hx with hx | hx
     ·exact .inl (List.mem_replicate.1 hx).2
     ·obtain ⟨_,_,rfl⟩:=List.mem_map.1 hx
      exact .inr rfl
    ·have hz1:(((aZ.map (W8 nt (Zo aZ))).map (SAK.den ρ)).map AK.av).countP AV.isG=0:=Kv ρ _ fun a ha=>by
      obtain ⟨b,hb,rfl⟩:=List.mem_map.1 ha
      have:=(hr b hb).1
      cases b<;>exact this
     have hz2:(((List.replicate (nt-aZ.length) SAK.pad).map (SAK.den ρ)).map AK.av).countP AV.isG=0:=Kv ρ _ fun a ha=>by
      rw [(List.mem_replicate.1 ha).2];rfl
     have hz3:((gs.map (SAK.den ρ)).map AK.av).countP AV.isG≤gs.length:=by
      have:=List.countP_le_length (p:=AV.isG) (l:=(gs.map (SAK.den ρ)).map AK.av)
      simpa using this
     simp only [List.map_append,List.countP_append,List.length_append,List.length_map,List.length_replicate] at hz1 hz2 hz3 ⊢
     rw [hz1,hz2,hx.1]
     omega
    ·rw [List.getElem?_map] at hi
     have hin:∃ a,(aZ.map (W8 nt (Zo aZ)))[i]? = some a∧a.den ρ = .clo f ds js:=by
      cases hs:(aZ.map (W8 nt (Zo aZ))++List.replicate (nt-aZ.length) .pad++gs)[i]? with
      | none => rw [hs] at hi; cases hi
      | some a =>
       rw [hs] at hi
       simp only [Option.map_some,Option.some.injEq] at hi
       rcases Nat.lt_or_ge i aZ.length with h1 | h1
       ·rw [List.append_assoc,List.getElem?_append_left (by simpa using h1)] at hs
        exact ⟨a,hs,hi⟩
       ·rw [List.append_assoc,List.getElem?_append_right (by simpa using h1)] at hs
        rcases List.mem_append.1 (List.mem_of_getElem? hs) with hm | hm
        ·rw [(List.mem_replicate.1 hm).2] at hi;cases hi
        ·obtain ⟨k,hk⟩:=List.mem_iff_getElem?.1 hm
         have hlt:k < (Zo aZ).length:=by rw [← c1];exact (List.getElem?_eq_some_iff.1 hk).1
         obtain ⟨fr,cs,e1,_⟩:=c2 k _ (List.getElem?_eq_getElem hlt)
         rw [e1] at hk
         simp only [Option.some.injEq] at hk
         subst hk
         cases hi
     obtain ⟨a,ha,hden⟩:=hin
     rw [List.getElem?_map] at ha
     cases hai:aZ[i]? with
     | none => rw [hai] at ha; cases ha
     | some b =>
      rw [hai] at ha
      simp only [Option.map_some,Option.some.injEq] at ha
      subst ha
      have hm:=List.mem_of_getElem? hai
      cases b<;>simp only [W8,SAK.den,reduceCtorEq] at hden
      rename_i f' ds' gs'
      simp only [AK.clo.injEq] at hden
      obtain ⟨rfl,rfl,rfl⟩:=hden
      refine ⟨by simp,fun k d j hk hj=>?_⟩
      rw [List.getElem?_map,hk] at hj
      simp only [Option.map_some,Option.some.injEq] at hj
      subst hj
      have hd:=Y7 aZ f' ds' gs' hm d (List.mem_of_getElem? hk)
      obtain ⟨fr,cs,e1,_⟩:=c2 _ d (Zfz _ d hd)
      refine ⟨fr,cs.map (BC.den ρ),?_⟩
      rw [List.getElem?_map,List.getElem?_append_right (by simp;omega)]
      have:nt+Zjr d (Zo aZ)-(aZ.map (W8 nt (Zo aZ))++List.replicate (nt-aZ.length) SAK.pad).length=Zjr d (Zo aZ):=by
       simp;omega
      rw [this,e1]
      rfl
    ·rw [List.getElem?_map] at hi
     have hin:∃ a,(aZ.map (W8 nt (Zo aZ)))[i]? = some a∧a.den ρ = .ref t d q j:=by
      cases hs:(aZ.map (W8 nt (Zo aZ))++List.replicate (nt-aZ.length) .pad++gs)[i]? with
      | none => rw [hs] at hi; cases hi
      | some a =>
       rw [hs] at hi
       simp only [Option.map_some,Option.some.injEq] at hi
       rcases Nat.lt_or_ge i aZ.length with h1 | h1
       ·rw [List.append_assoc,List.getElem?_append_left (by simpa using h1)] at hs
        exact ⟨a,hs,hi⟩
       ·rw [List.append_assoc,List.getElem?_append_right (by simpa using h1)] at hs
        rcases List.mem_append.1 (List.mem_of_getElem? hs) with hm | hm
        ·rw [(List.mem_replicate.1 hm).2] at hi;cases hi
        ·obtain ⟨k,hk⟩:=List.mem_iff_getElem?.1 hm
         have hlt:k < (Zo aZ).length:=by rw [← c1];exact (List.getElem?_eq_some_iff.1 hk).1
         obtain ⟨fr,cs,e1,_⟩:=c2 k _ (List.getElem?_eq_getElem hlt)
         rw [e1] at hk
         simp only [Option.some.injEq] at hk
         subst hk
         cases hi
     obtain ⟨a,ha,hden⟩:=hin
     rw [List.getElem?_map] at ha
     cases hai:aZ[i]? with
     | none => rw [hai] at ha; cases ha
     | some b =>
      rw [hai] at ha
      simp only [Option.map_some,Option.some.injEq] at ha
      subst ha
      have hm:=List.mem_of_getElem? hai
      cases b<;>simp only [W8,SAK.den,reduceCtorEq] at hden
      rename_i t' d' q' j'
      simp only [AK.ref.injEq] at hden
      obtain ⟨rfl,rfl,rfl,rfl⟩:=hden
      have hd:=YU aZ _ _ _ _ hm
      obtain ⟨fr,cs,e1,_⟩:=c2 _ _ (Zfz _ _ hd)
      refine ⟨fr,cs.map (BC.den ρ),?_⟩
      rw [List.getElem?_map,List.getElem?_append_right (by simp;omega)]
      have:nt+Zjr d' (Zo aZ)-(aZ.map (W8 nt (Zo aZ))++List.replicate (nt-aZ.length) SAK.pad).length=Zjr d' (Zo aZ):=by
       simp;omega
      rw [this,e1]
      rfl
    ·have hlt:=(List.getElem?_eq_some_iff.1 hi).1
     refine ⟨nt+Zjr d (Zo aZ),?_⟩
     rw [List.append_assoc,List.getElem?_append_left (by simpa using hlt),List.getElem?_map,hi]
     rfl
  ·cases h
theorem V7:∀ (l:List Nat),Zcv l=true→l.Nodup
 | [], _ => List.nodup_nil
 | x :: xs, h => by
  simp only [Zcv,Bool.and_eq_true,Bool.not_eq_true',List.contains_eq_mem,decide_eq_false_iff_not] at h
  exact List.nodup_cons.2 ⟨h.1,V7 xs h.2⟩
theorem ZjB (ρ:Nat→V) (fr to:Bool) (o:SV):(ZnH fr to o).den ρ=reB fr to (o.den ρ):=by
 cases to with
 | true => cases o <;> first | exact Zav ρ fr _ | rfl | (rename_i x; cases x <;> rfl)
 | false => cases o <;> first | exact Zav ρ fr _ | rfl | (rename_i x; cases x <;> rfl)
theorem ZlE {fr to:Bool} {o:SV} {n:Nat} (h:o.bd n):(ZnH fr to o).bd n:=by
 unfold ZnH
 split
 ·cases fr<;>exact h
 ·cases fr<;>exact h
 ·trivial
theorem ZeK (ρ ρ':Nat→V):∀ (aZ:List SAK) (os:List SV),Za3 (aZ.map (SAK.den ρ)) (os.map (SV.den ρ'))=(Wv aZ os).map fun u=>(u.1,u.2.den ρ')
 | [], os => by cases os <;> rfl
 | a :: aZ, [] => by cases a <;> rfl
 | a :: aZ, o :: os => by
  cases a<;>simp only [List.map_cons,SAK.den,Za3,Wv,ZeK ρ ρ' aZ os,ZjB]<;>rfl
theorem Ku {n:Nat} : ∀ (aZ:List SAK) (os:List SV),(∀ o∈os,o.bd n)→∀ u∈Wv aZ os,u.2.bd n
 | [], os, _, u, h => by cases os <;> simp [Wv] at h
 | a :: aZ, [], _, u, h => by cases a <;> simp [Wv] at h
 | a :: aZ, o :: os, ho, u, h => by
  cases a with
  | imm x => exact Ku aZ os (fun o' h' => ho o' (by simp [h'])) u h
  | clo _ _ _ => exact Ku aZ os (fun o' h' => ho o' (by simp [h'])) u h
  | pad => exact Ku aZ os (fun o' h' => ho o' (by simp [h'])) u h
  | own t x e l =>
   rcases List.mem_cons.1 h with rfl | h
   ·trivial
   ·exact Ku aZ os (fun o' h'=>ho o' (by simp [h'])) u h
  | ref t x e l =>
   rcases List.mem_cons.1 h with rfl | h
   ·trivial
   ·exact Ku aZ os (fun o' h'=>ho o' (by simp [h'])) u h
  | box d fr to cs =>
   rcases List.mem_cons.1 h with rfl | h
   ·exact ZlE (ho o (by simp))
   ·exact Ku aZ os (fun o' h'=>ho o' (by simp [h'])) u h
end Go.AM
end

section
namespace Go.AM
theorem us1 {t n:Nat} {x:SV} (h:x.bd n):∀ u∈[(t,x)],u.2.bd n:=by
 intro u hu
 rw [List.mem_singleton] at hu
 subst hu
 exact h
theorem us2 {t t' n:Nat} {x y:SV} (h:x.bd n) (h':y.bd n):∀ u∈[(t,x),(t',y)],u.2.bd n:=by
 intro u hu
 rcases List.mem_cons.1 hu with rfl | hu
 ·exact h
 ·exact us1 h' u hu
theorem Ji {g:Nat→SV} {d:Nat} : ∀ (n:Nat) (u:Nat×SV),u∈ZK g d n↔u.2 = .dead∧u.1 < n∧u.1≠d∧ZcI d (g u.1)=true
 | 0, u => by simp [ZK]
 | n + 1, u => by
  have ih:=Ji (g:=g) (d:=d) n u
  have key:∀ p:Prop,(u∈(if n≠d∧ZcI d (g n)=true then (n,SV.dead)::ZK g d n else ZK g d n)↔p)→(u∈ZK g d (n+1)↔p):=fun p h=>h
  apply key
  split
  ·rename_i h
   rw [List.mem_cons,ih]
   constructor
   ·rintro (rfl | ⟨h1,h2,h3⟩)
    ·exact ⟨rfl,Nat.lt_succ_self n,h.1,h.2⟩
    ·exact ⟨h1,by omega,h3⟩
   ·rintro ⟨h1,h2,h3⟩
    by_cases hn:u.1=n
    ·left
     obtain ⟨a,b⟩:=u
     simp only at h1 hn
     rw [h1,hn]
    ·exact .inr ⟨h1,by omega,h3⟩
  ·rename_i h
   rw [ih]
   constructor
   ·rintro ⟨h1,h2,h3⟩
    exact ⟨h1,by omega,h3⟩
   ·rintro ⟨h1,h2,h3,h4⟩
    refine ⟨h1,?_,h3,h4⟩
    by_cases hn:u.1=n
    ·subst hn;exact (h ⟨h3,h4⟩).elim
    ·omega
theorem Wx (ρ:Nat→V) (d:Nat) (x:SV):ZcI d x=true↔∃ k,Z8 (x.den ρ) d k:=by
 cases x with
 | mref d' k' =>
  simp only [ZcI,beq_iff_eq]
  constructor
  ·rintro rfl;exact ⟨k',.inl rfl⟩
  ·rintro ⟨k,h | ⟨_,h⟩⟩ <;> cases h
   rfl
 | eref d' k' i s o =>
  simp only [ZcI,beq_iff_eq]
  constructor
  ·rintro rfl;exact ⟨k',.inr ⟨_,rfl⟩⟩
  ·rintro ⟨k,h | ⟨_,h⟩⟩ <;> cases h
   rfl
 | c y =>
  constructor
  ·intro h;cases h
  ·rintro ⟨k,h | ⟨_,h⟩⟩ <;> cases y<;>cases h
 | _ =>
  constructor
  ·intro h;cases h
  ·rintro ⟨k,h | ⟨_,h⟩⟩ <;> cases h
theorem JF {g:Nat→SV} (ρ:Nat→V) {d top:Nat} (htop:∀ i,top≤i→g i = .dead):Y3 (fun d=>(g d).den ρ) d ((ZK g d top).map fun u=>(u.1,u.2.den ρ)):=by
 refine ⟨fun u hu=>?_,fun i k hi hr=>?_⟩
 ·obtain ⟨v,hv,rfl⟩:=List.mem_map.1 hu
  obtain ⟨h1,h2,h3,h4⟩:=(Ji top v).1 hv
  exact ⟨h3,by show v.2.den ρ=_;rw [h1];rfl,(Wx ρ d _).1 h4⟩
 ·have hr':=(Wx ρ d (g i)).2 ⟨k,hr⟩
  have hlt:i < top:=by
   rcases Nat.lt_or_ge i top with h | h
   ·exact h
   ·rw [htop i h] at hr';cases hr'
  rw [List.map_map]
  exact List.mem_map.2 ⟨(i,.dead),(Ji top (i,.dead)).2 ⟨rfl,hlt,hi,hr'⟩,rfl⟩
theorem ZeF {g:Nat→SV} (ρ:Nat→V) {top:Nat} (htop:∀ i,top≤i→g i = .dead) {txt:Odr} {d:Nat} {us:Ups} (h:ZfU txt g top d=some us) :
  (∀ u∈us,u.2 = .dead)∧JV txt (fun d=>(g d).den ρ) d (us.map fun u=>(u.1,u.2.den ρ)):=by
 unfold ZfU at h
 split at h
 ·simp only [Option.some.injEq] at h
  subst h
  exact ⟨fun u hu=>((Ji top u).1 hu).1,.inl ⟨rfl,JF ρ htop⟩⟩
 ·split at h
  ·rename_i N M K hN
   simp only [Option.some.injEq] at h
   subst h
   exact ⟨fun u hu=>by simp at hu,.inr ⟨N,M,_,rfl,hN,rfl⟩⟩
  ·cases h
theorem Zgf {P:Program} {e:TypeId} {l:LE} (ρ:Nat→V) (h:mvB P e l=true):Mv P e (l.den ρ):=by
 unfold mvB at h
 rcases Bool.or_eq_true_iff.1 h with h | h
 ·rcases Bool.or_eq_true_iff.1 h with h | h
  ·rcases Bool.or_eq_true_iff.1 h with h | h
   ·exact .inl (by simpa using h)
   ·exact .inr (.inl h)
  ·unfold ZgH at h
   split at h
   ·exact .inr (.inr (.inl rfl))
   ·cases h
 ·exact .inr (.inr (.inr (by simpa using h)))
theorem Zkn {P:Program} {res:SV} (ρ:Nat→V) (h:Zlx P res=true):∀ e xs,res.den ρ = .own true e xs→Mv P e xs:=by
 intro e xs he
 cases res with
 | own x e' l =>
  simp only [SV.den,AV.own.injEq] at he
  obtain ⟨rfl,rfl,_⟩:=he
  simp only [Zlx,Bool.or_eq_true,Bool.not_eq_true',Option.isNone_iff_eq_none] at h
  exact h.imp id fun h=>.inr (.inr h)
 | c y => cases y <;> cases he
 | _ => cases he
theorem JW {P:Program} {g:Nat→SV} (ρ:Nat→V) {top:Nat} (htop:∀ i,top≤i→g i = .dead) {txt:Odr} {x:Bool} {t:Nat} {e:TypeId} {l:LE} {us:Ups} (ht:g t = .own x e l) (h:YR P txt g top t x e l=some us) :
  ∃ us',us=us'∧(us'.map fun u=>(u.1,u.2.den ρ))=(t,KR P x e (l.den ρ))::(us'.tail.map fun u=>(u.1,u.2.den ρ))∧((x=false∧(us'.tail.map fun u=>(u.1,u.2.den ρ)) = [])∨JV txt (fun d=>(g d).den ρ) t (us'.tail.map fun u=>(u.1,u.2.den ρ)))∧(x=true→Mv P e (l.den ρ)):=by
 unfold YR at h
 split at h
 ·simp only [Option.some.injEq] at h
  subst h
  exact ⟨_,rfl,rfl,.inl ⟨rfl,rfl⟩,fun h=>by cases h⟩
 ·split at h
  case isFalse=>cases h
  rename_i hmv
  split at h
  ·simp only [Option.some.injEq] at h
   subst h
   exact ⟨_,rfl,rfl,.inr (.inl ⟨rfl,JF ρ htop⟩),fun _=>Zgf ρ hmv⟩
  ·rename_i N M K
   split at h
   ·rename_i hN
    simp only [Option.some.injEq] at h
    subst h
    exact ⟨_,rfl,rfl,.inr (.inr ⟨N,M,_,rfl,hN,rfl⟩),fun _=>Zgf ρ hmv⟩
   ·cases h
theorem JX {P:Program} {g:Nat→SV} {top n:Nat} {txt:Odr} {x:Bool} {t:Nat} {e:TypeId} {l:LE} {us:Ups} (h:YR P txt g top t x e l=some us) (hl:l.bd n):∀ u∈us,u.2.bd n:=by
 unfold YR at h
 split at h
 ·simp only [Option.some.injEq] at h
  subst h
  exact us1 hl
 ·split at h
  case isFalse=>cases h
  split at h
  ·simp only [Option.some.injEq] at h
   subst h
   intro u hu
   rcases List.mem_cons.1 hu with rfl | hu
   ·trivial
   ·rw [((Ji top u).1 hu).1];trivial
  ·split at h
   ·simp only [Option.some.injEq] at h
    subst h
    exact us1 trivial
   ·cases h
theorem K8 {cs:List BC} {off m:Nat} (h:KZ ((cs.drop off).take m)=true) (ρ:Nat→V):Zbo (((cs.map (BC.den ρ)).drop off).take m):=by
 rw [← List.map_drop,← List.map_take]
 exact Zbp h ρ
theorem Zb9 {cs:List BC} {off m:Nat} (h:K7 ((cs.drop off).take m)=true) (ρ:Nat→V):Whole (((cs.map (BC.den ρ)).drop off).take m):=by
 rw [← List.map_drop,← List.map_take]
 exact Wd h ρ
theorem Zgc {g:Nat→SV} (ρ:Nat→V) {top:Nat} (htop:∀ i,top≤i→g i = .dead) {txt:Odr} {d:Nat} {cs:List BC} {off m:Nat} (h:(KZ ((cs.drop off).take m)||Zdj txt g top d)=true) :
  Zbo (((cs.map (BC.den ρ)).drop off).take m)∨JV txt (fun d=>(g d).den ρ) d []:=by
 rcases Bool.or_eq_true_iff.1 h with h | h
 ·exact .inl (K8 h ρ)
 ·right
  unfold Zdj at h
  split at h
  ·simp only [List.isEmpty_iff] at h
   refine .inl ⟨rfl,by simp,fun j q hj hr=>?_⟩
   have:=(JF ρ htop (d:=d)).2 j q hj hr
   rw [h] at this
   exact this
  ·exact .inr ⟨_,_,_,rfl,h,rfl⟩
theorem Kx {x:SV} (ρ:Nat→V) (h:x.isG=false):(x.den ρ).isG=false:=by
 cases x with
 | gbox cs => cases h
 | c y => cases y <;> rfl
 | _ => rfl
theorem ZL {x:SV} {k:Nat} {e:TypeId} {l:LE} (ρ:Nat→V) (h:Ja x k=some (e,l)):Zj (x.den ρ) k=some (e,l.den ρ):=by
 unfold Ja at h
 split at h
 ·simp only [Option.some.injEq,Prod.mk.injEq] at h
  obtain ⟨rfl,rfl⟩:=h
  rfl
 ·rename_i cs q
  split at h
  ·rename_i e' l' hc
   simp only [Option.some.injEq,Prod.mk.injEq] at h
   obtain ⟨rfl,rfl⟩:=h
   simp only [SV.den,Zj,List.getElem?_map,hc]
   rfl
  ·cases h
 ·rename_i cs q
  split at h
  ·rename_i e' l' hc
   simp only [Option.some.injEq,Prod.mk.injEq] at h
   obtain ⟨rfl,rfl⟩:=h
   simp only [SV.den,Zj,List.getElem?_map,hc]
   rfl
  ·cases h
 ·cases h
theorem Ju {x:SV} {k n:Nat} {e:TypeId} {l:LE} (h:Ja x k=some (e,l)) (hb:x.bd n):l.bd n:=by
 unfold Ja at h
 split at h
 ·simp only [Option.some.injEq,Prod.mk.injEq] at h
  obtain ⟨rfl,rfl⟩:=h
  exact hb
 ·rename_i cs q
  split at h
  ·rename_i e' l' hc
   simp only [Option.some.injEq,Prod.mk.injEq] at h
   obtain ⟨rfl,rfl⟩:=h
   exact hb _ (List.mem_of_getElem? hc)
  ·cases h
 ·rename_i cs q
  split at h
  ·rename_i e' l' hc
   simp only [Option.some.injEq,Prod.mk.injEq] at h
   obtain ⟨rfl,rfl⟩:=h
   exact hb _ (List.mem_of_getElem? hc)
  ·cases h
 ·cases h
theorem Jo (ρ:Nat→V) (x:SV) (k:Nat) (b:Bool) (e:TypeId) (l:LE):(Z6 x k b e l).den ρ=Zi (x.den ρ) k b e (l.den ρ):=by
 cases x with
 | own x e' l' => cases k <;> rfl
 | box cs =>
  cases k with
  | zero => rfl
  | succ k => simp only [Z6, SV.den, Zi, List.map_set]; rfl
 | c y => cases y <;> rfl
 | _ => cases k <;> rfl
theorem JD {x:SV} {k n:Nat} {b:Bool} {e:TypeId} {l:LE} (hx:x.bd n) (hl:l.bd n):(Z6 x k b e l).bd n:=by
 unfold Z6
 split
 ·exact hl
 ·intro c hc
  rcases List.mem_or_eq_of_mem_set hc with hc | rfl
  ·exact hx c hc
  ·exact hl
 ·exact hx
section
variable {P:Program} {E:Env} {tx:Odr} {tk:Bool} {R:AV→List AV→Prop} {A:Nat→List V→Prop} {ρ:Nat→V} {g:Nat→SV} {o:Oper} {n:Nat} {k:K}
theorem Zlz {x:Operand} (hg:∀ d,(g d).bd n) (htop:∀ i,E.top≤i→g i = .dead) (ho:o.op = .move x) (h:(JM P E tx tk g o n k).wp P R A ρ):Yy tx P R A ρ g o n k:=by
 have plain:(k (Jc P g x) [] [] n).wp P R A ρ→Yy tx P R A ρ g o n k:=fun hk=>ZT hk (ZA hg x) (by rw [J2];exact ZeU (.inl ho))
 simp only [JM,ho] at h
 split at h
 ·rename_i t
  have ht:=hg t
  split at h
  ·rename_i vs hv
   rw [hv] at ht
   exact VO h ht (us1 trivial) (Zg3 ho (by rw [hv];rfl))
  ·rename_i b e xs hv
   rw [hv] at ht
   unfold ZdG at h
   split at h
   ·split at h
    ·rename_i hb
     obtain rfl:b=true:=by cases b<;>simp_all
     refine plain ?_
     have:Jc P g (.tmp t) = .mref t 0:=by simp only [Jc,hv]
     rw [this]
     exact h
    split at h
    ·rename_i us hus
     obtain ⟨us',rfl,q1,q2,q3⟩:=JW ρ htop (t:=t) hv hus
     exact Wg h ht (JX hus ht) (by rw [q1];exact Zea (.inl ho) (by rw [hv];rfl) q2 q3)
    ·exact h.elim
   ·refine plain ?_
    have:Jc P g (.tmp t)=match b with | true=>.mref t 0 | false=>.c (.slice false (P.cellsOf e) xs):=by simp only [Jc,hv];cases b<;>rfl
    rw [this]
    cases b<;>exact h
  ·exact plain h
 ·exact plain h
theorem ZiN {x:Operand} (hg:∀ d,(g d).bd n) (htop:∀ i,E.top≤i→g i = .dead) (ho:o.op = .assign x) (h:(JM P E tx tk g o n k).wp P R A ρ):Yy tx P R A ρ g o n k:=by
 have plain:(k (Jc P g x) [] [] n).wp P R A ρ→Yy tx P R A ρ g o n k:=fun hk=>ZT hk (ZA hg x) (by rw [J2];exact ZeU (.inr ho))
 simp only [JM,ho] at h
 split at h
 ·rename_i t
  have ht:=hg t
  split at h
  ·exact h.elim
  ·rename_i b e xs hv
   rw [hv] at ht
   unfold ZdG at h
   split at h
   ·split at h
    ·rename_i hb
     obtain rfl:b=true:=by cases b<;>simp_all
     refine plain ?_
     have:Jc P g (.tmp t) = .mref t 0:=by simp only [Jc,hv]
     rw [this]
     exact h
    split at h
    ·rename_i us hus
     obtain ⟨us',rfl,q1,q2,q3⟩:=JW ρ htop (t:=t) hv hus
     exact Wg h ht (JX hus ht) (by rw [q1];exact Zea (.inr ho) (by rw [hv];rfl) q2 q3)
    ·exact h.elim
   ·refine plain ?_
    have:Jc P g (.tmp t)=match b with | true=>.mref t 0 | false=>.c (.slice false (P.cellsOf e) xs):=by simp only [Jc,hv];cases b<;>rfl
    rw [this]
    cases b<;>exact h
  ·exact plain h
 ·split at h
  ·exact ZT h trivial (ZjG ho)
  ·exact h.elim
 ·exact plain h
theorem Zly {c a b:Operand} (hg:∀ d,(g d).bd n) (ho:o.op = .pick c a b) (h:(JM P E tx tk g o n k).wp P R A ρ):Yy tx P R A ρ g o n k:=by
 simp only [JM,ho] at h
 split at h
 ·rename_i v hv
  obtain ⟨h1,h2⟩:=ZfC h
  have hc:=Za ρ hv
  have hex:=ZiL ho hc
  cases hb:v.den ρ with
  | true =>
   rw [hb,if_pos rfl] at hex
   exact ZT (h1 hb) (ZA hg a) (by rw [J2];exact hex)
  | false =>
   rw [hb,if_neg (by simp)] at hex
   exact ZT (h2 hb) (ZA hg b) (by rw [J2];exact hex)
 ·exact h.elim
theorem ZjE {T:TypeId} (ho:o.op = .alloc T) (h:(JM P E tx tk g o n k).wp P R A ρ):Yy tx P R A ρ g o n k:=by
 simp only [JM,ho] at h
 split at h
 ·rename_i cs hcs
  obtain ⟨i,z,h1,h2,h3,h4⟩:=Zku ρ n hcs
  exact ZT h h4 (ZgT ho h1 h2 h3)
 ·exact h.elim
theorem Zm8 {T:TypeId} {x:Operand} (hg:∀ d,(g d).bd n) (ho:o.op = .box T x) (h:(JM P E tx tk g o n k).wp P R A ρ):Yy tx P R A ρ g o n k:=by
 simp only [JM,ho] at h
 split at h
 ·rename_i cs hcs
  refine ZT h (fun c hc=>?_) ?_
  ·obtain ⟨y,hy,rfl⟩:=List.mem_map.1 hc
   exact Wj hcs (ZA hg x) y hy
  ·have hd:=KX ρ hcs
   have:=ZjS ho (J2 P g ρ x).symm hd
   have he:((SV.box (cs.map .c)).den ρ) = .box (cs.map (SC.den ρ)):=by simp only [SV.den,List.map_map];rfl
   rw [he]
   exact this
 ·exact h.elim
theorem ZeE (parts:Array (Nat×Operand)):(parts.toList.map fun p=>(p.1,Zn P (fun d=>(g d).den ρ) p.2))=(parts.toList.map fun p=>(p.1,Jc P g p.2)).map fun p=>(p.1,p.2.den ρ):=by
 rw [List.map_map]
 refine List.map_congr_left fun p _=>?_
 simp only [Function.comp,J2]
theorem ZgF (hg:∀ d,(g d).bd n) (parts:Array (Nat×Operand)):∀ p∈(parts.toList.map fun p=>(p.1,Jc P g p.2)),p.2.bd n:=by
 intro p hp
 obtain ⟨q,_,rfl⟩:=List.mem_map.1 hp
 exact ZA hg q.2
theorem Zfy {T:TypeId} {parts:Array (Nat×Operand)} {f t:Nat} {e:TypeId} {l:LE} (hg:∀ d,(g d).bd n) (htop:∀ i,E.top≤i→g i = .dead) (ho:o.op = .build T parts) (hp:Zfa g parts.toList=some (f,t,e,l)) (h:(Zdb P E tx g T f t e l n k).wp P R A ρ):Yy tx P R A ρ g o n k:=by
 have hparts:parts.toList = [(f,.tmp t)]∧g t = .own true e l:=by
  unfold Zfa at hp
  split at hp
  ·split at hp
   ·rename_i h1 _ _ _ h2
    simp only [Option.some.injEq,Prod.mk.injEq] at hp
    obtain ⟨rfl,rfl,rfl,rfl⟩:=hp
    exact ⟨h1,h2⟩
   ·cases hp
  ·cases hp
 obtain ⟨hp1,ht⟩:=hparts
 have hbl:=hg t
 rw [ht] at hbl
 unfold Zdb at h
 split at h
 ·rename_i fs i hT hi
  split at h
  ·rename_i hall
   split at h
   ·rename_i z fd hz hfd
    split at h
    ·rename_i zc us hzc hus
     split at h
     ·rename_i hh
      have h1:=Y6 ρ z.cells.toList
      rw [hzc] at h1
      have hz1:WE z.cells.toList=some (zc.map (SC.den ρ)):=h1.symm
      obtain ⟨us',rfl,q1,q2,q3⟩:=JW ρ htop (t:=t) ht hus
      refine Wg h (fun c hc=>?_) (JX hus hbl) ?_
      ·rcases List.mem_or_eq_of_mem_set hc with hc | rfl
       ·obtain ⟨y,hy,rfl⟩:=List.mem_map.1 hc
        exact KT hzc y hy
       ·exact hbl
      ·have hod:JV tx (fun d=>(g d).den ρ) t (us.tail.map fun u=>(u.1,u.2.den ρ)):=by
        rcases q2 with ⟨h0,_⟩ | q2
        ·cases h0
        ·exact q2
       have:=Zb0 (zc:=zc.map (SC.den ρ)) ho hp1 hT hi hz hz1 hall hfd hh.1 (by simpa using hh.2) (show (fun d=>(g d).den ρ) t = .own true e (l.den ρ) by show (g t).den ρ=_;rw [ht];rfl) hod
       rw [q1]
       have he:(SV.aggo ((zc.map .c).set fd.offset (.own true e l))).den ρ = .aggo ((zc.map (SC.den ρ)).set fd.offset (.own true e (l.den ρ))):=by
        simp only [SV.den,List.map_set,List.map_map]
        rfl
       rw [he]
       exact this
     ·exact h.elim
    ·exact h.elim
   ·exact h.elim
  ·exact h.elim
 ·exact h.elim
theorem ZkD {T:TypeId} {parts:Array (Nat×Operand)} (hg:∀ d,(g d).bd n) (htop:∀ i,E.top≤i→g i = .dead) (ho:o.op = .build T parts) (h:(JM P E tx tk g o n k).wp P R A ρ):Yy tx P R A ρ g o n k:=by
 simp only [JM,ho] at h
 split at h
 ·rename_i f t e l hp
  exact Zfy hg htop ho hp h
 split at h
 ·rename_i fs i hT hi
  split at h
  ·rename_i hall
   split at h
   ·rename_i z hz
    split at h
    ·rename_i zc hzc
     split at h
     ·rename_i cs hcs
      refine ZT h (Zds _ _ _ _ (KT hzc) (ZgF hg parts) hcs) ?_
      have h1:=Y6 ρ z.cells.toList
      rw [hzc] at h1
      refine Zhg ho hT hi hz h1.symm hall ?_
      rw [ZeE]
      exact Zbe ρ _ _ _ _ hcs
     ·exact h.elim
    ·exact h.elim
   ·exact h.elim
  ·exact h.elim
 ·exact h.elim
theorem KU {w:World} {lim:Nat→Nat} {f g:Bool} {s s':Nat} {v:Value} (hg:g=true→f=true) (h:Rep w lim (.slice f s []) v):Rep w lim (.slice g s' []) v:=by
 have key:∀ (y:AV),Rep w lim y v→y = .slice f s []→Rep w lim (.slice g s' []) v:=by
  intro y hy hye
  cases hy with
  | sliceN => exact .sliceN
  | @sliceE f' s2 a cap hf =>
   injection hye with h1 h2 h3
   exact .sliceE fun h=>hf (h1.trans (hg h))
  | @sliceC f' s2 xs b o cap us hs hc hf hle hlim hus hcell hr =>
   injection hye with h1 h2 h3
   subst h3
   exact .sliceE fun h=>by have:=hf (h1.trans (hg h));simpa using this
  | val _ => cases hye
  | agg _ _ _ => cases hye
  | nest => cases hye
 exact key _ h rfl
theorem ZfE {w:World} {lim:Nat→Nat} {f:Bool} {s:Nat} {xs:List (List AV)} {v:Value} (h:Rep w lim (.slice f s xs) v):Rep w lim (.slice false s xs) v:=by
 have key:∀ (y:AV),Rep w lim y v→y = .slice f s xs→Rep w lim (.slice false s xs) v:=by
  intro y hy hye
  cases hy with
  | sliceN => injection hye with h1 h2 h3; subst h3; exact .sliceN
  | @sliceE f' s2 a cap hf => injection hye with h1 h2 h3; subst h3; exact .sliceE fun h => by cases h
  | @sliceC f' s2 xs b o cap us hs hc hf hle hlim hus hcell hr =>
   injection hye with h1 h2 h3
   subst h2
   subst h3
   exact .sliceC hs hc (fun h=>by cases h) hle hlim hus hcell hr
  | val _ => cases hye
  | agg _ _ _ => cases hye
  | nest => cases hye
 exact key _ h rfl
theorem ZkA (ρ:Nat→V) {s:Sh} {c c':SC} (h:ZhW s c=some c'):∀ (w:World) (lim:Nat→Nat) (u:Value),Rep w lim (c.den ρ) u→Rep w lim (c'.den ρ) u:=by
 unfold ZhW at h
 split at h
 ·split at h
  ·simp only [Option.some.injEq] at h
   subst h
   rename_i hk
   subst hk
   exact fun w lim u hr=>ZfE hr
  ·split at h
   ·simp only [Option.some.injEq] at h
    subst h
    exact fun w lim u hr=>KU (fun h=>by cases h) hr
   ·cases h
 ·simp only [Option.some.injEq] at h
  subst h
  exact fun _ _ _ h=>h
theorem ZjC {n:Nat} {s:Sh} {c c':SC} (h:ZhW s c=some c') (hb:c.bd n):c'.bd n:=by
 unfold ZhW at h
 split at h
 ·split at h
  ·simp only [Option.some.injEq] at h
   subst h
   exact hb
  ·split at h
   ·simp only [Option.some.injEq] at h
    subst h
    trivial
   ·cases h
 ·simp only [Option.some.injEq] at h
  subst h
  exact hb
theorem Kh {n:Nat} : ∀ (l:List Sh) (cs cs':List SC),Yr l cs=some cs'→(∀ c∈cs,c.bd n)→∀ c∈cs',c.bd n
 | [], [], _, h, _ => by simp only [Yr, Option.some.injEq] at h; subst h; simp
 | [], _ :: _, _, h, _ => by simp [Yr] at h
 | _ :: _, [], _, h, _ => by simp [Yr] at h
 | s :: ss, c :: cs, r, h, hb => by
  simp only [Yr] at h
  split at h
  ·rename_i v vs hv hvs
   simp only [Option.some.injEq] at h
   subst h
   intro x hx
   rcases List.mem_cons.1 hx with rfl | hx
   ·exact ZjC hv (hb c (by simp))
   ·exact Kh ss cs vs hvs (fun y hy=>hb y (by simp [hy])) x hx
  ·cases h
theorem ZeZ (ρ:Nat→V):∀ (l:List Sh) (cs cs':List SC),Yr l cs=some cs'→cs'.length=cs.length∧∀ (i:Nat) (c:SC),cs'[i]? = some c→∃ c0,cs[i]? = some c0∧∀ (w:World) (lim:Nat→Nat) (u:Value),Rep w lim (c0.den ρ) u→Rep w lim (c.den ρ) u
 | [], [], _, h => by simp only [Yr, Option.some.injEq] at h; subst h; exact ⟨rfl, by simp⟩
 | [], _ :: _, _, h => by simp [Yr] at h
 | _ :: _, [], _, h => by simp [Yr] at h
 | s :: ss, c :: cs, r, h => by
  simp only [Yr] at h
  split at h
  ·rename_i v vs hv hvs
   simp only [Option.some.injEq] at h
   subst h
   obtain ⟨h1,h2⟩:=ZeZ ρ ss cs vs hvs
   refine ⟨by simp [h1],fun i x hx=>?_⟩
   cases i with
   | zero =>
    simp only [List.getElem?_cons_zero,Option.some.injEq] at hx
    subst hx
    exact ⟨c,rfl,ZkA ρ hv⟩
   | succ i => exact h2 i x (by simpa using hx)
  ·cases h
theorem KO (ρ:Nat→V) (l:List Sh) (cs cs':List SC) (h:Yr l cs=some cs'):(cs'.map (SC.den ρ)).length=(cs.map (SC.den ρ)).length∧
  ∀ (w:World) (lim:Nat→Nat) (us:List Value),J1 w lim (cs.map (SC.den ρ)) us→J1 w lim (cs'.map (SC.den ρ)) us:=by
 obtain ⟨h1,h2⟩:=ZeZ ρ l cs cs' h
 refine ⟨by simp [h1],fun w lim us hr=>⟨by rw [← hr.1];simp [h1],fun x hx=>?_,fun i x u hx hu=>?_⟩⟩
 ·obtain ⟨y,_,rfl⟩:=List.mem_map.1 hx
  exact ZgS ρ y
 ·rw [List.getElem?_map] at hx
  cases hc:cs'[i]? with
  | none => rw [hc] at hx; cases hx
  | some c =>
   rw [hc] at hx
   simp only [Option.map_some,Option.some.injEq] at hx
   subst hx
   obtain ⟨c0,g1,g2⟩:=h2 i c hc
   exact g2 w lim u (hr.2.2 i _ u (by rw [List.getElem?_map,g1];rfl) hu)
theorem ZfP (ρ:Nat→V) (s:Sh) (c:SC):(∀ n,c.bd n→(Zmq s c).bd n)∧((c.den ρ).isCell=true→((Zmq s c).den ρ).isCell=true)∧∀ (w:World) (lim:Nat→Nat) (u:Value),Rep w lim (c.den ρ) u→Rep w lim ((Zmq s c).den ρ) u:=by
 unfold Zmq
 split
 ·exact ⟨fun _ h=>h,fun _=>rfl,fun w lim u h=>KU (fun h=>h) h⟩
 ·exact ⟨fun _ h=>h,fun h=>h,fun _ _ _ h=>h⟩
theorem Zfu (ρ:Nat→V):∀ (l:List Sh) (cs:List SC),(ZkK l cs).length=cs.length∧∀ (i:Nat) (c:SC),(ZkK l cs)[i]? = some c→∃ c0 s,cs[i]? = some c0∧(c=c0∨c=Zmq s c0)
 | [], cs => by cases cs <;> exact ⟨rfl, fun i c h => ⟨c, .bool, h, .inl rfl⟩⟩
 | s :: ss, [] => ⟨rfl, fun i c h => by simp [ZkK] at h⟩
 | s :: ss, c :: cs => by
  obtain ⟨h1,h2⟩:=Zfu ρ ss cs
  refine ⟨by simp [ZkK,h1],fun i x hx=>?_⟩
  cases i with
  | zero =>
   simp only [ZkK,List.getElem?_cons_zero,Option.some.injEq] at hx
   exact ⟨c,s,rfl,.inr hx.symm⟩
  | succ i => exact h2 i x (by simpa [ZkK] using hx)
theorem ZmZ {n:Nat} (P:Program) (T:TypeId) {vc:List SC} (h:∀ c∈vc,c.bd n):∀ c∈nrm P T vc,c.bd n:=by
 unfold nrm
 split
 ·rename_i sh _
  intro c hc
  obtain ⟨i,hi⟩:=List.mem_iff_getElem?.1 hc
  obtain ⟨c0,s,h0,e | e⟩:=(Zfu (fun _=>.i 0) sh vc).2 i c hi
  ·rw [e];exact h c0 (List.mem_of_getElem? h0)
  ·rw [e];exact (ZfP (fun _=>.i 0) s c0).1 n (h c0 (List.mem_of_getElem? h0))
 ·exact h
theorem ZmH (ρ:Nat→V) (P:Program) (T:TypeId) (vc:List SC):((nrm P T vc).map (SC.den ρ)).length=(vc.map (SC.den ρ)).length∧
  ∀ (w:World) (lim:Nat→Nat) (us:List Value),J1 w lim (vc.map (SC.den ρ)) us→J1 w lim ((nrm P T vc).map (SC.den ρ)) us:=by
 unfold nrm
 split
 ·rename_i sh _
  obtain ⟨h1,h2⟩:=Zfu ρ sh vc
  have hat:∀ (i:Nat) (x:AV),((ZkK sh vc).map (SC.den ρ))[i]? = some x→∃ x0,(vc.map (SC.den ρ))[i]? = some x0∧(x0.isCell=true→x.isCell=true)∧∀ (w:World) (lim:Nat→Nat) (u:Value),Rep w lim x0 u→Rep w lim x u:=by
   intro i x hx
   rw [List.getElem?_map] at hx
   obtain ⟨c,hc,rfl⟩:=Option.map_eq_some_iff.1 hx
   obtain ⟨c0,s,h0,e | e⟩:=h2 i c hc
   ·subst e
    exact ⟨_,by rw [List.getElem?_map,h0];rfl,fun h=>h,fun _ _ _ h=>h⟩
   ·subst e
    exact ⟨_,by rw [List.getElem?_map,h0];rfl,(ZfP ρ s c0).2.1,(ZfP ρ s c0).2.2⟩
  refine ⟨by simp [h1],fun w lim us hr=>⟨by rw [← hr.1];simp [h1],fun x hx=>?_,fun i x u hx hu=>?_⟩⟩
  ·obtain ⟨i,hi⟩:=List.mem_iff_getElem?.1 hx
   obtain ⟨x0,h0,h3,_⟩:=hat i x hi
   exact h3 (hr.2.1 x0 (List.mem_of_getElem? h0))
  ·obtain ⟨x0,h0,_,h4⟩:=hat i x hx
   exact h4 w lim u (hr.2.2 i x0 u h0 hu)
 ·exact ⟨rfl,fun _ _ _ h=>h⟩
theorem Zfn (o:BC) (x:SC):ZkM o x = .c x∨∃ e s,ZkM o x = .own true e .nil∧x = .slice true s .nil:=by
 unfold ZkM
 split
 ·exact .inr ⟨_,_,rfl,rfl⟩
 ·exact .inl rfl
theorem Zcj:∀ (os:List BC) (xs:List SC),(Yt os xs).length=xs.length
 | [], xs => by simp [Yt]
 | _ :: _, [] => rfl
 | _ :: os, _ :: xs => by simp [Yt, Zcj os xs]
theorem V9:∀ (os:List BC) (xs:List SC) (i:Nat) (y:BC),(Yt os xs)[i]? = some y→∃ x,xs[i]? = some x∧(y = .c x∨∃ e s,y = .own true e .nil∧x = .slice true s .nil)
 | [], xs, i, y, h => by
  simp only [Yt,List.getElem?_map] at h
  obtain ⟨x,hx,rfl⟩:=Option.map_eq_some_iff.1 h
  exact ⟨x,hx,.inl rfl⟩
 | _ :: _, [], i, y, h => by simp [Yt] at h
 | o :: _, x :: _, 0, y, h => by
  simp only [Yt,List.getElem?_cons_zero,Option.some.injEq] at h
  subst h
  exact ⟨x,rfl,Zfn o x⟩
 | o :: os, x :: xs, i + 1, y, h => by
  simp only [Yt,List.getElem?_cons_succ] at h
  obtain ⟨x',h1,h2⟩:=V9 os xs i y h
  exact ⟨x',by simpa using h1,h2⟩
theorem ZiB {n:Nat} (os:List BC) (xs:List SC) (h:∀ c∈xs,c.bd n):∀ c∈Yt os xs,c.bd n:=by
 intro c hc
 obtain ⟨i,hi⟩:=List.mem_iff_getElem?.1 hc
 obtain ⟨x,h1,rfl | ⟨e,s,rfl,rfl⟩⟩:=V9 os xs i c hi
 ·exact h x (List.mem_of_getElem? h1)
 ·trivial
theorem ZlN {P:Program} (ρ:Nat→V) (os:List BC) {vc0:List AV} {xs:List SC}
  (h:(xs.map (SC.den ρ)).length=vc0.length∧∀ (w:World) (lim:Nat→Nat) (us:List Value),J1 w lim vc0 us→J1 w lim (xs.map (SC.den ρ)) us) :
  ((Yt os xs).map (BC.den ρ)).length=vc0.length∧∀ (w:World) (lim:Nat→Nat) (us:List Value),J1 w lim vc0 us→
   (∀ z∈(Yt os xs).map (BC.den ρ),ZaL z)∧∀ (j:Nat) (z:AV) (u:Value),((Yt os xs).map (BC.den ρ))[j]? = some z→us[j]? = some u→J0 P w lim none z u:=by
 refine ⟨by rw [List.length_map,Zcj,← h.1,List.length_map],fun w lim us hr=>?_⟩
 have hr:=h.2 w lim us hr
 refine ⟨fun z hz=>?_,fun j z u hz hu=>?_⟩
 ·obtain ⟨y,hy,rfl⟩:=List.mem_map.1 hz
  obtain ⟨i,hi⟩:=List.mem_iff_getElem?.1 hy
  obtain ⟨x,h1,rfl | ⟨e,s,rfl,rfl⟩⟩:=V9 os xs i y hi
  ·exact .inl (hr.2.1 _ (List.mem_map.2 ⟨x,List.mem_of_getElem? h1,rfl⟩))
  ·exact .inr (.inl ⟨_,_,_,rfl⟩)
 ·rw [List.getElem?_map] at hz
  obtain ⟨y,hy,rfl⟩:=Option.map_eq_some_iff.1 hz
  obtain ⟨x,h1,he⟩:=V9 os xs j y hy
  have hx:(xs.map (SC.den ρ))[j]? = some (x.den ρ):=by rw [List.getElem?_map,h1];rfl
  have hc:=hr.2.1 _ (List.mem_of_getElem? hx)
  have hrep:=hr.2.2 j _ u hx hu
  rcases he with rfl | ⟨e,s,rfl,rfl⟩
  ·show J0 P w lim none (x.den ρ) u
   cases hxd:x.den ρ<;>rw [hxd] at hc hrep<;>simp [AV.isCell] at hc<;>exact hrep
  ·exact Zar (s:=s) hrep
theorem Zdn {T:TypeId} {len:Nat} {parts:Array (Nat×Operand)} (hg:∀ d,(g d).bd n) (ho:o.op = .buildSlice T len parts) (h:(JM P E tx tk g o n k).wp P R A ρ):Yy tx P R A ρ g o n k:=by
 simp only [JM,ho] at h
 split at h
 ·rename_i e hT
  split at h
  ·rename_i i hi
   split at h
   ·rename_i z hz
    split at h
    ·rename_i zc hzc
     split at h
     ·rename_i hh
      split at h
      ·rename_i cs sh hcs hsh
       split at h
       ·rename_i cs' hcs'
        have hb:∀ c∈cs,c.bd n:=Zds _ _ _ _ (fun c hc=>by
         obtain ⟨l,hl,hc⟩:=List.mem_flatten.1 hc
         rw [(List.mem_replicate.1 hl).2] at hc
         exact KT hzc c hc) (ZgF hg parts) hcs
        refine ZT h (x:=.own _ e _) (Zk3 _ _ (Kh _ _ _ hcs' hb) _) ?_
        have h1:=Y6 ρ z.cells.toList
        rw [hzc] at h1
        have h2:=Zbe ρ _ _ _ _ hcs
        rw [← ZeE,List.map_flatten,List.map_replicate] at h2
        have:=ZaU (E.exO o) ho hT hi hz h1.symm hh.1 hh.2.1 hh.2.2.1 hh.2.2.2 h2 (KO ρ _ _ _ hcs')
        rw [← Zh3] at this
        exact this
       ·exact h.elim
      ·exact h.elim
     ·exact h.elim
    ·exact h.elim
   ·exact h.elim
  ·exact h.elim
 ·exact h.elim
theorem ZjT (ρ:Nat→V) (x:SC):J9 P (x.den ρ)=x.den ρ:=by cases x<;>rfl
theorem ZdM {a:Operand} {p:Nat×Nat×TypeId×LE×IE×Nat×Nat} (h:Zco P g a=some p):∃ d q e l i s off,p=(d,q,e,l,i,s,off)∧Jc P g a = .eref d q i s off∧Ja (g d) q=some (e,l)∧Zc P e=true:=by
 unfold Zco at h
 split at h
 ·rename_i d q i s off ha
  split at h
  ·rename_i e l hp
   split at h
   ·rename_i hd
    simp only [Option.some.injEq] at h
    exact ⟨d,q,e,l,i,s,off,h.symm,ha,hp,hd⟩
   ·cases h
  ·cases h
 ·cases h
theorem WR:∀ (l:List Sh) (n:Nat),(ZC l n).length=l.length
 | [], _ => rfl
 | s :: l, n => by simp only [ZC, List.length_cons, WR l]
theorem Zkm {xs:List (List AV)} {i off m:Nat} {c:List AV} (h:(Zjv (KD xs i off m) off m)[i]? = some c) (hc:c.length=m):∃ row,xs[i]? = some row∧c=((row.drop off).take m).map ZaW∧(0 < m→off+m≤row.length):=by
 unfold Zjv KD at h
 rw [List.getElem?_map,List.getElem?_modify] at h
 cases hr:xs[i]? with
 | none => rw [hr] at h; cases h
 | some row =>
  rw [hr] at h
  simp only [Option.map_eq_map,Option.map_some,Option.some.injEq,↓reduceIte] at h
  refine ⟨row,rfl,?_,?_⟩
  ·rcases Nat.lt_or_ge off row.length with hlt | hge
   ·have hl:(row.take off).length=off:=by rw [List.length_take];omega
    rw [List.append_assoc,List.drop_append_of_le_length (by omega),List.drop_of_length_le (by omega),List.nil_append] at h
    have hm:(List.map ZaW (List.take m (List.drop off row))).length≤m:=by simp;omega
    rcases Nat.lt_or_ge (row.length-off) m with h1 | h1
    ·have hd:row.drop (off+m) = []:=List.drop_of_length_le (by omega)
     rw [hd,List.append_nil] at h
     rw [← h,List.take_of_length_le hm]
    ·have hm':(List.map ZaW (List.take m (List.drop off row))).length=m:=by simp;omega
     rw [List.take_append_of_le_length (by omega),List.take_of_length_le (by omega)] at h
     exact h.symm
   ·have hd:row.drop off = []:=List.drop_of_length_le hge
    rw [hd,List.take_nil,List.map_nil,List.append_nil,List.take_of_length_le hge,List.drop_of_length_le (show row.length≤off+m by omega),List.append_nil,hd,List.take_nil] at h
    rw [← h,hd,List.take_nil,List.map_nil]
  ·intro hm
   rw [← h] at hc
   simp only [List.length_take,List.length_drop,List.length_append,List.length_map] at hc
   omega
theorem ZcB {T:TypeId} {a:Operand} {agg:Bool} {d q:Nat} {e:TypeId} {l:LE} {i:IE} {off:Nat} (hg:∀ d,(g d).bd n) (ho:o.op = .load T a) (ha:Jc P g a = .eref d q i (P.cellsOf (bT e)) off) (hp:Ja (g d) q=some (e,l)) (hdp:Zc P e=true) (hfit:off+P.cellsOf T≤P.cellsOf (bT e)) (h0:0 < P.cellsOf T)
  (hng:(g d).isG=false) (hT:Z3 P T=some agg) (h:(Zde P g T agg d q e l i off n k).wp P R A ρ):Yy tx P R A ρ g o n k:=by
 unfold Zde at h
 split at h
 case h_2=>exact h.elim
 rename_i sh hsh
 split at h
 case isFalse=>exact h.elim
 rename_i hl
 obtain ⟨hl,hag⟩:=hl
 obtain ⟨vs,w1,w2,w3⟩:=h
 have hbl:=Ju hp (hg d)
 have hbi:=ZA (P:=P) hg a
 rw [ha] at hbi
 have hbi:i.bd n:=hbi
 obtain ⟨row,r1,r2,r3⟩:=Zkm w2 (by rw [List.length_map,WR,hl])
 have r3:=r3 h0
 have hat:=ZL ρ hp
 have hbd:=Jt sh n
 have hle:n≤n+sh.length:=Nat.le_add_right _ _
 have hld:∀ x:LE,x.bd n→x.den (bind ρ n vs)=x.den ρ:=fun x hx=>LE.den_congr (Kt ρ n vs) x hx
 have hlb:(LE.fn (.dfz1 off (P.cellsOf T)) l i .nil .nil).bd n:=⟨hbl,hbi,trivial,trivial⟩
 have hup:((Z6 (g d) q true e (.fn (.dfz1 off (P.cellsOf T)) l i .nil .nil)).den (bind ρ n vs))=Zi ((g d).den ρ) q true e (KD (l.den ρ) (i.den ρ).toNat off (P.cellsOf T)):=by
  rw [Jo,SV.den_congr (Kt ρ n vs) (g d) (hg d),hld _ hlb]
  rfl
 refine ⟨bind ρ n vs,n+sh.length,_,_,[d],hle,Kt ρ n vs,?_,?_,w3,?_⟩
 ·cases agg with
  | true => exact hbd
  | false =>
   show SV.bd _ (match ZC sh n with | [x]=>.c x | _=>.dead)
   split
   ·rename_i x hx;exact hbd x (by rw [hx];simp)
   ·trivial
 ·intro u hu
  rw [List.mem_singleton] at hu
  subst hu
  exact SV.bd_mono hle _ (JD (hg d) hlb)
 ·rw [List.map_cons,List.map_nil]
  show YN tx P o _ _ [(d,(Z6 (g d) q true e (.fn (.dfz1 off (P.cellsOf T)) l i .nil .nil)).den (bind ρ n vs))] [d]
  rw [hup]
  cases agg with
  | true =>
   have:=VR ho hT (Za ρ ha) (show Zj ((fun d=>(g d).den ρ) d) q=_ from hat) (Kx ρ hng) r1 hfit hdp
   rw [← r2] at this
   exact this.t
  | false =>
   have hl1:sh.length=1:=by rcases hag with h | h;cases h;exact h
   obtain ⟨s1,rfl⟩:=List.length_eq_one_iff.1 hl1
   have hT1:P.cellsOf T=1:=by rw [← hl];rfl
   rw [hT1] at r2 r3 hfit ⊢
   obtain ⟨x,hx⟩:∃ x,row[off]? = some x:=⟨row[off]'(by omega),List.getElem?_eq_getElem (by omega)⟩
   have e1:(row.drop off).take 1 = [x]:=by rw [List.take_one,List.head?_drop,hx];rfl
   rw [e1] at r2
   have:=VM ho hT (Za ρ ha) (show Zj ((fun d=>(g d).den ρ) d) q=_ from hat) (Kx ρ hng) r1 hx hfit hdp
   simp only [ZC,List.map_cons,List.map_nil,List.cons.injEq,and_true] at r2
   rw [← r2] at this
   exact this.t
theorem ZmU {xs:List (List AV)} {i:Int} {o' s:Nat} {e:TypeId} (h:qop (.nst o' s e) xs i=true):∃ row ys,xs[i.toNat]? = some row∧row[o']? = some (.nest s true e ys)∧Wt xs i.toNat o'=ys:=by
 simp only [qop] at h
 cases hr:xs[i.toNat]? with
 | none => rw [hr] at h; cases h
 | some row =>
  rw [hr] at h
  simp only [Option.bind_some] at h
  split at h
  ·rename_i s' e' ys hz
   simp only [Bool.and_eq_true,beq_iff_eq] at h
   obtain ⟨rfl,rfl⟩:=h
   exact ⟨row,ys,rfl,hz,by simp only [Wt,hr,Option.bind_some,hz]⟩
  ·cases h
theorem Zff {T:TypeId} {a:Operand} {p:Nat×Nat×TypeId×LE×IE×Nat×Nat} (hg:∀ d,(g d).bd n) (ho:o.op = .load T a) (hp:Zco P g a=some p) (h:(Zdg P tk g T p n k).wp P R A ρ):Yy tx P R A ρ g o n k:=by
 obtain ⟨d,q,e,l,i,s,off,rfl,ha,hpl,hdp⟩:=ZdM hp
 have hbl:=Ju hpl (hg d)
 have hbi:=ZA (P:=P) hg a
 rw [ha] at hbi
 have hbi:i.bd n:=hbi
 have hat:=ZL ρ hpl
 simp only [Zdg] at h
 split at h
 case isFalse=>exact h.elim
 rename_i hh
 obtain ⟨rfl,hfit,h0,hng⟩:=hh
 split at h
 ·rename_i hT
  exact ZcB hg ho ha hpl hdp hfit h0 hng hT h
 ·rename_i hT
  split at h
  ·rename_i _ e' hTe
   obtain ⟨q1,q2,h⟩:=h
   obtain ⟨row,ys,m1,m2,m3⟩:=ZmU q2
   refine VO h (show LE.bd n _ from ⟨hbl,hbi,trivial,trivial⟩) (us1 (JD (hg d) ⟨hbl,hbi,trivial,trivial⟩)) ?_
   have:=ZbT ho hT (Za ρ ha) (show Zj ((fun d=>(g d).den ρ) d) q=_ from hat) (Kx ρ hng) m1 m2 hdp
   rw [← m3] at this
   rw [List.map_cons,List.map_nil]
   show Jw P o _ _ [(d,(Z6 (g d) q true e (.fn (.dput off (P.cellsOf e') false e') l i .nil .nil)).den ρ)] [d]
   rw [Jo]
   exact this
  ·exact ZcB hg ho ha hpl hdp hfit h0 hng hT h
 ·exact h.elim
theorem Zjd (ρ:Nat→V) (c:SC):Zk8 (c.den ρ)=true:=by cases c<;>rfl
theorem ZeY {T:TypeId} {a x:Operand} {p:Nat×Nat×TypeId×LE×IE×Nat×Nat} (hg:∀ d,(g d).bd n) (htop:∀ i,E.top≤i→g i = .dead) (ho:o.op = .store T a x) (hp:Zco P g a=some p) (h:(Zbu P E tx g T x p n k).wp P R A ρ):Yy tx P R A ρ g o n k:=by
 obtain ⟨d,q,e,l,i,s,off,rfl,ha,hpl,hdp⟩:=ZdM hp
 have hbl:=Ju hpl (hg d)
 have hbi:=ZA (P:=P) hg a
 rw [ha] at hbi
 have hbi:i.bd n:=hbi
 have hat:=ZL ρ hpl
 simp only [Zbu] at h
 split at h
 case isFalse=>exact h.elim
 rename_i hh
 obtain ⟨rfl,hfit,h0,hng⟩:=hh
 split at h
 ·rename_i t e' ys h1 h2
  have hx:x = .tmp t:=by cases x<;>simp [ZM] at h1;rw [h1]
  subst hx
  simp only [ZM,Option.map_some,Option.some.injEq] at h2
  have ht:=hg t
  rw [h2] at ht
  split at h
  case h_2=>exact h.elim
  rename_i us hus
  split at h
  case isFalse=>exact h.elim
  rename_i hh2
  obtain ⟨hT1,hem,hdt⟩:=hh2
  obtain ⟨r1,r2,h⟩:=h
  have r1':0≤i.den ρ:=r1
  have r2':i.den ρ < ((l.den ρ).length:Int):=r2
  obtain ⟨us',rfl,q1,q2,q3⟩:=JW ρ htop (t:=t) h2 hus
  have q2:=q2.resolve_left fun h=>by cases h.1
  refine Wg h trivial (fun u hu=>?_) ?_
  ·rcases List.mem_append.1 hu with hu | hu
   ·exact JX hus ht u hu
   ·rw [List.mem_singleton] at hu
    subst hu
    exact JD (hg d) ⟨hbl,hbi,ht,trivial⟩
  ·have:=ZaF (T':=tx) (ys:=ys.den ρ) ho (Za ρ ha) (show Zj ((fun d=>(g d).den ρ) d) q=_ from hat) (Kx ρ hng) (show (fun d=>(g d).den ρ) t = .own true e' (ys.den ρ) by show (g t).den ρ=_;rw [h2];rfl) hT1 (show (i.den ρ).toNat < _ by omega) (by omega) hdp hem q2 hdt
   rw [List.map_append,q1]
   simp only [List.map_cons,List.map_nil,Jo]
   exact this
 ·split at h
  case h_2=>exact h.elim
  rename_i vc sh hvc hsh
  split at h
  case h_2=>exact h.elim
  rename_i vc' hvc'
  split at h
  case isFalse=>exact h.elim
  rename_i hn
  obtain ⟨r1,r2,h⟩:=h
  have r1':0≤i.den ρ:=r1
  have r2':i.den ρ < ((l.den ρ).length:Int):=r2
  have hbv:=Kh _ _ _ hvc' (Wj hvc (ZA (P:=P) hg x))
  refine VO h trivial (us1 (JD (hg d) ⟨hbl,hbi,WC _ hbv⟩)) ?_
  have:=ZaE (vc:=vc.map (SC.den ρ)) (vc':=vc'.map (SC.den ρ)) ho (Za ρ ha) (show Zj ((fun d=>(g d).den ρ) d) q=_ from hat) (Kx ρ hng) (J2 P g ρ x).symm (KX ρ hvc) (by simpa using hn) (by omega) (show (i.den ρ).toNat < _ by omega) hfit (KO ρ _ _ _ hvc') (fun z hz=>by obtain ⟨c,_,rfl⟩:=List.mem_map.1 hz;exact Zjd ρ c) hdp
  rw [← Vd] at this
  simp only [List.map_cons,List.map_nil,Jo]
  exact this
theorem ZfG {T:TypeId} {a:Operand} {d off:Nat} {cs:List BC} (hg:∀ d,(g d).bd n) (htop:∀ i,E.top≤i→g i = .dead) (ho:o.op = .load T a) (hT:Z3 P T=some true) (ha:Jc P g a = .ptr d off) (hd:g d = .box cs) (h:(Zdl P E tx g T d off cs n k).wp P R A ρ):Yy tx P R A ρ g o n k:=by
 unfold Zdl at h
 split at h
 case h_2=>exact h.elim
 rename_i us hus
 split at h
 case isFalse=>exact h.elim
 rename_i hh
 obtain ⟨rfl,hl,hw⟩:=hh
 obtain ⟨q1,q2⟩:=ZeF ρ htop hus
 have hb:=hg d
 rw [hd] at hb
 have hb:∀ c∈cs,c.bd n:=hb
 refine Wg h hb (fun u hu=>?_) ?_
 ·rcases List.mem_append.1 hu with hu | hu
  ·rw [q1 u hu];trivial
  ·rw [List.mem_singleton] at hu
   subst hu
   intro c hc
   obtain ⟨y,hy,rfl⟩:=List.mem_map.1 hc
   have:=hb y hy
   cases y<;>first | exact this | trivial
 ·have:=ZbW (T':=tx) (cs:=cs.map (BC.den ρ)) ho hT (Za ρ ha) (show (fun d=>(g d).den ρ) d = .box (cs.map (BC.den ρ)) by show (g d).den ρ=_;rw [hd];rfl) (by simpa using hl) (Wd hw ρ) q2
  rw [List.map_append]
  have he:(cs.map Zna).map (BC.den ρ)=(cs.map (BC.den ρ)).map ZlU:=by
   rw [List.map_map,List.map_map]
   refine List.map_congr_left fun c _=>?_
   cases c with
   | c x => cases x <;> rfl
   | own _ _ _ => rfl
   | gone => rfl
  simp only [List.map_cons,List.map_nil,SV.den,he]
  exact this
theorem Zlu {T:TypeId} {a:Operand} (hg:∀ d,(g d).bd n) (htop:∀ i,E.top≤i→g i = .dead) (ho:o.op = .load T a) (h:(JM P E tx tk g o n k).wp P R A ρ):Yy tx P R A ρ g o n k:=by
 have ba:=ZA (P:=P) hg a
 simp only [JM,ho] at h
 split at h
 ·rename_i p hp
  exact Zff hg ho hp h
 split at h
 ·rename_i d off hT ha
  split at h
  ·rename_i cs hcs
   split at h
   ·rename_i hle
    have hb:=hg d
    rw [hcs] at hb
    refine Wg h (fun c hc=>?_) (by simp) ?_
    ·obtain ⟨y,hy,rfl⟩:=List.mem_map.1 hc
     exact ZiT (hb y (List.mem_of_mem_drop (List.mem_of_mem_take hy)))
    ·have:YN tx P o (fun d=>(g d).den ρ) (.agg (((((cs.map (BC.den ρ)).drop off).take (P.cellsOf T))).map (J9 P))) [] (fpL tx d off (P.cellsOf T)):=by
      unfold fpL
      split
      ·rename_i hk
       simp only [Bool.and_eq_true,decide_eq_true_eq,List.all_eq_true,List.mem_range] at hk
       exact V6 (cs:=cs.map (BC.den ρ)) ho hT (Za ρ ha) (by rw [hcs];rfl) (by simpa using hle.1) (K8 hle.2.1 ρ) (Zb9 hle.2.2 ρ) hk.1 hk.2
      ·exact (VV (cs:=cs.map (BC.den ρ)) ho hT (Za ρ ha) (by rw [hcs];rfl) (by simpa using hle.1) (K8 hle.2.1 ρ) (Zb9 hle.2.2 ρ)).t
     have he:(SV.agg (((cs.drop off).take (P.cellsOf T)).map (ZcM P))).den ρ = .agg (((((cs.map (BC.den ρ)).drop off).take (P.cellsOf T))).map (J9 P)):=by
      simp only [SV.den,List.map_map,← List.map_take,← List.map_drop]
      congr 1
      exact List.map_congr_left fun b _=>Zcc P ρ b
     rw [he]
     exact this
   ·exact ZfG hg htop ho hT ha hcs h
  ·exact h.elim
 ·rename_i d off hT ha
  split at h
  ·rename_i cs hcs
   have hb:=hg d
   rw [hcs] at hb
   have hd:(fun d=>(g d).den ρ) d = .box (cs.map (BC.den ρ)):=by show (g d).den ρ=_;rw [hcs];rfl
   split at h
   ·rename_i b e xs hx
    have hx':(cs.map (BC.den ρ))[off]? = some (.own b e (xs.den ρ)):=by rw [List.getElem?_map,hx];rfl
    have hbx:=hb _ (List.mem_of_getElem? hx)
    split at h
    ·split at h
     ·rename_i us _ hus
      obtain ⟨q1,q2⟩:=ZeF ρ htop hus
      split at h
      case isFalse=>exact h.elim
      rename_i hmv
      refine Wg h hbx (fun u hu=>?_) ?_
      ·rcases List.mem_append.1 hu with hu | hu
       ·rw [q1 u hu];trivial
       ·rw [List.mem_singleton] at hu
        subst hu
        intro c hc
        rcases List.mem_or_eq_of_mem_set hc with hc | rfl
        ·exact hb c hc
        ·trivial
      ·have:=Zb5 (T':=tx) ho hT (Za ρ ha) hd hx' q2 (Zgf ρ hmv)
       rw [List.map_append]
       simp only [List.map_cons,List.map_nil,SV.den,List.map_set]
       exact this
     ·have:YN tx P o (fun d=>(g d).den ρ) (.mref d (off+1)) [] (fpL tx d off 1):=by
       unfold fpL
       split
       ·rename_i hk
        simp only [Bool.and_eq_true,decide_eq_true_eq,List.all_eq_true,List.mem_range] at hk
        exact Wr ho hT (Za ρ ha) hd hx' (by simpa using hk.2 0 (by omega))
       ·exact (Wk ho hT (Za ρ ha) hd hx').t
      exact Wg h trivial (by simp) this
    ·split at h
     ·refine VO h hbx (us1 (fun c hc=>?_)) ?_
      ·rcases List.mem_or_eq_of_mem_set hc with hc | rfl
       ·exact hb c hc
       ·exact hbx
      ·have:=ZcY ho hT (Za ρ ha) hd hx'
       simp only [List.map_cons,List.map_nil,SV.den,List.map_set]
       exact this
     ·exact ZT h hbx (Y9 ho hT (Za ρ ha) hd hx' (fun e xs h=>by cases h) (fun h=>by cases h))
   ·rename_i x hx
    have hx':(cs.map (BC.den ρ))[off]? = some (x.den ρ):=by rw [List.getElem?_map,hx];rfl
    have:YN tx P o (fun d=>(g d).den ρ) (J9 P (x.den ρ)) [] (fpL tx d off 1):=by
     unfold fpL
     split
     ·rename_i hk
      simp only [Bool.and_eq_true,decide_eq_true_eq,List.all_eq_true,List.mem_range] at hk
      exact Vy ho hT (Za ρ ha) hd hx' (fun e xs h=>by cases x<;>cases h) (fun h=>by cases x<;>cases h) (by simpa using hk.2 0 (by omega))
     ·exact (Y9 ho hT (Za ρ ha) hd hx' (fun e xs h=>by cases x<;>cases h) (fun h=>by cases x<;>cases h)).t
    rw [ZjT] at this
    exact Wg h (hb _ (List.mem_of_getElem? hx)) (by simp) this
   ·exact h.elim
   ·exact h.elim
  ·exact h.elim
 ·rename_i agg d q i s off hT ha
  split at h
  ·rename_i e l hp
   split at h
   ·rename_i sh hsh
    split at h
    ·rename_i hh
     obtain ⟨rfl,h2,h3,h4,hnm⟩:=hh
     obtain ⟨vs,w1,w2,w3⟩:=h
     have hbd:=Jt sh n
     have hat:=ZL ρ hp
     have hlen:(ZC sh n).length=P.cellsOf e:=by
      have hsl:∀ (l:List Sh) (n:Nat),(ZC l n).length=l.length:=by
       intro l
       induction l with
       | nil => intro n; rfl
       | cons s l ih => intro n; simp only [ZC, List.length_cons, ih]
      rw [hsl,h2]
     refine ⟨bind ρ n vs,n+sh.length,_,[],[d],Nat.le_add_right _ _,Kt ρ n vs,?_,by simp,w3,?_⟩
     ·cases agg with
      | true => exact fun c hc => hbd c (List.mem_of_mem_drop (List.mem_of_mem_take hc))
      | false =>
       show SV.bd _ (match (ZC sh n)[off]? with | some x=>.c x | none=>.dead)
       split
       ·rename_i x hx;exact hbd x (List.mem_of_getElem? hx)
       ·trivial
     ·cases agg with
      | true =>
       have:=V0 ho hT (Za ρ ha) (show Zj ((fun d=>(g d).den ρ) d) q=_ from hat) w2 h3 hnm
       rw [← List.map_drop,← List.map_take] at this
       exact this.t
      | false =>
       have hon:P.cellsOf T=1∨off < (ZC sh n).length:=.inr (by omega)
       have hlt:off < (ZC sh n).length:=by omega
       show YN tx P o _ ((match (ZC sh n)[off]? with | some x=>SV.c x | none=>.dead).den (bind ρ n vs)) _ _
       rw [List.getElem?_eq_getElem hlt]
       exact (VB ho hT (Za ρ ha) (show Zj ((fun d=>(g d).den ρ) d) q=_ from hat) w2 (by omega) (by rw [List.getElem?_map,List.getElem?_eq_getElem hlt];rfl) hnm).t
    ·exact h.elim
   ·exact h.elim
  ·exact h.elim
 ·rename_i cs hT ha
  rw [ha] at ba
  split at h
  ·rename_i hle
   refine ZT h (fun c hc=>ba c (List.mem_of_mem_take hc)) ?_
   have:=Zb2 (cs:=cs.map (SC.den ρ)) ho hT (Za ρ ha) (by simpa using hle)
   rw [← List.map_take] at this
   exact this
  ·exact h.elim
 ·rename_i cs hT ha
  rw [ha] at ba
  split at h
  ·rename_i x rest
   exact ZT h (ba x (by simp)) (ZbC (cs:=rest.map (SC.den ρ)) ho hT (Za ρ ha))
  ·exact h.elim
 ·exact h.elim
theorem Zj2 {T:TypeId} {a x:Operand} (hg:∀ d,(g d).bd n) (htop:∀ i,E.top≤i→g i = .dead) (ho:o.op = .store T a x) (h:(JM P E tx tk g o n k).wp P R A ρ):Yy tx P R A ρ g o n k:=by
 have bx:=ZA (P:=P) hg x
 simp only [JM,ho] at h
 split at h
 ·rename_i p hp
  exact ZeY hg htop ho hp h
 split at h
 ·rename_i d off ha
  split at h
  ·rename_i cs hcs
   have hb:=hg d
   rw [hcs] at hb
   have hd:(fun d=>(g d).den ρ) d = .box (cs.map (BC.den ρ)):=by show (g d).den ρ=_;rw [hcs];rfl
   split at h
   ·rename_i t b e xs h1 h2
    have hx:x = .tmp t:=by cases x<;>simp [ZM] at h1;rw [h1]
    subst hx
    simp only [ZM,Option.map_some,Option.some.injEq] at h2
    have ht:=hg t
    rw [h2] at ht
    split at h
    ·rename_i us hus
     split at h
     ·rename_i hh
      obtain ⟨us',rfl,q1,q2,q3⟩:=JW ρ htop (t:=t) h2 hus
      refine Wg h trivial (fun u hu=>?_) ?_
      ·rcases List.mem_append.1 hu with hu | hu
       ·exact JX hus ht u hu
       ·rw [List.mem_singleton] at hu
        subst hu
        intro c hc
        rcases List.mem_or_eq_of_mem_set hc with hc | rfl
        ·exact hb c hc
        ·exact ht
      ·have:=Zb1 (T':=tx) (e:=e) (xs:=xs.den ρ) ho (Za ρ ha) hd (by show (g t).den ρ=_;rw [h2];rfl) hh.1 (by simpa using hh.2.1) (Zgc ρ htop hh.2.2) q2
       rw [List.map_append,q1]
       simp only [List.map_cons,List.map_nil,SV.den,List.map_set]
       exact this
     ·exact h.elim
    ·exact h.elim
   ·rename_i t vc h1 h2
    have hx:x = .tmp t:=by cases x<;>simp [ZM] at h1;rw [h1]
    subst hx
    simp only [ZM,Option.map_some,Option.some.injEq] at h2
    have ht:=hg t
    rw [h2] at ht
    split at h
    ·rename_i hh
     refine VO h trivial (us2 trivial (fun c hc=>?_)) ?_
     ·rcases List.mem_append.1 hc with hc | hc
      ·rcases List.mem_append.1 hc with hc | hc
       ·exact hb c (List.mem_of_mem_take hc)
       ·exact ht c hc
      ·exact hb c (List.mem_of_mem_drop hc)
     ·have:=Zay (vc:=vc.map (BC.den ρ)) ho (Za ρ ha) hd (show (fun d=>(g d).den ρ) t = .aggo (vc.map (BC.den ρ)) by show (g t).den ρ=_;rw [h2];rfl) (by simpa using hh.1) (by omega) (by simpa using hh.2.2.1) (K8 hh.2.2.2 ρ)
      have he:(SV.box (cs.take off++vc++cs.drop (off+P.cellsOf T))).den ρ = .box ((cs.map (BC.den ρ)).take off++vc.map (BC.den ρ)++(cs.map (BC.den ρ)).drop (off+P.cellsOf T)):=by
       simp only [SV.den,List.map_append,List.map_take,List.map_drop]
      simp only [List.map_cons,List.map_nil,he]
      exact this
    ·exact h.elim
   ·split at h
    ·rename_i vc hvc
     split at h
     ·rename_i hh
      refine Wg h trivial (fun u hu=>?_) ?_
      ·rw [List.mem_singleton] at hu;subst hu;intro c hc
       rcases List.mem_append.1 hc with hc | hc
       ·rcases List.mem_append.1 hc with hc | hc
        ·exact hb c (List.mem_of_mem_take hc)
        ·exact ZiB _ _ (ZmZ P T (Wj hvc bx)) c hc
       ·exact hb c (List.mem_of_mem_drop hc)
      ·have:=Zhf (vc:=(Yt (cs.drop off) (nrm P T vc)).map (BC.den ρ)) ho (Za ρ ha) hd (J2 P g ρ x).symm (KX ρ hvc) (by simpa using hh.1) (by omega) (by simpa using hh.2.2.1) (Zgc ρ htop hh.2.2.2) (ZlN ρ (cs.drop off) (ZmH ρ P T vc))
       have he:(SV.box (cs.take off++Yt (cs.drop off) (nrm P T vc)++cs.drop (off+P.cellsOf T))).den ρ = .box ((cs.map (BC.den ρ)).take off++(Yt (cs.drop off) (nrm P T vc)).map (BC.den ρ)++(cs.map (BC.den ρ)).drop (off+P.cellsOf T)):=by
        simp only [SV.den,List.map_append,List.map_take,List.map_drop]
       simp only [List.map_cons,List.map_nil,he]
       exact this
     ·exact h.elim
    ·exact h.elim
  ·exact h.elim
 ·rename_i d q i s off ha
  split at h
  ·rename_i e l vc hp hvc
   have hpt:=ZA (P:=P) hg a
   rw [ha] at hpt
   have hat:=ZL ρ hp
   split at h
   ·rename_i sh hsh
    split at h
    ·rename_i vc' hvc'
     split at h
     ·rename_i hh
      obtain ⟨r1,r2,h⟩:=h
      have r1':0≤i.den ρ:=r1
      have r2':i.den ρ < ((l.den ρ).length:Int):=r2
      have hbv:=Kh _ _ _ hvc' (Wj hvc bx)
      refine VO h trivial (us1 (JD (hg d) ⟨Ju hp (hg d),hpt,WC _ hbv⟩)) ?_
      obtain ⟨h1,h2,h3,h4,h5,hnm⟩:=hh
      subst h1
      have:=ZaG (vc:=vc.map (SC.den ρ)) (vc':=vc'.map (SC.den ρ)) ho (Za ρ ha) (show Zj ((fun d=>(g d).den ρ) d) q=_ from hat) (Kx ρ h5) (J2 P g ρ x).symm (KX ρ hvc) (by simpa using h2) (by omega) (by omega) h4 (KO ρ _ _ _ hvc') hnm
      rw [← Vd] at this
      simp only [List.map_cons,List.map_nil,Jo]
      exact this
     ·exact h.elim
    ·exact h.elim
   ·exact h.elim
  ·exact h.elim
 ·exact h.elim
theorem Ze2 {x:Operand} (hg:∀ d,(g d).bd n) (ho:o.op = .nilCheck x) (h:(JM P E tx tk g o n k).wp P R A ρ):Yy tx P R A ρ g o n k:=by
 have bx:=ZA (P:=P) hg x
 simp only [JM,ho] at h
 split at h
 ·rename_i d off hx
  exact ZT h trivial (Kp ho (Za ρ hx) (.inl ⟨_,_,rfl⟩))
 ·rename_i cs hx
  rw [hx] at bx
  exact ZT h bx (Kp ho (Za ρ hx) (.inr (.inl ⟨_,rfl⟩)))
 ·rename_i d q i s off hx
  rw [hx] at bx
  split at h
  ·rename_i e l hpl
   split at h
   ·rename_i hm
    exact ZT h bx (Kp ho (Za ρ hx) (.inr (.inr ⟨_,_,_,_,_,rfl,ZL ρ hpl,hm,by simp⟩)))
   ·exact h.elim
  ·exact h.elim
 ·exact h.elim
theorem Zml {op:UnOp} {T:TypeId} {x:Operand} (hg:∀ d,(g d).bd n) (ho:o.op = .unOp op T x) (h:(JM P E tx tk g o n k).wp P R A ρ):Yy tx P R A ρ g o n k:=by
 have bx:=ZA (P:=P) hg x
 simp only [JM,ho] at h
 split at h
 ·rename_i b hx
  rw [hx] at bx
  refine ZT h (Zko bx) ?_
  have:=ZkI ho (Za ρ hx)
  rw [← ZhN] at this
  exact this
 ·rename_i kd e hx
  rw [hx] at bx
  exact ZT h ⟨trivial,bx⟩ (Zkq ho (Za ρ hx))
 ·rename_i kd e hx
  rw [hx] at bx
  exact ZT h ⟨trivial,bx⟩ (ZgR ho (Za ρ hx))
 ·exact h.elim
theorem Zg4 {S T:TypeId} {x:Operand} (hg:∀ d,(g d).bd n) (ho:o.op = .convert S T x) (h:(JM P E tx tk g o n k).wp P R A ρ):Yy tx P R A ρ g o n k:=by
 have bx:=ZA (P:=P) hg x
 simp only [JM,ho] at h
 split at h
 ·rename_i hS hT hx
  rw [hx] at bx
  exact ZT h bx (Zip ho hS hT (Za ρ hx))
 ·rename_i hS hT hx
  rw [hx] at bx
  split at h
  ·rename_i he
   split at h
   ·rename_i hs
    subst hs
    exact ZT h.2 bx (Zha ho hS he hT (Za ρ hx) h.1)
   ·exact h.elim
  ·exact h.elim
 ·exact h.elim
theorem Zd6 {T:TypeId} {x:Operand} {f:Nat} (hg:∀ d,(g d).bd n) (ho:o.op = .fieldAddr T x f) (h:(JM P E tx tk g o n k).wp P R A ρ):Yy tx P R A ρ g o n k:=by
 have bx:=ZA (P:=P) hg x
 simp only [JM,ho] at h
 split at h
 ·rename_i hf hx
  exact ZT h trivial (ZbX ho hf (Za ρ hx))
 ·rename_i off cs hf hx
  rw [hx] at bx
  refine ZT h (fun c hc=>bx c (List.mem_of_mem_drop hc)) ?_
  have:=Zbb (cs:=cs.map (SC.den ρ)) ho hf (Za ρ hx)
  rw [← List.map_drop] at this
  exact this
 ·rename_i off d q i s off' hf hx
  rw [hx] at bx
  split at h
  ·rename_i e l hpl
   split at h
   ·rename_i hm
    refine ZT h bx ?_
    have:=ZaB ho hf (Za ρ hx) (ZL ρ hpl) hm
    rw [Nat.add_assoc] at this
    exact this
   ·exact h.elim
  ·exact h.elim
 ·exact h.elim
theorem Zkd {T:TypeId} {x:Operand} {f:Nat} (hg:∀ d,(g d).bd n) (ho:o.op = .field T x f) (h:(JM P E tx tk g o n k).wp P R A ρ):Yy tx P R A ρ g o n k:=by
 have bx:=ZA (P:=P) hg x
 simp only [JM,ho] at h
 split at h
 ·rename_i off agg sz cs hf hs hx
  rw [hx] at bx
  split at h
  ·rename_i hh
   have hx':Zn P (fun d=>(g d).den ρ) x = .agg (cs.map (SC.den ρ)):=Za ρ hx
   cases agg with
   | true =>
    simp only at h
    refine ZT h (fun c hc=>bx c (List.mem_of_mem_drop (List.mem_of_mem_take hc))) ?_
    have:=ZaS (y:=.agg (((cs.map (SC.den ρ)).drop off).take sz)) ho hf hs hx' (by simpa using hh.1) hh.2 (.inl ⟨rfl,rfl⟩)
    rw [← List.map_drop,← List.map_take] at this
    exact this
   | false =>
    simp only at h
    split at h
    ·rename_i c hc
     refine ZT h (bx c (List.mem_of_getElem? hc)) ?_
     exact ZaS (y:=c.den ρ) ho hf hs hx' (by simpa using hh.1) hh.2 (.inr ⟨rfl,by simp [hc],by cases c<;>rfl⟩)
    ·exact h.elim
  ·exact h.elim
 ·exact h.elim
theorem ZgD {ix:IE} {d off s m:Nat} {kk:SV→STree} : ∀ (j:Nat),j≤m→(Zmf ix d off s m kk j).wp P R A ρ→∃ i:Nat,i < m∧ix.den ρ=(i:Int)∧(kk (.ptr d (off+i*s))).wp P R A ρ
 | 0, _, h => h.elim
 | 1, hj, h => by
  obtain ⟨h1,h2,h3⟩:=h
  have h1':((m-1:Nat):Int)≤ix.den ρ:=h1
  have h2':ix.den ρ≤((m-1:Nat):Int):=h2
  exact ⟨m-1,by omega,by omega,h3⟩
 | j + 2, hj, h => by
  obtain ⟨h1,h2⟩:=h
  by_cases he:ix.den ρ=((m-(j+2):Nat):Int)
  ·exact ⟨m-(j+2),by omega,he,h1 (by simp [BE.den,IE.den,cop,he])⟩
  ·exact ZgD (j+1) (by omega) (h2 (by simp [BE.den,IE.den,cop,he]))
theorem ZdU {T:TypeId} {x i:Operand} (hg:∀ d,(g d).bd n) (ho:o.op = .indexAddr T x i) (h:(JM P E tx tk g o n k).wp P R A ρ):Yy tx P R A ρ g o n k:=by
 simp only [JM,ho] at h
 split at h
 ·rename_i hT hx hi
  split at h
  ·rename_i sh hsh
   split at h
   ·rename_i hh
    obtain ⟨vs,h1,h2,h3⟩:=h
    exact ⟨bind ρ n vs,n+sh.length,.eptr (ZC sh n),[],[],Nat.le_add_right _ _,Kt ρ n vs,Jt sh n,by simp,h3,
     (ZgL ho hT hh.1 (by omega) (Za ρ hx) (Za ρ hi) h1 h2).t⟩
   ·exact h.elim
  ·exact h.elim
 ·rename_i m e d off kd ix hT hx hi
  split at h
  ·rename_i hh
   split at h
   ·rename_i z
    split at h
    ·rename_i hz
     exact ZT h trivial (Vu (kd:=kd) (z:=z) ho hT (by omega) (Za ρ hx) (Za ρ hi) hz.1 hz.2)
    ·exact h.elim
   ·obtain ⟨i',h1,h2,h3⟩:=ZgD m (Nat.le_refl _) h
    have:=Vu (kd:=kd) (z:=(i':Int)) ho hT (by omega) (Za ρ hx) (by rw [← h2];exact Za ρ hi) (by omega) (by omega)
    rw [Int.toNat_natCast] at this
    exact ZT h3 trivial this
  ·exact h.elim
 ·rename_i e d q kd ix hT hx hi
  split at h
  ·rename_i e' l hp
   split at h
   ·rename_i hh
    obtain ⟨rfl,h0,hnm⟩:=hh
    obtain ⟨r1,r2,h⟩:=h
    have r1':0≤ix.den ρ:=r1
    have r2':ix.den ρ < ((l.den ρ).length:Int):=r2
    have bi:=ZA (P:=P) hg i
    rw [hi] at bi
    exact ZT h bi (ZbG ho hT (by omega) (Za ρ hx) (show Zj ((fun d=>(g d).den ρ) d) q=_ from ZL ρ hp) rfl (Za ρ hi) r1' (by omega) hnm)
   ·exact h.elim
  ·exact h.elim
 ·exact h.elim
theorem Zlf {T:TypeId} {a b:Operand} (hg:∀ d,(g d).bd n) (ho:o.op = .makeSlice T a b) (h:(JM P E tx tk g o n k).wp P R A ρ):Yy tx P R A ρ g o n k:=by
 simp only [JM,ho] at h
 split at h
 ·rename_i m m' ha hb
  split at h
  ·rename_i e hT
   have bm:=ZA (P:=P) hg a
   rw [ha] at bm
   split at h
   ·rename_i i hi
    split at h
    ·rename_i z hz
     split at h
     ·rename_i zc sh hzc hsh
      split at h
      ·rename_i zc' hzc'
       split at h
       ·rename_i hzs
        have h1:=Y6 ρ z.cells.toList
        rw [hzc] at h1
        obtain ⟨r1,r2,r3,h⟩:=h
        have r2':m.den ρ≤m'.den ρ:=r2
        have r3':m'.den ρ≤m.den ρ:=r3
        have hmm:m'.den ρ=m.den ρ:=by omega
        refine ZT h (x:=.own (!(E.exO o)) e _) ⟨bm,WC _ (Kh _ _ _ hzc' (KT hzc))⟩ ?_
        have hb':Zn P (fun d=>(g d).den ρ) b = .val (.int .i64 (m.den ρ)):=by rw [← hmm];exact Za ρ hb
        have:=ZhF (!(E.exO o)) (zc:=zc.map (SC.den ρ)) (zc':=zc'.map (SC.den ρ)) ho hT hi hz hzs.1 h1.symm (Za ρ ha) hb' r1.1 r1.2 hzs.2 (KO ρ _ _ _ hzc')
        rw [← Vd] at this
        exact this
       ·exact h.elim
      ·exact h.elim
     ·exact h.elim
    ·exact h.elim
   ·exact h.elim
  ·exact h.elim
 ·exact h.elim
theorem Zkc {T:TypeId} {x:Operand} {lo hi mx:Option Operand} (hg:∀ d,(g d).bd n) (htop:∀ i,E.top≤i→g i = .dead) (ho:o.op = .slice T x lo hi mx) (h:(JM P E tx tk g o n k).wp P R A ρ):Yy tx P R A ρ g o n k:=by
 have bx:=ZA (P:=P) hg x
 simp only [JM,ho] at h
 split at h
 ·rename_i e full s xs hT hx
  rw [hx] at bx
  have sx:=Za ρ hx
  split at h
  ·rename_i hh
   have hs0:P.cellsOf e≠0:=by omega
   unfold Zi4 at h
   split at h
   ·rename_i k1 k2 h1 h2 h3
    cases lo with
    | some y => simp at h1
    | none =>
     cases hi with
     | none => simp at h2
     | some y =>
      cases mx with
      | none => simp at h3
      | some z =>
       simp only [Option.map_some,Option.some.injEq] at h2 h3
       exact ZT h trivial (Zhv ho hT hs0 sx (Za ρ h2) (Za ρ h3))
   ·rename_i h1 h2 h3
    cases lo with
    | some y => simp at h1
    | none =>
     cases hi with
     | some y => simp at h2
     | none =>
      cases mx with
      | some z => simp at h3
      | none =>
       have:=Zak (l:=0) (h:=(xs.den ρ).length) (f':=full) ho hT hh.1 hs0 sx (Nat.zero_le _) (Nat.le_refl _) (.inl ⟨rfl,rfl⟩) (.inl ⟨rfl,rfl⟩) (fun h=>⟨h,rfl⟩)
       rw [List.take_length,List.drop_zero] at this
       exact ZT h bx this
   ·rename_i kl l h1 h2 h3
    cases lo with
    | none => simp at h1
    | some y =>
     cases hi with
     | some y => simp at h2
     | none =>
      cases mx with
      | some z => simp at h3
      | none =>
       simp only [Option.map_some,Option.some.injEq] at h1
       have by1:=ZA (P:=P) hg y
       rw [h1] at by1
       obtain ⟨r1,r2,h⟩:=h
       have r1':0≤l.den ρ:=r1
       have r2':l.den ρ≤((xs.den ρ).length:Int):=r2
       have sy:=Za ρ h1
       have e1:((l.den ρ).toNat:Int)=l.den ρ:=Int.toNat_of_nonneg r1'
       have:=Zak (l:=(l.den ρ).toNat) (h:=(xs.den ρ).length) (f':=full) ho hT hh.1 hs0 sx (by omega) (Nat.le_refl _) (.inr ⟨y,kl,rfl,by rw [e1];exact sy⟩) (.inl ⟨rfl,rfl⟩) (fun h=>⟨h,rfl⟩)
       rw [List.take_length] at this
       exact ZT h ⟨bx,by1⟩ this
   ·rename_i kl l h1 h2 h3
    cases lo with
    | some y => simp at h1
    | none =>
     cases hi with
     | none => simp at h2
     | some y =>
      cases mx with
      | some z => simp at h3
      | none =>
       simp only [Option.map_some,Option.some.injEq] at h2
       have by1:=ZA (P:=P) hg y
       rw [h2] at by1
       obtain ⟨r1,r2,h⟩:=h
       have r1':0≤l.den ρ:=r1
       have r2':l.den ρ≤((xs.den ρ).length:Int):=r2
       have sy:=Za ρ h2
       have e1:((l.den ρ).toNat:Int)=l.den ρ:=Int.toNat_of_nonneg r1'
       have:=Zak (l:=0) (h:=(l.den ρ).toNat) (f':=false) ho hT hh.1 hs0 sx (Nat.zero_le _) (by omega) (.inl ⟨rfl,rfl⟩) (.inr ⟨y,kl,rfl,by rw [e1];exact sy⟩) (fun h=>by simp at h)
       rw [List.drop_zero] at this
       exact ZT h ⟨bx,by1⟩ this
   ·rename_i kl l kh hb h1 h2 h3
    cases lo with
    | none => simp at h1
    | some y =>
     cases hi with
     | none => simp at h2
     | some z =>
      cases mx with
      | some z => simp at h3
      | none =>
       simp only [Option.map_some,Option.some.injEq] at h1 h2
       have by1:=ZA (P:=P) hg y
       rw [h1] at by1
       have by2:=ZA (P:=P) hg z
       rw [h2] at by2
       obtain ⟨r1,r2,r3,h⟩:=h
       have r1':0≤l.den ρ:=r1
       have r2':l.den ρ≤hb.den ρ:=r2
       have r3':hb.den ρ≤((xs.den ρ).length:Int):=r3
       have sy:=Za ρ h1
       have sz:=Za ρ h2
       have e1:((l.den ρ).toNat:Int)=l.den ρ:=Int.toNat_of_nonneg r1'
       have e2:((hb.den ρ).toNat:Int)=hb.den ρ:=Int.toNat_of_nonneg (by omega)
       have:=Zak (l:=(l.den ρ).toNat) (h:=(hb.den ρ).toNat) (f':=false) ho hT hh.1 hs0 sx (by omega) (by omega) (.inr ⟨y,kl,rfl,by rw [e1];exact sy⟩) (.inr ⟨z,kh,rfl,by rw [e2];exact sz⟩) (fun h=>by simp at h)
       exact ZT h ⟨⟨bx,by2⟩,by1⟩ this
   ·exact h.elim
  ·exact h.elim
 ·rename_i e d q hT hx
  split at h
  ·rename_i k1 k2 h2 h3
   split at h
   ·rename_i e' l' hp
    split at h
    ·rename_i h0
     cases hi with
     | none => simp at h2
     | some y =>
      cases mx with
      | none => simp at h3
      | some z =>
       simp only [Option.map_some,Option.some.injEq] at h2 h3
       exact ZT h trivial (Za9 ho hT (by omega) (Za ρ hx) (Za ρ h2) (Za ρ h3) (show Zj ((fun d=>(g d).den ρ) d) q=_ from ZL ρ hp) h0.2)
    ·exact h.elim
   ·exact h.elim
  split at h
  case isFalse=>exact h.elim
  rename_i hq0
  subst hq0
  split at h
  ·rename_i kh hv e' l hhi hd _
   have hb:=hg d
   rw [hd] at hb
   split at h
   ·rename_i us hus
    split at h
    ·rename_i hh
     obtain ⟨rfl,h0,hnm⟩:=hh
     cases hi with
     | none => simp at hhi
     | some z =>
      simp only [Option.map_some,Option.some.injEq] at hhi
      have bz:=ZA (P:=P) hg z
      rw [hhi] at bz
      obtain ⟨r1,r2,h⟩:=h
      have r1':0≤hv.den ρ:=r1
      have r2':hv.den ρ≤((l.den ρ).length:Int):=r2
      have e1:((hv.den ρ).toNat:Int)=hv.den ρ:=Int.toNat_of_nonneg r1'
      obtain ⟨us',rfl,q1,q2,q3⟩:=JW ρ htop (t:=d) hd hus
      have hod:JV tx (fun d=>(g d).den ρ) d (us.tail.map fun u=>(u.1,u.2.den ρ)):=by
       rcases q2 with ⟨h0,_⟩ | q2
       ·cases h0
       ·exact q2
      refine Wg h ⟨hb,bz⟩ (JX hus hb) ?_
      rw [q1]
      exact Zfp (h:=(hv.den ρ).toNat) ho hT (by omega) (Za ρ hx) (show (fun d=>(g d).den ρ) d = .own true e' (l.den ρ) by show (g d).den ρ=_;rw [hd];rfl) (by rw [e1];exact Za ρ hhi) (by omega) hod hnm
    ·exact h.elim
   ·exact h.elim
  ·exact h.elim
 ·exact h.elim
theorem Zhm {x:Operand} {i:Nat} (hg:∀ d,(g d).bd n) (ho:o.op = .extract x i) (h:(JM P E tx tk g o n k).wp P R A ρ):Yy tx P R A ρ g o n k:=by
 simp only [JM,ho] at h
 split at h
 ·rename_i t vs h1 h2
  have hx:x = .tmp t:=by cases x<;>simp [ZM] at h1;rw [h1]
  subst hx
  simp only [ZM,Option.map_some,Option.some.injEq] at h2
  have hb:=hg t
  rw [h2] at hb
  have ht:(fun d=>(g d).den ρ) t = .tuple (vs.map (TC.den ρ)):=by show (g t).den ρ=_;rw [h2];rfl
  split at h
  ·rename_i b e xs hv
   have hv':(vs.map (TC.den ρ))[i]? = some (.own b e (xs.den ρ)):=by rw [List.getElem?_map,hv];rfl
   have hbx:=hb _ (List.mem_of_getElem? hv)
   split at h
   case isFalse=>exact h.elim
   rename_i hmv
   have hmv':b=true→Mv P e (xs.den ρ):=fun hb=>Zgf ρ (by rw [hb] at hmv;simpa using hmv)
   refine VO h hbx (us1 (fun c hc=>?_)) ?_
   ·rcases List.mem_or_eq_of_mem_set hc with hc | rfl
    ·exact hb c hc
    ·cases b<;>first | exact hbx | trivial
   ·have:=Zaa (P:=P) (σ:=fun d=>(g d).den ρ) ho ht hv' hmv'
    simp only [List.map_cons,List.map_nil,SV.den,List.map_set]
    cases b<;>exact this
  ·rename_i y hv
   have hv':(vs.map (TC.den ρ))[i]? = some (y.den ρ):=by rw [List.getElem?_map,hv];rfl
   refine ZT h (hb _ (List.mem_of_getElem? hv)) (WS (σ:=fun d=>(g d).den ρ) ho ht hv' ?_ ?_ ?_ ?_ ?_)
   ·cases y<;>rfl
   all_goals first
    | (intro d p; cases y <;> simp [SV.den, SC.den])
    | (intro d; cases y <;> simp [SV.den, SC.den])
    | (cases y <;> simp [SV.den, SC.den])
  ·rename_i cs hv
   have hv':(vs.map (TC.den ρ))[i]? = some (.agg (cs.map (SC.den ρ))):=by rw [List.getElem?_map,hv];rfl
   exact ZT h (hb _ (List.mem_of_getElem? hv)) (WS (σ:=fun d=>(g d).den ρ) ho ht hv' rfl (fun _ _ h=>by cases h) (fun _ h=>by cases h) (fun h=>by cases h) (fun h=>by cases h))
  ·exact h.elim
  ·exact h.elim
 ·exact h.elim
theorem Znm {c:Call} (hg:∀ d,(g d).bd n) (ho:o.op = .call c) (hc:c.callee = .builtin .len) (h:(JM P E tx tk g o n k).wp P R A ρ):Yy tx P R A ρ g o n k:=by
 simp only [JM,ho,hc] at h
 split at h
 ·rename_i x T hargs hts
  have bx:=ZA (P:=P) hg x
  split at h
  ·rename_i d q hx
   split at h
   ·rename_i e e' l hT hp
    split at h
    ·rename_i hnm
     exact ZT h (Ju hp (hg d)) (Zdd ho hc hargs hts hT (Za ρ hx) (show Zj ((fun d=>(g d).den ρ) d) q=_ from ZL ρ hp) hnm)
    ·exact h.elim
   ·exact h.elim
  ·unfold Znj at h
   split at h
   ·rename_i hT hx
    rw [hx] at bx
    exact ZT h bx (ZbZ ho hc hargs hts hT (Za ρ hx))
   ·rename_i hT hx
    rw [hx] at bx
    exact ZT h bx (ZeS ho hc hargs hts hT (Za ρ hx))
   ·exact h.elim
 ·exact h.elim
theorem Zlm {c:Call} (hg:∀ d,(g d).bd n) (ho:o.op = .call c) (hc:c.callee = .builtin .copy) (h:(JM P E tx tk g o n k).wp P R A ρ):Yy tx P R A ρ g o n k:=by
 simp only [JM,ho,hc] at h
 split at h
 ·rename_i x y T T' hargs hts
  split at h
  ·rename_i e d q f s ys hT hx hy
   split at h
   ·rename_i e' l hp
    split at h
    ·rename_i hh
     obtain ⟨rfl,h1,rfl,h5,hnm⟩:=hh
     have by1:=ZA (P:=P) hg y
     rw [hy] at by1
     refine VO h trivial (us1 (JD (hg d) ⟨Ju hp (hg d),by1⟩)) ?_
     simp only [List.map_cons,List.map_nil,Jo]
     exact ZbP (f:=f) ho hc hargs hts hT h1 (Za ρ hx) (show Zj ((fun d=>(g d).den ρ) d) q=_ from ZL ρ hp) (Kx ρ h5) (Za ρ hy) hnm
    ·exact h.elim
   ·exact h.elim
  ·exact h.elim
 ·exact h.elim
theorem ZbE {c:Call} {T:TypeId} {x y:Operand} (src:Option Nat) {xv:SV} {ex:Bool} (hg:∀ d,(g d).bd n) (htop:∀ i,E.top≤i→g i = .dead) (ho:o.op = .call c) (hc:c.callee = .builtin .append) (hargs:c.args.toList = [x,y])
  (hts:c.argTypes.toList = [T,T]) (hsrc:∀ t,src=some t→x = .tmp t∧xv=g t) (hnone:src=none→xv=Jc P g x)
  (h:(Zat P T tx g E.top ex src xv (Jc P g y) fun v us=>k v us [] n).wp P R A ρ):Yy tx P R A ρ g o n k:=by
 have bY:=ZA (P:=P) hg y
 have hxv:xv.bd n:=by
  cases src with
  | none => rw [hnone rfl]; exact ZA hg x
  | some t => rw [(hsrc t rfl).2]; exact hg t
 unfold Zat at h
 split at h
 ·rename_i e hT
  split at h
  ·rename_i i hi
   split at h
   ·rename_i z hz
    split at h
    ·rename_i hh
     split at h
     ·rename_i b e' xs f s ys hy
      rw [hy] at bY
      split at h
      ·rename_i t
       obtain ⟨rfl,hx⟩:=hsrc t rfl
       split at h
       ·rename_i us hus
        split at h
        ·rename_i he
         obtain ⟨rfl,rfl⟩:=he
         obtain ⟨us',rfl,q1,q2,q3⟩:=JW ρ htop (t:=t) hx.symm hus
         refine Wg h.2 ⟨hxv,bY⟩ (JX hus hxv) ?_
         rw [q1]
         exact Za7 (σ:=fun d=>(g d).den ρ) ho hc hargs hts hT hi hz hh.1 (by show (g t).den ρ=_;rw [← hx];rfl) (Za ρ hy) h.1 q2 hh.2.2
        ·exact h.elim
       ·exact h.elim
      ·exact h.elim
     ·rename_i s0 f s ys hy
      rw [hy] at bY
      split at h
      ·rename_i he
       subst he
       refine VO h.2 bY (by simp) ?_
       have hx:Zn P (fun d=>(g d).den ρ) x = .slice true s0 []:=by
        cases src with
        | none => exact Za ρ (hnone rfl).symm
        | some t =>
         obtain ⟨rfl,hx⟩:=hsrc t rfl
         simp only [Zn,← hx]
         rfl
       exact Zac (σ:=fun d=>(g d).den ρ) ex ho hc hargs hts hT hi hz hh.1 hx (Za ρ hy) h.1 hh.2.2
      ·exact h.elim
     ·exact h.elim
    ·exact h.elim
   ·exact h.elim
  ·exact h.elim
 ·exact h.elim
theorem W2 {c:Call} {T:TypeId} {x y:Operand} (src:Option Nat) {xv:SV} {ex:Bool} {d q:Nat} (hg:∀ d,(g d).bd n) (htop:∀ i,E.top≤i→g i = .dead) (ho:o.op = .call c) (hc:c.callee = .builtin .append) (hargs:c.args.toList = [x,y])
  (hts:c.argTypes.toList = [T,T]) (hy:Jc P g y = .mref d q) (hsrc:∀ t,src=some t→x = .tmp t∧xv=g t) (hnone:src=none→xv=Jc P g x)
  (h:(VS P T tx g E.top ex src xv (Ja (g d) q) fun v us=>k v us [d] n).wp P R A ρ):Yy tx P R A ρ g o n k:=by
 have hxv:xv.bd n:=by
  cases src with
  | none => rw [hnone rfl]; exact ZA hg x
  | some t => rw [(hsrc t rfl).2]; exact hg t
 unfold VS at h
 split at h
 ·rename_i e hT
  split at h
  ·rename_i i hi
   split at h
   ·rename_i z hz
    split at h
    ·rename_i hh
     split at h
     ·rename_i b e' xs e2 ys hp
      split at h
      ·rename_i t
       obtain ⟨rfl,hx⟩:=hsrc t rfl
       split at h
       ·rename_i us hus
        split at h
        ·rename_i he
         obtain ⟨rfl,rfl⟩:=he
         obtain ⟨us',rfl,q1,q2,q3⟩:=JW ρ htop (t:=t) hx.symm hus
         refine Wg h.2 ⟨hxv,Ju hp (hg d)⟩ (JX hus hxv) ?_
         rw [q1]
         exact Vm (σ:=fun d=>(g d).den ρ) ho hc hargs hts hT hi hz hh.1 (by show (g t).den ρ=_;rw [← hx];rfl) (Za ρ hy) (show Zj ((fun d=>(g d).den ρ) d) q=_ from ZL ρ hp) h.1 q2 hh.2.2
        ·exact h.elim
       ·exact h.elim
      ·exact h.elim
     ·rename_i s0 e' ys hp
      split at h
      ·rename_i he
       subst he
       have hx':Zn P (fun d=>(g d).den ρ) x = .slice true s0 []:=by
        cases src with
        | none => exact Za ρ (hnone rfl).symm
        | some t =>
         obtain ⟨rfl,hx⟩:=hsrc t rfl
         simp only [Zn,← hx]
         rfl
       refine ZT h.2 (Ju hp (hg d)) ?_
       exact K1 (σ:=fun d=>(g d).den ρ) ex ho hc hargs hts hT hi hz hh.1 hx' (Za ρ hy) (show Zj ((fun d=>(g d).den ρ) d) q=_ from ZL ρ hp) h.1 hh.2.2
      ·exact h.elim
     ·exact h.elim
    ·exact h.elim
   ·exact h.elim
  ·exact h.elim
 ·exact h.elim
theorem Zjg {c:Call} (hg:∀ d,(g d).bd n) (htop:∀ i,E.top≤i→g i = .dead) (ho:o.op = .call c) (hc:c.callee = .builtin .append) (h:(JM P E tx tk g o n k).wp P R A ρ):Yy tx P R A ρ g o n k:=by
 simp only [JM,ho,hc] at h
 split at h
 ·rename_i x y T T' hargs hts
  split at h
  ·rename_i hTT
   subst hTT
   split at h
   ·rename_i d q hy
    split at h
    ·rename_i t ht
     have hx:x = .tmp t:=by cases x<;>simp [ZM] at ht;rw [ht]
     exact W2 (some t) hg htop ho hc hargs hts hy (fun t' ht'=>by simp only [Option.some.injEq] at ht';subst ht';exact ⟨hx,rfl⟩) (fun h=>by cases h) h
    ·exact W2 none hg htop ho hc hargs hts hy (fun t' ht'=>by cases ht') (fun _=>rfl) h
   split at h
   ·rename_i t ht
    have hx:x = .tmp t:=by cases x<;>simp [ZM] at ht;rw [ht]
    exact ZbE (some t) hg htop ho hc hargs hts (fun t' ht'=>by simp only [Option.some.injEq] at ht';subst ht';exact ⟨hx,rfl⟩) (fun h=>by cases h) h
   ·exact ZbE none hg htop ho hc hargs hts (fun t' ht'=>by cases ht') (fun _=>rfl) h
  ·exact h.elim
 ·exact h.elim
theorem Zk4 {c:Call} {ka kb:IntKind} {a b:IE} (h:c.args.toList.map (Jc P g) = [.c (.int ka a),.c (.int kb b)]) :
  ∃ x y,c.args.toList = [x,y]∧Jc P g x = .c (.int ka a)∧Jc P g y = .c (.int kb b):=by
 cases hl:c.args.toList with
 | nil => simp [hl] at h
 | cons x l =>
  cases l with
  | nil => simp [hl] at h
  | cons y l =>
   cases l with
   | nil => simp only [hl, List.map_cons, List.map_nil, List.cons.injEq, and_true] at h; exact ⟨x, y, rfl, h.1, h.2⟩
   | cons z l => simp [hl] at h
theorem ZmC {c:Call} (hg:∀ d,(g d).bd n) (ho:o.op = .call c) (hc:c.callee = .builtin .min) (h:(JM P E tx tk g o n k).wp P R A ρ):Yy tx P R A ρ g o n k:=by
 simp only [JM,ho,hc] at h
 split at h
 ·rename_i ka a kb b hl
  obtain ⟨x,y,h1,h2,h3⟩:=Zk4 hl
  split at h
  ·rename_i he
   subst he
   have b1:=ZA (P:=P) hg x
   have b2:=ZA (P:=P) hg y
   rw [h2] at b1
   rw [h3] at b2
   exact ZT h ⟨b1,b2⟩ (Zbk (mn:=true) ho hc h1 (Za ρ h2) (Za ρ h3))
  ·exact h.elim
 ·exact h.elim
theorem Zm9 {c:Call} (hg:∀ d,(g d).bd n) (ho:o.op = .call c) (hc:c.callee = .builtin .max) (h:(JM P E tx tk g o n k).wp P R A ρ):Yy tx P R A ρ g o n k:=by
 simp only [JM,ho,hc] at h
 split at h
 ·rename_i ka a kb b hl
  obtain ⟨x,y,h1,h2,h3⟩:=Zk4 hl
  split at h
  ·rename_i he
   subst he
   have b1:=ZA (P:=P) hg x
   have b2:=ZA (P:=P) hg y
   rw [h2] at b1
   rw [h3] at b2
   exact ZT h ⟨b1,b2⟩ (Zbk (mn:=false) ho hc h1 (Za ρ h2) (Za ρ h3))
  ·exact h.elim
 ·exact h.elim
theorem ZeC (ρ:Nat→V) (l:List SAK):(l.map (SAK.den ρ)).filterMap AK.slot=l.filterMap SAK.slot:=by
 rw [List.filterMap_map]
 congr 1
 funext a
 exact Zap ρ a
theorem ZfF {c:Call} {f:FuncId} {ds rf:List Nat} {aZ:List SAK} (htop:∀ i,E.top≤i→g i = .dead) (ho:o.op = .call c) (hc:(c.callee = .value (.func f)∧ds = [])∨∃ t,c.callee = .value (.tmp t)∧(g t).den ρ = .clo f ds)
  (ha:KG P g ρ (c.args.toList.map Zaf.op++ds.map Zaf.cap) aZ) (hraw:Raw aZ) (hrf:∀ (i:Nat) (x:Operand),c.args.toList[i]? = some x→(rf.contains i&&(Zbv g x).isSome)=true→∃ t d q j,aZ[i]? = some (SAK.ref t d q j)) (h:(Zed P E tx g f (VA P g rf c.args.toList 0) (Wu g (ZnG P f) aZ) n k).wp P R A ρ):Yy tx P R A ρ g o n k:=by
 unfold Zed at h
 split at h
 ·rename_i saks Ts hs _
  split at h
  ·rename_i hnd0
   obtain ⟨hnd,hfree⟩:=hnd0
   split at h
   ·rename_i res sh n' hr
    obtain ⟨q1,q2,q3⟩:=ZgW hr
    dsimp only at h
    split at h
    case isFalse=>exact h.elim
    rename_i hbo0
    obtain ⟨hbo,hrnm⟩:=hbo0
    obtain ⟨vs,h1,h2⟩:=h
    obtain ⟨tail,a1,a2,a3,a4,a5,a6⟩:=Zhn ρ ha hraw hs
    have hlen:((Jh (saks.map SAK.sv) n').1).length=saks.length:=by rw [Zcw,List.length_map]
    refine ⟨bind ρ n vs,(Jh (saks.map SAK.sv) n').2.2,res,Wv saks (Jh (saks.map SAK.sv) n').1,saks.filterMap SAK.slot++(VA P g rf c.args.toList 0).map (·.1),Nat.le_trans q1 (YK _ _),Kt ρ n vs,SV.bd_mono (YK _ _) _ q2,
     Ku _ _ (V3 _ _),h2,?_⟩
    have:=Ziv (T:=tx) (((VA P g rf c.args.toList 0).head?.getD (0,0)).1) (((VA P g rf c.args.toList 0).head?.getD (0,0)).2) ((VA P g rf c.args.toList 0).map (·.1)) (P:=P) (σ:=fun d=>(g d).den ρ) (aks:=saks.map (SAK.den ρ)) (res:=res.den (bind ρ n vs)) (outs:=(Jh (saks.map SAK.sv) n').1.map (SV.den (bind ρ n vs))) (tail:=tail) ho hc (by simpa using a1.1)
     (fun i x a hx hi=>?_) a2 (by simpa using a3) a4 a5
     (by rw [ZeC];exact V7 _ hnd) (by simp [hlen]) (fun i d fr to cs y hi hy=>?_) (q3 _) (Zkn _ hrnm) (fun i t e xs hi=>?_) (fun i d fr to cs hi=>?_) (fun i x hx hz d q hxm hno=>?_) ?_
    ·rw [ZeK,ZeC] at this
     exact this
    ·rw [List.getElem?_map] at hi
     cases hsi:saks[i]? with
     | none => simp [hsi] at hi
     | some a0 =>
      simp only [hsi,Option.map_some,Option.some.injEq] at hi
      subst hi
      exact a1.2 i x a0 hx hsi
    ·rw [List.getElem?_map] at hi hy
     cases hsi:saks[i]? with
     | none => simp [hsi] at hi
     | some a =>
      cases hyi:(Jh (saks.map SAK.sv) n').1[i]? with
      | none => simp [hyi] at hy
      | some y0 =>
       simp only [hsi,hyi,Option.map_some,Option.some.injEq] at hi hy
       subst hy
       cases a with
       | box d0 fr0 to0 cs0 =>
        simp only [SAK.den,AK.box.injEq] at hi
        obtain ⟨rfl,rfl,rfl,rfl⟩:=hi
        obtain ⟨cs',rfl⟩:=Vc (saks.map SAK.sv) n' i to0 cs0 y0 (by rw [List.getElem?_map,hsi];rfl) hyi
        exact ⟨_,Zav _ _ _⟩
       | _ => cases hi
    ·rw [List.getElem?_map] at hi
     cases hsi:saks[i]? with
     | none => simp [hsi] at hi
     | some a =>
      simp only [hsi,Option.map_some,Option.some.injEq] at hi
      cases a with
      | own t0 x0 e0 l0 =>
       simp only [SAK.den,AK.own.injEq] at hi
       obtain ⟨rfl,rfl,rfl,_⟩:=hi
       unfold Zc5 at hfree
       rw [List.all_eq_true] at hfree
       have hf:=hfree _ (List.mem_of_getElem? hsi)
       cases tx with
       | any N M K => exact .inr ⟨N, M, K, rfl, hf, rfl⟩
       | text =>
       simp only [List.isEmpty_iff] at hf
       refine .inl ⟨rfl,by simp,fun j q _ hr=>?_⟩
       have hda:=(JF ρ htop (d:=t0)).2 j q
       by_cases hj:j=t0
       ·subst hj
        have hok:=a1.2 i
        have hlt:=(List.getElem?_eq_some_iff.1 hsi).1
        obtain ⟨x,hx⟩:∃ x,(c.args.toList.map Zaf.op++ds.map Zaf.cap++tail)[i]? = some x:=⟨_,List.getElem?_eq_getElem (by rw [a1.1];exact hlt)⟩
        have hk:=hok x _ hx hsi
        cases x with
        | op y =>
         have h1:(g j).den ρ = .own true e0 (l0.den ρ):=hk.2
         have hr':Z8 ((g j).den ρ) j q:=hr
         rw [h1] at hr'
         rcases hr' with h2 | ⟨_,h2⟩ <;> cases h2
        | _ => exact hk.elim
       ·have:=hda hj hr
        rw [hf] at this
        cases this
      | _ => cases hi
    ·rw [List.getElem?_map] at hi
     cases hsi:saks[i]? with
     | none => simp [hsi] at hi
     | some a =>
      simp only [hsi,Option.map_some,Option.some.injEq] at hi
      cases a with
      | box t0 fr0 to0 cs0 =>
       simp only [SAK.den,AK.box.injEq] at hi
       obtain ⟨rfl,rfl,rfl,rfl⟩:=hi
       unfold Zc5 at hfree
       rw [List.all_eq_true] at hfree
       have hf0:=hfree _ (List.mem_of_getElem? hsi)
       rcases Bool.or_eq_true_iff.1 hf0 with hpl | hf
       ·exact .inl (Zbp hpl ρ)
       ·right
        cases tx with
        | any N M K =>
         rcases Bool.or_eq_true_iff.1 hf with hf | hf
         ·exact .inl (.inr ⟨N,M,K,rfl,hf,rfl⟩)
         ·refine .inr fun σ' hrl j q hr=>?_
          cases hM:M t0 with
          | none => rw [hM] at hf; cases hf
          | some t =>
           rw [hM] at hf
           simp only at hf
           by_cases hj:t=j
           ·subst hj
            rw [List.any_eq_true] at hf
            obtain ⟨b,hb,hbt⟩:=hf
            cases b with
            | ref t1 _ _ _ =>
             have h4:t1=t:=by simpa using hbt
             exact ⟨_,List.mem_map.2 ⟨_,hb,rfl⟩,by rw [Zap];show some t1=some t;rw [h4]⟩
            | _ => cases hbt
           ·exact (hrl.1 t0 j q (by simp [Odr.nr,hM,hj]) hr).elim
        | text =>
        refine .inr fun σ' hrl j q hr=>?_
        have hrl':σ'=fun d=>(g d).den ρ:=hrl
        rw [hrl'] at hr
        have hda:=(JF ρ htop (d:=t0)).2 j q
        by_cases hj:j=t0
        ·subst hj
         have hok:=a1.2 i
         have hlt:=(List.getElem?_eq_some_iff.1 hsi).1
         obtain ⟨x,hx⟩:∃ x,(c.args.toList.map Zaf.op++ds.map Zaf.cap++tail)[i]? = some x:=⟨_,List.getElem?_eq_getElem (by rw [a1.1];exact hlt)⟩
         have hk:=hok x _ hx hsi
         have hr':Z8 ((g j).den ρ) j q:=hr
         have hb0:∃ fr cs,(g j).den ρ=mkB fr cs:=by
          cases x with
          | op y => exact ⟨false, _, hk.2.1⟩
          | cap d' => exact ⟨_, _, hk.2.1⟩
          | ghost => exact ⟨_, _, hk.1⟩
          | pad => exact hk.elim
         obtain ⟨fr,cs,hb0⟩:=hb0
         rw [hb0] at hr'
         cases fr<;>rcases hr' with h2 | ⟨_,h2⟩ <;> cases h2
        ·have hm:=hda hj hr
         rw [List.all_eq_true] at hf
         obtain ⟨u,hu,huj⟩:=List.mem_map.1 hm
         obtain ⟨u0,hu0,rfl⟩:=List.mem_map.1 hu
         have h3:=hf u0 hu0
         rw [List.any_eq_true] at h3
         obtain ⟨b,hb,hbt⟩:=h3
         cases b with
         | ref t1 _ _ _ =>
          refine ⟨_,List.mem_map.2 ⟨_,hb,rfl⟩,?_⟩
          have h4:t1=u0.1:=by simpa using hbt
          rw [Zap]
          show some t1=some j
          rw [h4];exact congrArg some huj
         | _ => cases hbt
      | _ => cases hi
    ·have hnrf:(rf.contains (0+i)&&(Zbv g x).isSome)=false:=by
      rw [Nat.zero_add]
      cases hc':(rf.contains i&&(Zbv g x).isSome) with
      | false => rfl
      | true =>
       obtain ⟨t1,d1,q1,j1,h1'⟩:=hrf i x hx hc'
       obtain ⟨j2,h2'⟩:=a6 i t1 d1 q1 j1 h1'
       obtain ⟨z,hz⟩:=hz
       rw [List.getElem?_map,h2'] at hz
       cases hz
     have hm:=Zew (P:=P) (g:=g) ρ hx hnrf hxm hno
     generalize VA P g rf c.args.toList 0=bs at hm hbo
     cases bs with
     | nil => cases hm
     | cons p r =>
      simp only [Zm6,Bool.and_eq_true,List.all_eq_true,decide_eq_true_eq,Bool.not_eq_true',List.contains_eq_mem,decide_eq_false_iff_not] at hbo
      obtain ⟨⟨⟨b1,b2⟩,b3⟩,b4⟩:=hbo
      have hp:d=p.1∧q=p.2:=by
       rcases List.mem_cons.1 hm with h0 | h0
       ·rw [← h0];exact ⟨rfl,rfl⟩
       ·exact b1 _ h0
      refine ⟨hp.1,hp.2,by simp,fun a ha hs=>b2 ?_,fun i=>?_⟩
      ·obtain ⟨a0,ha0,rfl⟩:=List.mem_map.1 ha
       rw [Zap] at hs
       exact List.mem_filterMap.2 ⟨a0,ha0,hs⟩
      ·simp only [ZG]
       rcases Nat.lt_or_ge i ((Jh (saks.map SAK.sv) n').1.map (SV.den (bind ρ n vs))).length with hi | hi
       ·rw [List.getElem?_append_left hi,List.getElem?_map]
        cases hy:(Jh (saks.map SAK.sv) n').1[i]? with
        | none => rfl
        | some y => exact ZcA _ (b4 y (List.mem_of_getElem? hy))
       ·rw [List.getElem?_append_right hi]
        cases hj:i-((Jh (saks.map SAK.sv) n').1.map (SV.den (bind ρ n vs))).length with
        | zero => exact ZcA _ b3
        | succ j => rfl
    ·have he:(saks.map (SAK.den ρ)).map AK.av=(saks.map SAK.sv).map (SV.den ρ):=by
      rw [List.map_map,List.map_map]
      exact List.map_congr_left fun a _=>Zk0 ρ a
     rw [he]
     exact h1
   ·exact h.elim
  ·exact h.elim
 ·exact h.elim
theorem ZfO {d:Nat} {u:Nat×SV} {n:Nat} (ρ:Nat→V) (hu:u∈ZK g d n):u.2 = .dead∧∃ d k,Z8 ((g u.1).den ρ) d k:=by
 obtain ⟨h1,_,_,h4⟩:=(Ji n u).1 hu
 obtain ⟨k,hk⟩:=(Wx ρ d (g u.1)).1 h4
 exact ⟨h1,d,k,hk⟩
theorem ZfQ {rf:List Nat} {args:List Operand} {u:Nat×SV} (ρ:Nat→V) (hu:u∈Zau E tx g rf args):u.2 = .dead∧∃ d k,Z8 ((g u.1).den ρ) d k:=by
 unfold Zau at hu
 split at hu
 ·obtain ⟨p,_,hp⟩:=List.mem_flatMap.1 (List.mem_filter.1 hu).1
  split at hp
  ·split at hp
   ·exact ZfO ρ hp
   ·cases hp
  ·cases hp
 ·cases hu
theorem Zeb (kl:Ups):(fun d=>(Zei kl g d).den ρ)=Jl (fun d=>(g d).den ρ) ((kl.map fun u=>(u.1,SV.dead.den ρ))):=by
 funext d
 rw [Kj _ _ _ (fun u hu=>by obtain ⟨v,_,rfl⟩:=List.mem_map.1 hu;rfl)]
 unfold Zei
 by_cases h:(kl.any fun u=>u.1 == d)=true
 ·rw [if_pos h,if_pos]
  ·rfl
  ·rw [List.any_eq_true] at h
   obtain ⟨u,hu,he⟩:=h
   rw [List.map_map]
   exact List.mem_map.2 ⟨u,hu,by simpa using he⟩
 ·rw [if_neg h,if_neg]
  rw [List.map_map]
  intro hm
  obtain ⟨u,hu,he⟩:=List.mem_map.1 hm
  exact h (List.any_eq_true.2 ⟨u,hu,by simpa using he⟩)
theorem Zif (kl:Ups) (hkl:∀ u∈kl,u.2 = .dead∧(∃ d k,Z8 ((g u.1).den ρ) d k)∧u.1∉KJ o) (h:Yy .text P R A ρ (Zei kl g) o n (fun x us fp n'=>k x (kl++us) fp n')):Yy .text P R A ρ g o n k:=by
 obtain ⟨ρ',n',x,us,fp,h1,h2,h3,h4,h5,h6⟩:=h
 refine ⟨ρ',n',x,kl++us,fp,h1,h2,h3,fun u hu=>?_,h5,?_⟩
 ·rcases List.mem_append.1 hu with hu | hu
  ·rw [(hkl u hu).1];trivial
  ·exact h4 u hu
 intro c hc σ' tm w lim X _ _ hT hsim next Q hn
 have hT':σ'=fun d=>(g d).den ρ:=hT
 subst hT'
 have hmap:(kl.map fun u=>(u.1,u.2.den ρ'))=kl.map fun u=>(u.1,SV.dead.den ρ):=List.map_congr_left fun u hu=>by rw [(hkl u hu).1];rfl
 obtain ⟨X',hs,_⟩:=Sim.drops (kl.map fun u=>(u.1,SV.dead.den ρ)) hsim fun u hu=>by
  obtain ⟨v,hv,rfl⟩:=List.mem_map.1 hu
  obtain ⟨_,⟨d,q,hr⟩,_⟩:=hkl v hv
  obtain ⟨g1,g2,g3⟩:=Yd hr
  refine ⟨rfl,g2,Yk hsim (fun he=>?_) g3⟩
  rw [he] at hr
  rcases hr with hr | ⟨_,hr⟩ <;> cases hr
 rw [← Zeb] at hs
 refine h6 c hc _ tm w lim X' (fun _ _=>.inl rfl) (fun _ _=>rfl) rfl hs next Q fun v w' ha=>hn v w' ?_
 rw [List.map_append,hmap,Kq,← Zeb]
 exact ha
theorem Zeq:∀ (l:List SV) (ds:List Nat),Zcr l=some ds→l.length=ds.length∧∀ (i d:Nat),ds[i]? = some d→l[i]? = some (.ptr d 0)
 | [], ds, h => by simp only [Zcr, Option.some.injEq] at h; subst h; exact ⟨rfl, by simp⟩
 | x :: l, ds, h => by
  unfold Zcr at h
  split at h
  ·rename_i heq;cases heq
  ·rename_i d r heq
   simp only [List.cons.injEq] at heq
   obtain ⟨rfl,rfl⟩:=heq
   cases hr:Zcr l with
   | none => rw [hr] at h; cases h
   | some es =>
    rw [hr] at h
    simp only [Option.map_some,Option.some.injEq] at h
    subst h
    obtain ⟨h1,h2⟩:=Zeq l es hr
    refine ⟨by simp [h1],fun i e he=>?_⟩
    cases i with
    | zero => simp only [List.getElem?_cons_zero, Option.some.injEq] at he ⊢; rw [he]
    | succ i => simpa using h2 i e (by simpa using he)
  ·cases h
theorem ZfN {fn:Fn} {first captured:Array Operand} (ho:o.op = .makeFunc fn first captured) (h:(JM P E tx tk g o n k).wp P R A ρ):Yy tx P R A ρ g o n k:=by
 simp only [JM,ho] at h
 split at h
 ·rename_i f ds hf hds
  split at h
  ·rename_i hall
   obtain ⟨h1,h2⟩:=Zeq _ _ hds
   refine ZT h trivial (Zc1 ho hf (by simpa using h1) fun i x d hx hd=>?_)
   have h3:=h2 i d hd
   rw [List.getElem?_map,hx] at h3
   simp only [Option.map_some,Option.some.injEq] at h3
   rw [List.all_eq_true] at hall
   have h4:=hall d (List.mem_of_getElem? hd)
   refine ⟨Za ρ h3,?_⟩
   show ∃ cs,(g d).den ρ = .box cs
   split at h4
   ·rename_i cs hcs;rw [hcs];exact ⟨_,rfl⟩
   ·cases h4
  ·exact h.elim
 ·exact h.elim
theorem Zh6 {P:Program} (w:World) (d:Nat) {t e:TypeId} (a:Addr) (h:P.underlying t=some (.pointer e)):(Op.equalIn (d+1) t (.pointer (some a)) (.pointer none)).run P w = .ok false w:=by
 simp [Op.equalIn,run_underlying h]
theorem Zaz {P:Program} {o:Oper} {σ:Nat→AV} {op:BinOp} {T T' e:TypeId} {x:Operand} {d off:Nat} (ho:o.op = .binOp op T x (.const (.pointer none)) T') (hT:P.underlying T=some (.pointer e))
  (hop:op = .eql∨op = .neq) (hx:Zn P σ x = .ptr d off):Jw P o σ (.val (.bool (if op = .eql then false else true))) [] []:=by
 refine Zw [] rfl fun c hc σ' tm w lim X hg _ hsim=>⟨.bool (if op = .eql then false else true),?_,.val rfl⟩
 rw [ho] at hg
 obtain ⟨b,cs,_,_,hv⟩:=JZ hc hsim hx (hg x (by simp [Op.operands]))
 have hc0:Act.eval ⟨tm,[]⟩ (.const (.pointer none)) = .pointer none:=rfl
 have he:(Op.equal T (.pointer (some ⟨b,off,none⟩)) (.pointer none)).run P w = .ok false w:=Zh6 w 9999 _ hT
 rcases hop with rfl | rfl<;>simp [execOp,ho,hv,hc0,eqGuard,binOp,he]
theorem Zki {op:BinOp} {T T':TypeId} {x y:Operand} (hps:EnvSound P E) (hg:∀ d,(g d).bd n) (ho:o.op = .binOp op T x y T') (h:(JM P E tx tk g o n k).wp P R A ρ):Yy tx P R A ρ g o n k:=by
 simp only [JM,ho] at h
 split at h
 ·rename_i b hb
  unfold ZkZ at hb
  split at hb
  ·rename_i d off e hx hT
   split at hb
   ·simp only [Option.some.injEq] at hb
    subst hb
    exact ZT h trivial (Zaz (op:=.eql) ho hT (.inl rfl) (Za ρ hx))
   ·simp only [Option.some.injEq] at hb
    subst hb
    exact ZT h trivial (Zaz (op:=.neq) ho hT (.inr rfl) (Za ρ hx))
   ·cases hb
  ·cases hb
 ·exact Zi2 hps.1 hg ho h
theorem Zgt {l:List (List AV)} {k:Int} (h:Zjs .any l k=true):∃ kvs tl,l = [.slice false 2 kvs::tl]:=by
 unfold Zjs at h
 split at h
 ·exact ⟨_,_,rfl⟩
 ·cases h
theorem ZhK {l:List (List AV)} {k:Int} (h:Zjs .full l k=true):∃ kvs,l = [[.slice false 2 kvs]]:=by
 unfold Zjs at h
 split at h
 ·rename_i kvs tl
  obtain rfl:tl = []:=by simpa using h
  exact ⟨_,rfl⟩
 ·cases h
theorem ZiI {l:List (List AV)} {k:Int} (h:Zjs .at l k=true):∃ kvs tl,l = [.slice false 2 kvs::tl]∧∀ x∈tl,x = .val (.int .i64 k):=by
 unfold Zjs at h
 split at h
 ·rename_i kvs tl
  refine ⟨_,_,rfl,fun x hx=>?_⟩
  have:=List.all_eq_true.1 (show tl.all (ZlD k)=true from h) x hx
  unfold ZlD at this
  split at this
  ·rename_i z
   have hz:z=k:=by simpa using this
   rw [hz]
  ·cases this
 ·cases h
theorem ZhE {l:List (List AV)} {k:Int} (h:Zjs .keys l k=true):∃ kvs,l = [[.slice false 2 kvs]]∧kvs.length≤1048576∧∀ r∈kvs,ZaQ r=true:=by
 unfold Zjs at h
 split at h
 ·rename_i kvs tl
  have h':tl.isEmpty=true∧kvs.length≤1048576∧kvs.all ZaQ=true:=by simpa using h
  obtain rfl:tl = []:=by simpa using h'.1
  exact ⟨_,rfl,h'.2.1,List.all_eq_true.1 h'.2.2⟩
 ·cases h
theorem Zho {T:TypeId} {x:Option Operand} (ho:o.op = .makeMap T x) (h:(JM P E tx tk g o n k).wp P R A ρ):Yy tx P R A ρ g o n k:=by
 simp only [JM,ho] at h
 split at h
 ·rename_i et het
  exact ZT h (show (LE.bd n _) from ⟨trivial,trivial,trivial⟩) (ZeQ ho het)
 ·rename_i hks
  split at h
  ·rename_i z hz
   split at h
   ·rename_i hlt
    exact ZT h (show (LE.bd n _) from ⟨trivial,trivial,trivial⟩) (Zdq ho hz hks hlt)
   ·exact h.elim
  ·exact h.elim
 ·exact h.elim
theorem ZjX {z:Value} {sh:Sh} (hk:Zbw z=some sh):∃ zc,ofC z=some zc∧zc.bd n∧∀ ρ,zc.den ρ = .val z:=by
 cases z<;>simp [Zbw] at hk
 ·exact ⟨_,rfl,trivial,fun _=>rfl⟩
 ·exact ⟨_,rfl,trivial,fun _=>rfl⟩
theorem ZiQ {l:List (List AV)} {i:Int} (h:qop .mapv l i=true):∃ kvs,l = [[.slice false 2 kvs]]:=by
 simp only [qop] at h
 split at h
 ·exact ⟨_,rfl⟩
 ·cases h
theorem Zg5 {T:TypeId} {m kx:Operand} {ok:Bool} {z:Value} (hg:∀ d,(g d).bd n) (ho:o.op = .lookup T m kx ok) (hz:Y8 P T=some z) (h:(Zfm P g T m kx ok z n k).wp P R A ρ):Yy tx P R A ρ g o n k:=by
 unfold Zfm at h
 split at h
 case h_2=>exact h.elim
 rename_i d ke hks hm hk
 split at h
 case h_2=>exact h.elim
 rename_i zc sh e l hzc hsh hd
 split at h
 case isFalse=>exact h.elim
 rename_i hh
 obtain ⟨he,hlt,h0⟩:=hh
 obtain ⟨hq,vs,w1,w2,w3⟩:=h
 obtain ⟨kvs,hkv⟩:=ZiQ hq
 obtain ⟨zc',hzc',hzb,hzd⟩:=ZjX (n:=n) hsh
 rw [hzc] at hzc'
 cases hzc'
 have hd':(g d).den ρ = .own true e [[.slice false 2 kvs]]:=by rw [hd];show AV.own true e (l.den ρ)=_;rw [hkv]
 have hrow:ZbN [[.slice false 2 kvs]] (ke.den ρ) [.val z]=(ZbN (l.den ρ) (ke.den ρ) [zc.den ρ]):=by rw [hkv,hzd]
 have w2':(ZbN [[.slice false 2 kvs]] (ke.den ρ) [.val z])[0]? = some ((ZC [sh,.bool] n).map (SC.den (bind ρ n vs))):=by rw [hrow];exact w2
 have hform:∃ a,ZbN [[.slice false 2 kvs]] (ke.den ρ) [.val z] = [a]:=by
  unfold ZbN
  split<;>exact ⟨_,rfl⟩
 obtain ⟨a,ha⟩:=hform
 rw [ha] at w2'
 simp only [List.getElem?_cons_zero,Option.some.injEq,ZC,List.map_cons,List.map_nil] at w2'
 subst w2'
 have hval:∃ u,(Jv sh n).den (bind ρ n vs) = .val u:=by
  cases z<;>simp [Zbw] at hsh<;>subst hsh<;>exact ⟨_,rfl⟩
 obtain ⟨u,hu⟩:=hval
 rw [hu] at ha
 have ha:ZbN [[.slice false 2 kvs]] (ke.den ρ) [.val z] = [[.val u,.val (.bool (bind ρ n vs (n+1)).bool)]]:=ha
 have hsb:(Jv sh n).bd (n+2):=by
  cases z<;>simp [Zbw] at hsh<;>subst hsh<;>(show n < n+2;omega)
 cases ok with
 | false =>
  refine ⟨bind ρ n vs,n+2,.c (Jv sh n),[],[d],Nat.le_add_right _ _,Kt ρ n vs,hsb,by simp,w3,?_⟩
  have:=Zez ho hz hks hlt (Za ρ hm) (show (fun d=>(g d).den ρ) d=_ from hd') h0 he (Za ρ hk) ha
  rw [← hu] at this
  exact this.t
 | true =>
  refine ⟨bind ρ n vs,n+2,.tuple [.c (Jv sh n),.c (.bool (.var (n+1)))],[],[d],Nat.le_add_right _ _,Kt ρ n vs,?_,by simp,w3,?_⟩
  ·intro c hc
   rcases List.mem_cons.1 hc with rfl | hc
   ·exact hsb
   ·rw [List.mem_singleton] at hc;subst hc;show n+1 < n+2;omega
  ·have:=ZaM ho hz hks hlt (Za ρ hm) (show (fun d=>(g d).den ρ) d=_ from hd') h0 he (Za ρ hk) ha
   rw [← hu] at this
   exact this.t
theorem Zhd {T:TypeId} {m kx v:Operand} {z:Value} (hg:∀ d,(g d).bd n) (ho:o.op = .insert T m kx v∨o.op = .mapUpdate T m kx v) (hz:Y8 P T=some z) (h:(Zc3 P g T m kx v z n k).wp P R A ρ):Yy tx P R A ρ g o n k:=by
 unfold Zc3 at h
 split at h
 case h_2=>exact h.elim
 rename_i d ke hks hm hk
 split at h
 case h_2=>exact h.elim
 rename_i sh c e l hsh hv hd
 split at h
 case isFalse=>exact h.elim
 rename_i hh
 obtain ⟨he,hlt,h0,hkd⟩:=hh
 obtain ⟨hq,h⟩:=h
 obtain ⟨kvs,hkv⟩:=ZiQ hq
 have bk:=ZA (P:=P) hg kx
 rw [hk] at bk
 have bv:=ZA (P:=P) hg v
 rw [hv] at bv
 have hl:=hg d
 rw [hd] at hl
 have hd':(g d).den ρ = .own true e [[.slice false 2 kvs]]:=by rw [hd];show AV.own true e (l.den ρ)=_;rw [hkv]
 have hval:∃ u,c.den ρ = .val u∧JP u z=true:=by
  cases z<;>simp [Zbw] at hsh<;>subst hsh<;>cases c<;>simp [Zgs] at hkd
  ·exact ⟨_,rfl,rfl⟩
  ·subst hkd;exact ⟨_,rfl,by simp [JP]⟩
 obtain ⟨u,hu,hsk⟩:=hval
 refine VO h trivial (us1 (show LE.bd n _ from ⟨hl,bk,trivial,bv,trivial⟩)) ?_
 have:=ZdT ho hz hks hlt (Za ρ hm) (show (fun d=>(g d).den ρ) d=_ from hd') h0 he (Za ρ hk) (show Zn P (fun d=>(g d).den ρ) v = .val u by rw [← hu];exact Za ρ hv) hsk
 rw [← hkv,← hu] at this
 exact this
theorem Zim {T:TypeId} {m kx:Operand} {ok:Bool} (hg:∀ d,(g d).bd n) (ho:o.op = .lookup T m kx ok) (h:(JM P E tx tk g o n k).wp P R A ρ):Yy tx P R A ρ g o n k:=by
 have bk:=ZA (P:=P) hg kx
 simp only [JM,ho] at h
 split at h
 ·rename_i z hz
  exact Zg5 hg ho hz h
 cases ok with
 | true => exact h.elim
 | false =>
  simp only [Zgp] at h
  split at h
  ·rename_i et d ke het hm hk
   rw [hk] at bk
   split at h
   ·rename_i e l hd
    have hl:=hg d
    rw [hd] at hl
    split at h
    ·rename_i hh
     obtain ⟨h1,h2,h3⟩:=hh
     have hd':(g d).den ρ = .own true e (l.den ρ):=by rw [hd];rfl
     split at h
     ·obtain ⟨hq,h⟩:=h
      obtain ⟨kvs,hkv⟩:=ZhK hq
      refine VO h (show LE.bd n _ from ⟨hl,bk⟩) (us1 (show LE.bd n _ from ⟨hl,bk⟩)) ?_
      have:=W7 ho het h3 (Za ρ hm) (by rw [hd',hkv]) h2 h1 (Za ρ hk)
      rw [← hkv] at this
      exact this
     ·obtain ⟨hq,h⟩:=h
      obtain ⟨kvs,tl,hkv⟩:=Zgt hq
      refine ZT h (show LE.bd n _ from ⟨hl,bk⟩) ?_
      have:=Zfg ho het h3 (Za ρ hm) (by rw [hd',hkv]) h2 h1 (Za ρ hk)
      rw [← hkv] at this
      exact this
    ·exact h.elim
   ·exact h.elim
  ·exact h.elim
theorem ZeW {T:TypeId} {m kx v:Operand} (hg:∀ d,(g d).bd n) (ho:o.op = .insert T m kx v∨o.op = .mapUpdate T m kx v) (h:(JM P E tx tk g o n k).wp P R A ρ):Yy tx P R A ρ g o n k:=by
 have bk:=ZA (P:=P) hg kx
 cases hz:Y8 P T with
 | some z => exact Zhd hg ho hz (by rcases ho with ho | ho <;> simpa only [JM, ho, hz] using h)
 | none =>
 have h:(Zax P g T m kx v n k).wp P R A ρ:=by rcases ho with ho | ho<;>simpa only [JM,ho,hz] using h
 unfold Zax at h
 split at h
 ·rename_i et d ke het hm hk
  rw [hk] at bk
  split at h
  ·rename_i e l hd
   have hl:=hg d
   rw [hd] at hl
   split at h
   ·rename_i hh
    obtain ⟨h1,h2⟩:=hh
    have hd':(g d).den ρ = .own true e (l.den ρ):=by rw [hd];rfl
    split at h
    ·rename_i t et' ys hsl hgt
     have hv:v = .tmp t:=by cases v<;>simp_all [ZM]
     rw [hsl] at hgt
     have hgt:g t = .own false et' ys:=by simpa using hgt
     have hy:=hg t
     rw [hgt] at hy
     split at h
     ·rename_i hee
      subst hee
      obtain ⟨hq,h⟩:=h
      obtain ⟨kvs,tl,hkv,htl⟩:=ZiI hq
      subst hv
      refine VO h trivial (us2 hy (show LE.bd n _ from ⟨hl,bk,hy⟩)) ?_
      have:=Zfo ho het (Za ρ hm) (by rw [hd',hkv]) h2 h1 (Za ρ hk) htl (show (fun d=>(g d).den ρ) t = .own false et' (ys.den ρ) by show (g t).den ρ=_;rw [hgt];rfl)
      rw [← hkv] at this
      exact this
     ·exact h.elim
    ·split at h
     ·rename_i s hgv
      obtain ⟨hq,h⟩:=h
      obtain ⟨kvs,tl,hkv,htl⟩:=ZiI hq
      refine VO h trivial (us1 (show LE.bd n _ from ⟨hl,bk,trivial⟩)) ?_
      have:=ZaA ho het (Za ρ hm) (by rw [hd',hkv]) h2 h1 (Za ρ hk) htl (Za ρ hgv)
      rw [← hkv] at this
      exact this
     ·exact h.elim
   ·exact h.elim
  ·exact h.elim
 ·exact h.elim
theorem Zij {f:FuncId} {args:List Operand} {d:Nat} {gf:FuncId} {l:LE} (h:Zgh P E g f args=some (d,gf,l)) :
  ∃ x p e,args = [x]∧p∈E.ks∧p.1=f∧p.2.2=gf∧Jc P g x = .mref d 0∧g d = .own true e l∧P.cellsOf e=0∧(Jd P (e-1048576)).isSome=true:=by
 unfold Zgh at h
 split at h
 ·cases h
 ·split at h
  ·rename_i x p hp
   split at h
   ·rename_i d' hx
    split at h
    ·rename_i e l' hd
     split at h
     ·rename_i hm
      simp only [Option.some.injEq,Prod.mk.injEq] at h
      obtain ⟨rfl,rfl,rfl⟩:=h
      refine ⟨x,p,e,rfl,List.mem_of_find?_eq_some hp,?_,rfl,hx,hd,hm.2,hm.1⟩
      simpa using List.find?_some hp
     ·cases h
    ·cases h
   ·cases h
  ·cases h
theorem ZfA {f:FuncId} {args:List Operand} {d:Nat} {l:LE} (h:Zal P E g f args=some (d,l)) :
  ∃ x p e,args = [x]∧p∈E.ks∧p.2.1=f∧Jc P g x = .eref d 0 (.lit 0) 0 p.2.2∧g d = .own true e l∧P.cellsOf e=0∧(Jd P (e-1048576)).isSome=true:=by
 unfold Zal at h
 split at h
 ·cases h
 ·split at h
  ·rename_i x
   split at h
   ·rename_i d' gf hx
    split at h
    ·rename_i e l' hd
     split at h
     ·rename_i hm
      simp only [Option.some.injEq,Prod.mk.injEq] at h
      obtain ⟨rfl,rfl⟩:=h
      obtain ⟨p,hp,hpq⟩:=List.any_eq_true.1 hm.2.2
      simp only [Bool.and_eq_true,beq_iff_eq] at hpq
      exact ⟨x,p,e,rfl,hp,hpq.1,by rw [hpq.2];exact hx,hd,hm.2.1,hm.1⟩
     ·cases h
    ·cases h
   ·cases h
  ·cases h
theorem Zl9 {c:Call} {f:FuncId} {d:Nat} {gf:FuncId} {l:LE} (hps:EnvSound P E) (ho:o.op = .call c) (hc:c.callee = .value (.func f)) (hit:Zgh P E g f c.args.toList=some (d,gf,l))
  (h:(STree.req (.mq .any l (.lit 0)) (k (.eref d 0 (.lit 0) 0 gf) [] [d] n)).wp P R A ρ):Yy tx P R A ρ g o n k:=by
 obtain ⟨x,p,e,h1,h2,rfl,rfl,h5,h6,h7,h8⟩:=Zij hit
 obtain ⟨hq,h⟩:=h
 obtain ⟨kvs,tl,hkv⟩:=Zgt hq
 refine ZT h trivial ?_
 have:=Zjc (d:=d) hps.2 h2 ho hc h1 (Za ρ h5) (by show (g d).den ρ=_;rw [h6];show AV.own true e (l.den ρ)=_;rw [hkv]) h7 h8
 simpa [SV.den,IE.den] using this
theorem Zib {c:Call} {f:FuncId} {d:Nat} {l:LE} (hps:EnvSound P E) (hg:∀ d,(g d).bd n) (ho:o.op = .call c) (hc:c.callee = .value (.func f)) (hit:Zal P E g f c.args.toList=some (d,l))
  (h:(STree.req (.mq .keys l (.lit 0)) (k (.c (.slice false 1 (.mkeys l))) [] [d] n)).wp P R A ρ):Yy tx P R A ρ g o n k:=by
 obtain ⟨x,p,e,h1,h2,rfl,h5,h6,h7,h8⟩:=ZfA hit
 obtain ⟨hq,h⟩:=h
 obtain ⟨kvs,hkv,hlen,hfine⟩:=ZhE hq
 have hl:=hg d
 rw [h6] at hl
 refine ZT h (show LE.bd n _ from hl) ?_
 have hx:Zn P (fun d=>(g d).den ρ) x = .eref d 0 p.2.2:=by have:=Za ρ h5;simpa [SV.den,IE.den] using this
 have:=Ze1 (d:=d) hps.2 h2 ho hc h1 hx (by show (g d).den ρ=_;rw [h6];show AV.own true e (l.den ρ)=_;rw [hkv]) h7 h8 hlen hfine
 rw [← hkv] at this
 exact this
theorem Zhl (hps:EnvSound P E) (hg:∀ d,(g d).bd n) (htop:∀ i,E.top≤i→g i = .dead) (h:(JM P E tx tk g o n k).wp P R A ρ):Yy tx P R A ρ g o n k:=by
 cases ho:o.op with
 | move x => exact Zlz hg htop ho h
 | assign x => exact ZiN hg htop ho h
 | pick c a b => exact Zly hg ho h
 | alloc T => exact ZjE ho h
 | box T x => exact Zm8 hg ho h
 | build T parts => exact ZkD hg htop ho h
 | buildSlice T len parts => exact Zdn hg ho h
 | load T a => exact Zlu hg htop ho h
 | store T a x => exact Zj2 hg htop ho h
 | nilCheck x => exact Ze2 hg ho h
 | binOp op T x y T' => exact Zki hps hg ho h
 | unOp op T x => exact Zml hg ho h
 | convert S T x => exact Zg4 hg ho h
 | fieldAddr T x f => exact Zd6 hg ho h
 | field T x f => exact Zkd hg ho h
 | indexAddr T x i => exact ZdU hg ho h
 | makeSlice T a b => exact Zlf hg ho h
 | makeFunc fn first captured => exact ZfN ho h
 | makeMap T x => exact Zho ho h
 | lookup T m kx ok => exact Zim hg ho h
 | insert T m kx v => exact ZeW hg (.inl ho) h
 | mapUpdate T m kx v => exact ZeW hg (.inr ho) h
 | slice T x lo hi mx => exact Zkc hg htop ho h
 | extract x i => exact Zhm hg ho h
 | call c =>
  cases hc:c.callee with
  | builtin b =>
   cases b with
   | len => exact Znm hg ho hc h
   | append => exact Zjg hg htop ho hc h
   | copy => exact Zlm hg ho hc h
   | min => exact ZmC hg ho hc h
   | max => exact Zm9 hg ho hc h
   | _ => simp only [JM, ho, hc] at h; exact h.elim
  | value x =>
   cases x with
   | func f =>
    simp only [JM,ho,hc] at h
    split at h
    ·rename_i hit
     exact Zl9 hps ho hc hit h
    split at h
    ·rename_i hit
     exact Zib hps hg ho hc hit h
    split at h
    case h_2=>
     rename_i hkl
     split at h
     case isFalse=>exact h.elim
     rename_i hall
     rw [List.all_eq_true] at hall
     cases htx:tx with
     | any N M => exact (hkl (by rw [htx]; rfl)).elim
     | text =>
     subst htx
     refine Zif (Zau E .text g (E.rfs f) c.args.toList) (fun u hu=>?_) ?_
     ·obtain ⟨k1,k2⟩:=ZfQ ρ hu
      exact ⟨k1,k2,by simpa using hall u hu⟩
     ·split at h
      ·rename_i aZ has
       obtain ⟨h1,h2,h3⟩:=Wo ρ _ _ _ has
       refine ZfF (ds:=[]) (fun i hi=>by unfold Zei;split;rfl;exact htop i hi) ho (.inl ⟨hc,rfl⟩) (by simpa using h1) h2 (fun i x hx hci=>?_) h
       have hl:i < aZ.length:=by rw [← h1.1,List.length_map];exact (List.getElem?_eq_some_iff.1 hx).1
       obtain ⟨t,d,q,j,e⟩:=h3 i _ x hx (List.getElem?_eq_getElem hl) (by rw [Nat.zero_add];exact hci)
       exact ⟨t,d,q,j,by rw [List.getElem?_eq_getElem hl,e]⟩
      ·exact h.elim
    split at h
    ·rename_i aZ has
     obtain ⟨h1,h2,h3⟩:=Wo ρ _ _ _ has
     refine ZfF (ds:=[]) htop ho (.inl ⟨hc,rfl⟩) (by simpa using h1) h2 (fun i x hx hci=>?_) h
     have hl:i < aZ.length:=by rw [← h1.1,List.length_map];exact (List.getElem?_eq_some_iff.1 hx).1
     obtain ⟨t,d,q,j,e⟩:=h3 i _ x hx (List.getElem?_eq_getElem hl) (by rw [Nat.zero_add];exact hci)
     exact ⟨t,d,q,j,by rw [List.getElem?_eq_getElem hl,e]⟩
    ·exact h.elim
   | tmp t =>
    simp only [JM,ho,hc] at h
    split at h
    ·rename_i f ds aZ ht has
     obtain ⟨h1,h2,_⟩:=Wo ρ _ _ _ has
     split at h
     ·rename_i cs hcs
      obtain ⟨k1,k2⟩:=Zl5 (P:=P) ρ hcs
      refine ZfF (ds:=ds) htop ho (.inr ⟨t,hc,by rw [ht];rfl⟩) (h1.append k1) (fun a ha=>?_) (fun i _ _ hi=>by simp at hi) h
      rcases List.mem_append.1 ha with ha | ha
      ·exact h2 a ha
      ·exact k2 a ha
     ·exact h.elim
    ·exact h.elim
   | _ => simp only [JM, ho, hc] at h; exact h.elim
  | _ => simp only [JM, ho, hc] at h; exact h.elim
 | _ => simp only [JM, ho] at h; exact h.elim
end
end Go.AM
end

section
namespace Go.AM
structure Stp where
 F:List Nat
 ups:List (Nat×AV)
def ZlI (T:Odr) (P:Program) (nt:Nat) (ops:Array Oper) (B:Nat→Prop) (i:Nat) (pre:Nat→AV) (s:Stp):Prop:=
 (∀ u∈s.ups,u.1∈s.F)∧(∀ u∈s.ups,B u.1→ZcK u.2)∧(∀ u∈s.ups,∀ d k,T.nr d u.1=true→¬ Z8 u.2 d k)∧(∀ u∈s.ups,∀ j,T.kp u.1 j=true→Jb u.2 j=Jb (pre u.1) j)∧
 ∀ (c:Ctx),c.P=P→c.nt=nt→∀ (σ':Nat→AV) (tm:Array Value) (w:World) (lim:Nat→Nat) (X:Nat→Nat→Option Nat),
  (∀ d∈s.F,σ' d=pre d)→(∀ d,B d→ZcK (σ' d))→T.rel pre σ'→Sim c σ' tm w lim X→∀ (Q:Exit→Act→World→Prop) (K:Act→World→Prop),
   (∀ tm' w' lim' X',Sim c (Jl σ' s.ups) tm' w' lim' X'→K ⟨tm',[]⟩ w')→wpOp P ops Q i K ⟨tm,[]⟩ w
def Zd1 (T:Odr) (P:Program) (nt:Nat) (ops:Array Oper) (B:Nat→Prop):Nat→(Nat→AV)→List Stp→Prop
 | _, _, [] => True
 | i, σ, s :: ss => ZlI T P nt ops B i σ s ∧ Zd1 T P nt ops B (i + 1) (Jl σ s.ups) ss
theorem Zdi {B:Nat→Prop} : ∀ (us:List (Nat×AV)) (σ:Nat→AV),(∀ u∈us,B u.1→ZcK u.2)→(∀ d,B d→ZcK (σ d))→∀ d,B d→ZcK (Jl σ us d)
 | [], _, _, h, d, hd => h d hd
 | (e, x) :: us, σ, hu, h, d, hd => by
  refine Zdi us (upd σ e x) (fun u h'=>hu u (by simp [h'])) (fun d hd=>?_) d hd
  by_cases he:d=e
  ·subst he;rw [Zv];exact hu (d,x) (by simp) hd
  ·rw [Zb _ _ he];exact h d hd
def ZeH (σ:Nat→AV):List Stp→(Nat→AV)
 | [] => σ
 | s :: ss => ZeH (Jl σ s.ups) ss
section
variable {T:Odr} {P:Program} {nt:Nat} {ops:Array Oper} {B:Nat→Prop} {Q:Exit→Act→World→Prop} {c:Ctx}
theorem ZcO (hc:c.P=P) (hn:c.nt=nt):∀ (ss:List Stp) (i:Nat) (σ:Nat→AV) (tm:Array Value) (w:World) (lim:Nat→Nat) (X:Nat→Nat→Option Nat),
  Zd1 .text P nt ops B i σ ss→(∀ d,B d→ZcK (σ d))→Sim c σ tm w lim X→(∀ tm' w' lim' X',Sim c (ZeH σ ss) tm' w' lim' X'→Q .normal ⟨tm',[]⟩ w')→wpOps P ops Q (List.range' i ss.length) ⟨tm,[]⟩ w
 | [], i, σ, tm, w, lim, X, _, _, hs, hk => by
  show Q .normal ⟨tm,[]⟩ w
  exact hk tm w lim X hs
 | s :: ss, i, σ, tm, w, lim, X, h, hb, hs, hk => by
  rw [List.length_cons,List.range'_succ,wpOps_cons]
  exact h.1.2.2.2.2 c hc hn σ tm w lim X (fun _ _=>rfl) hb rfl hs Q _ fun tm' w' lim' X' hs'=>ZcO hc hn ss (i+1) _ tm' w' lim' X' h.2 (Zdi _ _ h.1.2.1 hb) hs' hk
def WD:List (Nat×AV)→Nat→Option AV
 | [], _ => none
 | (e, x) :: us, d => match WD us d with | some y => some y | none => if d = e then some x else none
theorem Jm:∀ (us:List (Nat×AV)) (σ:Nat→AV) (d:Nat),Jl σ us d=(WD us d).getD (σ d)
 | [], σ, d => rfl
 | (e, x) :: us, σ, d => by
  simp only [Jl,WD,Jm us]
  cases WD us d with
  | some y => rfl
  | none =>
   by_cases h:d=e
   ·subst h;simp [upd]
   ·simp [upd,h]
theorem YF:∀ (us:List (Nat×AV)) (d:Nat),d∉us.map (·.1)→WD us d=none
 | [], d, _ => rfl
 | (e, x) :: us, d, h => by
  simp only [List.map_cons,List.mem_cons,not_or] at h
  simp only [WD,YF us d h.2,if_neg h.1]
theorem Vg:∀ (us:List (Nat×AV)) (d:Nat),d∈us.map (·.1)→∃ x,WD us d=some x
 | [], d, h => by simp at h
 | (e, x) :: us, d, h => by
  simp only [WD]
  cases hl:WD us d with
  | some y => exact ⟨y, rfl⟩
  | none =>
   simp only [List.map_cons,List.mem_cons] at h
   rcases h with h | h
   ·subst h;exact ⟨x,by simp⟩
   ·obtain ⟨y,hy⟩:=Vg us d h;rw [hl] at hy;cases hy
def comp (S:Nat→Bool):Nat→(Nat→AV)→List Stp→(Nat→AV)
 | _, σ, [] => σ
 | i, σ, s :: ss => comp S (i + 1) (if S i = true then Jl σ s.ups else σ) ss
theorem Zgq (S:Nat→Bool):∀ (ss:List Stp) (i:Nat) (σ:Nat→AV),(∀ j,i≤j→j < i+ss.length→S j=true)→comp S i σ ss=ZeH σ ss
 | [], _, _, _ => rfl
 | s :: ss, i, σ, h => by
  simp only [comp,ZeH,h i (Nat.le_refl _) (by simp),if_true]
  exact Zgq S ss (i+1) _ fun j h1 h2=>h j (by omega) (by simp only [List.length_cons];omega)
theorem ZaR (S:Nat→Bool):∀ (ss:List Stp) (i:Nat) (σ:Nat→AV),(∀ j,i≤j→j < i+ss.length→S j=false)→comp S i σ ss=σ
 | [], _, _, _ => rfl
 | s :: ss, i, σ, h => by
  simp only [comp,h i (Nat.le_refl _) (by simp),Bool.false_eq_true,if_false]
  exact ZaR S ss (i+1) _ fun j h1 h2=>h j (by omega) (by simp only [List.length_cons];omega)
theorem Vj {d:Nat} (S T:Nat→Bool):∀ (ss:List Stp) (i:Nat) (σ τ:Nat→AV),σ d=τ d→(∀ (j:Nat) (s:Stp),ss[j]? = some s→d∈s.ups.map (·.1)→S (i+j)=T (i+j))→comp S i σ ss d=comp T i τ ss d
 | [], _, _, _, h, _ => h
 | s :: ss, i, σ, τ, h, hS => by
  simp only [comp]
  refine Vj S T ss (i+1) _ _ ?_ fun j s' hs' hd=>by
   have:=hS (j+1) s' (by simpa using hs') hd
   rw [show i+1+j=i+(j+1) by omega]
   exact this
  by_cases hd:d∈s.ups.map (·.1)
  ·have h0:=hS 0 s rfl hd
   rw [Nat.add_zero] at h0
   rw [h0]
   split
   ·rw [Jm,Jm,h]
   ·exact h
  ·have hl:=YF s.ups d hd
   split<;>split<;>first
    | (rw [Jm, Jm, hl]; exact h)
    | (rw [Jm, hl]; exact h)
    | exact h
theorem ZaT:∀ (ss:List Stp) (i:Nat) (σ:Nat→AV) (m:Nat),comp (fun j=>decide (j < i+m)) i σ ss=ZeH σ (ss.take m)
 | [], i, σ, m => by simp [comp, ZeH]
 | s :: ss, i, σ, 0 => by
  rw [List.take_zero]
  exact ZaR _ (s::ss) i σ fun j h1 _=>by simp;omega
 | s :: ss, i, σ, m + 1 => by
  simp only [comp,List.take_succ_cons,ZeH,decide_eq_true_eq]
  rw [if_pos (by omega),← ZaT ss (i+1)]
  congr 1
  funext j
  rw [show i+1+m=i+(m+1) by omega]
theorem Zjj (S:Nat→Bool):∀ (ss:List Stp) (i:Nat) (σ:Nat→AV),(∀ s∈ss,∀ u∈s.ups,B u.1→ZcK u.2)→(∀ d,B d→ZcK (σ d))→∀ d,B d→ZcK (comp S i σ ss d)
 | [], _, _, _, h, d, hd => h d hd
 | s :: ss, i, σ, hu, h, d, hd => by
  simp only [comp]
  refine Zjj S ss (i+1) _ (fun s' hs'=>hu s' (by simp [hs'])) (fun d hd=>?_) d hd
  split
  ·exact Zdi _ _ (hu s (by simp)) h d hd
  ·exact h d hd
theorem ZeB:∀ (ss:List Stp) (i:Nat) (σ:Nat→AV),Zd1 T P nt ops B i σ ss→∀ s∈ss,∀ u∈s.ups,B u.1→ZcK u.2
 | [], _, _, _, s, hs => by simp at hs
 | s0 :: ss, i, σ, h, s, hs => by
  rcases List.mem_cons.1 hs with rfl | hs
  ·exact h.1.2.1
  ·exact ZeB ss (i+1) _ h.2 s hs
theorem ZhV:∀ (us:List (Nat×AV)) (σ:Nat→AV),(∀ u∈us,∀ d k,T.nr d u.1=true→¬ Z8 u.2 d k)→(∀ d i k,T.nr d i=true→¬ Z8 (σ i) d k)→∀ d i k,T.nr d i=true→¬ Z8 (Jl σ us i) d k
 | [], _, _, h => h
 | (e, x) :: us, σ, hu, h => by
  refine ZhV us (upd σ e x) (fun u h'=>hu u (by simp [h'])) fun d i k hd=>?_
  by_cases he:i=e
  ·subst he;rw [Zv];exact hu (i,x) (by simp) d k hd
  ·rw [Zb _ _ he];exact h d i k hd
theorem ZhI (S:Nat→Bool):∀ (ss:List Stp) (i:Nat) (σ:Nat→AV),(∀ s∈ss,∀ u∈s.ups,∀ d k,T.nr d u.1=true→¬ Z8 u.2 d k)→(∀ d i k,T.nr d i=true→¬ Z8 (σ i) d k)→∀ d j k,T.nr d j=true→¬ Z8 (comp S i σ ss j) d k
 | [], _, _, _, h => h
 | s :: ss, i, σ, hu, h => by
  simp only [comp]
  refine ZhI S ss (i+1) _ (fun s' hs'=>hu s' (by simp [hs'])) ?_
  split
  ·exact ZhV _ _ (hu s (by simp)) h
  ·exact h
theorem ZfV:∀ (ss:List Stp) (i:Nat) (σ:Nat→AV),Zd1 T P nt ops B i σ ss→∀ s∈ss,∀ u∈s.ups,∀ d k,T.nr d u.1=true→¬ Z8 u.2 d k
 | [], _, _, _, s, hs => by simp at hs
 | s0 :: ss, i, σ, h, s, hs => by
  rcases List.mem_cons.1 hs with rfl | hs
  ·exact h.1.2.2.1
  ·exact ZfV ss (i+1) _ h.2 s hs
theorem ZcU {τ:Nat→AV} : ∀ (us:List (Nat×AV)) (σ:Nat→AV),(∀ u∈us,∀ j,T.kp u.1 j=true→Jb u.2 j=Jb (τ u.1) j)→(∀ d j,T.kp d j=true→Jb (σ d) j=Jb (τ d) j)→∀ d j,T.kp d j=true→Jb (Jl σ us d) j=Jb (τ d) j
 | [], _, _, h => h
 | (e, x) :: us, σ, hu, h => by
  refine ZcU us (upd σ e x) (fun u h'=>hu u (by simp [h'])) fun d j hd=>?_
  by_cases he:d=e
  ·subst he;rw [Zv];exact hu (d,x) (by simp) j hd
  ·rw [Zb _ _ he];exact h d j hd
theorem Zih (S:Nat→Bool):∀ (ss:List Stp) (i:Nat) (τ σ:Nat→AV),(∀ s∈ss,∀ u∈s.ups,∀ j,T.kp u.1 j=true→Jb u.2 j=Jb (τ u.1) j)→(∀ d j,T.kp d j=true→Jb (σ d) j=Jb (τ d) j)→∀ d j,T.kp d j=true→Jb (comp S i σ ss d) j=Jb (τ d) j
 | [], _, _, _, _, h => h
 | s :: ss, i, τ, σ, hu, h => by
  simp only [comp]
  refine Zih S ss (i+1) τ _ (fun s' hs'=>hu s' (by simp [hs'])) ?_
  split
  ·exact ZcU _ _ (hu s (by simp)) h
  ·exact h
theorem Zi5:∀ (ss:List Stp) (τ σ:Nat→AV),(∀ s∈ss,∀ u∈s.ups,∀ j,T.kp u.1 j=true→Jb u.2 j=Jb (τ u.1) j)→(∀ d j,T.kp d j=true→Jb (σ d) j=Jb (τ d) j)→∀ d j,T.kp d j=true→Jb (ZeH σ ss d) j=Jb (τ d) j
 | [], _, _, _, h => h
 | s :: ss, τ, σ, hu, h => by
  simp only [ZeH]
  exact Zi5 ss τ _ (fun s' hs'=>hu s' (by simp [hs'])) (ZcU _ _ (hu s (by simp)) h)
theorem ZdA:∀ (ss:List Stp) (i:Nat) (σ:Nat→AV),Zd1 T P nt ops B i σ ss→∀ s∈ss,∀ u∈s.ups,∀ j,T.kp u.1 j=true→Jb u.2 j=Jb (σ u.1) j
 | [], _, _, _, s, hs => by simp at hs
 | s0 :: ss, i, σ, h, s, hs => by
  rcases List.mem_cons.1 hs with rfl | hs
  ·exact h.1.2.2.2.1
  ·intro u hu j hj
   rw [ZdA ss (i+1) _ h.2 s hs u hu j hj]
   exact ZcU s0.ups σ (τ:=σ) h.1.2.2.2.1 (fun _ _ _=>rfl) u.1 j hj
theorem ZfX:∀ (ss:List Stp) (i:Nat) (σ:Nat→AV),Zd1 T P nt ops B i σ ss→∀ (j:Nat) (s:Stp),ss[j]? = some s→ZlI T P nt ops B (i+j) (ZeH σ (ss.take j)) s
 | [], _, _, _, j, s, h => by simp at h
 | s0 :: ss, i, σ, hc, 0, s, h => by
  simp only [List.getElem?_cons_zero,Option.some.injEq] at h
  subst h
  exact hc.1
 | s0 :: ss, i, σ, hc, j + 1, s, h => by
  have:=ZfX ss (i+1) _ hc.2 j s (by simpa using h)
  rw [show i+(j+1)=i+1+j by omega]
  exact this
theorem ZiS (hc:c.P=P) (hn:c.nt=nt) {N:Nat→Bool} {M:Nat→Option Nat} {K:List (Nat×Nat)} {ss:List Stp} {σ:Nat→AV} (hch:Zd1 (.any N M K) P nt ops B 0 σ ss) (hN:∀ d i k,(Odr.any N M K).nr d i=true→¬ Z8 (σ i) d k) (hpb:∀ d,B d→ZcK (σ d)) (hlen:ss.length=ops.size)
  (hlow:∀ (i:Nat) (o:Oper),ops[i]? = some o→∀ e∈o.after,Region.binds .any e=true→e.on < i)
  (hind:∀ (i j:Nat) (a b:Stp),ss[i]? = some a→ss[j]? = some b→j < i→(∃ S:Nat→Prop,(∀ k o,ops[k]? = some o→S k→∀ e∈o.after,Region.binds .any e=true→S e.on)∧S i∧¬ S j)→
   (∀ d∈b.ups.map (·.1),d∉a.F)∧∀ d∈a.ups.map (·.1),d∉b.F) (hfin:∀ tm' w' lim' X',Sim c (ZeH σ ss) tm' w' lim' X'→Q .normal ⟨tm',[]⟩ w') :
  ∀ (fuel:Nat) (listed:Array Bool) (tm:Array Value) (w:World) (lim:Nat→Nat) (X:Nat→Nat→Option Nat),listed.size=ops.size→
   (∀ k o,ops[k]? = some o→listed.getD k false=true→∀ e∈o.after,Region.binds .any e=true→listed.getD e.on false=true)→
   ((List.range ops.size).countP (fun i=>!listed.getD i false)≤fuel)→
   Sim c (comp (fun i=>listed.getD i false) 0 σ ss) tm w lim X→wpAny P .any ops Q fuel listed ⟨tm,[]⟩ w:=by
 -- where nothing is ready, all is done
 have hdone:∀ (listed:Array Bool),listed.size=ops.size→Region.ready .any ops listed = []→∀ j,j < ops.size→listed.getD j false=true:=by
  intro listed hsz hr j
  induction j using Nat.strongRecOn with
  | _ j ih =>
   intro hj
   cases hl:listed.getD j false with
   | true => rfl
   | false =>
    have:j∈Region.ready .any ops listed:=by
     rw [mem_ready]
     refine ⟨?_,ops[j],Array.getElem?_eq_getElem hj,fun e he hb=>?_⟩
     ·simp only [Array.getD,hsz,hj,dite_true] at hl ⊢
      exact hl
     ·have hlt:=hlow j _ (Array.getElem?_eq_getElem hj) e he hb
      exact ih e.on hlt (by omega)
    rw [hr] at this
    cases this
 have hend:∀ (listed:Array Bool) (tm:Array Value) (w:World) (lim:Nat→Nat) (X:Nat→Nat→Option Nat),listed.size=ops.size→Region.ready .any ops listed = []→
   Sim c (comp (fun i=>listed.getD i false) 0 σ ss) tm w lim X→Q .normal ⟨tm,[]⟩ w:=by
  intro listed tm w lim X hsz hr hs
  rw [Zgq _ ss 0 σ fun j _ h2=>hdone listed hsz hr j (by omega)] at hs
  exact hfin tm w lim X hs
 intro fuel
 induction fuel with
 | zero =>
  intro listed tm w lim X hsz hcl hcnt hs
  have hall:∀ j,j < ops.size→listed.getD j false=true:=by
   intro j hj
   have h0:(List.range ops.size).countP (fun i=>!listed.getD i false)=0:=by omega
   have:=(List.countP_eq_zero.1 h0) j (by simpa using hj)
   simpa using this
  have hr:Region.ready .any ops listed = []:=by
   refine List.eq_nil_iff_forall_not_mem.2 fun j hj=>?_
   obtain ⟨h1,o,h2,_⟩:=mem_ready.1 hj
   have hlt:=(Array.getElem?_eq_some_iff.1 h2).1
   have:=hall j hlt
   simp only [Array.getD,hsz,hlt,dite_true] at h1 this
   rw [h1] at this
   cases this
  exact ⟨hr,hend listed tm w lim X hsz hr hs⟩
 | succ fuel ih =>
  intro listed tm w lim X hsz hcl hcnt hs
  refine ⟨fun hr=>hend listed tm w lim X hsz hr hs,fun i hi=>?_⟩
  obtain ⟨h1,o,h2,h3⟩:=mem_ready.1 hi
  have hlt:=(Array.getElem?_eq_some_iff.1 h2).1
  have hun:listed.getD i false=false:=by
   simp only [Array.getD,hsz,hlt,dite_true] at h1 ⊢
   exact h1
  obtain ⟨s,hsi⟩:∃ s,ss[i]? = some s:=⟨_,List.getElem?_eq_getElem (by omega)⟩
  have hst:=ZfX ss 0 σ hch i s hsi
  rw [Nat.zero_add] at hst
  have hset:∀ j,(listed.setIfInBounds i true).getD j false=if j=i then true else listed.getD j false:=by
   intro j
   by_cases hji:j=i
   ·subst hji
    simp [Array.getD,hsz,hlt]
   ·rw [if_neg hji,getD_set_ne false (Ne.symm hji)]
  -- i is not before what is listed
  have hnot:∀ j,listed.getD j false=true→∃ S:Nat→Prop,(∀ k o,ops[k]? = some o→S k→∀ e∈o.after,Region.binds .any e=true→S e.on)∧S j∧¬ S i:=
   fun j hj=>⟨fun k=>listed.getD k false=true,hcl,hj,by simp [hun]⟩
  -- what is not listed is not before i
  have hnot':∀ j,j≠i→listed.getD j false=false→∃ S:Nat→Prop,(∀ k o,ops[k]? = some o→S k→∀ e∈o.after,Region.binds .any e=true→S e.on)∧S i∧¬ S j:=by
   intro j hji hj
   refine ⟨fun k=>k=i∨listed.getD k false=true,fun k o' hk hS e he hb=>?_,.inl rfl,by simp [hji,hj]⟩
   rcases hS with rfl | hS
   ·rw [h2] at hk
    cases hk
    exact .inr (h3 e he hb)
   ·exact .inr (hcl k o' hk hS e he hb)
  have hpre:∀ d∈s.F,comp (fun i=>listed.getD i false) 0 σ ss d=ZeH σ (ss.take i) d:=by
   intro d hd
   rw [← ZaT ss 0 σ i]
   refine Vj _ _ ss 0 σ σ rfl fun j s' hj hdj=>?_
   simp only [Nat.zero_add]
   rcases Nat.lt_trichotomy j i with hlt' | rfl | hgt
   ·simp only [hlt',decide_true]
    cases hl:listed.getD j false with
    | true => rfl
    | false => exact (((hind i j s s' hsi hj hlt' (hnot' j (by omega) hl)).1 d hdj) hd).elim
   ·simp [hun]
   ·have hf:decide (j < i)=false:=by simp;omega
    rw [hf]
    cases hl:listed.getD j false with
    | false => rfl
    | true => exact (((hind j i s' s hj hsi hgt (hnot j hl)).2 d hdj) hd).elim
  refine hst.2.2.2.2 c hc hn _ tm w lim X hpre (Zjj _ ss 0 σ (ZeB ss 0 σ hch) hpb) ⟨ZhI _ ss 0 σ (ZfV ss 0 σ hch) hN,fun d j hd=>(Zih _ ss 0 σ σ (ZdA ss 0 σ hch) (fun _ _ _=>rfl) d j hd).trans (Zi5 (ss.take i) σ σ (fun s' hs'=>ZdA ss 0 σ hch s' (List.mem_of_mem_take hs')) (fun _ _ _=>rfl) d j hd).symm⟩ hs Q _ fun tm' w' lim' X' hs'=>?_
  refine ih (listed.setIfInBounds i true) tm' w' lim' X' (by simpa using hsz) ?_ ?_ ?_
  ·intro k o' hk hl e he hb
   rw [hset] at hl ⊢
   by_cases hei:e.on=i
   ·simp [hei]
   ·rw [if_neg hei]
    by_cases hki:k=i
    ·subst hki
     rw [h2] at hk
     cases hk
     exact h3 e he hb
    ·rw [if_neg hki] at hl
     exact hcl k o' hk hl e he hb
  ·have hlt2:(List.range ops.size).countP (fun j=>!(listed.setIfInBounds i true).getD j false) < (List.range ops.size).countP (fun j=>!listed.getD j false):=by
    have key:∀ (l:List Nat),i∈l→l.countP (fun j=>!(listed.setIfInBounds i true).getD j false) < l.countP (fun j=>!listed.getD j false):=by
     have hle:∀ (l:List Nat),l.countP (fun j=>!(listed.setIfInBounds i true).getD j false)≤l.countP (fun j=>!listed.getD j false):=by
      intro l
      refine List.countP_mono_left fun j _ hj=>?_
      rw [hset] at hj
      split at hj
      ·simp at hj
      ·exact hj
     intro l
     induction l with
     | nil => intro h; cases h
     | cons x l ihl =>
      intro h
      rw [List.countP_cons,List.countP_cons]
      by_cases hx:x=i
      ·subst hx
       have h1:(listed.setIfInBounds x true).getD x false=true:=by rw [hset,if_pos rfl]
       have:=hle l
       rw [h1,hun]
       simp only [Bool.not_true,Bool.not_false,Bool.false_eq_true,if_false,if_true]
       omega
      ·have:=ihl (by rcases List.mem_cons.1 h with h | h;exact (hx h.symm).elim;exact h)
       rw [hset x,if_neg hx]
       omega
    exact key _ (by simpa using hlt)
   omega
  ·have he:comp (fun j=>(listed.setIfInBounds i true).getD j false) 0 σ ss=Jl (comp (fun i=>listed.getD i false) 0 σ ss) s.ups:=by
    funext d
    rw [Jm]
    by_cases hd:d∈s.ups.map (·.1)
    ·have hdF:d∈s.F:=by
      obtain ⟨u,hu,rfl⟩:=List.mem_map.1 hd
      exact hst.1 u hu
     -- nothing behind i that is listed writes d
     rw [Vj (d:=d) _ (fun j=>decide (j < i+1)) ss 0 σ σ rfl fun j s' hj hdj=>?_]
     ·have:=ZaT ss 0 σ (i+1)
      rw [Nat.zero_add] at this
      rw [this,List.take_add_one,hsi]
      have happ:∀ (l:List Stp) (τ:Nat→AV),ZeH τ (l++[s])=Jl (ZeH τ l) s.ups:=by
       intro l
       induction l with
       | nil => intro τ; rfl
       | cons x l ihl => intro τ; exact ihl _
      show ZeH σ (ss.take i++[s]) d=_
      rw [happ,Jm]
      obtain ⟨x,hx⟩:=Vg s.ups d hd
      rw [hx]
      rfl
     ·rw [Nat.zero_add,hset]
      rcases Nat.lt_trichotomy j i with hlt' | rfl | hgt
      ·have:decide (j < i+1)=true:=by simp;omega
       rw [this,if_neg (by omega)]
       cases hl:listed.getD j false with
       | true => rfl
       | false => exact (((hind i j s s' hsi hj hlt' (hnot' j (by omega) hl)).1 d hdj) hdF).elim
      ·simp
      ·have:decide (j < i+1)=false:=by simp;omega
       rw [this,if_neg (by omega)]
       cases hl:listed.getD j false with
       | false => rfl
       | true => exact (((hind j i s' s hj hsi hgt (hnot j hl)).2 d hdj) hdF).elim
    ·rw [YF s.ups d hd]
     refine Vj _ _ ss 0 σ σ rfl fun j s' hj hdj=>?_
     rw [Nat.zero_add,hset]
     by_cases hji:j=i
     ·subst hji
      rw [hsi] at hj
      cases hj
      exact (hd hdj).elim
     ·rw [if_neg hji]
   rw [he]
   exact hs'
end
theorem Zc8 {ops:Array Oper} {S:Nat→Prop} (hS:∀ k o,ops[k]? = some o→S k→∀ e∈o.after,Region.binds .any e=true→S e.on) (i j:Nat) (hi:S i)
  (hb:((Region.before ops).getD i 0).testBit j=true):S j:=by
 have inner:∀ (acc:Array Nat),(∀ i j,S i→(acc.getD i 0).testBit j=true→S j)→∀ (l:List Edge),(∀ e∈l,Region.binds .any e=true→S e.on)→∀ (s:Nat),(∀ j,s.testBit j=true→S j)→
   ∀ j,(l.foldl (fun s e=>if Region.binds .any e then s||| 2^e.on||| acc.getD e.on 0 else s) s).testBit j=true→S j:=by
  intro acc hacc l
  induction l with
  | nil => intro _ s hs j hj; exact hs j hj
  | cons e l ih =>
   intro hl s hs j hj
   rw [List.foldl_cons] at hj
   refine ih (fun e' he'=>hl e' (by simp [he'])) _ ?_ j hj
   intro j' hj'
   split at hj'
   ·rename_i hbd
    have hon:=hl e (by simp) hbd
    rw [Nat.testBit_or,Nat.testBit_or,Nat.testBit_two_pow,Bool.or_eq_true,Bool.or_eq_true,decide_eq_true_eq] at hj'
    rcases hj' with (h | h) | h
    ·exact hs j' h
    ·rw [← h];exact hon
    ·exact hacc e.on j' hon h
   ·exact hs j' hj'
 have outer:∀ (l:List Oper) (acc:Array Nat),(∀ j,l[j]? = ops[acc.size+j]?)→(∀ i j,S i→(acc.getD i 0).testBit j=true→S j)→
   ∀ i j,S i→((l.foldl (fun acc o=>acc.push (o.after.foldl (fun s e=>if Region.binds .any e then s||| 2^e.on||| acc.getD e.on 0 else s) 0)) acc).getD i 0).testBit j=true→S j:=by
  intro l
  induction l with
  | nil => intro acc _ hacc i j hi hj; exact hacc i j hi hj
  | cons o l ih =>
   intro acc hl hacc i j hi hj
   rw [List.foldl_cons] at hj
   refine ih _ (fun j=>?_) ?_ i j hi hj
   ·have:=hl (j+1)
    simp only [List.getElem?_cons_succ,Array.size_push] at this ⊢
    rw [this]
    congr 1
    omega
   ·intro i' j' hi' hj'
    have h0:ops[acc.size]? = some o:=by simpa using (hl 0).symm
    by_cases h:i' < acc.size
    ·refine hacc i' j' hi' ?_
     simp only [Array.getD,Array.size_push,h,dite_true] at hj' ⊢
     rw [dif_pos (by omega)] at hj'
     simp only [Array.getInternal_eq_getElem,Array.getElem_push,h,dite_true] at hj' ⊢
     exact hj'
    ·by_cases h':i'=acc.size
     ·subst h'
      have:(acc.push (o.after.foldl (fun s e=>if Region.binds .any e then s||| 2^e.on||| acc.getD e.on 0 else s) 0)).getD acc.size 0=o.after.foldl (fun s e=>if Region.binds .any e then s||| 2^e.on||| acc.getD e.on 0 else s) 0:=by
       simp [Array.getD]
      rw [this,← Array.foldl_toList] at hj'
      exact inner acc hacc o.after.toList (fun e he hb=>hS acc.size o h0 hi' e (by simpa using he) hb) 0 (by simp) j' hj'
     ·have:(acc.push (o.after.foldl (fun s e=>if Region.binds .any e then s||| 2^e.on||| acc.getD e.on 0 else s) 0)).getD i' 0=0:=by
       simp only [Array.getD,Array.size_push]
       rw [dif_neg (by omega)]
      rw [this] at hj'
      simp at hj'
 have:=outer ops.toList #[] (fun j=>by simp) (fun i j _ h=>by simp at h) i j hi
 apply this
 rw [Array.foldl_toList]
 exact hb
end Go.AM
end

section
namespace Go.AM
theorem Tr.get_set:∀ (k:Nat) (t:Tr) (d i:Nat) (x:SV),d < 2^k→i < 2^k→(Tr.set k t d x).get i=if i=d then x else t.get i
 | 0, t, d, i, x, hd, hi => by
  have h1:d=0:=by simpa using hd
  have h2:i=0:=by simpa using hi
  subst h1
  subst h2
  rfl
 | k + 1, .node l r, d, i, x, hd, hi => by
  have hd2:d / 2 < 2^k:=by rw [Nat.pow_succ] at hd;omega
  have hi2:i / 2 < 2^k:=by rw [Nat.pow_succ] at hi;omega
  have ihl:=Tr.get_set k l (d / 2) (i / 2) x hd2 hi2
  have ihr:=Tr.get_set k r (d / 2) (i / 2) x hd2 hi2
  rcases Nat.mod_two_eq_zero_or_one d with h | h<;>rcases Nat.mod_two_eq_zero_or_one i with h' | h'
  ·simp only [Tr.set,h,Tr.get,h',ihl]
   by_cases he:i=d
   ·simp [he]
   ·rw [if_neg he,if_neg (by omega)]
  ·simp only [Tr.set,h,Tr.get,h']
   rw [if_neg (by omega)]
  ·simp only [Tr.set,h,Tr.get,h']
   rw [if_neg (by omega)]
  ·simp only [Tr.set,h,Tr.get,h',ihr]
   by_cases he:i=d
   ·simp [he]
   ·rw [if_neg he,if_neg (by omega)]
 | k + 1, .leaf y, d, i, x, hd, hi => by
  have hd2:d / 2 < 2^k:=by rw [Nat.pow_succ] at hd;omega
  have hi2:i / 2 < 2^k:=by rw [Nat.pow_succ] at hi;omega
  have ih:=Tr.get_set k (.leaf y) (d / 2) (i / 2) x hd2 hi2
  rcases Nat.mod_two_eq_zero_or_one d with h | h<;>rcases Nat.mod_two_eq_zero_or_one i with h' | h'
  ·simp only [Tr.set,h,Tr.get,h',ih]
   by_cases he:i=d
   ·simp [he]
   ·rw [if_neg he,if_neg (by omega)]
  ·simp only [Tr.set,h,Tr.get,h']
   rw [if_neg (by omega)]
  ·simp only [Tr.set,h,Tr.get,h']
   rw [if_neg (by omega)]
  ·simp only [Tr.set,h,Tr.get,h',ih]
   by_cases he:i=d
   ·simp [he]
   ·rw [if_neg he,if_neg (by omega)]
def ZP (E:Env) (s:Tr) (ρ:Nat→V):Nat→AV:=fun d=>(gE E s d).den ρ
def KE (E:Env) (s:Tr) (n:Nat):Prop:=∀ d,(gE E s d).bd n
section
variable {P:Program} {E:Env} {R:AV→List AV→Prop} {A:Nat→List V→Prop}
theorem JN {d:Nat} (h:d < E.nt):d < E.top:=Nat.lt_of_lt_of_le h (Nat.le_add_right _ _)
theorem ZkW (hnt:E.top≤1024) {d:Nat} (hd:d < E.top) (s:Tr) (x:SV) (i:Nat):gE E (s.set depth d x) i=if i=d then x else gE E s i:=by
 unfold gE
 by_cases hi:i < E.top
 ·rw [if_pos hi,if_pos hi]
  exact Tr.get_set 10 s d i x (by omega) (by omega)
 ·rw [if_neg hi,if_neg hi,if_neg (by omega)]
theorem Yp (hnt:E.top≤1024) {d:Nat} (hd:d < E.top) (s:Tr) (x:SV) (ρ:Nat→V):ZP E (s.set depth d x) ρ=upd (ZP E s ρ) d (x.den ρ):=by
 funext i
 simp only [ZP,ZkW hnt hd,upd]
 split<;>rfl
theorem JR (hnt:E.top≤1024) {d n:Nat} (hd:d < E.top) {s:Tr} {x:SV} (hs:KE E s n) (hx:x.bd n):KE E (s.set depth d x) n:=by
 intro i
 rw [ZkW hnt hd]
 split
 ·exact hx
 ·exact hs i
def Ky (E:Env) (us:Ups):Prop:=us.all (fun u=>decide (u.1 < E.top))=true
theorem Jz (hnt:E.top≤1024) (ρ:Nat→V):∀ (us:Ups) (s:Tr),Ky E us→ZP E (Jg us s) ρ=Jl (ZP E s ρ) (us.map fun u=>(u.1,u.2.den ρ))
 | [], _, _ => rfl
 | (d, x) :: us, s, h => by
  simp only [Ky,List.all_cons,Bool.and_eq_true,decide_eq_true_eq] at h
  simp only [Jg,List.map_cons,Jl]
  rw [Jz hnt ρ us _ h.2,Yp hnt h.1]
theorem Jq (hnt:E.top≤1024) {n:Nat} : ∀ (us:Ups) (s:Tr),Ky E us→KE E s n→(∀ u∈us,u.2.bd n)→KE E (Jg us s) n
 | [], _, _, hs, _ => hs
 | (d, x) :: us, s, h, hs, hu => by
  simp only [Ky,List.all_cons,Bool.and_eq_true,decide_eq_true_eq] at h
  exact Jq hnt us _ h.2 (JR hnt h.1 hs (hu (d,x) (by simp))) fun u h'=>hu u (by simp [h'])
theorem ZeI {s:Tr} {n n':Nat} (h:KE E s n) (hn:n≤n'):KE E s n':=fun d=>SV.bd_mono hn _ (h d)
theorem ZcS {s:Tr} {n:Nat} {ρ ρ':Nat→V} (h:KE E s n) (hρ:∀ m,m < n→ρ' m=ρ m):ZP E s ρ'=ZP E s ρ:=by
 funext d
 exact SV.den_congr hρ _ (h d)
theorem Zcm {x:SV} (ρ:Nat→V) (h:∀ cs,x≠.box cs):∀ cs,x.den ρ≠.box cs:=by
 intro cs he
 cases x with
 | box ds => exact h ds rfl
 | c y => cases y <;> cases he
 | _ => cases he
theorem Zdx {x:SV} (ρ:Nat→V) (h:∀ cs,x≠.gbox cs):(x.den ρ).isG=false:=by
 cases x with
 | gbox cs => exact (h cs rfl).elim
 | c y => cases y <;> rfl
 | _ => rfl
theorem Zhh {a b:AV} (ga:a.isG=false) (gb:b.isG=false) (ha:Vn a) (hb:(∀ cs,b≠.box cs)∨a = .dead):VG a b=true:=by
 unfold VG
 split
 ·cases ga
 ·cases gb
 ·rename_i cs _;exact (ha.1 cs rfl).elim
 ·exact (ha.2.1 _ _ rfl).elim
 ·rfl
 ·rename_i h1 h2
  rcases hb with hb | hb
  ·exact (hb _ rfl).elim
  ·exact (h2 hb).elim
 ·rfl
theorem Zi1 {x:SV} (ρ:Nat→V) (h:∀ cs,x≠.box cs) (h':∀ e l,x≠.own true e l) (h3:∀ cs,x≠.gbox cs):Vn (x.den ρ):=by
 refine ⟨Zcm ρ h,fun e xs he=>?_,fun cs he=>by have:=Zdx ρ h3;rw [he] at this;cases this⟩
 cases x with
 | own b e' l =>
  cases b with
  | true => exact h' _ _ rfl
  | false => cases he
 | c y => cases y <;> cases he
 | _ => cases he
theorem Ya {a b:SV} (ρ:Nat→V) (h:W3 a b=true):VG (a.den ρ) (b.den ρ)=true:=by
 have h1:∀ cs,a≠.box cs:=by
  rintro cs rfl
  cases b<;>cases h
 have h2:∀ e l,a≠.own true e l:=by
  rintro e l rfl
  cases b<;>cases h
 have h3:∀ cs,a≠.gbox cs:=by
  rintro cs rfl
  cases b<;>cases h
 have h4:∀ cs,b≠.gbox cs:=by
  rintro cs rfl
  cases a with
  | own x e l => cases x <;> cases h
  | _ => cases h
 refine Zhh (Zdx ρ h3) (Zdx ρ h4) (Zi1 ρ h1 h2 h3) ?_
 by_cases hd:a = .dead
 ·subst hd;exact .inr rfl
 ·refine .inl (Zcm ρ ?_)
  rintro cs rfl
  cases a with
  | dead => exact hd rfl
  | own x e l => cases x <;> cases h
  | _ => cases h
theorem Zhp {c:Ctx} {σ:Nat→AV} {tm:Array Value} {w:World} {lim:Nat→Nat} {X:Nat→Nat→Option Nat} (h:Sim c σ tm w lim X) {ops:Array Oper} {j gd:Nat} {b:Bool}
  (hd:(ops[j]?).bind (·.dst)=some gd) (hb:σ gd = .val (.bool b)):yielded ops tm j=some b:=by
 have hlt:gd < tm.size:=by
  rcases Nat.lt_or_ge gd c.nt with h1 | h1
  ·rw [h.size];exact h1
  ·have:=h.out gd h1;rw [hb] at this;rcases this with h2 | h2<;>cases h2
 have hr:=h.rel gd
 rw [hb] at hr
 have hv:tm.getD gd undef = .bool b:=KP hr
 have h2:tm[gd]? = some (.bool b):=by
  simp only [Array.getD,hlt,dite_true] at hv
  rw [Array.getElem?_eq_getElem hlt]
  exact congrArg some hv
 unfold yielded
 simp only [hd,Option.bind_some,h2]
theorem Zey {c:Ctx} {σ:Nat→AV} {tm:Array Value} {w:World} {lim:Nat→Nat} {X:Nat→Nat→Option Nat} (h:Sim c σ tm w lim X) {ops:Array Oper} {j gd:Nat}
  (hd:(ops[j]?).bind (·.dst)=some gd) (hb:σ gd = .tuple []):yielded ops tm j=none:=by
 have hr:=h.rel gd
 rw [hb] at hr
 obtain ⟨us,h1,h2,_⟩:=hr
 have:us = []:=List.eq_nil_of_length_eq_zero h2
 subst this
 unfold yielded
 simp only [hd,Option.bind_some]
 by_cases hlt:gd < tm.size
 ·simp only [Array.getD,hlt,dite_true] at h1
  have h3:tm[gd]? = some (.tuple #[]):=by
   rw [Array.getElem?_eq_getElem hlt]
   exact congrArg some h1
  simp only [h3]
 ·simp only [Array.getElem?_eq_none (Nat.le_of_not_lt hlt)]
theorem Sim.putUndef {c:Ctx} {σ:Nat→AV} {tm:Array Value} {w:World} {lim:Nat→Nat} {X:Nat→Nat→Option Nat} (h:Sim c σ tm w lim X) {d:Nat} (hd:d < c.nt) (hb:Vn (σ d)) :
  ∃ X',Sim c (upd σ d (.tuple [])) (tm.setIfInBounds d undef) w lim X':=
 ⟨_,h.putRow JK (ZJ.refl w lim (fun _=>False)) (fun _ hs=>hs.elim) hd (by simp) (fun i hi=>ZO tm d i undef hi) (.inl hb.1) (fun i q hi hr=>(h.noRefs hb.none i q hi hr).elim)
  ⟨[],by rw [JJ tm d undef (by rw [h.size];exact hd)];rfl,rfl,by simp⟩ (fun k b hk=>by simp [JK] at hk) (fun k k' b hk=>by simp [JK] at hk)⟩
def Zfq (ops:Array Oper) (o:Oper) (σ:Nat→AV) (gs:List Nat) (v:Bool):Prop:=
 (o.guard=none∧v=true)∨(∃ j want gd b,o.guard=some (j,want)∧(ops[j]?).bind (·.dst)=some gd∧gd∈gs∧σ gd = .val (.bool b)∧(v=true↔want=b))∨
 ∃ j want gd,o.guard=some (j,want)∧(ops[j]?).bind (·.dst)=some gd∧gd∈gs∧σ gd = .tuple []∧v=false
theorem Wc {ops:Array Oper} {o:Oper} {σ:Nat→AV} {gs:List Nat} {v:Bool} (hg:Zfq ops o σ gs v) {c:Ctx} {σ':Nat→AV} {tm:Array Value} {w:World} {lim:Nat→Nat} {X:Nat→Nat→Option Nat}
  (h:Sim c σ' tm w lim X) (hag:∀ d∈gs,σ' d=σ d):Region.wanted o (yielded ops tm)=v:=by
 rcases hg with ⟨h1,h2⟩ | ⟨j,want,gd,b,h1,h2,h3,h4,h5⟩ | ⟨j,want,gd,h1,h2,h3,h4,h5⟩
 ·unfold Region.wanted;rw [h1,h2]
 ·have hy:=Zhp h h2 ((hag gd h3).trans h4)
  unfold Region.wanted
  rw [h1]
  simp only [hy]
  cases v<;>cases want<;>cases b<;>simp_all
 ·have hy:=Zey h h2 ((hag gd h3).trans h4)
  unfold Region.wanted
  rw [h1,h5]
  simp only [hy]
  rfl
theorem Zgn {x:SV} (ρ:Nat→V) (h:ZkT x=true):ZcK (x.den ρ):=by
 unfold ZkT at h
 split at h
 ·rename_i cs;exact ⟨_,rfl⟩
 ·cases h
theorem ZaZ {T:Odr} {i:Nat} {x:SV} (ρ:Nat→V) (h:ZaY T i x=true):∀ d k,T.nr d i=true→¬ Z8 (x.den ρ) d k:=by
 intro d k hd hr
 cases x with
 | mref d' k' =>
  rcases hr with hr | ⟨_,hr⟩ <;> cases hr
  simp [ZaY,hd] at h
 | eref d' k' i s o =>
  rcases hr with hr | ⟨_,hr⟩ <;> cases hr
  simp [ZaY,hd] at h
 | c y => rcases hr with hr | ⟨_, hr⟩ <;> cases y <;> cases hr
 | _ => rcases hr with hr | ⟨_, hr⟩ <;> cases hr
def Va (T:Odr) (P:Program) (E:Env) (R:AV→List AV→Prop) (A:Nat→List V→Prop) (B:Nat→Bool) (ops:Array Oper) (i:Nat) (s:Tr) (ρ:Nat→V) (cont:Tr→Nat→Log→STree):Prop:=
 ∃ (st:Stp) (ρ':Nat→V) (n':Nat) (s':Tr),KE E s' n'∧(cont s' n' ⟨i,st.F,st.ups.map (·.1)⟩).wp P R A ρ'∧ZlI T P E.nt ops (fun d=>B d=true) i (ZP E s ρ) st∧ZP E s' ρ'=Jl (ZP E s ρ) st.ups
variable {ops:Array Oper} {o:Oper} {i:Nat} {s:Tr} {n:Nat} {ρ:Nat→V} {cont:Tr→Nat→Log→STree} {gs:List Nat} {tx:Odr} {tk:Bool} {B:Nat→Bool}
theorem Zeo {P:Program} {R:AV→List AV→Prop} {A:Nat→List V→Prop} {ρ:Nat→V} : ∀ (q:List (IE×IE)) (t:STree),(Zir q t).wp P R A ρ→(∀ p∈q,p.1.den ρ=p.2.den ρ)∧t.wp P R A ρ
 | [], t, h => ⟨by simp, h⟩
 | (a, b) :: q, t, h => by
  obtain ⟨h1,h2,h3⟩:=h
  obtain ⟨h4,h5⟩:=Zeo q t h3
  refine ⟨fun p hp=>?_,h5⟩
  rcases List.mem_cons.1 hp with rfl | hp
  ·exact Int.le_antisymm h1 h2
  ·exact h4 p hp
theorem Zaw (ρ:Nat→V) {kp:Nat→Bool} : ∀ {cs' cs:List BC} {j:Nat} {r:List BC} {q:List (IE×IE)},Zad kp j cs' cs=some (r,q)→(∀ p∈q,p.1.den ρ=p.2.den ρ)→
  r.map (BC.den ρ)=cs'.map (BC.den ρ)∧∀ i,kp (j+i)=true→((r.map (BC.den ρ))[i]?).map JL=((cs.map (BC.den ρ))[i]?).map JL
 | [], [], j, r, q, h, _ => by
  simp only [Zad,Option.some.injEq,Prod.mk.injEq] at h
  obtain ⟨rfl,rfl⟩:=h
  exact ⟨rfl,fun _ _=>rfl⟩
 | [], _ :: _, _, _, _, h, _ => by simp [Zad] at h
 | _ :: _, [], _, _, _, h, _ => by simp [Zad] at h
 | c' :: cs', c :: cs, j, r, q, h, hq => by
  simp only [Zad] at h
  split at h
  ·rename_i r1 q1 h1
   split at h
   ·rename_i hk
    split at h
    ·rename_i k' e' k e
     split at h
     ·rename_i hkk
      subst hkk
      simp only [Option.some.injEq,Prod.mk.injEq] at h
      obtain ⟨rfl,rfl⟩:=h
      obtain ⟨g1,g2⟩:=Zaw ρ h1 fun p hp=>hq p (by simp [hp])
      have he:e'.den ρ=e.den ρ:=hq (e',e) (by simp)
      refine ⟨?_,fun i hi=>?_⟩
      ·simp only [List.map_cons,g1,BC.den,SC.den,he]
      ·cases i with
       | zero => rfl
       | succ i => simpa using g2 i (by rw [show j + 1 + i = j + (i + 1) by omega]; exact hi)
     ·cases h
    ·rename_i t' l' t l
     split at h
     ·rename_i hkk
      subst hkk
      simp only [Option.some.injEq,Prod.mk.injEq] at h
      obtain ⟨rfl,rfl⟩:=h
      obtain ⟨g1,g2⟩:=Zaw ρ h1 hq
      refine ⟨by simp only [List.map_cons,g1],fun i hi=>?_⟩
      cases i with
      | zero => rfl
      | succ i => simpa using g2 i (by rw [show j + 1 + i = j + (i + 1) by omega]; exact hi)
     ·cases h
    ·cases h
   ·rename_i hk
    simp only [Option.some.injEq,Prod.mk.injEq] at h
    obtain ⟨rfl,rfl⟩:=h
    obtain ⟨g1,g2⟩:=Zaw ρ h1 hq
    refine ⟨by simp only [List.map_cons,g1],fun i hi=>?_⟩
    cases i with
    | zero => rw [Nat.add_zero, hk] at hi; cases hi
    | succ i => simpa using g2 i (by rw [show j + 1 + i = j + (i + 1) by omega]; exact hi)
  ·cases h
theorem Zec {kp:Nat→Bool} : ∀ {cs' cs:List BC} {j:Nat} {r:List BC} {q:List (IE×IE)},Zad kp j cs' cs=some (r,q)→∀ b∈r,b∈cs'∨b∈cs
 | [], [], j, r, q, h => by
  simp only [Zad,Option.some.injEq,Prod.mk.injEq] at h
  obtain ⟨rfl,rfl⟩:=h
  simp
 | [], _ :: _, _, _, _, h => by simp [Zad] at h
 | _ :: _, [], _, _, _, h => by simp [Zad] at h
 | c' :: cs', c :: cs, j, r, q, h => by
  simp only [Zad] at h
  split at h
  ·rename_i r1 q1 h1
   have ih:=Zec h1
   have key:∀ b∈r1,b∈c'::cs'∨b∈c::cs:=fun b hb=>by
    rcases ih b hb with h2 | h2
    ·exact .inl (by simp [h2])
    ·exact .inr (by simp [h2])
   split at h
   ·split at h
    ·split at h
     ·simp only [Option.some.injEq,Prod.mk.injEq] at h
      obtain ⟨rfl,rfl⟩:=h
      intro b hb
      rcases List.mem_cons.1 hb with rfl | hb
      ·exact .inr (by simp)
      ·exact key b hb
     ·cases h
    ·split at h
     ·simp only [Option.some.injEq,Prod.mk.injEq] at h
      obtain ⟨rfl,rfl⟩:=h
      intro b hb
      rcases List.mem_cons.1 hb with rfl | hb
      ·exact .inl (by simp)
      ·exact key b hb
     ·cases h
    ·cases h
   ·simp only [Option.some.injEq,Prod.mk.injEq] at h
    obtain ⟨rfl,rfl⟩:=h
    intro b hb
    rcases List.mem_cons.1 hb with rfl | hb
    ·exact .inl (by simp)
    ·exact key b hb
  ·cases h
theorem ZnU {T:Odr} {d j:Nat} (h:T.kp d j=true):T.kpAt d=true:=by
 cases T with
 | text => cases h
 | any N M K =>
  simp only [Odr.kp,Odr.kpAt,List.contains_iff_mem,List.any_eq_true] at h ⊢
  exact ⟨_,h,by simp⟩
theorem Zhy (ρ:Nat→V) {T:Odr} {g:Nat→SV} {u u':Nat×SV} {q:List (IE×IE)} (h:Zit T g u=some (u',q)) (hq:∀ p∈q,p.1.den ρ=p.2.den ρ) :
  (u'.1,u'.2.den ρ)=(u.1,u.2.den ρ)∧(∀ j,T.kp u'.1 j=true→Jb (u'.2.den ρ) j=Jb ((g u'.1).den ρ) j)∧∀ n,u.2.bd n→(∀ i,(g i).bd n)→u'.2.bd n:=by
 unfold Zit at h
 split at h
 ·split at h
  ·rename_i cs' cs hu hgu
   split at h
   ·rename_i r q1 h1
    simp only [Option.some.injEq,Prod.mk.injEq] at h
    obtain ⟨rfl,rfl⟩:=h
    obtain ⟨g1,g2⟩:=Zaw ρ h1 hq
    refine ⟨?_,fun j hj=>?_,fun n hb hg=>?_⟩
    ·rw [hu];simp only [SV.den,g1]
    ·rw [hgu]
     exact g2 j (by rw [Nat.zero_add];exact hj)
    ·rw [hu] at hb
     have hb2:=hg u.1
     rw [hgu] at hb2
     intro b hbr
     rcases Zec h1 b hbr with h2 | h2
     ·exact hb b h2
     ·exact hb2 b h2
   ·cases h
  ·cases h
 ·rename_i hk
  simp only [Option.some.injEq,Prod.mk.injEq] at h
  obtain ⟨rfl,rfl⟩:=h
  exact ⟨rfl,fun j hj=>(by rw [ZnU hj] at hk;cases hk),fun n hb _=>hb⟩
theorem Zcu (ρ:Nat→V) {T:Odr} {g:Nat→SV} : ∀ {us us':Ups} {q:List (IE×IE)},Wy T g us=some (us',q)→(∀ p∈q,p.1.den ρ=p.2.den ρ)→
  (us'.map fun u=>(u.1,u.2.den ρ))=(us.map fun u=>(u.1,u.2.den ρ))∧(∀ u∈us',∀ j,T.kp u.1 j=true→Jb (u.2.den ρ) j=Jb ((g u.1).den ρ) j)∧∀ n,(∀ u∈us,u.2.bd n)→(∀ i,(g i).bd n)→∀ u∈us',u.2.bd n
 | [], us', q, h, _ => by
  simp only [Wy,Option.some.injEq,Prod.mk.injEq] at h
  obtain ⟨rfl,rfl⟩:=h
  exact ⟨rfl,by simp,by simp⟩
 | u :: us, us', q, h, hq => by
  simp only [Wy] at h
  split at h
  ·rename_i u1 q1 us1 q2 h1 h2
   simp only [Option.some.injEq,Prod.mk.injEq] at h
   obtain ⟨rfl,rfl⟩:=h
   obtain ⟨a1,a2,a3⟩:=Zhy ρ h1 fun p hp=>hq p (by simp [hp])
   obtain ⟨b1,b2,b3⟩:=Zcu ρ h2 fun p hp=>hq p (by simp [hp])
   refine ⟨by simp only [List.map_cons,a1,b1],fun v hv=>?_,fun n hb hg v hv=>?_⟩
   ·rcases List.mem_cons.1 hv with rfl | hv
    ·exact a2
    ·exact b2 v hv
   ·rcases List.mem_cons.1 hv with rfl | hv
    ·exact a3 n (hb u (by simp)) hg
    ·exact b3 n (fun w hw=>hb w (by simp [hw])) hg v hv
  ·cases h
theorem VC (hps:EnvSound P E) (hnt:E.top≤1024) (hKB:∀ d j,tx.kp d j=true→B d=true) (hB:∀ d,B d=true→ZcK (ZP E s ρ d)) (hi:ops[i]? = some o) (hs:KE E s n) (hg:Zfq ops o (ZP E s ρ) gs true) (h:(ZgU P E tx tk B o i s gs n cont).wp P R A ρ) :
  Va tx P E R A B ops i s ρ cont:=by
 obtain ⟨ρ',n',x,us0,fp,h1,h2,h3,h40,h50,h60⟩:=Zhl hps hs (fun i hi=>by unfold gE;rw [if_neg (by omega)]) h
 have hσ:(fun d=>(gE E s d).den ρ)=ZP E s ρ:=rfl
 rw [hσ] at h60
 have hs':KE E s n':=ZeI hs h1
 have hc:=ZcS hs h2
 dsimp only at h50
 cases hst:Wy tx (gE E s) us0 with
 | none => rw [hst] at h50; exact h50.elim
 | some rq =>
 obtain ⟨us,qs⟩:=rq
 rw [hst] at h50
 obtain ⟨hq,h5⟩:=Zeo qs _ h50
 obtain ⟨hus,hkp0,hbd⟩:=Zcu ρ' hst hq
 have h4:=hbd n' h40 hs'
 have h6:=h60
 rw [← hus] at h6
 have hkp:∀ u∈(us.map fun u=>(u.1,u.2.den ρ')),∀ j,tx.kp u.1 j=true→Jb u.2 j=Jb (ZP E s ρ u.1) j:=by
  intro u hu j hj
  obtain ⟨v,hv,rfl⟩:=List.mem_map.1 hu
  rw [← hc]
  exact hkp0 v hv j hj
 clear h60 h50 h40 hus hkp0
 split at h5
 case isFalse=>exact h5.elim
 rename_i hall0
 obtain ⟨hall,hnx⟩:=hall0
 rw [List.all_eq_true] at hall
 have hlow:Ky E us:=by
  unfold Ky
  rw [List.all_eq_true]
  intro u hu
  have:=hall u hu
  rw [Bool.and_eq_true,Bool.and_eq_true] at this
  exact this.1.1
 have hups:∀ u∈(us.map fun u=>(u.1,u.2.den ρ')),B u.1=true→ZcK u.2:=by
  intro u hu hb
  obtain ⟨v,hv,rfl⟩:=List.mem_map.1 hu
  have:=hall v hv
  simp only [Bool.and_eq_true,Bool.or_eq_true,Bool.not_eq_true'] at this
  rcases this.1.2 with h0 | h0
  ·have hb':B v.1=true:=hb
   rw [hb'] at h0;cases h0
  ·exact Zgn ρ' h0
 have hnr:∀ u∈(us.map fun u=>(u.1,u.2.den ρ')),∀ d k,tx.nr d u.1=true→¬ Z8 u.2 d k:=by
  intro u hu
  obtain ⟨v,hv,rfl⟩:=List.mem_map.1 hu
  have:=hall v hv
  rw [Bool.and_eq_true] at this
  exact ZaZ ρ' this.2
 have hids:∀ (σ':Nat→AV),(∀ d∈(KJ o).filter (fun t=>!B t),σ' d=ZP E s ρ d)→(∀ d,B d=true→ZcK (σ' d))→∀ d∈KJ o,ZcT (ZP E s ρ d) (σ' d):=by
  intro σ' h0 h1 d hd
  cases hb:B d with
  | true => exact .inr ⟨hB d hb, h1 d hb⟩
  | false => exact .inl (h0 d (List.mem_filter.2 ⟨hd, by simp [hb]⟩))
 have hfst:(us.map fun u=>(u.1,u.2.den ρ')).map (·.1)=us.map (·.1):=by rw [List.map_map];rfl
 have hden:ZP E (Jg us s) ρ'=Jl (ZP E s ρ) (us.map fun u=>(u.1,u.2.den ρ')):=by rw [Jz hnt ρ' us s hlow,hc]
 split at h5
 ·rename_i d hd
  split at h5
  ·rename_i hh
   refine ⟨⟨(KJ o).filter (fun t=>!B t)++gs++fp++us.map (·.1)++[d],(us.map fun u=>(u.1,u.2.den ρ'))++[(d,x.den ρ')]⟩,ρ',n',(Jg us s).set depth d x,JR hnt (JN hh.1) (Jq hnt us s hlow hs' h4) h3,?_,⟨?_,?_,?_,?_,?_⟩,?_⟩
   ·rw [List.map_append,hfst]
    exact h5
   ·intro u hu
    rcases List.mem_append.1 hu with hu | hu
    ·refine List.mem_append.2 (.inl (List.mem_append.2 (.inr ?_)))
     rw [← hfst]
     exact List.mem_map.2 ⟨u,hu,rfl⟩
    ·rw [List.mem_singleton] at hu
     subst hu
     simp
   ·intro u hu hb
    rcases List.mem_append.1 hu with hu | hu
    ·exact hups u hu hb
    ·rw [List.mem_singleton] at hu
     subst hu
     have hb':B d=true:=hb
     rw [hh.2.2] at hb'
     cases hb'
   ·intro u hu
    rcases List.mem_append.1 hu with hu | hu
    ·exact hnr u hu
    ·rw [List.mem_singleton] at hu
     subst hu
     unfold Zgb at hnx
     rw [hd] at hnx
     exact ZaZ ρ' hnx
   ·intro u hu j hj
    rcases List.mem_append.1 hu with hu | hu
    ·exact hkp u hu j hj
    ·rw [List.mem_singleton] at hu
     subst hu
     have hb':=hKB _ j hj
     rw [hh.2.2] at hb'
     cases hb'
   ·intro c hcP hcn σ' tm w lim X hag hpb hT hsim Q K hK
    unfold wpOp
    simp only [hi]
    rw [Wc hg hsim fun d' hd'=>hag d' (by simp [hd'])]
    rw [if_pos rfl]
    refine .inl (h6 c hcP σ' tm w lim X (hids σ' (fun d' hd'=>hag d' (by simp only [List.mem_append];exact .inl (.inl (.inl (.inl hd'))))) hpb) (fun d' hd'=>hag d' (by
     rw [hfst] at hd'
     simp only [List.mem_append] at hd' ⊢
     rcases hd' with hd' | hd'
     ·exact .inl (.inl (.inr hd'))
     ·exact .inl (.inr hd'))) hT hsim K Q fun v w' ha=>?_)
    rw [hd] at ha ⊢
    obtain ⟨lim',X',hsim'⟩:=ha (by rw [hcn];exact hh.1) (by
     have:Jl σ' (us.map fun u=>(u.1,u.2.den ρ')) d=(gE E (Jg us s) d).den ρ':=by
      have h7:=congrFun hden d
      rw [Jm] at h7 ⊢
      rw [hag d (by simp)]
      exact h7.symm
     rw [this]
     exact Ya ρ' hh.2.1)
    refine hK _ w' lim' X' ?_
    rw [Kq]
    exact hsim'
   ·rw [Yp hnt (JN hh.1),hden,Kq]
    rfl
  ·exact h5.elim
 ·rename_i hd
  refine ⟨⟨(KJ o).filter (fun t=>!B t)++gs++fp++us.map (·.1),us.map fun u=>(u.1,u.2.den ρ')⟩,ρ',n',Jg us s,Jq hnt us s hlow hs' h4,?_,⟨?_,hups,hnr,hkp,?_⟩,hden⟩
  ·rw [hfst]
   exact h5
  ·intro u hu
   refine List.mem_append.2 (.inr ?_)
   rw [← hfst]
   exact List.mem_map.2 ⟨u,hu,rfl⟩
  ·intro c hcP hcn σ' tm w lim X hag hpb hT hsim Q K hK
   unfold wpOp
   simp only [hi]
   rw [Wc hg hsim fun d' hd'=>hag d' (by simp [hd'])]
   rw [if_pos rfl]
   refine .inl (h6 c hcP σ' tm w lim X (hids σ' (fun d' hd'=>hag d' (by simp only [List.mem_append];exact .inl (.inl (.inl hd')))) hpb) (fun d' hd'=>hag d' (by
    rw [hfst] at hd'
    simp only [List.mem_append] at hd' ⊢
    rcases hd' with hd' | hd'
    ·exact .inl (.inr hd')
    ·exact .inr hd')) hT hsim K Q fun v w' ha=>?_)
   rw [hd] at ha ⊢
   obtain ⟨lim',X',hsim'⟩:=ha
   exact hK _ w' lim' X' hsim'
theorem KV (hnt:E.top≤1024) (hKB:∀ d j,tx.kp d j=true→B d=true) (hi:ops[i]? = some o) (hs:KE E s n) (hg:Zfq ops o (ZP E s ρ) gs false) (h:(ZaN E B o i s gs n cont).wp P R A ρ) :
  Va tx P E R A B ops i s ρ cont:=by
 unfold ZaN at h
 split at h
 ·rename_i d hd
  split at h
  ·rename_i hh
   refine ⟨⟨gs++[d],[(d,.tuple [])]⟩,ρ,n,s.set depth d (.tuple []),JR hnt (JN hh.1) hs (by simp [SV.bd]),h,⟨by simp,fun u hu hb=>?_,fun u hu d k _ hr=>?_,fun u hu j hj=>?_,?_⟩,Yp hnt (JN hh.1) _ _ _⟩
   ·rw [List.mem_singleton] at hu
    subst hu
    have hb':B d=true:=hb
    rw [hh.2.2] at hb'
    cases hb'
   ·rw [List.mem_singleton] at hu
    subst hu
    rcases hr with hr | ⟨_,hr⟩ <;> cases hr
   ·rw [List.mem_singleton] at hu
    subst hu
    have hb':=hKB _ j hj
    rw [hh.2.2] at hb'
    cases hb'
   intro c hcP hcn σ' tm w lim X hag hpb hT hsim Q K hK
   unfold wpOp
   simp only [hi]
   rw [Wc hg hsim fun d' hd'=>hag d' (by simp [hd'])]
   rw [if_neg (by simp),hd]
   obtain ⟨X',hs'⟩:=hsim.putUndef (d:=d) (by rw [hcn];exact hh.1) (by
    rw [hag d (by simp)]
    exact ZF (Ya ρ hh.2.1))
   exact hK _ w lim X' hs'
  ·exact h.elim
 ·rename_i hd
  refine ⟨⟨gs,[]⟩,ρ,n,s,hs,h,⟨by simp,by simp,by simp,by simp,?_⟩,rfl⟩
  intro c hcP hcn σ' tm w lim X hag hpb hT hsim Q K hK
  unfold wpOp
  simp only [hi]
  rw [Wc hg hsim hag]
  rw [if_neg (by simp),hd]
  exact hK _ w lim X hsim
theorem VI (hnt:E.top≤1024) {t:Nat} {b:BE} {v:Bool} (hb:gE E s t = .c (.bool b)) (hv:b.den ρ=v):t < E.top∧ZP E (s.set depth t (.c (.bool (.lit v)))) ρ=ZP E s ρ:=by
 have hlt:t < E.top:=by
  unfold gE at hb
  split at hb
  ·assumption
  ·cases hb
 refine ⟨hlt,?_⟩
 rw [Yp hnt hlt]
 funext d
 by_cases hd:d=t
 ·subst hd
  rw [Zv]
  simp only [ZP,hb,SV.den,SC.den,hv,BE.den]
 ·rw [Zb _ _ hd]
theorem ZdR (hps:EnvSound P E) (hnt:E.top≤1024) (hKB:∀ d j,tx.kp d j=true→B d=true) (hB:∀ d,B d=true→ZcK (ZP E s ρ d)) (hi:ops[i]? = some o) (hs:KE E s n) (h:(Zja P E tx tk B ops o i s n cont).wp P R A ρ):Va tx P E R A B ops i s ρ cont:=by
 unfold Zja at h
 split at h
 ·rename_i hg
  exact VC hps hnt hKB hB hi hs (.inl ⟨hg,rfl⟩) h
 ·rename_i j want hg
  split at h
  ·exact h.elim
  ·rename_i gd hgd
   split at h
   ·rename_i hb
    have hv:ZP E s ρ gd = .tuple []:=by simp only [ZP,hb];rfl
    exact KV hnt hKB hi hs (.inr (.inr ⟨j,want,gd,hg,hgd,by simp,hv,rfl⟩)) h
   ·rename_i b hb
    have hv:ZP E s ρ gd = .val (.bool b):=by simp only [ZP,hb];rfl
    split at h
    ·rename_i hw
     exact VC hps hnt hKB hB hi hs (.inr (.inl ⟨j,want,gd,b,hg,hgd,by simp,hv,by simp [hw]⟩)) h
    ·rename_i hw
     exact KV hnt hKB hi hs (.inr (.inl ⟨j,want,gd,b,hg,hgd,by simp,hv,by simp [hw]⟩)) h
   ·rename_i b _ hb
    obtain ⟨ht,hf⟩:=h
    have hcase:∀ v,b.den ρ=v→(if want=v then ZgU P E tx tk B o i (s.set depth gd (.c (.bool (.lit v)))) [gd] n cont else ZaN E B o i (s.set depth gd (.c (.bool (.lit v)))) [gd] n cont).wp P R A ρ→Va tx P E R A B ops i s ρ cont:=by
     intro v hv hw
     obtain ⟨hlt,hsame⟩:=VI hnt hb hv
     have hbd:KE E (s.set depth gd (.c (.bool (.lit v)))) n:=JR hnt hlt hs trivial
     have hval:ZP E (s.set depth gd (.c (.bool (.lit v)))) ρ gd = .val (.bool v):=by rw [hsame];simp only [ZP,hb,SV.den,SC.den,hv]
     have hgoal:Va tx P E R A B ops i (s.set depth gd (.c (.bool (.lit v)))) ρ cont:=by
      split at hw
      ·rename_i hw'
       exact VC hps hnt hKB (by rw [hsame];exact hB) hi hbd (.inr (.inl ⟨j,want,gd,v,hg,hgd,by simp,hval,by simp [hw']⟩)) hw
      ·rename_i hw'
       exact KV hnt hKB hi hbd (.inr (.inl ⟨j,want,gd,v,hg,hgd,by simp,hval,by simp [hw']⟩)) hw
     unfold Va at hgoal ⊢
     rw [hsame] at hgoal
     exact hgoal
    cases hv:b.den ρ with
    | true => exact hcase true hv (ht hv)
    | false => exact hcase false hv (hf hv)
   ·exact h.elim
def Zd8:Nat→List Stp→List Log
 | _, [] => []
 | i, s :: ss => Zd8 (i + 1) ss ++ [⟨i, s.F, s.ups.map (·.1)⟩]
theorem WO:∀ (ss:List Stp) (i j:Nat) (s:Stp),ss[j]? = some s→(⟨i+j,s.F,s.ups.map (·.1)⟩:Log)∈Zd8 i ss
 | [], i, j, s, h => by simp at h
 | s0 :: ss, i, 0, s, h => by
  simp only [List.getElem?_cons_zero,Option.some.injEq] at h
  subst h
  simp [Zd8]
 | s0 :: ss, i, j + 1, s, h => by
  have:=WO ss (i+1) j s (by simpa using h)
  rw [show i+(j+1)=i+1+j by omega]
  exact List.mem_append.2 (.inl this)
theorem ZaO (hps:EnvSound P E) (hnt:E.top≤1024) (hKB:∀ d j,tx.kp d j=true→B d=true) {tks:Nat→Bool} {k:Tr→Nat→List Log→STree} : ∀ (l:List Oper) (i:Nat) (s:Tr) (n:Nat) (logs:List Log) (ρ:Nat→V),(∀ j,l[j]? = ops[i+j]?)→(∀ d,B d=true→ZcK (ZP E s ρ d))→KE E s n→
  (Zky P E tx tks B ops l i s n logs k).wp P R A ρ→∃ (ss:List Stp) (ρ':Nat→V) (n':Nat) (s':Tr),ss.length=l.length∧KE E s' n'∧(k s' n' (Zd8 i ss++logs)).wp P R A ρ'∧
   Zd1 tx P E.nt ops (fun d=>B d=true) i (ZP E s ρ) ss∧ZP E s' ρ'=ZeH (ZP E s ρ) ss
 | [], i, s, n, logs, ρ, _, _, hs, h => ⟨[], ρ, n, s, rfl, hs, h, trivial, rfl⟩
 | o :: l, i, s, n, logs, ρ, hl, hB, hs, h => by
  have h0:ops[i]? = some o:=by simpa using (hl 0).symm
  obtain ⟨st,ρ1,n1,s1,g1,g2,g3,g4⟩:=ZdR hps hnt hKB hB h0 hs h
  obtain ⟨ss,ρ2,n2,s2,k1,k2,k3,k4,k5⟩:=ZaO hps hnt hKB l (i+1) s1 n1 _ ρ1 (fun j=>by
   have:=hl (j+1)
   rw [show i+(j+1)=i+1+j by omega] at this
   simpa using this) (by rw [g4];exact Zdi _ _ g3.2.1 hB) g1 g2
  refine ⟨st::ss,ρ2,n2,s2,by simp [k1],k2,?_,⟨g3,?_⟩,?_⟩
  ·simp only [Zd8,List.append_assoc,List.singleton_append]
   exact k3
  ·rw [← g4];exact k4
  ·simp only [ZeH]
   rw [← g4];exact k5
theorem ZhL {a b:List Nat} (h:ZnC a b=true):∀ d∈a,d∉b:=by
 intro d hd
 simp only [ZnC,List.all_eq_true] at h
 simpa using h d hd
theorem Zbj {E:Env} (s:Tr):∀ i,E.top≤i→gE E s i = .dead:=fun i hi=>by unfold gE;rw [if_neg (by omega)]
theorem ZkF {c:Ctx} {σ:Nat→AV} {tm:Array Value} {w:World} {lim:Nat→Nat} {X:Nat→Nat→Option Nat} (h:Sim c σ tm w lim X) {i k:Nat} (hr:Z8 (σ i) i k):False:=by
 obtain ⟨p,hp⟩:=YT h hr
 rcases hr with hr | ⟨_,hr⟩ <;> rw [hr] at hp<;>cases hp
theorem Zmr {draw:Bool} {d j:Nat} (h:(Ziu P E draw ops s).kp d j=true):ZkT (gE E s d)=true:=by
 cases draw with
 | false => cases h
 | true =>
  simp only [Ziu,Odr.kp,List.contains_iff_mem,List.mem_filter] at h
  exact h.2
theorem Zep (hm:P.follows .mixedOrders=true) (hps:EnvSound P E) (hnt:E.top≤1024) {id:Nat} {draw:Bool} {k:Tr→Nat→STree} {tks:Nat→Bool} (hKB:∀ d j,(Ziu P E draw ops s).kp d j=true→B d=true) (hB:∀ d,B d=true→ZcK (ZP E s ρ d)) (hs:KE E s n)
  (h:(Zky P E (Ziu P E draw ops s) tks B ops ops.toList 0 s n [] fun s' n' logs=>if draw=true then (if ZfI ops logs=true then k s' n' else .stuck 114) else k s' n').wp P R A ρ)
  {c:Ctx} (hcP:c.P=P) (hcn:c.nt=E.nt) {tm:Array Value} {w:World} {lim:Nat→Nat} {X:Nat→Nat→Option Nat} (hsim:Sim c (ZP E s ρ) tm w lim X) {Q:Exit→Act→World→Prop}
  (hk:∀ s' n' ρ',KE E s' n'→(k s' n').wp P R A ρ'→∀ tm' w' lim' X',Sim c (ZP E s' ρ') tm' w' lim' X'→Q .normal ⟨tm',[]⟩ w'):(Code.region id ops draw).wp P Q ⟨tm,[]⟩ w:=by
 obtain ⟨ss,ρ',n',s',h1,h2,h3,h4,h5⟩:=ZaO hps hnt hKB ops.toList 0 s n [] ρ (by simp) hB hs h
 have hlen:ss.length=ops.size:=by simpa using h1
 cases draw with
 | false =>
  refine wp_region ?_
  rw [List.range_eq_range',← hlen]
  refine ZcO hcP hcn ss 0 _ tm w lim X h4 hB hsim fun tm' w' lim' X' hs'=>hk s' n' ρ' h2 (by simpa using h3) tm' w' lim' X' ?_
  rw [h5];exact hs'
 | true =>
  simp only [if_true] at h3
  split at h3
  ·rename_i hi
   rw [List.append_nil] at hi
   simp only [ZfI,Bool.and_eq_true,CheckFast.beforeF_eq] at hi
   obtain ⟨hlow,hind⟩:=hi
   refine wp_region_any hm ?_
   have hsd:Sim c (ZP E s ρ) tm w.drew lim X:=hsim.world (ZJ.refl w lim fun _=>False).drew fun b hb=>hb.elim
   refine ZiS hcP hcn h4 (fun d i k hd hr=>?_) hB hlen ?_ ?_ (fun tm' w' lim' X' hs'=>hk s' n' ρ' h2 h3 tm' w' lim' X' (by rw [h5];exact hs')) ops.size _ tm w.drew lim X (by simp) ?_ ?_ ?_
   ·have hd':(ZK (gE E s) d E.top).isEmpty=true:=by
     rcases Bool.or_eq_true_iff.1 hd with h0 | h0
     ·simp only [Bool.and_eq_true] at h0
      exact h0.1.2
     ·by_cases he:(ZK (gE E s) d E.top).isEmpty=true
      ·exact he
      ·dsimp only at h0;rw [if_neg he] at h0;cases h0
    rw [List.isEmpty_iff] at hd'
    have hda:=(JF (g:=gE E s) ρ (Zbj s) (d:=d)).2 i k
    by_cases hid:i=d
    ·subst hid
     exact ZkF hsim hr
    ·have:=hda hid hr
     rw [hd'] at this
     cases this
   ·intro i o hio e he hb
    rw [List.all_eq_true] at hlow
    have:=hlow (o,i) (by
     rw [List.mem_zipIdx_iff_getElem?]
     simpa using hio)
    rw [Array.all_eq_true_iff_forall_mem] at this
    have:=this e he
    simpa [hb] using this
   ·rintro i j a b hia hjb hji ⟨S,hS,hSi,hSj⟩
    rw [List.all_eq_true] at hind
    have m1:=WO ss 0 i a hia
    have m2:=WO ss 0 j b hjb
    rw [Nat.zero_add] at m1 m2
    have:=hind _ m1
    rw [List.all_eq_true] at this
    have:=this _ m2
    simp only [Bool.or_eq_true,Bool.and_eq_true,Bool.not_eq_true',decide_eq_false_iff_not] at this
    rcases this with (this | this) | this
    ·exact (this hji).elim
    ·exact (hSj (Zc8 hS i j hSi this)).elim
    ·exact ⟨ZhL this.1,ZhL this.2⟩
   ·intro k o hk hl
    have hlt:=(Array.getElem?_eq_some_iff.1 hk).1
    simp [Array.getD,hlt] at hl
   ·have:=List.countP_le_length (p:=fun i=>!(Array.replicate ops.size false).getD i false) (l:=List.range ops.size)
    simpa using this
   ·rw [ZaR]
    ·exact hsd
    ·intro j _ hj
     simp [Array.getD]
  ·exact h3.elim
end
end Go.AM
end
