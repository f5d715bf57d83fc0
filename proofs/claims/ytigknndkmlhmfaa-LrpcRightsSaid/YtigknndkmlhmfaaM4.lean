/- AmSnd2, AmSnd3, AmReg, AmEvo: texts of the proof, put together. -/
import Derived.Test.YtigknndkmlhmfaaM3
import Derived.Orders

section
namespace Go.AM
theorem Zg4 (ρ:Nat→V) (c:SC):(c.den ρ).isCell=true:=by cases c<;>rfl
theorem KZ {x:SV} {cs:List SC} (ρ:Nat→V) (h:x.cells=some cs):(x.den ρ).cells? = some (cs.map (SC.den ρ)):=by
 cases x with
 | c y =>
  simp only [SV.cells,Option.some.injEq] at h
  subst h
  cases y<;>rfl
 | agg ds =>
  simp only [SV.cells,Option.some.injEq] at h
  subst h
  rfl
 | _ => simp [SV.cells] at h
theorem V5 {x:SV} {cs:List SC} {n:Nat} (h:x.cells=some cs) (hx:x.bd n):∀ c∈cs,c.bd n:=by
 cases x with
 | c y =>
  simp only [SV.cells,Option.some.injEq] at h
  subst h
  intro c hc
  simp at hc
  subst hc
  exact hx
 | agg ds =>
  simp only [SV.cells,Option.some.injEq] at h
  subst h
  exact hx
 | _ => simp [SV.cells] at h
theorem ZbI (ρ:Nat→V) (place:Nat→Option (Nat×Nat)):∀ (parts:List (Nat×SV)) (cells out:List SC),Zdu place cells parts=some out→
  Zbc place (cells.map (SC.den ρ)) (parts.map fun p=>(p.1,p.2.den ρ))=some (out.map (SC.den ρ))
 | [], cells, out, h => by simp only [Zdu, Option.some.injEq] at h; subst h; rfl
 | (i, v) :: parts, cells, out, h => by
  simp only [Zdu] at h
  split at h
  ·rename_i off size vc hp hv
   split at h
   ·rename_i hc
    have ih:=ZbI ρ place parts _ out h
    simp only [List.map_append,List.map_take,List.map_drop] at ih
    simp only [List.map_cons,Zbc,hp,KZ ρ hv]
    rw [if_pos (by simpa using hc)]
    exact ih
   ·cases h
  ·cases h
theorem Zdx {n:Nat} (place:Nat→Option (Nat×Nat)):∀ (parts:List (Nat×SV)) (cells out:List SC),(∀ c∈cells,c.bd n)→(∀ p∈parts,p.2.bd n)→Zdu place cells parts=some out→∀ c∈out,c.bd n
 | [], cells, out, hc, _, h => by simp only [Zdu, Option.some.injEq] at h; subst h; exact hc
 | (i, v) :: parts, cells, out, hc, hp, h => by
  simp only [Zdu] at h
  split at h
  ·rename_i off size vc hpl hv
   split at h
   ·refine Zdx place parts _ out (fun c hcc=>?_) (fun p hp'=>hp p (by simp [hp'])) h
    rcases List.mem_append.1 hcc with h1 | h1
    ·rcases List.mem_append.1 h1 with h1 | h1
     ·exact hc c (List.mem_of_mem_take h1)
     ·exact V5 hv (hp (i,v) (by simp)) c h1
    ·exact hc c (List.mem_of_mem_drop h1)
   ·cases h
  ·cases h
theorem Vc (ρ:Nat→V):∀ (cs:List SC),(ZgX cs).den ρ=cs.map (SC.den ρ)
 | [] => rfl
 | c :: cs => by simp only [ZgX, CE.den, Vc ρ cs, List.map_cons]
theorem Wv {n:Nat} : ∀ (cs:List SC),(∀ c∈cs,c.bd n)→(ZgX cs).bd n
 | [], _ => trivial
 | c :: cs, h => ⟨h c (by simp), Wv cs fun x hx => h x (by simp [hx])⟩
theorem Zic (ρ:Nat→V) (size:Nat) (cs:List SC):∀ (n:Nat),(lOf size cs n).den ρ=Wi size (cs.map (SC.den ρ)) n
 | 0 => rfl
 | n + 1 => by
  simp only [lOf,LE.den,Zic ρ size cs n,Vc,Wi,List.range_succ,List.map_append,List.map_cons,List.map_nil,List.map_take,List.map_drop]
theorem Zlg {m:Nat} (size:Nat) (cs:List SC) (h:∀ c∈cs,c.bd m):∀ (n:Nat),(lOf size cs n).bd m
 | 0 => trivial
 | n + 1 => ⟨Zlg size cs h n, Wv _ fun c hc => h c (List.mem_of_mem_drop (List.mem_of_mem_take hc))⟩
theorem ZcJ (P:Program) (ρ:Nat→V) (b:BC):(Zcj P b).den ρ=Ya P (b.den ρ):=by
 cases b with
 | c x => cases x <;> rfl
 | own x e l => rfl
 | gone => rfl
theorem Za6 {cs:List BC} (h:KM cs=true) (ρ:Nat→V):Zbi (cs.map (BC.den ρ)):=by
 intro c hc e xs he
 obtain ⟨b,hb,rfl⟩:=List.mem_map.1 hc
 unfold KM at h
 rw [List.all_eq_true] at h
 have:=h b hb
 cases b with
 | c x => cases x <;> cases he
 | own x e l =>
  cases x with
  | false => cases he
  | true => cases this
 | gone => cases he
theorem VW {cs:List BC} (h:KV cs=true) (ρ:Nat→V):Whole (cs.map (BC.den ρ)):=by
 intro c hc he
 obtain ⟨b,hb,rfl⟩:=List.mem_map.1 hc
 unfold KV at h
 rw [List.all_eq_true] at h
 have:=h b hb
 cases b with
 | c x => cases x <;> cases he
 | own x e l => cases he
 | gone => cases this
theorem ZhU {P:Program} {n:Nat} {b:BC} (h:b.bd n):(Zcj P b).bd n:=by
 cases b<;>exact h
theorem Zko {P:Program} {T:TypeId} {cs:List BC} (ρ:Nat→V) (n:Nat) (h:ZlC P T=some cs) :
  ∃ i z,P.info? T=some i∧i.zero=some z∧Zk6 (cs.map (BC.den ρ)) z.cells.toList∧∀ c∈cs,c.bd n:=by
 unfold ZlC at h
 split at h
 ·rename_i i hi
  split at h
  ·rename_i z hz
   split at h
   ·rename_i sc hsc
    split at h
    ·rename_i hlen
     simp only [Option.some.injEq] at h
     subst h
     have hl:sc.length=z.cells.toList.length:=by
      have h1:=YW ρ z.cells.toList
      rw [hsc] at h1
      have h2:=(VT (w:=default) (lim:=fun _=>0) h1.symm).1
      simpa using h2
     refine ⟨i,z,hi,hz,⟨by simp [hlen,hl],fun j x u hx hu=>?_⟩,fun c hc=>?_⟩
     ·rw [List.getElem?_map,List.getElem?_zipWith] at hx
      cases h1:(Yl P 8 T)[j]? with
      | none => simp [h1] at hx
      | some e =>
       cases h2:sc[j]? with
       | none => simp [h1, h2] at hx
       | some c =>
        simp only [h1,h2,Option.map_some,Option.some.injEq] at hx
        have hcu:ofC u=some c:=by
         have key:∀ (vs:List Value) (cs:List SC) (j:Nat),ZdY vs=some cs→cs[j]? = some c→vs[j]? = some u→ofC u=some c:=by
          intro vs
          induction vs with
          | nil => intro cs j _ _ h; simp at h
          | cons v vs ih =>
           intro cs j h hc hv
           simp only [ZdY] at h
           split at h
           ·rename_i c' cs' hc' hcs'
            simp only [Option.some.injEq] at h
            subst h
            cases j with
            | zero => simp at hc hv; subst hc; subst hv; exact hc'
            | succ j => exact ih cs' j hcs' (by simpa using hc) (by simpa using hv)
           ·cases h
         exact key _ _ j hsc h2 hu
        have hnorm:(∃ e',Zaj e c = .own false e' .nil∧u = .slice none 0 0)∨Zaj e c = .c c:=by
         cases e with
         | none => right; cases c <;> rfl
         | some e =>
          cases c with
          | slice f s l =>
           cases f with
           | false => right; cases l <;> rfl
           | true =>
            cases l with
            | nil =>
             left
             refine ⟨e,rfl,?_⟩
             unfold ofC at hcu
             split at hcu<;>simp at hcu
             rfl
            | _ => right; rfl
          | _ => right; rfl
        rcases hnorm with ⟨e',h3,h4⟩ | h3
        ·rw [h3] at hx
         exact .inr ⟨_,e',hx.symm,h4⟩
        ·rw [h3] at hx
         left
         rw [← Zfh ρ,hcu,← hx]
         rfl
     ·obtain ⟨j,hj⟩:=List.mem_iff_getElem?.1 hc
      rw [List.getElem?_zipWith] at hj
      cases h1:(Yl P 8 T)[j]? with
      | none => simp [h1] at hj
      | some e =>
       cases h2:sc[j]? with
       | none => simp [h1, h2] at hj
       | some c' =>
        simp only [h1,h2,Option.some.injEq] at hj
        subst hj
        have hb:c'.bd n:=KW hsc c' (List.mem_of_getElem? h2)
        unfold Zaj
        split
        ·trivial
        ·exact hb
    ·cases h
   ·cases h
  ·cases h
 ·cases h
theorem Zhi (s:Sh) (n:Nat):(Ju s n).bd (n+1):=by cases s<;>exact Nat.lt_succ_self n
theorem Jp:∀ (l:List Sh) (n:Nat),∀ c∈ZC l n,c.bd (n+l.length)
 | [], n, c, h => by simp [ZC] at h
 | s :: ss, n, c, h => by
  rcases List.mem_cons.1 h with rfl | h
  ·exact SC.bd_mono (by simp) _ (Zhi s n)
  ·have:=Jp ss (n+1) c h
   exact SC.bd_mono (by simp only [List.length_cons];omega) _ this
theorem ZkF (s:Sh) (n:Nat):(Zmg s n).bd (n+1):=by cases s<;>exact Nat.lt_succ_self n
theorem JG:∀ (l:List Sh) (n:Nat),∀ c∈YH l n,c.bd (n+l.length)
 | [], n, c, h => by simp [YH] at h
 | s :: ss, n, c, h => by
  rcases List.mem_cons.1 h with rfl | h
  ·exact BC.bd_mono (by simp) _ (ZkF s n)
  ·have:=JG ss (n+1) c h
   exact BC.bd_mono (by simp only [List.length_cons];omega) _ this
theorem YP:∀ (aZ:List SV) (n:Nat),n≤(Jd aZ n).2.2
 | [], n => Nat.le_refl n
 | a :: aZ, n => by
  cases a with
  | box cs =>
   simp only [Jd]
   exact Nat.le_trans (Nat.le_add_right _ _) (YP aZ _)
  | gbox cs =>
   simp only [Jd]
   exact Nat.le_trans (Nat.le_add_right _ _) (YP aZ _)
  | _ => exact YP aZ n
theorem Zcv:∀ (aZ:List SV) (n:Nat),(Jd aZ n).1.length=aZ.length
 | [], n => rfl
 | a :: aZ, n => by
  cases a<;>simp only [Jd,List.length_cons,Zcv aZ]
theorem VL:∀ (aZ:List SV) (n:Nat),∀ x∈(Jd aZ n).1,x.bd (Jd aZ n).2.2
 | [], n, x, h => by simp [Jd] at h
 | a :: aZ, n, x, h => by
  cases a with
  | box cs =>
   simp only [Jd] at h ⊢
   rcases List.mem_cons.1 h with rfl | h
   ·intro c hc
    have h1:=JG (cs.map ZjD) n c hc
    exact BC.bd_mono (YP aZ _) _ h1
   ·exact VL aZ _ x h
  | gbox cs =>
   simp only [Jd] at h ⊢
   rcases List.mem_cons.1 h with rfl | h
   ·intro c hc
    have h1:=JG (cs.map ZjD) n c hc
    exact BC.bd_mono (YP aZ _) _ h1
   ·exact VL aZ _ x h
  | _ =>
   simp only [Jd] at h ⊢
   rcases List.mem_cons.1 h with rfl | h
   ·trivial
   ·exact VL aZ _ x h
theorem Vd:∀ (aZ:List SV) (n i:Nat) (to:Bool) (cs:List BC) (y:SV),aZ[i]? = some (Zjx to cs)→(Jd aZ n).1[i]? = some y→∃ cs',y=Zjx to cs'
 | [], n, i, to, cs, y, h, _ => by simp at h
 | a :: aZ, n, i, to, cs, y, h, h' => by
  cases i with
  | zero =>
   simp only [List.getElem?_cons_zero,Option.some.injEq] at h
   subst h
   cases to with
   | false =>
    simp only [Zjx,Jd,List.getElem?_cons_zero,Option.some.injEq] at h'
    exact ⟨_,h'.symm⟩
   | true =>
    simp only [Zjx,Jd,List.getElem?_cons_zero,Option.some.injEq] at h'
    exact ⟨_,h'.symm⟩
  | succ i =>
   have h1:aZ[i]? = some (Zjx to cs):=by simpa using h
   cases a with
   | box ds => simp only [Jd, List.getElem?_cons_succ] at h'; exact Vd aZ _ i to cs y h1 h'
   | gbox ds => simp only [Jd, List.getElem?_cons_succ] at h'; exact Vd aZ _ i to cs y h1 h'
   | _ => simp only [Jd, List.getElem?_cons_succ] at h'; exact Vd aZ _ i to cs y h1 h'
theorem Zkl (r:RSh) (n:Nat):(ZlU r n).1.bd (n+(ZlU r n).2.length):=by
 cases r with
 | c s => cases s <;> exact Nat.lt_succ_self n
 | agg l => exact Jp l n
 | box l => exact Jp l n
 | aggo l => exact Jp l n
theorem VI {P:Program} {fresh:Nat} : ∀ (Ts:List TypeId) (n:Nat) (vs:List TC) (sh:List Sh) (n':Nat),V9 P fresh Ts n=some (vs,sh,n')→n≤n'∧∀ v∈vs,v.bd n'∧v≠.gone
 | [], n, vs, sh, n', h => by
  simp only [V9,Option.some.injEq,Prod.mk.injEq] at h
  obtain ⟨rfl,rfl,rfl⟩:=h
  exact ⟨Nat.le_refl _,by simp⟩
 | T :: Ts, n, vs, sh, n', h => by
  simp only [V9] at h
  split at h
  ·rename_i r hr
   split at h
   ·rename_i vs' sh' m hm
    simp only [Option.some.injEq,Prod.mk.injEq] at h
    obtain ⟨rfl,rfl,rfl⟩:=h
    obtain ⟨h1,h2⟩:=VI Ts _ vs' sh' m hm
    refine ⟨by omega,fun v hv=>?_⟩
    rcases List.mem_cons.1 hv with rfl | hv
    ·exact ⟨TC.bd_mono h1 _ (Zkl r n),by cases r with | c s=>cases s<;>exact fun h=>(by cases h) | agg l=>exact fun h=>(by cases h) | box l=>exact fun h=>(by cases h) | aggo l=>exact fun h=>(by cases h)⟩
    ·exact h2 v hv
   ·cases h
  ·cases h
theorem Zam (ρ:Nat→V) (x:TC):(Zm8 x).den ρ=x.den ρ:=by cases x<;>rfl
theorem Zml {n:Nat} {x:TC} (h:x.bd n):(Zm8 x).bd n:=by cases x<;>exact h
theorem Ziz (ρ:Nat→V) (x:TC) (hx:x≠.gone):ZdU (x.den ρ):=by
 cases x with
 | c y => cases y <;> first | exact .inl (.inl ⟨_, rfl⟩) | exact .inl (.inr (.inr ⟨_, _, _, rfl⟩))
 | agg cs => exact .inl (.inr (.inl ⟨_, rfl⟩))
 | own x e l => exact .inr (.inl ⟨_, _, _, rfl⟩)
 | gone => exact (hx rfl).elim
theorem ZfQ {P:Program} {fresh:Nat} {Ts:List TypeId} {n n':Nat} {res:SV} {sh:List Sh} (h:Zdr P fresh Ts n=some (res,sh,n')) :
  n≤n'∧res.bd n'∧∀ ρ,ZdU (res.den ρ):=by
 unfold Zdr at h
 split at h
 ·rename_i x sh' m hm
  simp only [Option.some.injEq,Prod.mk.injEq] at h
  obtain ⟨rfl,rfl,rfl⟩:=h
  obtain ⟨h1,h2⟩:=VI Ts n [x] sh' m hm
  exact ⟨h1,Zml (h2 x (by simp)).1,fun ρ=>by rw [Zam];exact Ziz ρ x (h2 x (by simp)).2⟩
 ·rename_i vs sh' m _ hm
  simp only [Option.some.injEq,Prod.mk.injEq] at h
  obtain ⟨rfl,rfl,rfl⟩:=h
  obtain ⟨h1,h2⟩:=VI Ts n vs sh' m hm
  exact ⟨h1,fun v hv=>(h2 v hv).1,fun ρ=>.inr (.inr (.inl ⟨_,rfl⟩))⟩
 ·cases h
theorem Zhc {P:Program} {E:Env} {f:FuncId} {Ts:List TypeId} {n n':Nat} {res:SV} {sh:List Sh} (h:Ze7 P E f Ts n=some (res,sh,n')) :
  n≤n'∧res.bd n'∧∀ ρ,ZdU (res.den ρ):=by
 unfold Ze7 at h
 split at h
 ·rename_i l _
  simp only [Option.some.injEq,Prod.mk.injEq] at h
  obtain ⟨rfl,rfl,rfl⟩:=h
  exact ⟨Nat.le_add_right _ _,JG l n,fun ρ=>.inr (.inr (.inr (.inr ⟨_,rfl⟩)))⟩
 ·split at h
  ·rename_i l _
   simp only [Option.some.injEq,Prod.mk.injEq] at h
   obtain ⟨rfl,rfl,rfl⟩:=h
   exact ⟨Nat.le_add_right _ _,JG l n,fun ρ=>.inr (.inr (.inr (.inl ⟨_,rfl⟩)))⟩
  ·exact ZfQ h
def SAK.den (ρ:Nat→V):SAK→AK
 | .imm x => .imm (x.den ρ)
 | .own t x e l => .own t x e (l.den ρ)
 | .box d fr to cs => .box d fr to (cs.map (BC.den ρ))
 | .clo g ds gs => .clo g ds gs
 | .ref t d q j => .ref t d q j
 | .pad => .pad
theorem Zai (ρ:Nat→V) (gh:Bool) (cs:List BC):(Zjx gh cs).den ρ=mkB gh (cs.map (BC.den ρ)):=by cases gh<;>rfl
theorem Zk5 (ρ:Nat→V) (a:SAK):(a.den ρ).av=a.sv.den ρ:=by
 cases a with
 | box d fr to cs => exact (Zai ρ to cs).symm
 | _ => rfl
theorem Zau (ρ:Nat→V) (a:SAK):(a.den ρ).slot=a.slot:=by cases a<;>rfl
theorem ZgS {x:SV} {ρ:Nat→V} {b:Bool} {e:TypeId} {ys:List (List AV)} (h:x.den ρ = .own b e ys):∃ l,x = .own b e l:=by
 cases x with
 | own b' e' l => simp only [SV.den, AV.own.injEq] at h; obtain ⟨rfl, rfl, _⟩ := h; exact ⟨l, rfl⟩
 | c y => cases y <;> cases h
 | _ => cases h
theorem Ze6 {x:SV} {ρ:Nat→V} {d q:Nat} (h:x.den ρ = .mref d q):x = .mref d q:=by
 cases x with
 | mref d' q' => simp only [SV.den, AV.mref.injEq] at h; obtain ⟨rfl, rfl⟩ := h; rfl
 | c y => cases y <;> cases h
 | _ => cases h
theorem Ze1 {x:SV} {k:Nat} {e:TypeId} {l:LE} (ρ:Nat→V) (h:Z6 x k=some (e,l)):Zj (x.den ρ) k=some (e,l.den ρ):=by
 unfold Z6 at h
 split at h
 ·simp only [Option.some.injEq,Prod.mk.injEq] at h
  obtain ⟨rfl,rfl⟩:=h
  rfl
 ·rename_i cs q
  split at h
  ·rename_i e' l' hc
   simp only [Option.some.injEq,Prod.mk.injEq] at h
   obtain ⟨rfl,rfl⟩:=h
   simp only [SV.den,Zj,List.getElem?_map,hc]
   rfl
  ·cases h
 ·rename_i cs q
  split at h
  ·rename_i e' l' hc
   simp only [Option.some.injEq,Prod.mk.injEq] at h
   obtain ⟨rfl,rfl⟩:=h
   simp only [SV.den,Zj,List.getElem?_map,hc]
   rfl
  ·cases h
 ·cases h
theorem ZjF {P:Program} {g:Nat→SV} {x:Operand} {a:SAK} (ρ:Nat→V) (h:ZlZ P g x=some a):(a.den ρ).ok P (fun d=>(g d).den ρ) (.op x)∧a.sv.isG=false∧∀ h ds gs,a = .clo h ds gs→gs = []:=by
 unfold ZlZ at h
 split at h
 ·rename_i t b e l h1 h2
  simp only [Option.some.injEq] at h
  subst h
  have hx:x = .tmp t:=by cases x<;>simp [ZM] at h1;rw [h1]
  subst hx
  simp only [ZM,Option.map_some,Option.some.injEq] at h2
  exact ⟨⟨rfl,by show (g t).den ρ=_;rw [h2];rfl⟩,rfl,fun _ _ _ h=>by cases h⟩
 ·rename_i hno
  split at h
  ·rename_i v hv
   simp only [Option.some.injEq] at h
   subst h
   refine ⟨.inl ⟨Zc ρ hv,?_⟩,rfl,fun _ _ _ h=>by cases h⟩
   cases v<;>first | exact .inl ⟨_,rfl⟩ | exact .inr (.inr ⟨_,_,_,rfl⟩)
  ·rename_i cs hv
   simp only [Option.some.injEq] at h
   subst h
   exact ⟨.inl ⟨Zc ρ hv,.inr (.inl ⟨_,rfl⟩)⟩,rfl,fun _ _ _ h=>by cases h⟩
  ·rename_i d hv
   split at h
   ·rename_i cs hcs
    split at h
    ·simp only [Option.some.injEq] at h
     subst h
     exact ⟨⟨Zc ρ hv,by show (g d).den ρ=_;rw [hcs];rfl,rfl,rfl⟩,rfl,fun _ _ _ h=>by cases h⟩
    ·cases h
   ·cases h
  ·rename_i f ds hv
   simp only [Option.some.injEq] at h
   subst h
   exact ⟨Zc ρ hv,rfl,fun _ _ _ h=>by cases h;rfl⟩
  ·rename_i d q hv
   split at h
   ·rename_i e l hp
    split at h
    ·rename_i h0
     simp only [Option.some.injEq] at h
     subst h
     refine ⟨.inr ⟨d,q,e,l.den ρ,⟨Zc ρ hv,fun t e' ys hx ht=>?_⟩,Ze1 ρ hp,⟨by omega,h0.2⟩,rfl⟩,rfl,fun _ _ _ h=>by cases h⟩
     obtain ⟨l',hl'⟩:=ZgS (show (g t).den ρ=_ from ht)
     subst hx
     exact hno t true e' l' rfl (by simp only [ZM,Option.map_some,hl'])
    ·cases h
   ·cases h
  ·cases h
def KI (P:Program) (g:Nat→SV) (ρ:Nat→V) (xs:List Zae) (aZ:List SAK):Prop:=
 xs.length=aZ.length∧∀ (i:Nat) (x:Zae) (a:SAK),xs[i]? = some x→aZ[i]? = some a→(a.den ρ).ok P (fun d=>(g d).den ρ) x
theorem KI.append {P:Program} {g:Nat→SV} {ρ:Nat→V} {xs ys:List Zae} {aZ bs:List SAK} (h:KI P g ρ xs aZ) (k:KI P g ρ ys bs):KI P g ρ (xs++ys) (aZ++bs):=by
 refine ⟨by rw [List.length_append,List.length_append,h.1,k.1],fun i x a hx ha=>?_⟩
 rcases Nat.lt_or_ge i xs.length with hi | hi
 ·rw [List.getElem?_append_left hi] at hx
  rw [List.getElem?_append_left (by rw [← h.1];exact hi)] at ha
  exact h.2 i x a hx ha
 ·rw [List.getElem?_append_right hi] at hx
  rw [List.getElem?_append_right (by rw [← h.1];exact hi),← h.1] at ha
  exact k.2 _ x a hx ha
def Raw (aZ:List SAK):Prop:=∀ a∈aZ,a.sv.isG=false∧∀ h ds gs,a = .clo h ds gs→gs = []
theorem ZjJ {P:Program} {g:Nat→SV} {x:Operand} {a:SAK} (ρ:Nat→V) (h:ZbH g x=some a):(a.den ρ).ok P (fun d=>(g d).den ρ) (.op x)∧a.sv.isG=false∧(∀ h ds gs,a = .clo h ds gs→gs = [])∧∃ t d q j,a = .ref t d q j:=by
 unfold ZbH at h
 split at h
 ·rename_i t d q h1 h2
  simp only [Option.some.injEq] at h
  subst h
  have hx:x = .tmp t:=by cases x<;>simp [ZM] at h1;rw [h1]
  subst hx
  simp only [ZM,Option.map_some,Option.some.injEq] at h2
  exact ⟨⟨rfl,by show (g t).den ρ=_;rw [h2];rfl⟩,rfl,(fun _ _ _ h=>by cases h),t,d,q,0,rfl⟩
 ·cases h
def Znq (rf:List Nat) (g:Nat→SV) (xs:List Operand) (aZ:List SAK) (i0:Nat):Prop:=∀ (i:Nat) (a:SAK) (x:Operand),xs[i]? = some x→aZ[i]? = some a→(rf.contains (i0+i)&&(ZbH g x).isSome)=true→∃ t d q j,a = .ref t d q j
theorem V1 {P:Program} {g:Nat→SV} {rf:List Nat} (ρ:Nat→V):∀ (xs:List Operand) (i0:Nat) (aZ:List SAK),Zax P g rf xs i0=some aZ→KI P g ρ (xs.map .op) aZ∧Raw aZ∧Znq rf g xs aZ i0
 | [], i0, aZ, h => by simp only [Zax, Option.some.injEq] at h; subst h; exact ⟨⟨rfl, by simp⟩, by simp [Raw], by simp [Znq]⟩
 | x :: xs, i0, aZ, h => by
  simp only [Zax] at h
  split at h
  ·rename_i a as' ha has
   simp only [Option.some.injEq] at h
   subst h
   obtain ⟨⟨h1,h2⟩,h3,h4⟩:=V1 ρ xs (i0+1) as' has
   obtain ⟨k1,k2,k3,k4⟩:(a.den ρ).ok P (fun d=>(g d).den ρ) (.op x)∧a.sv.isG=false∧(∀ h ds gs,a = .clo h ds gs→gs = [])∧((rf.contains i0&&(ZbH g x).isSome)=true→∃ t d q j,a = .ref t d q j):=by
    split at ha
    ·obtain ⟨k1,k2,k3,k4⟩:=ZjJ (P:=P) ρ ha
     exact ⟨k1,k2,k3,fun _=>k4⟩
    ·rename_i hn
     obtain ⟨k1,k2,k3⟩:=ZjF ρ ha
     exact ⟨k1,k2,k3,fun h=>(hn h).elim⟩
   refine ⟨⟨by simpa using h1,fun i y b hy hb=>?_⟩,fun b hb=>?_,fun i b y hy hb hc=>?_⟩
   ·cases i with
    | zero =>
     simp only [List.map_cons,List.getElem?_cons_zero,Option.some.injEq] at hy hb
     subst hy
     subst hb
     exact k1
    | succ i => exact h2 i y b (by simpa using hy) (by simpa using hb)
   ·rcases List.mem_cons.1 hb with rfl | hb
    ·exact ⟨k2,k3⟩
    ·exact h3 b hb
   ·cases i with
    | zero =>
     simp only [List.getElem?_cons_zero,Option.some.injEq] at hb hy
     subst hb
     subst hy
     exact k4 hc
    | succ i => exact h4 i b y (by simpa using hy) (by simpa using hb) (by rw [Nat.add_assoc, Nat.add_comm 1 i]; exact hc)
  ·cases h
theorem ZkL {g:Nat→SV} {to:Bool} {d:Nat} {a:SAK} (ρ:Nat→V) (h:ZlJ g to d=some a):∃ fr cs,a = .box d fr to cs∧(g d).den ρ=mkB fr (cs.map (BC.den ρ)):=by
 unfold ZlJ at h
 split at h
 ·rename_i cs hcs
  split at h
  ·simp only [Option.some.injEq] at h
   exact ⟨false,cs,h.symm,by rw [hcs];rfl⟩
  ·cases h
 ·rename_i cs hcs
  split at h
  ·simp only [Option.some.injEq] at h
   exact ⟨true,cs,h.symm,by rw [hcs];rfl⟩
  ·cases h
 ·cases h
theorem Wn {g:Nat→SV} {to:Bool} (ρ:Nat→V):∀ (ds:List Nat) (aZ:List SAK),VN g to ds=some aZ→aZ.length=ds.length∧∀ (i d:Nat),ds[i]? = some d→∃ fr cs,aZ[i]? = some (.box d fr to cs)∧
  (g d).den ρ=mkB fr (cs.map (BC.den ρ))
 | [], aZ, h => by simp only [VN, Option.some.injEq] at h; subst h; exact ⟨rfl, by simp⟩
 | d :: ds, aZ, h => by
  simp only [VN] at h
  split at h
  ·rename_i a as' ha has
   simp only [Option.some.injEq] at h
   subst h
   obtain ⟨h1,h2⟩:=Wn ρ ds as' has
   refine ⟨by simp [h1],fun i e he=>?_⟩
   cases i with
   | zero =>
    simp only [List.getElem?_cons_zero,Option.some.injEq] at he
    subst he
    obtain ⟨fr,cs,rfl,k2⟩:=ZkL ρ ha
    exact ⟨fr,cs,rfl,k2⟩
   | succ i => exact h2 i e (by simpa using he)
  ·cases h
theorem Zlm {P:Program} {g:Nat→SV} (ρ:Nat→V) {ds:List Nat} {aZ:List SAK} (h:VN g false ds=some aZ):KI P g ρ (ds.map .cap) aZ∧Raw aZ:=by
 obtain ⟨h1,h2⟩:=Wn ρ ds aZ h
 refine ⟨⟨by simp [h1],fun i x a hx ha=>?_⟩,fun a ha=>?_⟩
 ·rw [List.getElem?_map] at hx
  cases hd:ds[i]? with
  | none => rw [hd] at hx; cases hx
  | some d =>
   rw [hd] at hx
   simp only [Option.map_some,Option.some.injEq] at hx
   subst hx
   obtain ⟨fr,cs,k1,k2⟩:=h2 i d hd
   rw [k1] at ha
   simp only [Option.some.injEq] at ha
   subst ha
   exact ⟨rfl,k2,rfl⟩
 ·obtain ⟨i,hi⟩:=List.mem_iff_getElem?.1 ha
  have hlt:i < ds.length:=by rw [← h1];exact (List.getElem?_eq_some_iff.1 hi).1
  obtain ⟨fr,cs,k1,_⟩:=h2 i _ (List.getElem?_eq_getElem hlt)
  rw [k1] at hi
  simp only [Option.some.injEq] at hi
  subst hi
  exact ⟨rfl,fun _ _ _ h=>by cases h⟩
theorem ZiT {P:Program} {g:Nat→SV} (ρ:Nat→V) {ds:List Nat} {aZ:List SAK} (h:VN g true ds=some aZ):KI P g ρ (ds.map fun _=>.ghost) aZ:=by
 obtain ⟨h1,h2⟩:=Wn ρ ds aZ h
 refine ⟨by simp [h1],fun i x a hx ha=>?_⟩
 rw [List.getElem?_map] at hx
 cases hd:ds[i]? with
 | none => rw [hd] at hx; cases hx
 | some d =>
  rw [hd] at hx
  simp only [Option.map_some,Option.some.injEq] at hx
  subst hx
  obtain ⟨fr,cs,k1,k2⟩:=h2 i d hd
  rw [k1] at ha
  simp only [Option.some.injEq] at ha
  subst ha
  exact ⟨k2,rfl⟩
theorem Y7:∀ (aZ:List SAK) (h:FuncId) (ds gs:List Nat),SAK.clo h ds gs∈aZ→∀ d∈ds,d∈Zo aZ
 | [], _, _, _, hm, _, _ => by simp at hm
 | a :: aZ, h, ds, gs, hm, d, hd => by
  have htail:d∈Zo aZ→d∈Zo (a::aZ):=by
   intro hx
   cases a with
   | clo _ _ _ => exact List.mem_append.2 (.inr hx)
   | ref _ _ _ _ =>
    simp only [Zo]
    split
    ·exact hx
    ·exact List.mem_cons_of_mem _ hx
   | _ => exact hx
  rcases List.mem_cons.1 hm with rfl | hm
  ·by_cases hx:d∈Zo aZ
   ·exact htail hx
   ·refine List.mem_append.2 (.inl ?_)
    rw [List.mem_eraseDups,List.mem_filter]
    exact ⟨hd,by simpa using hx⟩
  ·exact htail (Y7 aZ h ds gs hm d hd)
theorem YQ:∀ (aZ:List SAK) (t d q j:Nat),SAK.ref t d q j∈aZ→d∈Zo aZ
 | [], _, _, _, _, hm => by simp at hm
 | a :: aZ, t, d, q, j, hm => by
  rcases List.mem_cons.1 hm with rfl | hm
  ·simp only [Zo]
   split
   ·rename_i hx;simpa using hx
   ·exact List.mem_cons_self
  ·have hx:=YQ aZ t d q j hm
   cases a with
   | clo _ _ _ => exact List.mem_append.2 (.inr hx)
   | ref _ _ _ _ =>
    simp only [Zo]
    split
    ·exact hx
    ·exact List.mem_cons_of_mem _ hx
   | _ => exact hx
theorem ZfR:∀ (l:List Nat) (d:Nat),d∈l→l[Zjz d l]? = some d
 | [], _, h => by simp at h
 | x :: xs, d, h => by
  unfold Zjz
  split
  ·rename_i hx;rw [hx];rfl
  ·rename_i hx
   rcases List.mem_cons.1 h with rfl | h
   ·exact (hx rfl).elim
   ·simpa using ZfR xs d h
theorem ZiZ {P:Program} {σ:Nat→AV} {ρ:Nat→V} {base:Nat} {gh:List Nat} {x:Zae} {a:SAK} (h:(a.den ρ).ok P σ x):((W9 base gh a).den ρ).ok P σ x:=by
 cases a with
 | clo f ds gs => cases x <;> exact h
 | ref t d q j => cases x <;> exact h
 | _ => exact h
theorem WB (ρ:Nat→V) {x:SC} (h:WX x=true):Vw (x.den ρ)=true:=by cases x<;>first | rfl | cases h
theorem ZcI (ρ:Nat→V) {x:SV} (h:Zgq x=true):Zb0 (x.den ρ)=true:=by
 have hcs:∀ cs:List SC,cs.all WX=true→(cs.map (SC.den ρ)).all Vw=true:=by
  intro cs h
  rw [List.all_eq_true] at h ⊢
  intro y hy
  obtain ⟨z,hz,rfl⟩:=List.mem_map.1 hy
  exact WB ρ (h z hz)
 have hbs:∀ cs:List BC,cs.all ZiD=true→(cs.map (BC.den ρ)).all Vw=true:=by
  intro cs h
  rw [List.all_eq_true] at h ⊢
  intro y hy
  obtain ⟨z,hz,rfl⟩:=List.mem_map.1 hy
  have:=h z hz
  cases z with
  | c w => exact WB ρ this
  | own _ _ _ => cases this
  | gone => cases this
 cases x with
 | c y => cases y <;> first | rfl | cases h
 | dead => rfl
 | agg cs => exact hcs cs h
 | box cs => exact hbs cs h
 | gbox cs => exact hbs cs h
 | tuple vs =>
  simp only [Zgq,List.all_eq_true] at h
  simp only [SV.den,Zb0,List.all_eq_true]
  intro y hy
  obtain ⟨z,hz,rfl⟩:=List.mem_map.1 hy
  have:=h z hz
  cases z with
  | c w =>
   have h2:=WB ρ (show WX w=true from this)
   cases w<;>first | rfl | cases this
  | agg cs => exact hcs cs this
  | own _ _ _ => cases this
  | gone => cases this
 | _ => cases h
theorem ZdX {P:Program} {g:Nat→SV} {rf:List Nat} (ρ:Nat→V):∀ {args:List Operand} {i0 i:Nat} {x:Operand} {d q:Nat},args[i]? = some x→(rf.contains (i0+i)&&(ZbH g x).isSome)=false→Zm P (fun d=>(g d).den ρ) x = .mref d q→(∀ t e' ys,x = .tmp t→(g t).den ρ≠.own true e' ys)→(d,q)∈VA P g rf args i0
 | [], _, i, _, _, _, hx, _, _, _ => by simp at hx
 | y :: rest, i0, i, x, d, q, hx, hi, h, hno => by
  have hg:Ja P g x = .mref d q:=Ze6 (ρ:=ρ) (by rw [J9];exact h)
  unfold VA
  cases i with
  | zero =>
   simp only [List.getElem?_cons_zero,Option.some.injEq] at hx
   subst hx
   rw [if_neg (by rw [Nat.add_zero] at hi;rw [hi];simp)]
   split
   ·rename_i b e l hb
    cases y with
    | tmp t =>
     simp only [ZM,Option.map_some,Option.some.injEq] at hb
     cases b with
     | true => exact (hno t e (l.den ρ) rfl (by rw [hb]; rfl)).elim
     | false => simp only [Ja, hb] at hg; cases hg
    | _ => simp [ZM] at hb
   ·rw [hg]
    exact List.mem_cons_self
  | succ i =>
   have ih:=ZdX (P:=P) (g:=g) (rf:=rf) ρ (args:=rest) (i0:=i0+1) (i:=i) (by simpa using hx) (by rw [Nat.add_assoc,Nat.add_comm 1 i];exact hi) h hno
   split
   ·exact ih
   ·split
    ·exact ih
    ·split
     ·exact List.mem_cons_of_mem _ ih
     ·exact ih
theorem Kr (ρ:Nat→V):∀ (aZ:List SAK),(∀ a∈aZ,a.sv.isG=false)→((aZ.map (SAK.den ρ)).map AK.av).countP AV.isG=0
 | [], _ => rfl
 | a :: aZ, h => by
  have h0:=h a (by simp)
  have:(a.den ρ).av.isG=false:=by
   rw [Zk5]
   cases a with
   | imm x => cases x <;> first | rfl | (rename_i y; cases y <;> rfl) | (simp [SAK.sv, SV.isG] at h0)
   | own t x e l => rfl
   | box d fr to cs => cases to <;> first | rfl | (simp [SAK.sv, Zjx, SV.isG] at h0)
   | clo g ds gs => rfl
   | ref t d q j => rfl
   | pad => rfl
  rw [List.map_cons,List.map_cons,List.countP_cons,Kr ρ aZ fun b hb=>h b (by simp [hb]),this]
  rfl
theorem Zhl {P:Program} {g:Nat→SV} (ρ:Nat→V) {xs:List Zae} {aZ saks:List SAK} {nt:Nat} (hx:KI P g ρ xs aZ) (hr:Raw aZ) (h:WG g nt aZ=some saks) :
  ∃ tail,KI P g ρ (xs++tail) saks∧(∀ x∈tail,x = .pad∨x = .ghost)∧xs.length+((saks.map (SAK.den ρ)).map AK.av).countP AV.isG≤saks.length∧Znd (saks.map (SAK.den ρ))∧ZmU (saks.map (SAK.den ρ))∧∀ (i t d q j:Nat),aZ[i]? = some (SAK.ref t d q j)→∃ j',saks[i]? = some (SAK.ref t d q j'):=by
 unfold WG at h
 split at h
 ·rename_i hg
  simp only [Option.some.injEq] at h
  subst h
  refine ⟨[],by rw [List.append_nil];exact hx,by simp,by rw [Kr ρ aZ fun a ha=>(hr a ha).1,hx.1];exact Nat.le_refl _,fun i f ds gs hi=>?_,fun i t d q j hi=>?_,fun i t d q j hi=>⟨j,hi⟩⟩
  case refine_2=>
   rw [List.getElem?_map] at hi
   cases ha:aZ[i]? with
   | none => rw [ha] at hi; cases hi
   | some a =>
    rw [ha] at hi
    simp only [Option.map_some,Option.some.injEq] at hi
    cases a<;>simp only [SAK.den,reduceCtorEq] at hi
    have:=YQ aZ _ _ _ _ (List.mem_of_getElem? ha)
    rw [hg] at this
    cases this
  rw [List.getElem?_map] at hi
  cases ha:aZ[i]? with
  | none => rw [ha] at hi; cases hi
  | some a =>
   rw [ha] at hi
   simp only [Option.map_some,Option.some.injEq] at hi
   have hm:=List.mem_of_getElem? ha
   cases a<;>simp only [SAK.den,reduceCtorEq] at hi
   rename_i f' ds' gs'
   simp only [AK.clo.injEq] at hi
   obtain ⟨rfl,rfl,rfl⟩:=hi
   have hgs:=(hr _ hm).2 _ _ _ rfl
   have hds:ds' = []:=by
    refine List.eq_nil_iff_forall_not_mem.2 fun d hd=>?_
    have:=Y7 aZ f' ds' gs' hm d hd
    rw [hg] at this
    cases this
   subst hgs
   subst hds
   exact ⟨rfl,fun k d j hk=>by simp at hk⟩
 ·split at h
  ·rename_i hle
   cases hc:VN g true (Zo aZ) with
   | none => rw [hc] at h; cases h
   | some gs =>
    rw [hc] at h
    simp only [Option.map_some,Option.some.injEq] at h
    subst h
    obtain ⟨c1,c2⟩:=Wn ρ (Zo aZ) gs hc
    have hpad:KI P g ρ (List.replicate (nt-aZ.length) Zae.pad) (List.replicate (nt-aZ.length) SAK.pad):=by
     refine ⟨by simp,fun i x a hx ha=>?_⟩
     have h1:=List.mem_of_getElem? hx
     have h2:=List.mem_of_getElem? ha
     rw [(List.mem_replicate.1 h1).2,(List.mem_replicate.1 h2).2]
     trivial
    have hset:KI P g ρ xs (aZ.map (W9 nt (Zo aZ))):=by
     refine ⟨by simp [hx.1],fun i x a hxi ha=>?_⟩
     rw [List.getElem?_map] at ha
     cases hai:aZ[i]? with
     | none => rw [hai] at ha; cases ha
     | some b =>
      rw [hai] at ha
      simp only [Option.map_some,Option.some.injEq] at ha
      subst ha
      exact ZiZ (hx.2 i x b hxi hai)
    refine ⟨List.replicate (nt-aZ.length) Zae.pad++(Zo aZ).map fun _=>Zae.ghost,?_,fun x hx=>?_,?_,fun i f ds js hi=>?_,fun i t d q j hi=>?_,fun i t d q j hi=>?_⟩
    ·rw [← List.append_assoc]
     exact (hset.append hpad).append (ZiT ρ hc)
    ·rcases List.mem_append.1 hx with hx | hx
     ·exact .inl (List.mem_replicate.1 hx).2
     ·obtain ⟨_,_,rfl⟩:=List.mem_map.1 hx
      exact .inr rfl
    ·have hz1:(((aZ.map (W9 nt (Zo aZ))).map (SAK.den ρ)).map AK.av).countP AV.isG=0:=Kr ρ _ fun a ha=>by
      obtain ⟨b,hb,rfl⟩:=List.mem_map.1 ha
      have:=(hr b hb).1
      cases b<;>exact this
     have hz2:(((List.replicate (nt-aZ.length) SAK.pad).map (SAK.den ρ)).map AK.av).countP AV.isG=0:=Kr ρ _ fun a ha=>by
      rw [(List.mem_replicate.1 ha).2];rfl
     have hz3:((gs.map (SAK.den ρ)).map AK.av).countP AV.isG≤gs.length:=by
      have:=List.countP_le_length (p:=AV.isG) (l:=(gs.map (SAK.den ρ)).map AK.av)
      simpa using this
     simp only [List.map_append,List.countP_append,List.length_append,List.length_map,List.length_replicate] at hz1 hz2 hz3 ⊢
     rw [hz1,hz2,hx.1]
     omega
    ·rw [List.getElem?_map] at hi
     have hin:∃ a,(aZ.map (W9 nt (Zo aZ)))[i]? = some a∧a.den ρ = .clo f ds js:=by
      cases hs:(aZ.map (W9 nt (Zo aZ))++List.replicate (nt-aZ.length) .pad++gs)[i]? with
      | none => rw [hs] at hi; cases hi
      | some a =>
       rw [hs] at hi
       simp only [Option.map_some,Option.some.injEq] at hi
       rcases Nat.lt_or_ge i aZ.length with h1 | h1
       ·rw [List.append_assoc,List.getElem?_append_left (by simpa using h1)] at hs
        exact ⟨a,hs,hi⟩
       ·rw [List.append_assoc,List.getElem?_append_right (by simpa using h1)] at hs
        rcases List.mem_append.1 (List.mem_of_getElem? hs) with hm | hm
        ·rw [(List.mem_replicate.1 hm).2] at hi;cases hi
        ·obtain ⟨k,hk⟩:=List.mem_iff_getElem?.1 hm
         have hlt:k < (Zo aZ).length:=by rw [← c1];exact (List.getElem?_eq_some_iff.1 hk).1
         obtain ⟨fr,cs,e1,_⟩:=c2 k _ (List.getElem?_eq_getElem hlt)
         rw [e1] at hk
         simp only [Option.some.injEq] at hk
         subst hk
         cases hi
     obtain ⟨a,ha,hden⟩:=hin
     rw [List.getElem?_map] at ha
     cases hai:aZ[i]? with
     | none => rw [hai] at ha; cases ha
     | some b =>
      rw [hai] at ha
      simp only [Option.map_some,Option.some.injEq] at ha
      subst ha
      have hm:=List.mem_of_getElem? hai
      cases b<;>simp only [W9,SAK.den,reduceCtorEq] at hden
      rename_i f' ds' gs'
      simp only [AK.clo.injEq] at hden
      obtain ⟨rfl,rfl,rfl⟩:=hden
      refine ⟨by simp,fun k d j hk hj=>?_⟩
      rw [List.getElem?_map,hk] at hj
      simp only [Option.map_some,Option.some.injEq] at hj
      subst hj
      have hd:=Y7 aZ f' ds' gs' hm d (List.mem_of_getElem? hk)
      obtain ⟨fr,cs,e1,_⟩:=c2 _ d (ZfR _ d hd)
      refine ⟨fr,cs.map (BC.den ρ),?_⟩
      rw [List.getElem?_map,List.getElem?_append_right (by simp;omega)]
      have:nt+Zjz d (Zo aZ)-(aZ.map (W9 nt (Zo aZ))++List.replicate (nt-aZ.length) SAK.pad).length=Zjz d (Zo aZ):=by
       simp;omega
      rw [this,e1]
      rfl
    ·rw [List.getElem?_map] at hi
     have hin:∃ a,(aZ.map (W9 nt (Zo aZ)))[i]? = some a∧a.den ρ = .ref t d q j:=by
      cases hs:(aZ.map (W9 nt (Zo aZ))++List.replicate (nt-aZ.length) .pad++gs)[i]? with
      | none => rw [hs] at hi; cases hi
      | some a =>
       rw [hs] at hi
       simp only [Option.map_some,Option.some.injEq] at hi
       rcases Nat.lt_or_ge i aZ.length with h1 | h1
       ·rw [List.append_assoc,List.getElem?_append_left (by simpa using h1)] at hs
        exact ⟨a,hs,hi⟩
       ·rw [List.append_assoc,List.getElem?_append_right (by simpa using h1)] at hs
        rcases List.mem_append.1 (List.mem_of_getElem? hs) with hm | hm
        ·rw [(List.mem_replicate.1 hm).2] at hi;cases hi
        ·obtain ⟨k,hk⟩:=List.mem_iff_getElem?.1 hm
         have hlt:k < (Zo aZ).length:=by rw [← c1];exact (List.getElem?_eq_some_iff.1 hk).1
         obtain ⟨fr,cs,e1,_⟩:=c2 k _ (List.getElem?_eq_getElem hlt)
         rw [e1] at hk
         simp only [Option.some.injEq] at hk
         subst hk
         cases hi
     obtain ⟨a,ha,hden⟩:=hin
     rw [List.getElem?_map] at ha
     cases hai:aZ[i]? with
     | none => rw [hai] at ha; cases ha
     | some b =>
      rw [hai] at ha
      simp only [Option.map_some,Option.some.injEq] at ha
      subst ha
      have hm:=List.mem_of_getElem? hai
      cases b<;>simp only [W9,SAK.den,reduceCtorEq] at hden
      rename_i t' d' q' j'
      simp only [AK.ref.injEq] at hden
      obtain ⟨rfl,rfl,rfl,rfl⟩:=hden
      have hd:=YQ aZ _ _ _ _ hm
      obtain ⟨fr,cs,e1,_⟩:=c2 _ _ (ZfR _ _ hd)
      refine ⟨fr,cs.map (BC.den ρ),?_⟩
      rw [List.getElem?_map,List.getElem?_append_right (by simp;omega)]
      have:nt+Zjz d' (Zo aZ)-(aZ.map (W9 nt (Zo aZ))++List.replicate (nt-aZ.length) SAK.pad).length=Zjz d' (Zo aZ):=by
       simp;omega
      rw [this,e1]
      rfl
    ·have hlt:=(List.getElem?_eq_some_iff.1 hi).1
     refine ⟨nt+Zjz d (Zo aZ),?_⟩
     rw [List.append_assoc,List.getElem?_append_left (by simpa using hlt),List.getElem?_map,hi]
     rfl
  ·cases h
theorem VU:∀ (l:List Nat),Zcc l=true→l.Nodup
 | [], _ => List.nodup_nil
 | x :: xs, h => by
  simp only [Zcc,Bool.and_eq_true,Bool.not_eq_true',List.contains_eq_mem,decide_eq_false_iff_not] at h
  exact List.nodup_cons.2 ⟨h.1,VU xs h.2⟩
theorem ZjO (ρ:Nat→V) (fr to:Bool) (o:SV):(ZnN fr to o).den ρ=reB fr to (o.den ρ):=by
 cases to with
 | true => cases o <;> first | exact Zai ρ fr _ | rfl | (rename_i x; cases x <;> rfl)
 | false => cases o <;> first | exact Zai ρ fr _ | rfl | (rename_i x; cases x <;> rfl)
theorem Zlt {fr to:Bool} {o:SV} {n:Nat} (h:o.bd n):(ZnN fr to o).bd n:=by
 unfold ZnN
 split
 ·cases fr<;>exact h
 ·cases fr<;>exact h
 ·trivial
theorem Zd0 (ρ ρ':Nat→V):∀ (aZ:List SAK) (os:List SV),ZbK (aZ.map (SAK.den ρ)) (os.map (SV.den ρ'))=(Wz aZ os).map fun u=>(u.1,u.2.den ρ')
 | [], os => by cases os <;> rfl
 | a :: aZ, [] => by cases a <;> rfl
 | a :: aZ, o :: os => by
  cases a<;>simp only [List.map_cons,SAK.den,ZbK,Wz,Zd0 ρ ρ' aZ os,ZjO]<;>rfl
theorem Kt {n:Nat} : ∀ (aZ:List SAK) (os:List SV),(∀ o∈os,o.bd n)→∀ u∈Wz aZ os,u.2.bd n
 | [], os, _, u, h => by cases os <;> simp [Wz] at h
 | a :: aZ, [], _, u, h => by cases a <;> simp [Wz] at h
 | a :: aZ, o :: os, ho, u, h => by
  cases a with
  | imm x => exact Kt aZ os (fun o' h' => ho o' (by simp [h'])) u h
  | clo _ _ _ => exact Kt aZ os (fun o' h' => ho o' (by simp [h'])) u h
  | pad => exact Kt aZ os (fun o' h' => ho o' (by simp [h'])) u h
  | own t x e l =>
   rcases List.mem_cons.1 h with rfl | h
   ·trivial
   ·exact Kt aZ os (fun o' h'=>ho o' (by simp [h'])) u h
  | ref t x e l =>
   rcases List.mem_cons.1 h with rfl | h
   ·trivial
   ·exact Kt aZ os (fun o' h'=>ho o' (by simp [h'])) u h
  | box d fr to cs =>
   rcases List.mem_cons.1 h with rfl | h
   ·exact Zlt (ho o (by simp))
   ·exact Kt aZ os (fun o' h'=>ho o' (by simp [h'])) u h
end Go.AM
end

section
namespace Go.AM
theorem us1 {t n:Nat} {x:SV} (h:x.bd n):∀ u∈[(t,x)],u.2.bd n:=by
 intro u hu
 rw [List.mem_singleton] at hu
 subst hu
 exact h
theorem us2 {t t' n:Nat} {x y:SV} (h:x.bd n) (h':y.bd n):∀ u∈[(t,x),(t',y)],u.2.bd n:=by
 intro u hu
 rcases List.mem_cons.1 hu with rfl | hu
 ·exact h
 ·exact us1 h' u hu
theorem Jf {g:Nat→SV} {d:Nat} : ∀ (n:Nat) (u:Nat×SV),u∈ZK g d n↔u.2 = .dead∧u.1 < n∧u.1≠d∧ZcM d (g u.1)=true
 | 0, u => by simp [ZK]
 | n + 1, u => by
  have ih:=Jf (g:=g) (d:=d) n u
  have key:∀ p:Prop,(u∈(if n≠d∧ZcM d (g n)=true then (n,SV.dead)::ZK g d n else ZK g d n)↔p)→(u∈ZK g d (n+1)↔p):=fun p h=>h
  apply key
  split
  ·rename_i h
   rw [List.mem_cons,ih]
   constructor
   ·rintro (rfl | ⟨h1,h2,h3⟩)
    ·exact ⟨rfl,Nat.lt_succ_self n,h.1,h.2⟩
    ·exact ⟨h1,by omega,h3⟩
   ·rintro ⟨h1,h2,h3⟩
    by_cases hn:u.1=n
    ·left
     obtain ⟨a,b⟩:=u
     simp only at h1 hn
     rw [h1,hn]
    ·exact .inr ⟨h1,by omega,h3⟩
  ·rename_i h
   rw [ih]
   constructor
   ·rintro ⟨h1,h2,h3⟩
    exact ⟨h1,by omega,h3⟩
   ·rintro ⟨h1,h2,h3,h4⟩
    refine ⟨h1,?_,h3,h4⟩
    by_cases hn:u.1=n
    ·subst hn;exact (h ⟨h3,h4⟩).elim
    ·omega
theorem WM (ρ:Nat→V) (d:Nat) (x:SV):ZcM d x=true↔∃ k,Z8 (x.den ρ) d k:=by
 cases x with
 | mref d' k' =>
  simp only [ZcM,beq_iff_eq]
  constructor
  ·rintro rfl;exact ⟨k',.inl rfl⟩
  ·rintro ⟨k,h | ⟨_,h⟩⟩ <;> cases h
   rfl
 | eref d' k' i s o =>
  simp only [ZcM,beq_iff_eq]
  constructor
  ·rintro rfl;exact ⟨k',.inr ⟨_,rfl⟩⟩
  ·rintro ⟨k,h | ⟨_,h⟩⟩ <;> cases h
   rfl
 | c y =>
  constructor
  ·intro h;cases h
  ·rintro ⟨k,h | ⟨_,h⟩⟩ <;> cases y<;>cases h
 | _ =>
  constructor
  ·intro h;cases h
  ·rintro ⟨k,h | ⟨_,h⟩⟩ <;> cases h
theorem JD {g:Nat→SV} (ρ:Nat→V) {d top:Nat} (htop:∀ i,top≤i→g i = .dead):YX (fun d=>(g d).den ρ) d ((ZK g d top).map fun u=>(u.1,u.2.den ρ)):=by
 refine ⟨fun u hu=>?_,fun i k hi hr=>?_⟩
 ·obtain ⟨v,hv,rfl⟩:=List.mem_map.1 hu
  obtain ⟨h1,h2,h3,h4⟩:=(Jf top v).1 hv
  exact ⟨h3,by show v.2.den ρ=_;rw [h1];rfl,(WM ρ d _).1 h4⟩
 ·have hr':=(WM ρ d (g i)).2 ⟨k,hr⟩
  have hlt:i < top:=by
   rcases Nat.lt_or_ge i top with h | h
   ·exact h
   ·rw [htop i h] at hr';cases hr'
  rw [List.map_map]
  exact List.mem_map.2 ⟨(i,.dead),(Jf top (i,.dead)).2 ⟨rfl,hlt,hi,hr'⟩,rfl⟩
theorem ZeM {g:Nat→SV} (ρ:Nat→V) {top:Nat} (htop:∀ i,top≤i→g i = .dead) {txt:Odr} {d:Nat} {us:Ups} (h:Zgp txt g top d=some us) :
  (∀ u∈us,u.2 = .dead)∧JX txt (fun d=>(g d).den ρ) d (us.map fun u=>(u.1,u.2.den ρ)):=by
 unfold Zgp at h
 split at h
 ·simp only [Option.some.injEq] at h
  subst h
  exact ⟨fun u hu=>((Jf top u).1 hu).1,.inl ⟨rfl,JD ρ htop⟩⟩
 ·split at h
  ·rename_i N M K hN
   simp only [Option.some.injEq] at h
   subst h
   exact ⟨fun u hu=>by simp at hu,.inr ⟨N,M,_,rfl,hN,rfl⟩⟩
  ·cases h
theorem Zgs {P:Program} {e:TypeId} {l:LE} (ρ:Nat→V) (h:mvB P e l=true):Mv P e (l.den ρ):=by
 unfold mvB at h
 rcases Bool.or_eq_true_iff.1 h with h | h
 ·rcases Bool.or_eq_true_iff.1 h with h | h
  ·rcases Bool.or_eq_true_iff.1 h with h | h
   ·exact .inl (by simpa using h)
   ·exact .inr (.inl h)
  ·unfold ZgF at h
   split at h
   ·exact .inr (.inr (.inl rfl))
   ·cases h
 ·exact .inr (.inr (.inr (by simpa using h)))
theorem ZkV {P:Program} {res:SV} (ρ:Nat→V) (h:Zma P res=true):∀ e xs,res.den ρ = .own true e xs→Mv P e xs:=by
 intro e xs he
 cases res with
 | own x e' l =>
  simp only [SV.den,AV.own.injEq] at he
  obtain ⟨rfl,rfl,_⟩:=he
  simp only [Zma,Bool.or_eq_true,Bool.not_eq_true',Option.isNone_iff_eq_none] at h
  exact h.imp id fun h=>.inr (.inr h)
 | c y => cases y <;> cases he
 | _ => cases he
theorem JY {P:Program} {g:Nat→SV} (ρ:Nat→V) {top:Nat} (htop:∀ i,top≤i→g i = .dead) {txt:Odr} {x:Bool} {t:Nat} {e:TypeId} {l:LE} {us:Ups} (ht:g t = .own x e l) (h:YK P txt g top t x e l=some us) :
  ∃ us',us=us'∧(us'.map fun u=>(u.1,u.2.den ρ))=(t,KR P x e (l.den ρ))::(us'.tail.map fun u=>(u.1,u.2.den ρ))∧((x=false∧(us'.tail.map fun u=>(u.1,u.2.den ρ)) = [])∨JX txt (fun d=>(g d).den ρ) t (us'.tail.map fun u=>(u.1,u.2.den ρ)))∧(x=true→Mv P e (l.den ρ)):=by
 unfold YK at h
 split at h
 ·simp only [Option.some.injEq] at h
  subst h
  exact ⟨_,rfl,rfl,.inl ⟨rfl,rfl⟩,fun h=>by cases h⟩
 ·split at h
  case isFalse=>cases h
  rename_i hmv
  split at h
  ·simp only [Option.some.injEq] at h
   subst h
   exact ⟨_,rfl,rfl,.inr (.inl ⟨rfl,JD ρ htop⟩),fun _=>Zgs ρ hmv⟩
  ·rename_i N M K
   split at h
   ·rename_i hN
    simp only [Option.some.injEq] at h
    subst h
    exact ⟨_,rfl,rfl,.inr (.inr ⟨N,M,_,rfl,hN,rfl⟩),fun _=>Zgs ρ hmv⟩
   ·cases h
theorem JW {P:Program} {g:Nat→SV} {top n:Nat} {txt:Odr} {x:Bool} {t:Nat} {e:TypeId} {l:LE} {us:Ups} (h:YK P txt g top t x e l=some us) (hl:l.bd n):∀ u∈us,u.2.bd n:=by
 unfold YK at h
 split at h
 ·simp only [Option.some.injEq] at h
  subst h
  exact us1 hl
 ·split at h
  case isFalse=>cases h
  split at h
  ·simp only [Option.some.injEq] at h
   subst h
   intro u hu
   rcases List.mem_cons.1 hu with rfl | hu
   ·trivial
   ·rw [((Jf top u).1 hu).1];trivial
  ·split at h
   ·simp only [Option.some.injEq] at h
    subst h
    exact us1 trivial
   ·cases h
theorem K7 {cs:List BC} {off m:Nat} (h:KM ((cs.drop off).take m)=true) (ρ:Nat→V):Zbi (((cs.map (BC.den ρ)).drop off).take m):=by
 rw [← List.map_drop,← List.map_take]
 exact Za6 h ρ
theorem Zch {cs:List BC} {off m:Nat} (h:KV ((cs.drop off).take m)=true) (ρ:Nat→V):Whole (((cs.map (BC.den ρ)).drop off).take m):=by
 rw [← List.map_drop,← List.map_take]
 exact VW h ρ
theorem ZgL {g:Nat→SV} (ρ:Nat→V) {top:Nat} (htop:∀ i,top≤i→g i = .dead) {txt:Odr} {d:Nat} {cs:List BC} {off m:Nat} (h:(KM ((cs.drop off).take m)||ZdE txt g top d)=true) :
  Zbi (((cs.map (BC.den ρ)).drop off).take m)∨JX txt (fun d=>(g d).den ρ) d []:=by
 rcases Bool.or_eq_true_iff.1 h with h | h
 ·exact .inl (K7 h ρ)
 ·right
  unfold ZdE at h
  split at h
  ·simp only [List.isEmpty_iff] at h
   refine .inl ⟨rfl,by simp,fun j q hj hr=>?_⟩
   have:=(JD ρ htop (d:=d)).2 j q hj hr
   rw [h] at this
   exact this
  ·exact .inr ⟨_,_,_,rfl,h,rfl⟩
theorem Kw {x:SV} (ρ:Nat→V) (h:x.isG=false):(x.den ρ).isG=false:=by
 cases x with
 | gbox cs => cases h
 | c y => cases y <;> rfl
 | _ => rfl
theorem ZL {x:SV} {k:Nat} {e:TypeId} {l:LE} (ρ:Nat→V) (h:Z6 x k=some (e,l)):Zj (x.den ρ) k=some (e,l.den ρ):=by
 unfold Z6 at h
 split at h
 ·simp only [Option.some.injEq,Prod.mk.injEq] at h
  obtain ⟨rfl,rfl⟩:=h
  rfl
 ·rename_i cs q
  split at h
  ·rename_i e' l' hc
   simp only [Option.some.injEq,Prod.mk.injEq] at h
   obtain ⟨rfl,rfl⟩:=h
   simp only [SV.den,Zj,List.getElem?_map,hc]
   rfl
  ·cases h
 ·rename_i cs q
  split at h
  ·rename_i e' l' hc
   simp only [Option.some.injEq,Prod.mk.injEq] at h
   obtain ⟨rfl,rfl⟩:=h
   simp only [SV.den,Zj,List.getElem?_map,hc]
   rfl
  ·cases h
 ·cases h
theorem Jt {x:SV} {k n:Nat} {e:TypeId} {l:LE} (h:Z6 x k=some (e,l)) (hb:x.bd n):l.bd n:=by
 unfold Z6 at h
 split at h
 ·simp only [Option.some.injEq,Prod.mk.injEq] at h
  obtain ⟨rfl,rfl⟩:=h
  exact hb
 ·rename_i cs q
  split at h
  ·rename_i e' l' hc
   simp only [Option.some.injEq,Prod.mk.injEq] at h
   obtain ⟨rfl,rfl⟩:=h
   exact hb _ (List.mem_of_getElem? hc)
  ·cases h
 ·rename_i cs q
  split at h
  ·rename_i e' l' hc
   simp only [Option.some.injEq,Prod.mk.injEq] at h
   obtain ⟨rfl,rfl⟩:=h
   exact hb _ (List.mem_of_getElem? hc)
  ·cases h
 ·cases h
theorem Jm (ρ:Nat→V) (x:SV) (k:Nat) (b:Bool) (e:TypeId) (l:LE):(Z4 x k b e l).den ρ=Zi (x.den ρ) k b e (l.den ρ):=by
 cases x with
 | own x e' l' => cases k <;> rfl
 | box cs =>
  cases k with
  | zero => rfl
  | succ k => simp only [Z4, SV.den, Zi, List.map_set]; rfl
 | c y => cases y <;> rfl
 | _ => cases k <;> rfl
theorem JA {x:SV} {k n:Nat} {b:Bool} {e:TypeId} {l:LE} (hx:x.bd n) (hl:l.bd n):(Z4 x k b e l).bd n:=by
 unfold Z4
 split
 ·exact hl
 ·intro c hc
  rcases List.mem_or_eq_of_mem_set hc with hc | rfl
  ·exact hx c hc
  ·exact hl
 ·exact hx
section
variable {P:Program} {E:Env} {tx:Odr} {tk:Bool} {R:AV→List AV→Prop} {A:Nat→List V→Prop} {ρ:Nat→V} {g:Nat→SV} {o:Oper} {n:Nat} {k:K}
theorem ZlF {x:Operand} (hg:∀ d,(g d).bd n) (htop:∀ i,E.top≤i→g i = .dead) (ho:o.op = .move x) (h:(JL P E tx tk g o n k).wp P R A ρ):Yw tx P R A ρ g o n k:=by
 have plain:(k (Ja P g x) [] [] n).wp P R A ρ→Yw tx P R A ρ g o n k:=fun hk=>ZS hk (ZA hg x) (by rw [J9];exact Zeh (.inl ho))
 simp only [JL,ho] at h
 split at h
 ·rename_i t
  have ht:=hg t
  split at h
  ·rename_i vs hv
   rw [hv] at ht
   exact Wl h ht (us1 trivial) (Zhd ho (by rw [hv];rfl))
  ·rename_i b e xs hv
   rw [hv] at ht
   unfold Zdv at h
   split at h
   ·split at h
    ·rename_i hb
     obtain rfl:b=true:=by cases b<;>simp_all
     refine plain ?_
     have:Ja P g (.tmp t) = .mref t 0:=by simp only [Ja,hv]
     rw [this]
     exact h
    split at h
    ·rename_i us hus
     obtain ⟨us',rfl,q1,q2,q3⟩:=JY ρ htop (t:=t) hv hus
     exact VS h ht (JW hus ht) (by rw [q1];exact Zei (.inl ho) (by rw [hv];rfl) q2 q3)
    ·exact h.elim
   ·refine plain ?_
    have:Ja P g (.tmp t)=match b with | true=>.mref t 0 | false=>.c (.slice false (P.cellsOf e) xs):=by simp only [Ja,hv];cases b<;>rfl
    rw [this]
    cases b<;>exact h
  ·exact plain h
 ·exact plain h
theorem ZhV {x:Operand} (hg:∀ d,(g d).bd n) (htop:∀ i,E.top≤i→g i = .dead) (ho:o.op = .assign x) (h:(JL P E tx tk g o n k).wp P R A ρ):Yw tx P R A ρ g o n k:=by
 have plain:(k (Ja P g x) [] [] n).wp P R A ρ→Yw tx P R A ρ g o n k:=fun hk=>ZS hk (ZA hg x) (by rw [J9];exact Zeh (.inr ho))
 simp only [JL,ho] at h
 split at h
 ·rename_i t
  have ht:=hg t
  split at h
  ·exact h.elim
  ·rename_i b e xs hv
   rw [hv] at ht
   unfold Zdv at h
   split at h
   ·split at h
    ·rename_i hb
     obtain rfl:b=true:=by cases b<;>simp_all
     refine plain ?_
     have:Ja P g (.tmp t) = .mref t 0:=by simp only [Ja,hv]
     rw [this]
     exact h
    split at h
    ·rename_i us hus
     obtain ⟨us',rfl,q1,q2,q3⟩:=JY ρ htop (t:=t) hv hus
     exact VS h ht (JW hus ht) (by rw [q1];exact Zei (.inr ho) (by rw [hv];rfl) q2 q3)
    ·exact h.elim
   ·refine plain ?_
    have:Ja P g (.tmp t)=match b with | true=>.mref t 0 | false=>.c (.slice false (P.cellsOf e) xs):=by simp only [Ja,hv];cases b<;>rfl
    rw [this]
    cases b<;>exact h
  ·exact plain h
 ·split at h
  ·exact ZS h trivial (Zj8 ho)
  ·exact h.elim
 ·exact plain h
theorem Zmf {c a b:Operand} (hg:∀ d,(g d).bd n) (ho:o.op = .pick c a b) (h:(JL P E tx tk g o n k).wp P R A ρ):Yw tx P R A ρ g o n k:=by
 simp only [JL,ho] at h
 split at h
 ·rename_i v hv
  obtain ⟨h1,h2⟩:=ZfA h
  have hc:=Zc ρ hv
  have hex:=Zio ho hc
  cases hb:v.den ρ with
  | true =>
   rw [hb,if_pos rfl] at hex
   exact ZS (h1 hb) (ZA hg a) (by rw [J9];exact hex)
  | false =>
   rw [hb,if_neg (by simp)] at hex
   exact ZS (h2 hb) (ZA hg b) (by rw [J9];exact hex)
 ·exact h.elim
theorem ZjR {T:TypeId} (ho:o.op = .alloc T) (h:(JL P E tx tk g o n k).wp P R A ρ):Yw tx P R A ρ g o n k:=by
 simp only [JL,ho] at h
 split at h
 ·rename_i cs hcs
  obtain ⟨i,z,h1,h2,h3,h4⟩:=Zko ρ n hcs
  exact ZS h h4 (ZgZ ho h1 h2 h3)
 ·exact h.elim
theorem ZnA {T:TypeId} {x:Operand} (hg:∀ d,(g d).bd n) (ho:o.op = .box T x) (h:(JL P E tx tk g o n k).wp P R A ρ):Yw tx P R A ρ g o n k:=by
 simp only [JL,ho] at h
 split at h
 ·rename_i cs hcs
  refine ZS h (fun c hc=>?_) ?_
  ·obtain ⟨y,hy,rfl⟩:=List.mem_map.1 hc
   exact V5 hcs (ZA hg x) y hy
  ·have hd:=KZ ρ hcs
   have:=ZjQ ho (J9 P g ρ x).symm hd
   have he:((SV.box (cs.map .c)).den ρ) = .box (cs.map (SC.den ρ)):=by simp only [SV.den,List.map_map];rfl
   rw [he]
   exact this
 ·exact h.elim
theorem Zem (parts:Array (Nat×Operand)):(parts.toList.map fun p=>(p.1,Zm P (fun d=>(g d).den ρ) p.2))=(parts.toList.map fun p=>(p.1,Ja P g p.2)).map fun p=>(p.1,p.2.den ρ):=by
 rw [List.map_map]
 refine List.map_congr_left fun p _=>?_
 simp only [Function.comp,J9]
theorem Zgl (hg:∀ d,(g d).bd n) (parts:Array (Nat×Operand)):∀ p∈(parts.toList.map fun p=>(p.1,Ja P g p.2)),p.2.bd n:=by
 intro p hp
 obtain ⟨q,_,rfl⟩:=List.mem_map.1 hp
 exact ZA hg q.2
theorem Zfv {T:TypeId} {parts:Array (Nat×Operand)} {f t:Nat} {e:TypeId} {l:LE} (hg:∀ d,(g d).bd n) (htop:∀ i,E.top≤i→g i = .dead) (ho:o.op = .build T parts) (hp:Zfa g parts.toList=some (f,t,e,l)) (h:(ZdF P E tx g T f t e l n k).wp P R A ρ):Yw tx P R A ρ g o n k:=by
 have hparts:parts.toList = [(f,.tmp t)]∧g t = .own true e l:=by
  unfold Zfa at hp
  split at hp
  ·split at hp
   ·rename_i h1 _ _ _ h2
    simp only [Option.some.injEq,Prod.mk.injEq] at hp
    obtain ⟨rfl,rfl,rfl,rfl⟩:=hp
    exact ⟨h1,h2⟩
   ·cases hp
  ·cases hp
 obtain ⟨hp1,ht⟩:=hparts
 have hbl:=hg t
 rw [ht] at hbl
 unfold ZdF at h
 split at h
 ·rename_i fs i hT hi
  split at h
  ·rename_i hall
   split at h
   ·rename_i z fd hz hfd
    split at h
    ·rename_i zc us hzc hus
     split at h
     ·rename_i hh
      have h1:=YW ρ z.cells.toList
      rw [hzc] at h1
      have hz1:WK z.cells.toList=some (zc.map (SC.den ρ)):=h1.symm
      obtain ⟨us',rfl,q1,q2,q3⟩:=JY ρ htop (t:=t) ht hus
      refine VS h (fun c hc=>?_) (JW hus hbl) ?_
      ·rcases List.mem_or_eq_of_mem_set hc with hc | rfl
       ·obtain ⟨y,hy,rfl⟩:=List.mem_map.1 hc
        exact KW hzc y hy
       ·exact hbl
      ·have hod:JX tx (fun d=>(g d).den ρ) t (us.tail.map fun u=>(u.1,u.2.den ρ)):=by
        rcases q2 with ⟨h0,_⟩ | q2
        ·cases h0
        ·exact q2
       have:=ZbR (zc:=zc.map (SC.den ρ)) ho hp1 hT hi hz hz1 hall hfd hh.1 (by simpa using hh.2) (show (fun d=>(g d).den ρ) t = .own true e (l.den ρ) by show (g t).den ρ=_;rw [ht];rfl) hod
       rw [q1]
       have he:(SV.aggo ((zc.map .c).set fd.offset (.own true e l))).den ρ = .aggo ((zc.map (SC.den ρ)).set fd.offset (.own true e (l.den ρ))):=by
        simp only [SV.den,List.map_set,List.map_map]
        rfl
       rw [he]
       exact this
     ·exact h.elim
    ·exact h.elim
   ·exact h.elim
  ·exact h.elim
 ·exact h.elim
theorem ZkH {T:TypeId} {parts:Array (Nat×Operand)} (hg:∀ d,(g d).bd n) (htop:∀ i,E.top≤i→g i = .dead) (ho:o.op = .build T parts) (h:(JL P E tx tk g o n k).wp P R A ρ):Yw tx P R A ρ g o n k:=by
 simp only [JL,ho] at h
 split at h
 ·rename_i f t e l hp
  exact Zfv hg htop ho hp h
 split at h
 ·rename_i fs i hT hi
  split at h
  ·rename_i hall
   split at h
   ·rename_i z hz
    split at h
    ·rename_i zc hzc
     split at h
     ·rename_i cs hcs
      refine ZS h (Zdx _ _ _ _ (KW hzc) (Zgl hg parts) hcs) ?_
      have h1:=YW ρ z.cells.toList
      rw [hzc] at h1
      refine Zhx ho hT hi hz h1.symm hall ?_
      rw [Zem]
      exact ZbI ρ _ _ _ _ hcs
     ·exact h.elim
    ·exact h.elim
   ·exact h.elim
  ·exact h.elim
 ·exact h.elim
theorem K0 {w:World} {lim:Nat→Nat} {f g:Bool} {s s':Nat} {v:Value} (hg:g=true→f=true) (h:Rep w lim (.slice f s []) v):Rep w lim (.slice g s' []) v:=by
 have key:∀ (y:AV),Rep w lim y v→y = .slice f s []→Rep w lim (.slice g s' []) v:=by
  intro y hy hye
  cases hy with
  | sliceN => exact .sliceN
  | @sliceE f' s2 a cap hf =>
   injection hye with h1 h2 h3
   exact .sliceE fun h=>hf (h1.trans (hg h))
  | @sliceC f' s2 xs b o cap us hs hc hf hle hlim hus hcell hr =>
   injection hye with h1 h2 h3
   subst h3
   exact .sliceE fun h=>by have:=hf (h1.trans (hg h));simpa using this
  | val _ => cases hye
  | agg _ _ _ => cases hye
  | nest => cases hye
 exact key _ h rfl
theorem ZfD {w:World} {lim:Nat→Nat} {f:Bool} {s:Nat} {xs:List (List AV)} {v:Value} (h:Rep w lim (.slice f s xs) v):Rep w lim (.slice false s xs) v:=by
 have key:∀ (y:AV),Rep w lim y v→y = .slice f s xs→Rep w lim (.slice false s xs) v:=by
  intro y hy hye
  cases hy with
  | sliceN => injection hye with h1 h2 h3; subst h3; exact .sliceN
  | @sliceE f' s2 a cap hf => injection hye with h1 h2 h3; subst h3; exact .sliceE fun h => by cases h
  | @sliceC f' s2 xs b o cap us hs hc hf hle hlim hus hcell hr =>
   injection hye with h1 h2 h3
   subst h2
   subst h3
   exact .sliceC hs hc (fun h=>by cases h) hle hlim hus hcell hr
  | val _ => cases hye
  | agg _ _ _ => cases hye
  | nest => cases hye
 exact key _ h rfl
theorem Zkw (ρ:Nat→V) {s:Sh} {c c':SC} (h:Zi7 s c=some c'):∀ (w:World) (lim:Nat→Nat) (u:Value),Rep w lim (c.den ρ) u→Rep w lim (c'.den ρ) u:=by
 unfold Zi7 at h
 split at h
 ·split at h
  ·simp only [Option.some.injEq] at h
   subst h
   rename_i hk
   subst hk
   exact fun w lim u hr=>ZfD hr
  ·split at h
   ·simp only [Option.some.injEq] at h
    subst h
    exact fun w lim u hr=>K0 (fun h=>by cases h) hr
   ·cases h
 ·simp only [Option.some.injEq] at h
  subst h
  exact fun _ _ _ h=>h
theorem ZjA {n:Nat} {s:Sh} {c c':SC} (h:Zi7 s c=some c') (hb:c.bd n):c'.bd n:=by
 unfold Zi7 at h
 split at h
 ·split at h
  ·simp only [Option.some.injEq] at h
   subst h
   exact hb
  ·split at h
   ·simp only [Option.some.injEq] at h
    subst h
    trivial
   ·cases h
 ·simp only [Option.some.injEq] at h
  subst h
  exact hb
theorem Ki {n:Nat} : ∀ (l:List Sh) (cs cs':List SC),Yv l cs=some cs'→(∀ c∈cs,c.bd n)→∀ c∈cs',c.bd n
 | [], [], _, h, _ => by simp only [Yv, Option.some.injEq] at h; subst h; simp
 | [], _ :: _, _, h, _ => by simp [Yv] at h
 | _ :: _, [], _, h, _ => by simp [Yv] at h
 | s :: ss, c :: cs, r, h, hb => by
  simp only [Yv] at h
  split at h
  ·rename_i v vs hv hvs
   simp only [Option.some.injEq] at h
   subst h
   intro x hx
   rcases List.mem_cons.1 hx with rfl | hx
   ·exact ZjA hv (hb c (by simp))
   ·exact Ki ss cs vs hvs (fun y hy=>hb y (by simp [hy])) x hx
  ·cases h
theorem Zen (ρ:Nat→V):∀ (l:List Sh) (cs cs':List SC),Yv l cs=some cs'→cs'.length=cs.length∧∀ (i:Nat) (c:SC),cs'[i]? = some c→∃ c0,cs[i]? = some c0∧∀ (w:World) (lim:Nat→Nat) (u:Value),Rep w lim (c0.den ρ) u→Rep w lim (c.den ρ) u
 | [], [], _, h => by simp only [Yv, Option.some.injEq] at h; subst h; exact ⟨rfl, by simp⟩
 | [], _ :: _, _, h => by simp [Yv] at h
 | _ :: _, [], _, h => by simp [Yv] at h
 | s :: ss, c :: cs, r, h => by
  simp only [Yv] at h
  split at h
  ·rename_i v vs hv hvs
   simp only [Option.some.injEq] at h
   subst h
   obtain ⟨h1,h2⟩:=Zen ρ ss cs vs hvs
   refine ⟨by simp [h1],fun i x hx=>?_⟩
   cases i with
   | zero =>
    simp only [List.getElem?_cons_zero,Option.some.injEq] at hx
    subst hx
    exact ⟨c,rfl,Zkw ρ hv⟩
   | succ i => exact h2 i x (by simpa using hx)
  ·cases h
theorem KY (ρ:Nat→V) (l:List Sh) (cs cs':List SC) (h:Yv l cs=some cs'):(cs'.map (SC.den ρ)).length=(cs.map (SC.den ρ)).length∧
  ∀ (w:World) (lim:Nat→Nat) (us:List Value),J2 w lim (cs.map (SC.den ρ)) us→J2 w lim (cs'.map (SC.den ρ)) us:=by
 obtain ⟨h1,h2⟩:=Zen ρ l cs cs' h
 refine ⟨by simp [h1],fun w lim us hr=>⟨by rw [← hr.1];simp [h1],fun x hx=>?_,fun i x u hx hu=>?_⟩⟩
 ·obtain ⟨y,_,rfl⟩:=List.mem_map.1 hx
  exact Zg4 ρ y
 ·rw [List.getElem?_map] at hx
  cases hc:cs'[i]? with
  | none => rw [hc] at hx; cases hx
  | some c =>
   rw [hc] at hx
   simp only [Option.map_some,Option.some.injEq] at hx
   subst hx
   obtain ⟨c0,g1,g2⟩:=h2 i c hc
   exact g2 w lim u (hr.2.2 i _ u (by rw [List.getElem?_map,g1];rfl) hu)
theorem ZfW (ρ:Nat→V) (s:Sh) (c:SC):(∀ n,c.bd n→(Zmx s c).bd n)∧((c.den ρ).isCell=true→((Zmx s c).den ρ).isCell=true)∧∀ (w:World) (lim:Nat→Nat) (u:Value),Rep w lim (c.den ρ) u→Rep w lim ((Zmx s c).den ρ) u:=by
 unfold Zmx
 split
 ·exact ⟨fun _ h=>h,fun _=>rfl,fun w lim u h=>K0 (fun h=>h) h⟩
 ·exact ⟨fun _ h=>h,fun h=>h,fun _ _ _ h=>h⟩
theorem ZfL (ρ:Nat→V):∀ (l:List Sh) (cs:List SC),(ZjV l cs).length=cs.length∧∀ (i:Nat) (c:SC),(ZjV l cs)[i]? = some c→∃ c0 s,cs[i]? = some c0∧(c=c0∨c=Zmx s c0)
 | [], cs => by cases cs <;> exact ⟨rfl, fun i c h => ⟨c, .bool, h, .inl rfl⟩⟩
 | s :: ss, [] => ⟨rfl, fun i c h => by simp [ZjV] at h⟩
 | s :: ss, c :: cs => by
  obtain ⟨h1,h2⟩:=ZfL ρ ss cs
  refine ⟨by simp [ZjV,h1],fun i x hx=>?_⟩
  cases i with
  | zero =>
   simp only [ZjV,List.getElem?_cons_zero,Option.some.injEq] at hx
   exact ⟨c,s,rfl,.inr hx.symm⟩
  | succ i => exact h2 i x (by simpa [ZjV] using hx)
theorem Zna {n:Nat} (P:Program) (T:TypeId) {vc:List SC} (h:∀ c∈vc,c.bd n):∀ c∈nrm P T vc,c.bd n:=by
 unfold nrm
 split
 ·rename_i sh _
  intro c hc
  obtain ⟨i,hi⟩:=List.mem_iff_getElem?.1 hc
  obtain ⟨c0,s,h0,e | e⟩:=(ZfL (fun _=>.i 0) sh vc).2 i c hi
  ·rw [e];exact h c0 (List.mem_of_getElem? h0)
  ·rw [e];exact (ZfW (fun _=>.i 0) s c0).1 n (h c0 (List.mem_of_getElem? h0))
 ·exact h
theorem Zns (ρ:Nat→V) (P:Program) (T:TypeId) (vc:List SC):((nrm P T vc).map (SC.den ρ)).length=(vc.map (SC.den ρ)).length∧
  ∀ (w:World) (lim:Nat→Nat) (us:List Value),J2 w lim (vc.map (SC.den ρ)) us→J2 w lim ((nrm P T vc).map (SC.den ρ)) us:=by
 unfold nrm
 split
 ·rename_i sh _
  obtain ⟨h1,h2⟩:=ZfL ρ sh vc
  have hat:∀ (i:Nat) (x:AV),((ZjV sh vc).map (SC.den ρ))[i]? = some x→∃ x0,(vc.map (SC.den ρ))[i]? = some x0∧(x0.isCell=true→x.isCell=true)∧∀ (w:World) (lim:Nat→Nat) (u:Value),Rep w lim x0 u→Rep w lim x u:=by
   intro i x hx
   rw [List.getElem?_map] at hx
   obtain ⟨c,hc,rfl⟩:=Option.map_eq_some_iff.1 hx
   obtain ⟨c0,s,h0,e | e⟩:=h2 i c hc
   ·subst e
    exact ⟨_,by rw [List.getElem?_map,h0];rfl,fun h=>h,fun _ _ _ h=>h⟩
   ·subst e
    exact ⟨_,by rw [List.getElem?_map,h0];rfl,(ZfW ρ s c0).2.1,(ZfW ρ s c0).2.2⟩
  refine ⟨by simp [h1],fun w lim us hr=>⟨by rw [← hr.1];simp [h1],fun x hx=>?_,fun i x u hx hu=>?_⟩⟩
  ·obtain ⟨i,hi⟩:=List.mem_iff_getElem?.1 hx
   obtain ⟨x0,h0,h3,_⟩:=hat i x hi
   exact h3 (hr.2.1 x0 (List.mem_of_getElem? h0))
  ·obtain ⟨x0,h0,_,h4⟩:=hat i x hx
   exact h4 w lim u (hr.2.2 i x0 u h0 hu)
 ·exact ⟨rfl,fun _ _ _ h=>h⟩
theorem Zfc (o:BC) (x:SC):ZjP o x = .c x∨∃ e s,ZjP o x = .own true e .nil∧x = .slice true s .nil:=by
 unfold ZjP
 split
 ·exact .inr ⟨_,_,rfl,rfl⟩
 ·exact .inl rfl
theorem Zcz:∀ (os:List BC) (xs:List SC),(Yu os xs).length=xs.length
 | [], xs => by simp [Yu]
 | _ :: _, [] => rfl
 | _ :: os, _ :: xs => by simp [Yu, Zcz os xs]
theorem V4:∀ (os:List BC) (xs:List SC) (i:Nat) (y:BC),(Yu os xs)[i]? = some y→∃ x,xs[i]? = some x∧(y = .c x∨∃ e s,y = .own true e .nil∧x = .slice true s .nil)
 | [], xs, i, y, h => by
  simp only [Yu,List.getElem?_map] at h
  obtain ⟨x,hx,rfl⟩:=Option.map_eq_some_iff.1 h
  exact ⟨x,hx,.inl rfl⟩
 | _ :: _, [], i, y, h => by simp [Yu] at h
 | o :: _, x :: _, 0, y, h => by
  simp only [Yu,List.getElem?_cons_zero,Option.some.injEq] at h
  subst h
  exact ⟨x,rfl,Zfc o x⟩
 | o :: os, x :: xs, i + 1, y, h => by
  simp only [Yu,List.getElem?_cons_succ] at h
  obtain ⟨x',h1,h2⟩:=V4 os xs i y h
  exact ⟨x',by simpa using h1,h2⟩
theorem Zim {n:Nat} (os:List BC) (xs:List SC) (h:∀ c∈xs,c.bd n):∀ c∈Yu os xs,c.bd n:=by
 intro c hc
 obtain ⟨i,hi⟩:=List.mem_iff_getElem?.1 hc
 obtain ⟨x,h1,rfl | ⟨e,s,rfl,rfl⟩⟩:=V4 os xs i c hi
 ·exact h x (List.mem_of_getElem? h1)
 ·trivial
theorem Zms {P:Program} (ρ:Nat→V) (os:List BC) {vc0:List AV} {xs:List SC}
  (h:(xs.map (SC.den ρ)).length=vc0.length∧∀ (w:World) (lim:Nat→Nat) (us:List Value),J2 w lim vc0 us→J2 w lim (xs.map (SC.den ρ)) us) :
  ((Yu os xs).map (BC.den ρ)).length=vc0.length∧∀ (w:World) (lim:Nat→Nat) (us:List Value),J2 w lim vc0 us→
   (∀ z∈(Yu os xs).map (BC.den ρ),ZaC z)∧∀ (j:Nat) (z:AV) (u:Value),((Yu os xs).map (BC.den ρ))[j]? = some z→us[j]? = some u→J0 P w lim none z u:=by
 refine ⟨by rw [List.length_map,Zcz,← h.1,List.length_map],fun w lim us hr=>?_⟩
 have hr:=h.2 w lim us hr
 refine ⟨fun z hz=>?_,fun j z u hz hu=>?_⟩
 ·obtain ⟨y,hy,rfl⟩:=List.mem_map.1 hz
  obtain ⟨i,hi⟩:=List.mem_iff_getElem?.1 hy
  obtain ⟨x,h1,rfl | ⟨e,s,rfl,rfl⟩⟩:=V4 os xs i y hi
  ·exact .inl (hr.2.1 _ (List.mem_map.2 ⟨x,List.mem_of_getElem? h1,rfl⟩))
  ·exact .inr (.inl ⟨_,_,_,rfl⟩)
 ·rw [List.getElem?_map] at hz
  obtain ⟨y,hy,rfl⟩:=Option.map_eq_some_iff.1 hz
  obtain ⟨x,h1,he⟩:=V4 os xs j y hy
  have hx:(xs.map (SC.den ρ))[j]? = some (x.den ρ):=by rw [List.getElem?_map,h1];rfl
  have hc:=hr.2.1 _ (List.mem_of_getElem? hx)
  have hrep:=hr.2.2 j _ u hx hu
  rcases he with rfl | ⟨e,s,rfl,rfl⟩
  ·show J0 P w lim none (x.den ρ) u
   cases hxd:x.den ρ<;>rw [hxd] at hc hrep<;>simp [AV.isCell] at hc<;>exact hrep
  ·exact Zaq (s:=s) hrep
theorem Zdg {T:TypeId} {len:Nat} {parts:Array (Nat×Operand)} (hg:∀ d,(g d).bd n) (ho:o.op = .buildSlice T len parts) (h:(JL P E tx tk g o n k).wp P R A ρ):Yw tx P R A ρ g o n k:=by
 simp only [JL,ho] at h
 split at h
 ·rename_i e hT
  split at h
  ·rename_i i hi
   split at h
   ·rename_i z hz
    split at h
    ·rename_i zc hzc
     split at h
     ·rename_i hh
      split at h
      ·rename_i cs sh hcs hsh
       split at h
       ·rename_i cs' hcs'
        have hb:∀ c∈cs,c.bd n:=Zdx _ _ _ _ (fun c hc=>by
         obtain ⟨l,hl,hc⟩:=List.mem_flatten.1 hc
         rw [(List.mem_replicate.1 hl).2] at hc
         exact KW hzc c hc) (Zgl hg parts) hcs
        refine ZS h (x:=.own _ e _) (Zlg _ _ (Ki _ _ _ hcs' hb) _) ?_
        have h1:=YW ρ z.cells.toList
        rw [hzc] at h1
        have h2:=ZbI ρ _ _ _ _ hcs
        rw [← Zem,List.map_flatten,List.map_replicate] at h2
        have:=ZaG (E.exO o) ho hT hi hz h1.symm hh.1 hh.2.1 hh.2.2.1 hh.2.2.2 h2 (KY ρ _ _ _ hcs')
        rw [← Zic] at this
        exact this
       ·exact h.elim
      ·exact h.elim
     ·exact h.elim
    ·exact h.elim
   ·exact h.elim
  ·exact h.elim
 ·exact h.elim
theorem ZkS (ρ:Nat→V) (x:SC):Ya P (x.den ρ)=x.den ρ:=by cases x<;>rfl
theorem ZeK {a:Operand} {p:Nat×Nat×TypeId×LE×IE×Nat×Nat} (h:Zcr P g a=some p):∃ d q e l i s off,p=(d,q,e,l,i,s,off)∧Ja P g a = .eref d q i s off∧Z6 (g d) q=some (e,l)∧Ze P e=true:=by
 unfold Zcr at h
 split at h
 ·rename_i d q i s off ha
  split at h
  ·rename_i e l hp
   split at h
   ·rename_i hd
    simp only [Option.some.injEq] at h
    exact ⟨d,q,e,l,i,s,off,h.symm,ha,hp,hd⟩
   ·cases h
  ·cases h
 ·cases h
theorem W5:∀ (l:List Sh) (n:Nat),(ZC l n).length=l.length
 | [], _ => rfl
 | s :: l, n => by simp only [ZC, List.length_cons, W5 l]
theorem ZjE {xs:List (List AV)} {i off m:Nat} {c:List AV} (h:(Zjw (KK xs i off m) off m)[i]? = some c) (hc:c.length=m):∃ row,xs[i]? = some row∧c=((row.drop off).take m).map ZaK∧(0 < m→off+m≤row.length):=by
 unfold Zjw KK at h
 rw [List.getElem?_map,List.getElem?_modify] at h
 cases hr:xs[i]? with
 | none => rw [hr] at h; cases h
 | some row =>
  rw [hr] at h
  simp only [Option.map_eq_map,Option.map_some,Option.some.injEq,↓reduceIte] at h
  refine ⟨row,rfl,?_,?_⟩
  ·rcases Nat.lt_or_ge off row.length with hlt | hge
   ·have hl:(row.take off).length=off:=by rw [List.length_take];omega
    rw [List.append_assoc,List.drop_append_of_le_length (by omega),List.drop_of_length_le (by omega),List.nil_append] at h
    have hm:(List.map ZaK (List.take m (List.drop off row))).length≤m:=by simp;omega
    rcases Nat.lt_or_ge (row.length-off) m with h1 | h1
    ·have hd:row.drop (off+m) = []:=List.drop_of_length_le (by omega)
     rw [hd,List.append_nil] at h
     rw [← h,List.take_of_length_le hm]
    ·have hm':(List.map ZaK (List.take m (List.drop off row))).length=m:=by simp;omega
     rw [List.take_append_of_le_length (by omega),List.take_of_length_le (by omega)] at h
     exact h.symm
   ·have hd:row.drop off = []:=List.drop_of_length_le hge
    rw [hd,List.take_nil,List.map_nil,List.append_nil,List.take_of_length_le hge,List.drop_of_length_le (show row.length≤off+m by omega),List.append_nil,hd,List.take_nil] at h
    rw [← h,hd,List.take_nil,List.map_nil]
  ·intro hm
   rw [← h] at hc
   simp only [List.length_take,List.length_drop,List.length_append,List.length_map] at hc
   omega
theorem Zca {T:TypeId} {a:Operand} {agg:Bool} {d q:Nat} {e:TypeId} {l:LE} {i:IE} {off:Nat} (hg:∀ d,(g d).bd n) (ho:o.op = .load T a) (ha:Ja P g a = .eref d q i (P.cellsOf (bT e)) off) (hp:Z6 (g d) q=some (e,l)) (hdp:Ze P e=true) (hfit:off+P.cellsOf T≤P.cellsOf (bT e)) (h0:0 < P.cellsOf T)
  (hng:(g d).isG=false) (hT:Z2 P T=some agg) (h:(ZcY P g T agg d q e l i off n k).wp P R A ρ):Yw tx P R A ρ g o n k:=by
 unfold ZcY at h
 split at h
 case h_2=>exact h.elim
 rename_i sh hsh
 split at h
 case isFalse=>exact h.elim
 rename_i hl
 obtain ⟨hl,hag⟩:=hl
 obtain ⟨vs,w1,w2,w3⟩:=h
 have hbl:=Jt hp (hg d)
 have hbi:=ZA (P:=P) hg a
 rw [ha] at hbi
 have hbi:i.bd n:=hbi
 obtain ⟨row,r1,r2,r3⟩:=ZjE w2 (by rw [List.length_map,W5,hl])
 have r3:=r3 h0
 have hat:=ZL ρ hp
 have hbd:=Jp sh n
 have hle:n≤n+sh.length:=Nat.le_add_right _ _
 have hld:∀ x:LE,x.bd n→x.den (bind ρ n vs)=x.den ρ:=fun x hx=>LE.den_congr (Kn ρ n vs) x hx
 have hlb:(LE.fn (.dfz1 off (P.cellsOf T)) l i .nil .nil).bd n:=⟨hbl,hbi,trivial,trivial⟩
 have hup:((Z4 (g d) q true e (.fn (.dfz1 off (P.cellsOf T)) l i .nil .nil)).den (bind ρ n vs))=Zi ((g d).den ρ) q true e (KK (l.den ρ) (i.den ρ).toNat off (P.cellsOf T)):=by
  rw [Jm,SV.den_congr (Kn ρ n vs) (g d) (hg d),hld _ hlb]
  rfl
 refine ⟨bind ρ n vs,n+sh.length,_,_,[d],hle,Kn ρ n vs,?_,?_,w3,?_⟩
 ·cases agg with
  | true => exact hbd
  | false =>
   show SV.bd _ (match ZC sh n with | [x]=>.c x | _=>.dead)
   split
   ·rename_i x hx;exact hbd x (by rw [hx];simp)
   ·trivial
 ·intro u hu
  rw [List.mem_singleton] at hu
  subst hu
  exact SV.bd_mono hle _ (JA (hg d) hlb)
 ·rw [List.map_cons,List.map_nil]
  show YT tx P o _ _ [(d,(Z4 (g d) q true e (.fn (.dfz1 off (P.cellsOf T)) l i .nil .nil)).den (bind ρ n vs))] [d]
  rw [hup]
  cases agg with
  | true =>
   have:=VZ ho hT (Zc ρ ha) (show Zj ((fun d=>(g d).den ρ) d) q=_ from hat) (Kw ρ hng) r1 hfit hdp
   rw [← r2] at this
   exact this.t
  | false =>
   have hl1:sh.length=1:=by rcases hag with h | h;cases h;exact h
   obtain ⟨s1,rfl⟩:=List.length_eq_one_iff.1 hl1
   have hT1:P.cellsOf T=1:=by rw [← hl];rfl
   rw [hT1] at r2 r3 hfit ⊢
   obtain ⟨x,hx⟩:∃ x,row[off]? = some x:=⟨row[off]'(by omega),List.getElem?_eq_getElem (by omega)⟩
   have e1:(row.drop off).take 1 = [x]:=by rw [List.take_one,List.head?_drop,hx];rfl
   rw [e1] at r2
   have:=Vt ho hT (Zc ρ ha) (show Zj ((fun d=>(g d).den ρ) d) q=_ from hat) (Kw ρ hng) r1 hx hfit hdp
   simp only [ZC,List.map_cons,List.map_nil,List.cons.injEq,and_true] at r2
   rw [← r2] at this
   exact this.t
theorem Zm2 {xs:List (List AV)} {i:Int} {o' s:Nat} {e:TypeId} (h:qop (.nst o' s e) xs i=true):∃ row ys,xs[i.toNat]? = some row∧row[o']? = some (.nest s true e ys)∧VK xs i.toNat o'=ys:=by
 simp only [qop] at h
 cases hr:xs[i.toNat]? with
 | none => rw [hr] at h; cases h
 | some row =>
  rw [hr] at h
  simp only [Option.bind_some] at h
  split at h
  ·rename_i s' e' ys hz
   simp only [Bool.and_eq_true,beq_iff_eq] at h
   obtain ⟨rfl,rfl⟩:=h
   exact ⟨row,ys,rfl,hz,by simp only [VK,hr,Option.bind_some,hz]⟩
  ·cases h
theorem Zfk {T:TypeId} {a:Operand} {p:Nat×Nat×TypeId×LE×IE×Nat×Nat} (hg:∀ d,(g d).bd n) (ho:o.op = .load T a) (hp:Zcr P g a=some p) (h:(ZcX P tk g T p n k).wp P R A ρ):Yw tx P R A ρ g o n k:=by
 obtain ⟨d,q,e,l,i,s,off,rfl,ha,hpl,hdp⟩:=ZeK hp
 have hbl:=Jt hpl (hg d)
 have hbi:=ZA (P:=P) hg a
 rw [ha] at hbi
 have hbi:i.bd n:=hbi
 have hat:=ZL ρ hpl
 simp only [ZcX] at h
 split at h
 case isFalse=>exact h.elim
 rename_i hh
 obtain ⟨rfl,hfit,h0,hng⟩:=hh
 split at h
 ·rename_i hT
  exact Zca hg ho ha hpl hdp hfit h0 hng hT h
 ·rename_i hT
  split at h
  ·rename_i _ e' hTe
   obtain ⟨q1,q2,h⟩:=h
   obtain ⟨row,ys,m1,m2,m3⟩:=Zm2 q2
   refine Wl h (show LE.bd n _ from ⟨hbl,hbi,trivial,trivial⟩) (us1 (JA (hg d) ⟨hbl,hbi,trivial,trivial⟩)) ?_
   have:=ZbY ho hT (Zc ρ ha) (show Zj ((fun d=>(g d).den ρ) d) q=_ from hat) (Kw ρ hng) m1 m2 hdp
   rw [← m3] at this
   rw [List.map_cons,List.map_nil]
   show Jv P o _ _ [(d,(Z4 (g d) q true e (.fn (.dput off (P.cellsOf e') false e') l i .nil .nil)).den ρ)] [d]
   rw [Jm]
   exact this
  ·exact Zca hg ho ha hpl hdp hfit h0 hng hT h
 ·exact h.elim
theorem ZhT (ρ:Nat→V) (c:SC):ZkX (c.den ρ)=true:=by cases c<;>rfl
theorem ZeN {T:TypeId} {a x:Operand} {p:Nat×Nat×TypeId×LE×IE×Nat×Nat} (hg:∀ d,(g d).bd n) (htop:∀ i,E.top≤i→g i = .dead) (ho:o.op = .store T a x) (hp:Zcr P g a=some p) (h:(Za7 P E tx g T x p n k).wp P R A ρ):Yw tx P R A ρ g o n k:=by
 obtain ⟨d,q,e,l,i,s,off,rfl,ha,hpl,hdp⟩:=ZeK hp
 have hbl:=Jt hpl (hg d)
 have hbi:=ZA (P:=P) hg a
 rw [ha] at hbi
 have hbi:i.bd n:=hbi
 have hat:=ZL ρ hpl
 simp only [Za7] at h
 split at h
 case isFalse=>exact h.elim
 rename_i hh
 obtain ⟨rfl,hfit,h0,hng⟩:=hh
 split at h
 ·rename_i t e' ys h1 h2
  have hx:x = .tmp t:=by cases x<;>simp [ZM] at h1;rw [h1]
  subst hx
  simp only [ZM,Option.map_some,Option.some.injEq] at h2
  have ht:=hg t
  rw [h2] at ht
  split at h
  case h_2=>exact h.elim
  rename_i us hus
  split at h
  case isFalse=>exact h.elim
  rename_i hh2
  obtain ⟨hT1,hem,hdt⟩:=hh2
  obtain ⟨r1,r2,h⟩:=h
  have r1':0≤i.den ρ:=r1
  have r2':i.den ρ < ((l.den ρ).length:Int):=r2
  obtain ⟨us',rfl,q1,q2,q3⟩:=JY ρ htop (t:=t) h2 hus
  have q2:=q2.resolve_left fun h=>by cases h.1
  refine VS h trivial (fun u hu=>?_) ?_
  ·rcases List.mem_append.1 hu with hu | hu
   ·exact JW hus ht u hu
   ·rw [List.mem_singleton] at hu
    subst hu
    exact JA (hg d) ⟨hbl,hbi,ht,trivial⟩
  ·have:=Zbe (T':=tx) (ys:=ys.den ρ) ho (Zc ρ ha) (show Zj ((fun d=>(g d).den ρ) d) q=_ from hat) (Kw ρ hng) (show (fun d=>(g d).den ρ) t = .own true e' (ys.den ρ) by show (g t).den ρ=_;rw [h2];rfl) hT1 (show (i.den ρ).toNat < _ by omega) (by omega) hdp hem q2 hdt
   rw [List.map_append,q1]
   simp only [List.map_cons,List.map_nil,Jm]
   exact this
 ·split at h
  case h_2=>exact h.elim
  rename_i vc sh hvc hsh
  split at h
  case h_2=>exact h.elim
  rename_i vc' hvc'
  split at h
  case isFalse=>exact h.elim
  rename_i hn
  obtain ⟨r1,r2,h⟩:=h
  have r1':0≤i.den ρ:=r1
  have r2':i.den ρ < ((l.den ρ).length:Int):=r2
  have hbv:=Ki _ _ _ hvc' (V5 hvc (ZA (P:=P) hg x))
  refine Wl h trivial (us1 (JA (hg d) ⟨hbl,hbi,Wv _ hbv⟩)) ?_
  have:=ZaT (vc:=vc.map (SC.den ρ)) (vc':=vc'.map (SC.den ρ)) ho (Zc ρ ha) (show Zj ((fun d=>(g d).den ρ) d) q=_ from hat) (Kw ρ hng) (J9 P g ρ x).symm (KZ ρ hvc) (by simpa using hn) (by omega) (show (i.den ρ).toNat < _ by omega) hfit (KY ρ _ _ _ hvc') (fun z hz=>by obtain ⟨c,_,rfl⟩:=List.mem_map.1 hz;exact ZhT ρ c) hdp
  rw [← Vc] at this
  simp only [List.map_cons,List.map_nil,Jm]
  exact this
theorem Zfs {T:TypeId} {a:Operand} {d off:Nat} {cs:List BC} (hg:∀ d,(g d).bd n) (htop:∀ i,E.top≤i→g i = .dead) (ho:o.op = .load T a) (hT:Z2 P T=some true) (ha:Ja P g a = .ptr d off) (hd:g d = .box cs) (h:(Zc7 P E tx g T d off cs n k).wp P R A ρ):Yw tx P R A ρ g o n k:=by
 unfold Zc7 at h
 split at h
 case h_2=>exact h.elim
 rename_i us hus
 split at h
 case isFalse=>exact h.elim
 rename_i hh
 obtain ⟨rfl,hl,hw⟩:=hh
 obtain ⟨q1,q2⟩:=ZeM ρ htop hus
 have hb:=hg d
 rw [hd] at hb
 have hb:∀ c∈cs,c.bd n:=hb
 refine VS h hb (fun u hu=>?_) ?_
 ·rcases List.mem_append.1 hu with hu | hu
  ·rw [q1 u hu];trivial
  ·rw [List.mem_singleton] at hu
   subst hu
   intro c hc
   obtain ⟨y,hy,rfl⟩:=List.mem_map.1 hc
   have:=hb y hy
   cases y<;>first | exact this | trivial
 ·have:=ZbS (T':=tx) (cs:=cs.map (BC.den ρ)) ho hT (Zc ρ ha) (show (fun d=>(g d).den ρ) d = .box (cs.map (BC.den ρ)) by show (g d).den ρ=_;rw [hd];rfl) (by simpa using hl) (VW hw ρ) q2
  rw [List.map_append]
  have he:(cs.map Znj).map (BC.den ρ)=(cs.map (BC.den ρ)).map ZlM:=by
   rw [List.map_map,List.map_map]
   refine List.map_congr_left fun c _=>?_
   cases c with
   | c x => cases x <;> rfl
   | own _ _ _ => rfl
   | gone => rfl
  simp only [List.map_cons,List.map_nil,SV.den,he]
  exact this
theorem ZlN {T:TypeId} {a:Operand} (hg:∀ d,(g d).bd n) (htop:∀ i,E.top≤i→g i = .dead) (ho:o.op = .load T a) (h:(JL P E tx tk g o n k).wp P R A ρ):Yw tx P R A ρ g o n k:=by
 have ba:=ZA (P:=P) hg a
 simp only [JL,ho] at h
 split at h
 ·rename_i p hp
  exact Zfk hg ho hp h
 split at h
 ·rename_i d off hT ha
  split at h
  ·rename_i cs hcs
   split at h
   ·rename_i hle
    have hb:=hg d
    rw [hcs] at hb
    refine VS h (fun c hc=>?_) (by simp) ?_
    ·obtain ⟨y,hy,rfl⟩:=List.mem_map.1 hc
     exact ZhU (hb y (List.mem_of_mem_drop (List.mem_of_mem_take hy)))
    ·have:YT tx P o (fun d=>(g d).den ρ) (.agg (((((cs.map (BC.den ρ)).drop off).take (P.cellsOf T))).map (Ya P))) [] (fpL tx d off (P.cellsOf T)):=by
      unfold fpL
      split
      ·rename_i hk
       simp only [Bool.and_eq_true,decide_eq_true_eq,List.all_eq_true,List.mem_range] at hk
       exact Wh (cs:=cs.map (BC.den ρ)) ho hT (Zc ρ ha) (by rw [hcs];rfl) (by simpa using hle.1) (K7 hle.2.1 ρ) (Zch hle.2.2 ρ) hk.1 hk.2
      ·exact (Wo (cs:=cs.map (BC.den ρ)) ho hT (Zc ρ ha) (by rw [hcs];rfl) (by simpa using hle.1) (K7 hle.2.1 ρ) (Zch hle.2.2 ρ)).t
     have he:(SV.agg (((cs.drop off).take (P.cellsOf T)).map (Zcj P))).den ρ = .agg (((((cs.map (BC.den ρ)).drop off).take (P.cellsOf T))).map (Ya P)):=by
      simp only [SV.den,List.map_map,← List.map_take,← List.map_drop]
      congr 1
      exact List.map_congr_left fun b _=>ZcJ P ρ b
     rw [he]
     exact this
   ·exact Zfs hg htop ho hT ha hcs h
  ·exact h.elim
 ·rename_i d off hT ha
  split at h
  ·rename_i cs hcs
   have hb:=hg d
   rw [hcs] at hb
   have hd:(fun d=>(g d).den ρ) d = .box (cs.map (BC.den ρ)):=by show (g d).den ρ=_;rw [hcs];rfl
   split at h
   ·rename_i b e xs hx
    have hx':(cs.map (BC.den ρ))[off]? = some (.own b e (xs.den ρ)):=by rw [List.getElem?_map,hx];rfl
    have hbx:=hb _ (List.mem_of_getElem? hx)
    split at h
    ·split at h
     ·rename_i us _ hus
      obtain ⟨q1,q2⟩:=ZeM ρ htop hus
      split at h
      case isFalse=>exact h.elim
      rename_i hmv
      refine VS h hbx (fun u hu=>?_) ?_
      ·rcases List.mem_append.1 hu with hu | hu
       ·rw [q1 u hu];trivial
       ·rw [List.mem_singleton] at hu
        subst hu
        intro c hc
        rcases List.mem_or_eq_of_mem_set hc with hc | rfl
        ·exact hb c hc
        ·trivial
      ·have:=Zb1 (T':=tx) ho hT (Zc ρ ha) hd hx' q2 (Zgs ρ hmv)
       rw [List.map_append]
       simp only [List.map_cons,List.map_nil,SV.den,List.map_set]
       exact this
     ·have:YT tx P o (fun d=>(g d).den ρ) (.mref d (off+1)) [] (fpL tx d off 1):=by
       unfold fpL
       split
       ·rename_i hk
        simp only [Bool.and_eq_true,decide_eq_true_eq,List.all_eq_true,List.mem_range] at hk
        exact V6 ho hT (Zc ρ ha) hd hx' (by simpa using hk.2 0 (by omega))
       ·exact (V3 ho hT (Zc ρ ha) hd hx').t
      exact VS h trivial (by simp) this
    ·split at h
     ·refine Wl h hbx (us1 (fun c hc=>?_)) ?_
      ·rcases List.mem_or_eq_of_mem_set hc with hc | rfl
       ·exact hb c hc
       ·exact hbx
      ·have:=Zc8 ho hT (Zc ρ ha) hd hx'
       simp only [List.map_cons,List.map_nil,SV.den,List.map_set]
       exact this
     ·exact ZS h hbx (Y6 ho hT (Zc ρ ha) hd hx' (fun e xs h=>by cases h) (fun h=>by cases h))
   ·rename_i x hx
    have hx':(cs.map (BC.den ρ))[off]? = some (x.den ρ):=by rw [List.getElem?_map,hx];rfl
    have:YT tx P o (fun d=>(g d).den ρ) (Ya P (x.den ρ)) [] (fpL tx d off 1):=by
     unfold fpL
     split
     ·rename_i hk
      simp only [Bool.and_eq_true,decide_eq_true_eq,List.all_eq_true,List.mem_range] at hk
      exact VB ho hT (Zc ρ ha) hd hx' (fun e xs h=>by cases x<;>cases h) (fun h=>by cases x<;>cases h) (by simpa using hk.2 0 (by omega))
     ·exact (Y6 ho hT (Zc ρ ha) hd hx' (fun e xs h=>by cases x<;>cases h) (fun h=>by cases x<;>cases h)).t
    rw [ZkS] at this
    exact VS h (hb _ (List.mem_of_getElem? hx)) (by simp) this
   ·exact h.elim
   ·exact h.elim
  ·exact h.elim
 ·rename_i agg d q i s off hT ha
  split at h
  ·rename_i e l hp
   split at h
   ·rename_i sh hsh
    split at h
    ·rename_i hh
     obtain ⟨rfl,h2,h3,h4,hnm⟩:=hh
     obtain ⟨vs,w1,w2,w3⟩:=h
     have hbd:=Jp sh n
     have hat:=ZL ρ hp
     have hlen:(ZC sh n).length=P.cellsOf e:=by
      have hsl:∀ (l:List Sh) (n:Nat),(ZC l n).length=l.length:=by
       intro l
       induction l with
       | nil => intro n; rfl
       | cons s l ih => intro n; simp only [ZC, List.length_cons, ih]
      rw [hsl,h2]
     refine ⟨bind ρ n vs,n+sh.length,_,[],[d],Nat.le_add_right _ _,Kn ρ n vs,?_,by simp,w3,?_⟩
     ·cases agg with
      | true => exact fun c hc => hbd c (List.mem_of_mem_drop (List.mem_of_mem_take hc))
      | false =>
       show SV.bd _ (match (ZC sh n)[off]? with | some x=>.c x | none=>.dead)
       split
       ·rename_i x hx;exact hbd x (List.mem_of_getElem? hx)
       ·trivial
     ·cases agg with
      | true =>
       have:=V0 ho hT (Zc ρ ha) (show Zj ((fun d=>(g d).den ρ) d) q=_ from hat) w2 h3 hnm
       rw [← List.map_drop,← List.map_take] at this
       exact this.t
      | false =>
       have hon:P.cellsOf T=1∨off < (ZC sh n).length:=.inr (by omega)
       have hlt:off < (ZC sh n).length:=by omega
       show YT tx P o _ ((match (ZC sh n)[off]? with | some x=>SV.c x | none=>.dead).den (bind ρ n vs)) _ _
       rw [List.getElem?_eq_getElem hlt]
       exact (Vy ho hT (Zc ρ ha) (show Zj ((fun d=>(g d).den ρ) d) q=_ from hat) w2 (by omega) (by rw [List.getElem?_map,List.getElem?_eq_getElem hlt];rfl) hnm).t
    ·exact h.elim
   ·exact h.elim
  ·exact h.elim
 ·rename_i cs hT ha
  rw [ha] at ba
  split at h
  ·rename_i hle
   refine ZS h (fun c hc=>ba c (List.mem_of_mem_take hc)) ?_
   have:=ZbO (cs:=cs.map (SC.den ρ)) ho hT (Zc ρ ha) (by simpa using hle)
   rw [← List.map_take] at this
   exact this
  ·exact h.elim
 ·rename_i cs hT ha
  rw [ha] at ba
  split at h
  ·rename_i x rest
   exact ZS h (ba x (by simp)) (ZaI (cs:=rest.map (SC.den ρ)) ho hT (Zc ρ ha))
  ·exact h.elim
 ·exact h.elim
theorem ZkK {T:TypeId} {a x:Operand} (hg:∀ d,(g d).bd n) (htop:∀ i,E.top≤i→g i = .dead) (ho:o.op = .store T a x) (h:(JL P E tx tk g o n k).wp P R A ρ):Yw tx P R A ρ g o n k:=by
 have bx:=ZA (P:=P) hg x
 simp only [JL,ho] at h
 split at h
 ·rename_i p hp
  exact ZeN hg htop ho hp h
 split at h
 ·rename_i d off ha
  split at h
  ·rename_i cs hcs
   have hb:=hg d
   rw [hcs] at hb
   have hd:(fun d=>(g d).den ρ) d = .box (cs.map (BC.den ρ)):=by show (g d).den ρ=_;rw [hcs];rfl
   split at h
   ·rename_i t b e xs h1 h2
    have hx:x = .tmp t:=by cases x<;>simp [ZM] at h1;rw [h1]
    subst hx
    simp only [ZM,Option.map_some,Option.some.injEq] at h2
    have ht:=hg t
    rw [h2] at ht
    split at h
    ·rename_i us hus
     split at h
     ·rename_i hh
      obtain ⟨us',rfl,q1,q2,q3⟩:=JY ρ htop (t:=t) h2 hus
      refine VS h trivial (fun u hu=>?_) ?_
      ·rcases List.mem_append.1 hu with hu | hu
       ·exact JW hus ht u hu
       ·rw [List.mem_singleton] at hu
        subst hu
        intro c hc
        rcases List.mem_or_eq_of_mem_set hc with hc | rfl
        ·exact hb c hc
        ·exact ht
      ·have:=ZbN (T':=tx) (e:=e) (xs:=xs.den ρ) ho (Zc ρ ha) hd (by show (g t).den ρ=_;rw [h2];rfl) hh.1 (by simpa using hh.2.1) (ZgL ρ htop hh.2.2) q2
       rw [List.map_append,q1]
       simp only [List.map_cons,List.map_nil,SV.den,List.map_set]
       exact this
     ·exact h.elim
    ·exact h.elim
   ·rename_i t vc h1 h2
    have hx:x = .tmp t:=by cases x<;>simp [ZM] at h1;rw [h1]
    subst hx
    simp only [ZM,Option.map_some,Option.some.injEq] at h2
    have ht:=hg t
    rw [h2] at ht
    split at h
    ·rename_i hh
     refine Wl h trivial (us2 trivial (fun c hc=>?_)) ?_
     ·rcases List.mem_append.1 hc with hc | hc
      ·rcases List.mem_append.1 hc with hc | hc
       ·exact hb c (List.mem_of_mem_take hc)
       ·exact ht c hc
      ·exact hb c (List.mem_of_mem_drop hc)
     ·have:=ZaH (vc:=vc.map (BC.den ρ)) ho (Zc ρ ha) hd (show (fun d=>(g d).den ρ) t = .aggo (vc.map (BC.den ρ)) by show (g t).den ρ=_;rw [h2];rfl) (by simpa using hh.1) (by omega) (by simpa using hh.2.2.1) (K7 hh.2.2.2 ρ)
      have he:(SV.box (cs.take off++vc++cs.drop (off+P.cellsOf T))).den ρ = .box ((cs.map (BC.den ρ)).take off++vc.map (BC.den ρ)++(cs.map (BC.den ρ)).drop (off+P.cellsOf T)):=by
       simp only [SV.den,List.map_append,List.map_take,List.map_drop]
      simp only [List.map_cons,List.map_nil,he]
      exact this
    ·exact h.elim
   ·split at h
    ·rename_i vc hvc
     split at h
     ·rename_i hh
      refine VS h trivial (fun u hu=>?_) ?_
      ·rw [List.mem_singleton] at hu;subst hu;intro c hc
       rcases List.mem_append.1 hc with hc | hc
       ·rcases List.mem_append.1 hc with hc | hc
        ·exact hb c (List.mem_of_mem_take hc)
        ·exact Zim _ _ (Zna P T (V5 hvc bx)) c hc
       ·exact hb c (List.mem_of_mem_drop hc)
      ·have:=Zhp (vc:=(Yu (cs.drop off) (nrm P T vc)).map (BC.den ρ)) ho (Zc ρ ha) hd (J9 P g ρ x).symm (KZ ρ hvc) (by simpa using hh.1) (by omega) (by simpa using hh.2.2.1) (ZgL ρ htop hh.2.2.2) (Zms ρ (cs.drop off) (Zns ρ P T vc))
       have he:(SV.box (cs.take off++Yu (cs.drop off) (nrm P T vc)++cs.drop (off+P.cellsOf T))).den ρ = .box ((cs.map (BC.den ρ)).take off++(Yu (cs.drop off) (nrm P T vc)).map (BC.den ρ)++(cs.map (BC.den ρ)).drop (off+P.cellsOf T)):=by
        simp only [SV.den,List.map_append,List.map_take,List.map_drop]
       simp only [List.map_cons,List.map_nil,he]
       exact this
     ·exact h.elim
    ·exact h.elim
  ·exact h.elim
 ·rename_i d q i s off ha
  split at h
  ·rename_i e l vc hp hvc
   have hpt:=ZA (P:=P) hg a
   rw [ha] at hpt
   have hat:=ZL ρ hp
   split at h
   ·rename_i sh hsh
    split at h
    ·rename_i vc' hvc'
     split at h
     ·rename_i hh
      obtain ⟨r1,r2,h⟩:=h
      have r1':0≤i.den ρ:=r1
      have r2':i.den ρ < ((l.den ρ).length:Int):=r2
      have hbv:=Ki _ _ _ hvc' (V5 hvc bx)
      refine Wl h trivial (us1 (JA (hg d) ⟨Jt hp (hg d),hpt,Wv _ hbv⟩)) ?_
      obtain ⟨h1,h2,h3,h4,h5,hnm⟩:=hh
      subst h1
      have:=ZaJ (vc:=vc.map (SC.den ρ)) (vc':=vc'.map (SC.den ρ)) ho (Zc ρ ha) (show Zj ((fun d=>(g d).den ρ) d) q=_ from hat) (Kw ρ h5) (J9 P g ρ x).symm (KZ ρ hvc) (by simpa using h2) (by omega) (by omega) h4 (KY ρ _ _ _ hvc') hnm
      rw [← Vc] at this
      simp only [List.map_cons,List.map_nil,Jm]
      exact this
     ·exact h.elim
    ·exact h.elim
   ·exact h.elim
  ·exact h.elim
 ·exact h.elim
theorem ZfC {x:Operand} (hg:∀ d,(g d).bd n) (ho:o.op = .nilCheck x) (h:(JL P E tx tk g o n k).wp P R A ρ):Yw tx P R A ρ g o n k:=by
 have bx:=ZA (P:=P) hg x
 simp only [JL,ho] at h
 split at h
 ·rename_i d off hx
  exact ZS h trivial (KA ho (Zc ρ hx) (.inl ⟨_,_,rfl⟩))
 ·rename_i cs hx
  rw [hx] at bx
  exact ZS h bx (KA ho (Zc ρ hx) (.inr (.inl ⟨_,rfl⟩)))
 ·rename_i d q i s off hx
  rw [hx] at bx
  split at h
  ·rename_i e l hpl
   split at h
   ·rename_i hm
    exact ZS h bx (KA ho (Zc ρ hx) (.inr (.inr ⟨_,_,_,_,_,rfl,ZL ρ hpl,hm,by simp⟩)))
   ·exact h.elim
  ·exact h.elim
 ·exact h.elim
theorem Zl0 {op:UnOp} {T:TypeId} {x:Operand} (hg:∀ d,(g d).bd n) (ho:o.op = .unOp op T x) (h:(JL P E tx tk g o n k).wp P R A ρ):Yw tx P R A ρ g o n k:=by
 have bx:=ZA (P:=P) hg x
 simp only [JL,ho] at h
 split at h
 ·rename_i b hx
  rw [hx] at bx
  refine ZS h (ZkQ bx) ?_
  have:=ZkI ho (Zc ρ hx)
  rw [← Zh4] at this
  exact this
 ·rename_i kd e hx
  rw [hx] at bx
  exact ZS h ⟨trivial,bx⟩ (Zky ho (Zc ρ hx))
 ·rename_i kd e hx
  rw [hx] at bx
  exact ZS h ⟨trivial,bx⟩ (Zhh ho (Zc ρ hx))
 ·exact h.elim
theorem Zhu {S T:TypeId} {x:Operand} (hg:∀ d,(g d).bd n) (ho:o.op = .convert S T x) (h:(JL P E tx tk g o n k).wp P R A ρ):Yw tx P R A ρ g o n k:=by
 have bx:=ZA (P:=P) hg x
 simp only [JL,ho] at h
 split at h
 ·rename_i hS hT hx
  rw [hx] at bx
  exact ZS h bx (ZhI ho hS hT (Zc ρ hx))
 ·rename_i hS hT hx
  rw [hx] at bx
  split at h
  ·rename_i he
   split at h
   ·rename_i hs
    subst hs
    exact ZS h.2 bx (Zhm ho hS he hT (Zc ρ hx) h.1)
   ·exact h.elim
  ·exact h.elim
 ·exact h.elim
theorem Zep {T:TypeId} {x:Operand} {f:Nat} (hg:∀ d,(g d).bd n) (ho:o.op = .fieldAddr T x f) (h:(JL P E tx tk g o n k).wp P R A ρ):Yw tx P R A ρ g o n k:=by
 have bx:=ZA (P:=P) hg x
 simp only [JL,ho] at h
 split at h
 ·rename_i hf hx
  exact ZS h trivial (Zb3 ho hf (Zc ρ hx))
 ·rename_i off cs hf hx
  rw [hx] at bx
  refine ZS h (fun c hc=>bx c (List.mem_of_mem_drop hc)) ?_
  have:=ZaO (cs:=cs.map (SC.den ρ)) ho hf (Zc ρ hx)
  rw [← List.map_drop] at this
  exact this
 ·rename_i off d q i s off' hf hx
  rw [hx] at bx
  split at h
  ·rename_i e l hpl
   split at h
   ·rename_i hm
    refine ZS h bx ?_
    have:=Za3 ho hf (Zc ρ hx) (ZL ρ hpl) hm
    rw [Nat.add_assoc] at this
    exact this
   ·exact h.elim
  ·exact h.elim
 ·exact h.elim
theorem ZjN {T:TypeId} {x:Operand} {f:Nat} (hg:∀ d,(g d).bd n) (ho:o.op = .field T x f) (h:(JL P E tx tk g o n k).wp P R A ρ):Yw tx P R A ρ g o n k:=by
 have bx:=ZA (P:=P) hg x
 simp only [JL,ho] at h
 split at h
 ·rename_i off agg sz cs hf hs hx
  rw [hx] at bx
  split at h
  ·rename_i hh
   have hx':Zm P (fun d=>(g d).den ρ) x = .agg (cs.map (SC.den ρ)):=Zc ρ hx
   cases agg with
   | true =>
    simp only at h
    refine ZS h (fun c hc=>bx c (List.mem_of_mem_drop (List.mem_of_mem_take hc))) ?_
    have:=Zbl (y:=.agg (((cs.map (SC.den ρ)).drop off).take sz)) ho hf hs hx' (by simpa using hh.1) hh.2 (.inl ⟨rfl,rfl⟩)
    rw [← List.map_drop,← List.map_take] at this
    exact this
   | false =>
    simp only at h
    split at h
    ·rename_i c hc
     refine ZS h (bx c (List.mem_of_getElem? hc)) ?_
     exact Zbl (y:=c.den ρ) ho hf hs hx' (by simpa using hh.1) hh.2 (.inr ⟨rfl,by simp [hc],by cases c<;>rfl⟩)
    ·exact h.elim
  ·exact h.elim
 ·exact h.elim
theorem Zgo {ix:IE} {d off s m:Nat} {kk:SV→STree} : ∀ (j:Nat),j≤m→(Zmp ix d off s m kk j).wp P R A ρ→∃ i:Nat,i < m∧ix.den ρ=(i:Int)∧(kk (.ptr d (off+i*s))).wp P R A ρ
 | 0, _, h => h.elim
 | 1, hj, h => by
  obtain ⟨h1,h2,h3⟩:=h
  have h1':((m-1:Nat):Int)≤ix.den ρ:=h1
  have h2':ix.den ρ≤((m-1:Nat):Int):=h2
  exact ⟨m-1,by omega,by omega,h3⟩
 | j + 2, hj, h => by
  obtain ⟨h1,h2⟩:=h
  by_cases he:ix.den ρ=((m-(j+2):Nat):Int)
  ·exact ⟨m-(j+2),by omega,he,h1 (by simp [BE.den,IE.den,cop,he])⟩
  ·exact Zgo (j+1) (by omega) (h2 (by simp [BE.den,IE.den,cop,he]))
theorem ZeI {T:TypeId} {x i:Operand} (hg:∀ d,(g d).bd n) (ho:o.op = .indexAddr T x i) (h:(JL P E tx tk g o n k).wp P R A ρ):Yw tx P R A ρ g o n k:=by
 simp only [JL,ho] at h
 split at h
 ·rename_i hT hx hi
  split at h
  ·rename_i sh hsh
   split at h
   ·rename_i hh
    obtain ⟨vs,h1,h2,h3⟩:=h
    exact ⟨bind ρ n vs,n+sh.length,.eptr (ZC sh n),[],[],Nat.le_add_right _ _,Kn ρ n vs,Jp sh n,by simp,h3,
     (ZgY ho hT hh.1 (by omega) (Zc ρ hx) (Zc ρ hi) h1 h2).t⟩
   ·exact h.elim
  ·exact h.elim
 ·rename_i m e d off kd ix hT hx hi
  split at h
  ·rename_i hh
   split at h
   ·rename_i z
    split at h
    ·rename_i hz
     exact ZS h trivial (Vp (kd:=kd) (z:=z) ho hT (by omega) (Zc ρ hx) (Zc ρ hi) hz.1 hz.2)
    ·exact h.elim
   ·obtain ⟨i',h1,h2,h3⟩:=Zgo m (Nat.le_refl _) h
    have:=Vp (kd:=kd) (z:=(i':Int)) ho hT (by omega) (Zc ρ hx) (by rw [← h2];exact Zc ρ hi) (by omega) (by omega)
    rw [Int.toNat_natCast] at this
    exact ZS h3 trivial this
  ·exact h.elim
 ·rename_i e d q kd ix hT hx hi
  split at h
  ·rename_i e' l hp
   split at h
   ·rename_i hh
    obtain ⟨rfl,h0,hnm⟩:=hh
    obtain ⟨r1,r2,h⟩:=h
    have r1':0≤ix.den ρ:=r1
    have r2':ix.den ρ < ((l.den ρ).length:Int):=r2
    have bi:=ZA (P:=P) hg i
    rw [hi] at bi
    exact ZS h bi (Zbh ho hT (by omega) (Zc ρ hx) (show Zj ((fun d=>(g d).den ρ) d) q=_ from ZL ρ hp) rfl (Zc ρ hi) r1' (by omega) hnm)
   ·exact h.elim
  ·exact h.elim
 ·exact h.elim
theorem ZlE {T:TypeId} {a b:Operand} (hg:∀ d,(g d).bd n) (ho:o.op = .makeSlice T a b) (h:(JL P E tx tk g o n k).wp P R A ρ):Yw tx P R A ρ g o n k:=by
 simp only [JL,ho] at h
 split at h
 ·rename_i m m' ha hb
  split at h
  ·rename_i e hT
   have bm:=ZA (P:=P) hg a
   rw [ha] at bm
   split at h
   ·rename_i i hi
    split at h
    ·rename_i z hz
     split at h
     ·rename_i zc sh hzc hsh
      split at h
      ·rename_i zc' hzc'
       split at h
       ·rename_i hzs
        have h1:=YW ρ z.cells.toList
        rw [hzc] at h1
        obtain ⟨r1,r2,r3,h⟩:=h
        have r2':m.den ρ≤m'.den ρ:=r2
        have r3':m'.den ρ≤m.den ρ:=r3
        have hmm:m'.den ρ=m.den ρ:=by omega
        refine ZS h (x:=.own (!(E.exO o)) e _) ⟨bm,Wv _ (Ki _ _ _ hzc' (KW hzc))⟩ ?_
        have hb':Zm P (fun d=>(g d).den ρ) b = .val (.int .i64 (m.den ρ)):=by rw [← hmm];exact Zc ρ hb
        have:=ZiS (!(E.exO o)) (zc:=zc.map (SC.den ρ)) (zc':=zc'.map (SC.den ρ)) ho hT hi hz hzs.1 h1.symm (Zc ρ ha) hb' r1.1 r1.2 hzs.2 (KY ρ _ _ _ hzc')
        rw [← Vc] at this
        exact this
       ·exact h.elim
      ·exact h.elim
     ·exact h.elim
    ·exact h.elim
   ·exact h.elim
  ·exact h.elim
 ·exact h.elim
theorem Zke {T:TypeId} {x:Operand} {lo hi mx:Option Operand} (hg:∀ d,(g d).bd n) (htop:∀ i,E.top≤i→g i = .dead) (ho:o.op = .slice T x lo hi mx) (h:(JL P E tx tk g o n k).wp P R A ρ):Yw tx P R A ρ g o n k:=by
 have bx:=ZA (P:=P) hg x
 simp only [JL,ho] at h
 split at h
 ·rename_i e full s xs hT hx
  rw [hx] at bx
  have sx:=Zc ρ hx
  split at h
  ·rename_i hh
   have hs0:P.cellsOf e≠0:=by omega
   unfold Zja at h
   split at h
   ·rename_i k1 k2 h1 h2 h3
    cases lo with
    | some y => simp at h1
    | none =>
     cases hi with
     | none => simp at h2
     | some y =>
      cases mx with
      | none => simp at h3
      | some z =>
       simp only [Option.map_some,Option.some.injEq] at h2 h3
       exact ZS h trivial (ZgU ho hT hs0 sx (Zc ρ h2) (Zc ρ h3))
   ·rename_i h1 h2 h3
    cases lo with
    | some y => simp at h1
    | none =>
     cases hi with
     | some y => simp at h2
     | none =>
      cases mx with
      | some z => simp at h3
      | none =>
       have:=Zar (l:=0) (h:=(xs.den ρ).length) (f':=full) ho hT hh.1 hs0 sx (Nat.zero_le _) (Nat.le_refl _) (.inl ⟨rfl,rfl⟩) (.inl ⟨rfl,rfl⟩) (fun h=>⟨h,rfl⟩)
       rw [List.take_length,List.drop_zero] at this
       exact ZS h bx this
   ·rename_i kl l h1 h2 h3
    cases lo with
    | none => simp at h1
    | some y =>
     cases hi with
     | some y => simp at h2
     | none =>
      cases mx with
      | some z => simp at h3
      | none =>
       simp only [Option.map_some,Option.some.injEq] at h1
       have by1:=ZA (P:=P) hg y
       rw [h1] at by1
       obtain ⟨r1,r2,h⟩:=h
       have r1':0≤l.den ρ:=r1
       have r2':l.den ρ≤((xs.den ρ).length:Int):=r2
       have sy:=Zc ρ h1
       have e1:((l.den ρ).toNat:Int)=l.den ρ:=Int.toNat_of_nonneg r1'
       have:=Zar (l:=(l.den ρ).toNat) (h:=(xs.den ρ).length) (f':=full) ho hT hh.1 hs0 sx (by omega) (Nat.le_refl _) (.inr ⟨y,kl,rfl,by rw [e1];exact sy⟩) (.inl ⟨rfl,rfl⟩) (fun h=>⟨h,rfl⟩)
       rw [List.take_length] at this
       exact ZS h ⟨bx,by1⟩ this
   ·rename_i kl l h1 h2 h3
    cases lo with
    | some y => simp at h1
    | none =>
     cases hi with
     | none => simp at h2
     | some y =>
      cases mx with
      | some z => simp at h3
      | none =>
       simp only [Option.map_some,Option.some.injEq] at h2
       have by1:=ZA (P:=P) hg y
       rw [h2] at by1
       obtain ⟨r1,r2,h⟩:=h
       have r1':0≤l.den ρ:=r1
       have r2':l.den ρ≤((xs.den ρ).length:Int):=r2
       have sy:=Zc ρ h2
       have e1:((l.den ρ).toNat:Int)=l.den ρ:=Int.toNat_of_nonneg r1'
       have:=Zar (l:=0) (h:=(l.den ρ).toNat) (f':=false) ho hT hh.1 hs0 sx (Nat.zero_le _) (by omega) (.inl ⟨rfl,rfl⟩) (.inr ⟨y,kl,rfl,by rw [e1];exact sy⟩) (fun h=>by simp at h)
       rw [List.drop_zero] at this
       exact ZS h ⟨bx,by1⟩ this
   ·rename_i kl l kh hb h1 h2 h3
    cases lo with
    | none => simp at h1
    | some y =>
     cases hi with
     | none => simp at h2
     | some z =>
      cases mx with
      | some z => simp at h3
      | none =>
       simp only [Option.map_some,Option.some.injEq] at h1 h2
       have by1:=ZA (P:=P) hg y
       rw [h1] at by1
       have by2:=ZA (P:=P) hg z
       rw [h2] at by2
       obtain ⟨r1,r2,r3,h⟩:=h
       have r1':0≤l.den ρ:=r1
       have r2':l.den ρ≤hb.den ρ:=r2
       have r3':hb.den ρ≤((xs.den ρ).length:Int):=r3
       have sy:=Zc ρ h1
       have sz:=Zc ρ h2
       have e1:((l.den ρ).toNat:Int)=l.den ρ:=Int.toNat_of_nonneg r1'
       have e2:((hb.den ρ).toNat:Int)=hb.den ρ:=Int.toNat_of_nonneg (by omega)
       have:=Zar (l:=(l.den ρ).toNat) (h:=(hb.den ρ).toNat) (f':=false) ho hT hh.1 hs0 sx (by omega) (by omega) (.inr ⟨y,kl,rfl,by rw [e1];exact sy⟩) (.inr ⟨z,kh,rfl,by rw [e2];exact sz⟩) (fun h=>by simp at h)
       exact ZS h ⟨⟨bx,by2⟩,by1⟩ this
   ·exact h.elim
  ·exact h.elim
 ·rename_i e d q hT hx
  split at h
  ·rename_i k1 k2 h2 h3
   split at h
   ·rename_i e' l' hp
    split at h
    ·rename_i h0
     cases hi with
     | none => simp at h2
     | some y =>
      cases mx with
      | none => simp at h3
      | some z =>
       simp only [Option.map_some,Option.some.injEq] at h2 h3
       exact ZS h trivial (Zbz ho hT (by omega) (Zc ρ hx) (Zc ρ h2) (Zc ρ h3) (show Zj ((fun d=>(g d).den ρ) d) q=_ from ZL ρ hp) h0.2)
    ·exact h.elim
   ·exact h.elim
  split at h
  case isFalse=>exact h.elim
  rename_i hq0
  subst hq0
  split at h
  ·rename_i kh hv e' l hhi hd _
   have hb:=hg d
   rw [hd] at hb
   split at h
   ·rename_i us hus
    split at h
    ·rename_i hh
     obtain ⟨rfl,h0,hnm⟩:=hh
     cases hi with
     | none => simp at hhi
     | some z =>
      simp only [Option.map_some,Option.some.injEq] at hhi
      have bz:=ZA (P:=P) hg z
      rw [hhi] at bz
      obtain ⟨r1,r2,h⟩:=h
      have r1':0≤hv.den ρ:=r1
      have r2':hv.den ρ≤((l.den ρ).length:Int):=r2
      have e1:((hv.den ρ).toNat:Int)=hv.den ρ:=Int.toNat_of_nonneg r1'
      obtain ⟨us',rfl,q1,q2,q3⟩:=JY ρ htop (t:=d) hd hus
      have hod:JX tx (fun d=>(g d).den ρ) d (us.tail.map fun u=>(u.1,u.2.den ρ)):=by
       rcases q2 with ⟨h0,_⟩ | q2
       ·cases h0
       ·exact q2
      refine VS h ⟨hb,bz⟩ (JW hus hb) ?_
      rw [q1]
      exact ZfY (h:=(hv.den ρ).toNat) ho hT (by omega) (Zc ρ hx) (show (fun d=>(g d).den ρ) d = .own true e' (l.den ρ) by show (g d).den ρ=_;rw [hd];rfl) (by rw [e1];exact Zc ρ hhi) (by omega) hod hnm
    ·exact h.elim
   ·exact h.elim
  ·exact h.elim
 ·exact h.elim
theorem Zg1 {x:Operand} {i:Nat} (hg:∀ d,(g d).bd n) (ho:o.op = .extract x i) (h:(JL P E tx tk g o n k).wp P R A ρ):Yw tx P R A ρ g o n k:=by
 simp only [JL,ho] at h
 split at h
 ·rename_i t vs h1 h2
  have hx:x = .tmp t:=by cases x<;>simp [ZM] at h1;rw [h1]
  subst hx
  simp only [ZM,Option.map_some,Option.some.injEq] at h2
  have hb:=hg t
  rw [h2] at hb
  have ht:(fun d=>(g d).den ρ) t = .tuple (vs.map (TC.den ρ)):=by show (g t).den ρ=_;rw [h2];rfl
  split at h
  ·rename_i b e xs hv
   have hv':(vs.map (TC.den ρ))[i]? = some (.own b e (xs.den ρ)):=by rw [List.getElem?_map,hv];rfl
   have hbx:=hb _ (List.mem_of_getElem? hv)
   split at h
   case isFalse=>exact h.elim
   rename_i hmv
   have hmv':b=true→Mv P e (xs.den ρ):=fun hb=>Zgs ρ (by rw [hb] at hmv;simpa using hmv)
   refine Wl h hbx (us1 (fun c hc=>?_)) ?_
   ·rcases List.mem_or_eq_of_mem_set hc with hc | rfl
    ·exact hb c hc
    ·cases b<;>first | exact hbx | trivial
   ·have:=W7 (P:=P) (σ:=fun d=>(g d).den ρ) ho ht hv' hmv'
    simp only [List.map_cons,List.map_nil,SV.den,List.map_set]
    cases b<;>exact this
  ·rename_i y hv
   have hv':(vs.map (TC.den ρ))[i]? = some (y.den ρ):=by rw [List.getElem?_map,hv];rfl
   refine ZS h (hb _ (List.mem_of_getElem? hv)) (W3 (σ:=fun d=>(g d).den ρ) ho ht hv' ?_ ?_ ?_ ?_ ?_)
   ·cases y<;>rfl
   all_goals first
    | (intro d p; cases y <;> simp [SV.den, SC.den])
    | (intro d; cases y <;> simp [SV.den, SC.den])
    | (cases y <;> simp [SV.den, SC.den])
  ·rename_i cs hv
   have hv':(vs.map (TC.den ρ))[i]? = some (.agg (cs.map (SC.den ρ))):=by rw [List.getElem?_map,hv];rfl
   exact ZS h (hb _ (List.mem_of_getElem? hv)) (W3 (σ:=fun d=>(g d).den ρ) ho ht hv' rfl (fun _ _ h=>by cases h) (fun _ h=>by cases h) (fun h=>by cases h) (fun h=>by cases h))
  ·exact h.elim
  ·exact h.elim
 ·exact h.elim
theorem Znl {c:Call} (hg:∀ d,(g d).bd n) (ho:o.op = .call c) (hc:c.callee = .builtin .len) (h:(JL P E tx tk g o n k).wp P R A ρ):Yw tx P R A ρ g o n k:=by
 simp only [JL,ho,hc] at h
 split at h
 ·rename_i x T hargs hts
  have bx:=ZA (P:=P) hg x
  split at h
  ·rename_i d q hx
   split at h
   ·rename_i e e' l hT hp
    split at h
    ·rename_i hnm
     exact ZS h (Jt hp (hg d)) (Zc3 ho hc hargs hts hT (Zc ρ hx) (show Zj ((fun d=>(g d).den ρ) d) q=_ from ZL ρ hp) hnm)
    ·exact h.elim
   ·exact h.elim
  ·unfold Zm7 at h
   split at h
   ·rename_i hT hx
    rw [hx] at bx
    exact ZS h bx (ZbM ho hc hargs hts hT (Zc ρ hx))
   ·rename_i hT hx
    rw [hx] at bx
    exact ZS h bx (ZdK ho hc hargs hts hT (Zc ρ hx))
   ·exact h.elim
 ·exact h.elim
theorem Zmd {c:Call} (hg:∀ d,(g d).bd n) (ho:o.op = .call c) (hc:c.callee = .builtin .copy) (h:(JL P E tx tk g o n k).wp P R A ρ):Yw tx P R A ρ g o n k:=by
 simp only [JL,ho,hc] at h
 split at h
 ·rename_i x y T T' hargs hts
  split at h
  ·rename_i e d q f s ys hT hx hy
   split at h
   ·rename_i e' l hp
    split at h
    ·rename_i hh
     obtain ⟨rfl,h1,rfl,h5,hnm⟩:=hh
     have by1:=ZA (P:=P) hg y
     rw [hy] at by1
     refine Wl h trivial (us1 (JA (hg d) ⟨Jt hp (hg d),by1⟩)) ?_
     simp only [List.map_cons,List.map_nil,Jm]
     exact Zb2 (f:=f) ho hc hargs hts hT h1 (Zc ρ hx) (show Zj ((fun d=>(g d).den ρ) d) q=_ from ZL ρ hp) (Kw ρ h5) (Zc ρ hy) hnm
    ·exact h.elim
   ·exact h.elim
  ·exact h.elim
 ·exact h.elim
theorem ZaD {c:Call} {T:TypeId} {x y:Operand} (src:Option Nat) {xv:SV} {ex:Bool} (hg:∀ d,(g d).bd n) (htop:∀ i,E.top≤i→g i = .dead) (ho:o.op = .call c) (hc:c.callee = .builtin .append) (hargs:c.args.toList = [x,y])
  (hts:c.argTypes.toList = [T,T]) (hsrc:∀ t,src=some t→x = .tmp t∧xv=g t) (hnone:src=none→xv=Ja P g x)
  (h:(Zak P T tx g E.top ex src xv (Ja P g y) fun v us=>k v us [] n).wp P R A ρ):Yw tx P R A ρ g o n k:=by
 have bY:=ZA (P:=P) hg y
 have hxv:xv.bd n:=by
  cases src with
  | none => rw [hnone rfl]; exact ZA hg x
  | some t => rw [(hsrc t rfl).2]; exact hg t
 unfold Zak at h
 split at h
 ·rename_i e hT
  split at h
  ·rename_i i hi
   split at h
   ·rename_i z hz
    split at h
    ·rename_i hh
     split at h
     ·rename_i b e' xs f s ys hy
      rw [hy] at bY
      split at h
      ·rename_i t
       obtain ⟨rfl,hx⟩:=hsrc t rfl
       split at h
       ·rename_i us hus
        split at h
        ·rename_i he
         obtain ⟨rfl,rfl⟩:=he
         obtain ⟨us',rfl,q1,q2,q3⟩:=JY ρ htop (t:=t) hx.symm hus
         refine VS h.2 ⟨hxv,bY⟩ (JW hus hxv) ?_
         rw [q1]
         exact ZaZ (σ:=fun d=>(g d).den ρ) ho hc hargs hts hT hi hz hh.1 (by show (g t).den ρ=_;rw [← hx];rfl) (Zc ρ hy) h.1 q2 hh.2.2
        ·exact h.elim
       ·exact h.elim
      ·exact h.elim
     ·rename_i s0 f s ys hy
      rw [hy] at bY
      split at h
      ·rename_i he
       subst he
       refine Wl h.2 bY (by simp) ?_
       have hx:Zm P (fun d=>(g d).den ρ) x = .slice true s0 []:=by
        cases src with
        | none => exact Zc ρ (hnone rfl).symm
        | some t =>
         obtain ⟨rfl,hx⟩:=hsrc t rfl
         simp only [Zm,← hx]
         rfl
       exact W8 (σ:=fun d=>(g d).den ρ) ex ho hc hargs hts hT hi hz hh.1 hx (Zc ρ hy) h.1 hh.2.2
      ·exact h.elim
     ·exact h.elim
    ·exact h.elim
   ·exact h.elim
  ·exact h.elim
 ·exact h.elim
theorem W2 {c:Call} {T:TypeId} {x y:Operand} (src:Option Nat) {xv:SV} {ex:Bool} {d q:Nat} (hg:∀ d,(g d).bd n) (htop:∀ i,E.top≤i→g i = .dead) (ho:o.op = .call c) (hc:c.callee = .builtin .append) (hargs:c.args.toList = [x,y])
  (hts:c.argTypes.toList = [T,T]) (hy:Ja P g y = .mref d q) (hsrc:∀ t,src=some t→x = .tmp t∧xv=g t) (hnone:src=none→xv=Ja P g x)
  (h:(VX P T tx g E.top ex src xv (Z6 (g d) q) fun v us=>k v us [d] n).wp P R A ρ):Yw tx P R A ρ g o n k:=by
 have hxv:xv.bd n:=by
  cases src with
  | none => rw [hnone rfl]; exact ZA hg x
  | some t => rw [(hsrc t rfl).2]; exact hg t
 unfold VX at h
 split at h
 ·rename_i e hT
  split at h
  ·rename_i i hi
   split at h
   ·rename_i z hz
    split at h
    ·rename_i hh
     split at h
     ·rename_i b e' xs e2 ys hp
      split at h
      ·rename_i t
       obtain ⟨rfl,hx⟩:=hsrc t rfl
       split at h
       ·rename_i us hus
        split at h
        ·rename_i he
         obtain ⟨rfl,rfl⟩:=he
         obtain ⟨us',rfl,q1,q2,q3⟩:=JY ρ htop (t:=t) hx.symm hus
         refine VS h.2 ⟨hxv,Jt hp (hg d)⟩ (JW hus hxv) ?_
         rw [q1]
         exact Vl (σ:=fun d=>(g d).den ρ) ho hc hargs hts hT hi hz hh.1 (by show (g t).den ρ=_;rw [← hx];rfl) (Zc ρ hy) (show Zj ((fun d=>(g d).den ρ) d) q=_ from ZL ρ hp) h.1 q2 hh.2.2
        ·exact h.elim
       ·exact h.elim
      ·exact h.elim
     ·rename_i s0 e' ys hp
      split at h
      ·rename_i he
       subst he
       have hx':Zm P (fun d=>(g d).den ρ) x = .slice true s0 []:=by
        cases src with
        | none => exact Zc ρ (hnone rfl).symm
        | some t =>
         obtain ⟨rfl,hx⟩:=hsrc t rfl
         simp only [Zm,← hx]
         rfl
       refine ZS h.2 (Jt hp (hg d)) ?_
       exact KN (σ:=fun d=>(g d).den ρ) ex ho hc hargs hts hT hi hz hh.1 hx' (Zc ρ hy) (show Zj ((fun d=>(g d).den ρ) d) q=_ from ZL ρ hp) h.1 hh.2.2
      ·exact h.elim
     ·exact h.elim
    ·exact h.elim
   ·exact h.elim
  ·exact h.elim
 ·exact h.elim
theorem Zjb {c:Call} (hg:∀ d,(g d).bd n) (htop:∀ i,E.top≤i→g i = .dead) (ho:o.op = .call c) (hc:c.callee = .builtin .append) (h:(JL P E tx tk g o n k).wp P R A ρ):Yw tx P R A ρ g o n k:=by
 simp only [JL,ho,hc] at h
 split at h
 ·rename_i x y T T' hargs hts
  split at h
  ·rename_i hTT
   subst hTT
   split at h
   ·rename_i d q hy
    split at h
    ·rename_i t ht
     have hx:x = .tmp t:=by cases x<;>simp [ZM] at ht;rw [ht]
     exact W2 (some t) hg htop ho hc hargs hts hy (fun t' ht'=>by simp only [Option.some.injEq] at ht';subst ht';exact ⟨hx,rfl⟩) (fun h=>by cases h) h
    ·exact W2 none hg htop ho hc hargs hts hy (fun t' ht'=>by cases ht') (fun _=>rfl) h
   split at h
   ·rename_i t ht
    have hx:x = .tmp t:=by cases x<;>simp [ZM] at ht;rw [ht]
    exact ZaD (some t) hg htop ho hc hargs hts (fun t' ht'=>by simp only [Option.some.injEq] at ht';subst ht';exact ⟨hx,rfl⟩) (fun h=>by cases h) h
   ·exact ZaD none hg htop ho hc hargs hts (fun t' ht'=>by cases ht') (fun _=>rfl) h
  ·exact h.elim
 ·exact h.elim
theorem Zla {c:Call} {ka kb:IntKind} {a b:IE} (h:c.args.toList.map (Ja P g) = [.c (.int ka a),.c (.int kb b)]) :
  ∃ x y,c.args.toList = [x,y]∧Ja P g x = .c (.int ka a)∧Ja P g y = .c (.int kb b):=by
 cases hl:c.args.toList with
 | nil => simp [hl] at h
 | cons x l =>
  cases l with
  | nil => simp [hl] at h
  | cons y l =>
   cases l with
   | nil => simp only [hl, List.map_cons, List.map_nil, List.cons.injEq, and_true] at h; exact ⟨x, y, rfl, h.1, h.2⟩
   | cons z l => simp [hl] at h
theorem ZmA {c:Call} (hg:∀ d,(g d).bd n) (ho:o.op = .call c) (hc:c.callee = .builtin .min) (h:(JL P E tx tk g o n k).wp P R A ρ):Yw tx P R A ρ g o n k:=by
 simp only [JL,ho,hc] at h
 split at h
 ·rename_i ka a kb b hl
  obtain ⟨x,y,h1,h2,h3⟩:=Zla hl
  split at h
  ·rename_i he
   subst he
   have b1:=ZA (P:=P) hg x
   have b2:=ZA (P:=P) hg y
   rw [h2] at b1
   rw [h3] at b2
   exact ZS h ⟨b1,b2⟩ (ZaF (mn:=true) ho hc h1 (Zc ρ h2) (Zc ρ h3))
  ·exact h.elim
 ·exact h.elim
theorem Znu {c:Call} (hg:∀ d,(g d).bd n) (ho:o.op = .call c) (hc:c.callee = .builtin .max) (h:(JL P E tx tk g o n k).wp P R A ρ):Yw tx P R A ρ g o n k:=by
 simp only [JL,ho,hc] at h
 split at h
 ·rename_i ka a kb b hl
  obtain ⟨x,y,h1,h2,h3⟩:=Zla hl
  split at h
  ·rename_i he
   subst he
   have b1:=ZA (P:=P) hg x
   have b2:=ZA (P:=P) hg y
   rw [h2] at b1
   rw [h3] at b2
   exact ZS h ⟨b1,b2⟩ (ZaF (mn:=false) ho hc h1 (Zc ρ h2) (Zc ρ h3))
  ·exact h.elim
 ·exact h.elim
theorem Zd5 (ρ:Nat→V) (l:List SAK):(l.map (SAK.den ρ)).filterMap AK.slot=l.filterMap SAK.slot:=by
 rw [List.filterMap_map]
 congr 1
 funext a
 exact Zau ρ a
theorem ZfF {c:Call} {f:FuncId} {ds rf:List Nat} {aZ:List SAK} (htop:∀ i,E.top≤i→g i = .dead) (ho:o.op = .call c) (hc:(c.callee = .value (.func f)∧ds = [])∨∃ t,c.callee = .value (.tmp t)∧(g t).den ρ = .clo f ds)
  (ha:KI P g ρ (c.args.toList.map Zae.op++ds.map Zae.cap) aZ) (hraw:Raw aZ) (hrf:∀ (i:Nat) (x:Operand),c.args.toList[i]? = some x→(rf.contains i&&(ZbH g x).isSome)=true→∃ t d q j,aZ[i]? = some (SAK.ref t d q j)) (h:(ZdZ P E tx g f (VA P g rf c.args.toList 0) (WG g (ZnL P f) aZ) n k).wp P R A ρ):Yw tx P R A ρ g o n k:=by
 unfold ZdZ at h
 split at h
 ·rename_i saks Ts hs _
  split at h
  ·rename_i hnd0
   obtain ⟨hnd,hfree⟩:=hnd0
   split at h
   ·rename_i res sh n' hr
    obtain ⟨q1,q2,q3⟩:=Zhc hr
    dsimp only at h
    split at h
    case isFalse=>exact h.elim
    rename_i hbo0
    obtain ⟨hbo,hrnm⟩:=hbo0
    obtain ⟨vs,h1,h2⟩:=h
    obtain ⟨tail,a1,a2,a3,a4,a5,a6⟩:=Zhl ρ ha hraw hs
    have hlen:((Jd (saks.map SAK.sv) n').1).length=saks.length:=by rw [Zcv,List.length_map]
    refine ⟨bind ρ n vs,(Jd (saks.map SAK.sv) n').2.2,res,Wz saks (Jd (saks.map SAK.sv) n').1,saks.filterMap SAK.slot++(VA P g rf c.args.toList 0).map (·.1),Nat.le_trans q1 (YP _ _),Kn ρ n vs,SV.bd_mono (YP _ _) _ q2,
     Kt _ _ (VL _ _),h2,?_⟩
    have:=Zik (T:=tx) (((VA P g rf c.args.toList 0).head?.getD (0,0)).1) (((VA P g rf c.args.toList 0).head?.getD (0,0)).2) ((VA P g rf c.args.toList 0).map (·.1)) (P:=P) (σ:=fun d=>(g d).den ρ) (aks:=saks.map (SAK.den ρ)) (res:=res.den (bind ρ n vs)) (outs:=(Jd (saks.map SAK.sv) n').1.map (SV.den (bind ρ n vs))) (tail:=tail) ho hc (by simpa using a1.1)
     (fun i x a hx hi=>?_) a2 (by simpa using a3) a4 a5
     (by rw [Zd5];exact VU _ hnd) (by simp [hlen]) (fun i d fr to cs y hi hy=>?_) (q3 _) (ZkV _ hrnm) (fun i t e xs hi=>?_) (fun i d fr to cs hi=>?_) (fun i x hx hz d q hxm hno=>?_) ?_
    ·rw [Zd0,Zd5] at this
     exact this
    ·rw [List.getElem?_map] at hi
     cases hsi:saks[i]? with
     | none => simp [hsi] at hi
     | some a0 =>
      simp only [hsi,Option.map_some,Option.some.injEq] at hi
      subst hi
      exact a1.2 i x a0 hx hsi
    ·rw [List.getElem?_map] at hi hy
     cases hsi:saks[i]? with
     | none => simp [hsi] at hi
     | some a =>
      cases hyi:(Jd (saks.map SAK.sv) n').1[i]? with
      | none => simp [hyi] at hy
      | some y0 =>
       simp only [hsi,hyi,Option.map_some,Option.some.injEq] at hi hy
       subst hy
       cases a with
       | box d0 fr0 to0 cs0 =>
        simp only [SAK.den,AK.box.injEq] at hi
        obtain ⟨rfl,rfl,rfl,rfl⟩:=hi
        obtain ⟨cs',rfl⟩:=Vd (saks.map SAK.sv) n' i to0 cs0 y0 (by rw [List.getElem?_map,hsi];rfl) hyi
        exact ⟨_,Zai _ _ _⟩
       | _ => cases hi
    ·rw [List.getElem?_map] at hi
     cases hsi:saks[i]? with
     | none => simp [hsi] at hi
     | some a =>
      simp only [hsi,Option.map_some,Option.some.injEq] at hi
      cases a with
      | own t0 x0 e0 l0 =>
       simp only [SAK.den,AK.own.injEq] at hi
       obtain ⟨rfl,rfl,rfl,_⟩:=hi
       unfold Zdi at hfree
       rw [List.all_eq_true] at hfree
       have hf:=hfree _ (List.mem_of_getElem? hsi)
       cases tx with
       | any N M K => exact .inr ⟨N, M, K, rfl, hf, rfl⟩
       | text =>
       simp only [List.isEmpty_iff] at hf
       refine .inl ⟨rfl,by simp,fun j q _ hr=>?_⟩
       have hda:=(JD ρ htop (d:=t0)).2 j q
       by_cases hj:j=t0
       ·subst hj
        have hok:=a1.2 i
        have hlt:=(List.getElem?_eq_some_iff.1 hsi).1
        obtain ⟨x,hx⟩:∃ x,(c.args.toList.map Zae.op++ds.map Zae.cap++tail)[i]? = some x:=⟨_,List.getElem?_eq_getElem (by rw [a1.1];exact hlt)⟩
        have hk:=hok x _ hx hsi
        cases x with
        | op y =>
         have h1:(g j).den ρ = .own true e0 (l0.den ρ):=hk.2
         have hr':Z8 ((g j).den ρ) j q:=hr
         rw [h1] at hr'
         rcases hr' with h2 | ⟨_,h2⟩ <;> cases h2
        | _ => exact hk.elim
       ·have:=hda hj hr
        rw [hf] at this
        cases this
      | _ => cases hi
    ·rw [List.getElem?_map] at hi
     cases hsi:saks[i]? with
     | none => simp [hsi] at hi
     | some a =>
      simp only [hsi,Option.map_some,Option.some.injEq] at hi
      cases a with
      | box t0 fr0 to0 cs0 =>
       simp only [SAK.den,AK.box.injEq] at hi
       obtain ⟨rfl,rfl,rfl,rfl⟩:=hi
       unfold Zdi at hfree
       rw [List.all_eq_true] at hfree
       have hf0:=hfree _ (List.mem_of_getElem? hsi)
       rcases Bool.or_eq_true_iff.1 hf0 with hpl | hf
       ·exact .inl (Za6 hpl ρ)
       ·right
        cases tx with
        | any N M K =>
         rcases Bool.or_eq_true_iff.1 hf with hf | hf
         ·exact .inl (.inr ⟨N,M,K,rfl,hf,rfl⟩)
         ·refine .inr fun σ' hrl j q hr=>?_
          cases hM:M t0 with
          | none => rw [hM] at hf; cases hf
          | some t =>
           rw [hM] at hf
           simp only at hf
           by_cases hj:t=j
           ·subst hj
            rw [List.any_eq_true] at hf
            obtain ⟨b,hb,hbt⟩:=hf
            cases b with
            | ref t1 _ _ _ =>
             have h4:t1=t:=by simpa using hbt
             exact ⟨_,List.mem_map.2 ⟨_,hb,rfl⟩,by rw [Zau];show some t1=some t;rw [h4]⟩
            | _ => cases hbt
           ·exact (hrl.1 t0 j q (by simp [Odr.nr,hM,hj]) hr).elim
        | text =>
        refine .inr fun σ' hrl j q hr=>?_
        have hrl':σ'=fun d=>(g d).den ρ:=hrl
        rw [hrl'] at hr
        have hda:=(JD ρ htop (d:=t0)).2 j q
        by_cases hj:j=t0
        ·subst hj
         have hok:=a1.2 i
         have hlt:=(List.getElem?_eq_some_iff.1 hsi).1
         obtain ⟨x,hx⟩:∃ x,(c.args.toList.map Zae.op++ds.map Zae.cap++tail)[i]? = some x:=⟨_,List.getElem?_eq_getElem (by rw [a1.1];exact hlt)⟩
         have hk:=hok x _ hx hsi
         have hr':Z8 ((g j).den ρ) j q:=hr
         have hb0:∃ fr cs,(g j).den ρ=mkB fr cs:=by
          cases x with
          | op y => exact ⟨false, _, hk.2.1⟩
          | cap d' => exact ⟨_, _, hk.2.1⟩
          | ghost => exact ⟨_, _, hk.1⟩
          | pad => exact hk.elim
         obtain ⟨fr,cs,hb0⟩:=hb0
         rw [hb0] at hr'
         cases fr<;>rcases hr' with h2 | ⟨_,h2⟩ <;> cases h2
        ·have hm:=hda hj hr
         rw [List.all_eq_true] at hf
         obtain ⟨u,hu,huj⟩:=List.mem_map.1 hm
         obtain ⟨u0,hu0,rfl⟩:=List.mem_map.1 hu
         have h3:=hf u0 hu0
         rw [List.any_eq_true] at h3
         obtain ⟨b,hb,hbt⟩:=h3
         cases b with
         | ref t1 _ _ _ =>
          refine ⟨_,List.mem_map.2 ⟨_,hb,rfl⟩,?_⟩
          have h4:t1=u0.1:=by simpa using hbt
          rw [Zau]
          show some t1=some j
          rw [h4];exact congrArg some huj
         | _ => cases hbt
      | _ => cases hi
    ·have hnrf:(rf.contains (0+i)&&(ZbH g x).isSome)=false:=by
      rw [Nat.zero_add]
      cases hc':(rf.contains i&&(ZbH g x).isSome) with
      | false => rfl
      | true =>
       obtain ⟨t1,d1,q1,j1,h1'⟩:=hrf i x hx hc'
       obtain ⟨j2,h2'⟩:=a6 i t1 d1 q1 j1 h1'
       obtain ⟨z,hz⟩:=hz
       rw [List.getElem?_map,h2'] at hz
       cases hz
     have hm:=ZdX (P:=P) (g:=g) ρ hx hnrf hxm hno
     generalize VA P g rf c.args.toList 0=bs at hm hbo
     cases bs with
     | nil => cases hm
     | cons p r =>
      simp only [Znz,Bool.and_eq_true,List.all_eq_true,decide_eq_true_eq,Bool.not_eq_true',List.contains_eq_mem,decide_eq_false_iff_not] at hbo
      obtain ⟨⟨⟨b1,b2⟩,b3⟩,b4⟩:=hbo
      have hp:d=p.1∧q=p.2:=by
       rcases List.mem_cons.1 hm with h0 | h0
       ·rw [← h0];exact ⟨rfl,rfl⟩
       ·exact b1 _ h0
      refine ⟨hp.1,hp.2,by simp,fun a ha hs=>b2 ?_,fun i=>?_⟩
      ·obtain ⟨a0,ha0,rfl⟩:=List.mem_map.1 ha
       rw [Zau] at hs
       exact List.mem_filterMap.2 ⟨a0,ha0,hs⟩
      ·simp only [ZG]
       rcases Nat.lt_or_ge i ((Jd (saks.map SAK.sv) n').1.map (SV.den (bind ρ n vs))).length with hi | hi
       ·rw [List.getElem?_append_left hi,List.getElem?_map]
        cases hy:(Jd (saks.map SAK.sv) n').1[i]? with
        | none => rfl
        | some y => exact ZcI _ (b4 y (List.mem_of_getElem? hy))
       ·rw [List.getElem?_append_right hi]
        cases hj:i-((Jd (saks.map SAK.sv) n').1.map (SV.den (bind ρ n vs))).length with
        | zero => exact ZcI _ b3
        | succ j => rfl
    ·have he:(saks.map (SAK.den ρ)).map AK.av=(saks.map SAK.sv).map (SV.den ρ):=by
      rw [List.map_map,List.map_map]
      exact List.map_congr_left fun a _=>Zk5 ρ a
     rw [he]
     exact h1
   ·exact h.elim
  ·exact h.elim
 ·exact h.elim
theorem Zfn {d:Nat} {u:Nat×SV} {n:Nat} (ρ:Nat→V) (hu:u∈ZK g d n):u.2 = .dead∧∃ d k,Z8 ((g u.1).den ρ) d k:=by
 obtain ⟨h1,_,_,h4⟩:=(Jf n u).1 hu
 obtain ⟨k,hk⟩:=(WM ρ d (g u.1)).1 h4
 exact ⟨h1,d,k,hk⟩
theorem Zfi {rf:List Nat} {args:List Operand} {u:Nat×SV} (ρ:Nat→V) (hu:u∈Zas E tx g rf args):u.2 = .dead∧∃ d k,Z8 ((g u.1).den ρ) d k:=by
 unfold Zas at hu
 split at hu
 ·obtain ⟨p,_,hp⟩:=List.mem_flatMap.1 (List.mem_filter.1 hu).1
  split at hp
  ·split at hp
   ·exact Zfn ρ hp
   ·cases hp
  ·cases hp
 ·cases hu
theorem Zek (kl:Ups):(fun d=>(Zew kl g d).den ρ)=Jl (fun d=>(g d).den ρ) ((kl.map fun u=>(u.1,SV.dead.den ρ))):=by
 funext d
 rw [Ke _ _ _ (fun u hu=>by obtain ⟨v,_,rfl⟩:=List.mem_map.1 hu;rfl)]
 unfold Zew
 by_cases h:(kl.any fun u=>u.1 == d)=true
 ·rw [if_pos h,if_pos]
  ·rfl
  ·rw [List.any_eq_true] at h
   obtain ⟨u,hu,he⟩:=h
   rw [List.map_map]
   exact List.mem_map.2 ⟨u,hu,by simpa using he⟩
 ·rw [if_neg h,if_neg]
  rw [List.map_map]
  intro hm
  obtain ⟨u,hu,he⟩:=List.mem_map.1 hm
  exact h (List.any_eq_true.2 ⟨u,hu,by simpa using he⟩)
theorem Zjh (kl:Ups) (hkl:∀ u∈kl,u.2 = .dead∧(∃ d k,Z8 ((g u.1).den ρ) d k)∧u.1∉KD o) (h:Yw .text P R A ρ (Zew kl g) o n (fun x us fp n'=>k x (kl++us) fp n')):Yw .text P R A ρ g o n k:=by
 obtain ⟨ρ',n',x,us,fp,h1,h2,h3,h4,h5,h6⟩:=h
 refine ⟨ρ',n',x,kl++us,fp,h1,h2,h3,fun u hu=>?_,h5,?_⟩
 ·rcases List.mem_append.1 hu with hu | hu
  ·rw [(hkl u hu).1];trivial
  ·exact h4 u hu
 intro c hc σ' tm w lim X _ _ hT hsim next Q hn
 have hT':σ'=fun d=>(g d).den ρ:=hT
 subst hT'
 have hmap:(kl.map fun u=>(u.1,u.2.den ρ'))=kl.map fun u=>(u.1,SV.dead.den ρ):=List.map_congr_left fun u hu=>by rw [(hkl u hu).1];rfl
 obtain ⟨X',hs,_⟩:=Sim.drops (kl.map fun u=>(u.1,SV.dead.den ρ)) hsim fun u hu=>by
  obtain ⟨v,hv,rfl⟩:=List.mem_map.1 hu
  obtain ⟨_,⟨d,q,hr⟩,_⟩:=hkl v hv
  obtain ⟨g1,g2,g3⟩:=Yh hr
  refine ⟨rfl,g2,Ye hsim (fun he=>?_) g3⟩
  rw [he] at hr
  rcases hr with hr | ⟨_,hr⟩ <;> cases hr
 rw [← Zek] at hs
 refine h6 c hc _ tm w lim X' (fun _ _=>.inl rfl) (fun _ _=>rfl) rfl hs next Q fun v w' ha=>hn v w' ?_
 rw [List.map_append,hmap,Km,← Zek]
 exact ha
theorem Zej:∀ (l:List SV) (ds:List Nat),Zcy l=some ds→l.length=ds.length∧∀ (i d:Nat),ds[i]? = some d→l[i]? = some (.ptr d 0)
 | [], ds, h => by simp only [Zcy, Option.some.injEq] at h; subst h; exact ⟨rfl, by simp⟩
 | x :: l, ds, h => by
  unfold Zcy at h
  split at h
  ·rename_i heq;cases heq
  ·rename_i d r heq
   simp only [List.cons.injEq] at heq
   obtain ⟨rfl,rfl⟩:=heq
   cases hr:Zcy l with
   | none => rw [hr] at h; cases h
   | some es =>
    rw [hr] at h
    simp only [Option.map_some,Option.some.injEq] at h
    subst h
    obtain ⟨h1,h2⟩:=Zej l es hr
    refine ⟨by simp [h1],fun i e he=>?_⟩
    cases i with
    | zero => simp only [List.getElem?_cons_zero, Option.some.injEq] at he ⊢; rw [he]
    | succ i => simpa using h2 i e (by simpa using he)
  ·cases h
theorem ZfM {fn:Fn} {first captured:Array Operand} (ho:o.op = .makeFunc fn first captured) (h:(JL P E tx tk g o n k).wp P R A ρ):Yw tx P R A ρ g o n k:=by
 simp only [JL,ho] at h
 split at h
 ·rename_i f ds hf hds
  split at h
  ·rename_i hall
   obtain ⟨h1,h2⟩:=Zej _ _ hds
   refine ZS h trivial (Zdq ho hf (by simpa using h1) fun i x d hx hd=>?_)
   have h3:=h2 i d hd
   rw [List.getElem?_map,hx] at h3
   simp only [Option.map_some,Option.some.injEq] at h3
   rw [List.all_eq_true] at hall
   have h4:=hall d (List.mem_of_getElem? hd)
   refine ⟨Zc ρ h3,?_⟩
   show ∃ cs,(g d).den ρ = .box cs
   split at h4
   ·rename_i cs hcs;rw [hcs];exact ⟨_,rfl⟩
   ·cases h4
  ·exact h.elim
 ·exact h.elim
theorem Zjs {P:Program} (w:World) (d:Nat) {t e:TypeId} (a:Addr) (h:P.underlying t=some (.pointer e)):(Op.equalIn (d+1) t (.pointer (some a)) (.pointer none)).run P w = .ok false w:=by
 simp [Op.equalIn,run_underlying h]
theorem Zbw {P:Program} {o:Oper} {σ:Nat→AV} {op:BinOp} {T T' e:TypeId} {x:Operand} {d off:Nat} (ho:o.op = .binOp op T x (.const (.pointer none)) T') (hT:P.underlying T=some (.pointer e))
  (hop:op = .eql∨op = .neq) (hx:Zm P σ x = .ptr d off):Jv P o σ (.val (.bool (if op = .eql then false else true))) [] []:=by
 refine Zv [] rfl fun c hc σ' tm w lim X hg _ hsim=>⟨.bool (if op = .eql then false else true),?_,.val rfl⟩
 rw [ho] at hg
 obtain ⟨b,cs,_,_,hv⟩:=J1 hc hsim hx (hg x (by simp [Op.operands]))
 have hc0:Act.eval ⟨tm,[]⟩ (.const (.pointer none)) = .pointer none:=rfl
 have he:(Op.equal T (.pointer (some ⟨b,off,none⟩)) (.pointer none)).run P w = .ok false w:=Zjs w 9999 _ hT
 rcases hop with rfl | rfl<;>simp [execOp,ho,hv,hc0,eqGuard,binOp,he]
theorem Zkm {op:BinOp} {T T':TypeId} {x y:Operand} (hps:EnvSound P E) (hg:∀ d,(g d).bd n) (ho:o.op = .binOp op T x y T') (h:(JL P E tx tk g o n k).wp P R A ρ):Yw tx P R A ρ g o n k:=by
 simp only [JL,ho] at h
 split at h
 ·rename_i b hb
  unfold Zk2 at hb
  split at hb
  ·rename_i d off e hx hT
   split at hb
   ·simp only [Option.some.injEq] at hb
    subst hb
    exact ZS h trivial (Zbw (op:=.eql) ho hT (.inl rfl) (Zc ρ hx))
   ·simp only [Option.some.injEq] at hb
    subst hb
    exact ZS h trivial (Zbw (op:=.neq) ho hT (.inr rfl) (Zc ρ hx))
   ·cases hb
  ·cases hb
 ·exact Zi2 hps.1 hg ho h
theorem Zgw {l:List (List AV)} {k:Int} (h:Zjy .any l k=true):∃ kvs tl,l = [.slice false 2 kvs::tl]:=by
 unfold Zjy at h
 split at h
 ·exact ⟨_,_,rfl⟩
 ·cases h
theorem ZhW {l:List (List AV)} {k:Int} (h:Zjy .full l k=true):∃ kvs,l = [[.slice false 2 kvs]]:=by
 unfold Zjy at h
 split at h
 ·rename_i kvs tl
  obtain rfl:tl = []:=by simpa using h
  exact ⟨_,rfl⟩
 ·cases h
theorem ZhK {l:List (List AV)} {k:Int} (h:Zjy .at l k=true):∃ kvs tl,l = [.slice false 2 kvs::tl]∧∀ x∈tl,x = .val (.int .i64 k):=by
 unfold Zjy at h
 split at h
 ·rename_i kvs tl
  refine ⟨_,_,rfl,fun x hx=>?_⟩
  have:=List.all_eq_true.1 (show tl.all (Zmt k)=true from h) x hx
  unfold Zmt at this
  split at this
  ·rename_i z
   have hz:z=k:=by simpa using this
   rw [hz]
  ·cases this
 ·cases h
theorem Zjo {l:List (List AV)} {k:Int} (h:Zjy .keys l k=true):∃ kvs,l = [[.slice false 2 kvs]]∧kvs.length≤1048576∧∀ r∈kvs,Za1 r=true:=by
 unfold Zjy at h
 split at h
 ·rename_i kvs tl
  have h':tl.isEmpty=true∧kvs.length≤1048576∧kvs.all Za1=true:=by simpa using h
  obtain rfl:tl = []:=by simpa using h'.1
  exact ⟨_,rfl,h'.2.1,List.all_eq_true.1 h'.2.2⟩
 ·cases h
theorem Zg2 {T:TypeId} {x:Option Operand} (ho:o.op = .makeMap T x) (h:(JL P E tx tk g o n k).wp P R A ρ):Yw tx P R A ρ g o n k:=by
 simp only [JL,ho] at h
 split at h
 ·rename_i et het
  exact ZS h (show (LE.bd n _) from ⟨trivial,trivial,trivial⟩) (ZeV ho het)
 ·rename_i hks
  split at h
  ·rename_i z hz
   split at h
   ·rename_i hlt
    exact ZS h (show (LE.bd n _) from ⟨trivial,trivial,trivial⟩) (Zdl ho hz hks hlt)
   ·exact h.elim
  ·exact h.elim
 ·exact h.elim
theorem ZjU {z:Value} {sh:Sh} (hk:ZbJ z=some sh):∃ zc,ofC z=some zc∧zc.bd n∧∀ ρ,zc.den ρ = .val z:=by
 cases z<;>simp [ZbJ] at hk
 ·exact ⟨_,rfl,trivial,fun _=>rfl⟩
 ·exact ⟨_,rfl,trivial,fun _=>rfl⟩
theorem ZiO {l:List (List AV)} {i:Int} (h:qop .mapv l i=true):∃ kvs,l = [[.slice false 2 kvs]]:=by
 simp only [qop] at h
 split at h
 ·exact ⟨_,rfl⟩
 ·cases h
theorem ZgP {T:TypeId} {m kx:Operand} {ok:Bool} {z:Value} (hg:∀ d,(g d).bd n) (ho:o.op = .lookup T m kx ok) (hz:Y8 P T=some z) (h:(ZfK P g T m kx ok z n k).wp P R A ρ):Yw tx P R A ρ g o n k:=by
 unfold ZfK at h
 split at h
 case h_2=>exact h.elim
 rename_i d ke hks hm hk
 split at h
 case h_2=>exact h.elim
 rename_i zc sh e l hzc hsh hd
 split at h
 case isFalse=>exact h.elim
 rename_i hh
 obtain ⟨he,hlt,h0⟩:=hh
 obtain ⟨hq,vs,w1,w2,w3⟩:=h
 obtain ⟨kvs,hkv⟩:=ZiO hq
 obtain ⟨zc',hzc',hzb,hzd⟩:=ZjU (n:=n) hsh
 rw [hzc] at hzc'
 cases hzc'
 have hd':(g d).den ρ = .own true e [[.slice false 2 kvs]]:=by rw [hd];show AV.own true e (l.den ρ)=_;rw [hkv]
 have hrow:ZbL [[.slice false 2 kvs]] (ke.den ρ) [.val z]=(ZbL (l.den ρ) (ke.den ρ) [zc.den ρ]):=by rw [hkv,hzd]
 have w2':(ZbL [[.slice false 2 kvs]] (ke.den ρ) [.val z])[0]? = some ((ZC [sh,.bool] n).map (SC.den (bind ρ n vs))):=by rw [hrow];exact w2
 have hform:∃ a,ZbL [[.slice false 2 kvs]] (ke.den ρ) [.val z] = [a]:=by
  unfold ZbL
  split<;>exact ⟨_,rfl⟩
 obtain ⟨a,ha⟩:=hform
 rw [ha] at w2'
 simp only [List.getElem?_cons_zero,Option.some.injEq,ZC,List.map_cons,List.map_nil] at w2'
 subst w2'
 have hval:∃ u,(Ju sh n).den (bind ρ n vs) = .val u:=by
  cases z<;>simp [ZbJ] at hsh<;>subst hsh<;>exact ⟨_,rfl⟩
 obtain ⟨u,hu⟩:=hval
 rw [hu] at ha
 have ha:ZbL [[.slice false 2 kvs]] (ke.den ρ) [.val z] = [[.val u,.val (.bool (bind ρ n vs (n+1)).bool)]]:=ha
 have hsb:(Ju sh n).bd (n+2):=by
  cases z<;>simp [ZbJ] at hsh<;>subst hsh<;>(show n < n+2;omega)
 cases ok with
 | false =>
  refine ⟨bind ρ n vs,n+2,.c (Ju sh n),[],[d],Nat.le_add_right _ _,Kn ρ n vs,hsb,by simp,w3,?_⟩
  have:=Zes ho hz hks hlt (Zc ρ hm) (show (fun d=>(g d).den ρ) d=_ from hd') h0 he (Zc ρ hk) ha
  rw [← hu] at this
  exact this.t
 | true =>
  refine ⟨bind ρ n vs,n+2,.tuple [.c (Ju sh n),.c (.bool (.var (n+1)))],[],[d],Nat.le_add_right _ _,Kn ρ n vs,?_,by simp,w3,?_⟩
  ·intro c hc
   rcases List.mem_cons.1 hc with rfl | hc
   ·exact hsb
   ·rw [List.mem_singleton] at hc;subst hc;show n+1 < n+2;omega
  ·have:=Za9 ho hz hks hlt (Zc ρ hm) (show (fun d=>(g d).den ρ) d=_ from hd') h0 he (Zc ρ hk) ha
   rw [← hu] at this
   exact this.t
theorem Zg8 {T:TypeId} {m kx v:Operand} {z:Value} (hg:∀ d,(g d).bd n) (ho:o.op = .insert T m kx v∨o.op = .mapUpdate T m kx v) (hz:Y8 P T=some z) (h:(Zdf P g T m kx v z n k).wp P R A ρ):Yw tx P R A ρ g o n k:=by
 unfold Zdf at h
 split at h
 case h_2=>exact h.elim
 rename_i d ke hks hm hk
 split at h
 case h_2=>exact h.elim
 rename_i sh c e l hsh hv hd
 split at h
 case isFalse=>exact h.elim
 rename_i hh
 obtain ⟨he,hlt,h0,hkd⟩:=hh
 obtain ⟨hq,h⟩:=h
 obtain ⟨kvs,hkv⟩:=ZiO hq
 have bk:=ZA (P:=P) hg kx
 rw [hk] at bk
 have bv:=ZA (P:=P) hg v
 rw [hv] at bv
 have hl:=hg d
 rw [hd] at hl
 have hd':(g d).den ρ = .own true e [[.slice false 2 kvs]]:=by rw [hd];show AV.own true e (l.den ρ)=_;rw [hkv]
 have hval:∃ u,c.den ρ = .val u∧JQ u z=true:=by
  cases z<;>simp [ZbJ] at hsh<;>subst hsh<;>cases c<;>simp [Zgu] at hkd
  ·exact ⟨_,rfl,rfl⟩
  ·subst hkd;exact ⟨_,rfl,by simp [JQ]⟩
 obtain ⟨u,hu,hsk⟩:=hval
 refine Wl h trivial (us1 (show LE.bd n _ from ⟨hl,bk,trivial,bv,trivial⟩)) ?_
 have:=ZeU ho hz hks hlt (Zc ρ hm) (show (fun d=>(g d).den ρ) d=_ from hd') h0 he (Zc ρ hk) (show Zm P (fun d=>(g d).den ρ) v = .val u by rw [← hu];exact Zc ρ hv) hsk
 rw [← hkv,← hu] at this
 exact this
theorem Zjr {T:TypeId} {m kx:Operand} {ok:Bool} (hg:∀ d,(g d).bd n) (ho:o.op = .lookup T m kx ok) (h:(JL P E tx tk g o n k).wp P R A ρ):Yw tx P R A ρ g o n k:=by
 have bk:=ZA (P:=P) hg kx
 simp only [JL,ho] at h
 split at h
 ·rename_i z hz
  exact ZgP hg ho hz h
 cases ok with
 | true => exact h.elim
 | false =>
  simp only [Zgy] at h
  split at h
  ·rename_i et d ke het hm hk
   rw [hk] at bk
   split at h
   ·rename_i e l hd
    have hl:=hg d
    rw [hd] at hl
    split at h
    ·rename_i hh
     obtain ⟨h1,h2,h3⟩:=hh
     have hd':(g d).den ρ = .own true e (l.den ρ):=by rw [hd];rfl
     split at h
     ·obtain ⟨hq,h⟩:=h
      obtain ⟨kvs,hkv⟩:=ZhW hq
      refine Wl h (show LE.bd n _ from ⟨hl,bk⟩) (us1 (show LE.bd n _ from ⟨hl,bk⟩)) ?_
      have:=W6 ho het h3 (Zc ρ hm) (by rw [hd',hkv]) h2 h1 (Zc ρ hk)
      rw [← hkv] at this
      exact this
     ·obtain ⟨hq,h⟩:=h
      obtain ⟨kvs,tl,hkv⟩:=Zgw hq
      refine ZS h (show LE.bd n _ from ⟨hl,bk⟩) ?_
      have:=ZfG ho het h3 (Zc ρ hm) (by rw [hd',hkv]) h2 h1 (Zc ρ hk)
      rw [← hkv] at this
      exact this
    ·exact h.elim
   ·exact h.elim
  ·exact h.elim
theorem ZeG {T:TypeId} {m kx v:Operand} (hg:∀ d,(g d).bd n) (ho:o.op = .insert T m kx v∨o.op = .mapUpdate T m kx v) (h:(JL P E tx tk g o n k).wp P R A ρ):Yw tx P R A ρ g o n k:=by
 have bk:=ZA (P:=P) hg kx
 cases hz:Y8 P T with
 | some z => exact Zg8 hg ho hz (by rcases ho with ho | ho <;> simpa only [JL, ho, hz] using h)
 | none =>
 have h:(Zah P g T m kx v n k).wp P R A ρ:=by rcases ho with ho | ho<;>simpa only [JL,ho,hz] using h
 unfold Zah at h
 split at h
 ·rename_i et d ke het hm hk
  rw [hk] at bk
  split at h
  ·rename_i e l hd
   have hl:=hg d
   rw [hd] at hl
   split at h
   ·rename_i hh
    obtain ⟨h1,h2⟩:=hh
    have hd':(g d).den ρ = .own true e (l.den ρ):=by rw [hd];rfl
    split at h
    ·rename_i t et' ys hsl hgt
     have hv:v = .tmp t:=by cases v<;>simp_all [ZM]
     rw [hsl] at hgt
     have hgt:g t = .own false et' ys:=by simpa using hgt
     have hy:=hg t
     rw [hgt] at hy
     split at h
     ·rename_i hee
      subst hee
      obtain ⟨hq,h⟩:=h
      obtain ⟨kvs,tl,hkv,htl⟩:=ZhK hq
      subst hv
      refine Wl h trivial (us2 hy (show LE.bd n _ from ⟨hl,bk,hy⟩)) ?_
      have:=Zfo ho het (Zc ρ hm) (by rw [hd',hkv]) h2 h1 (Zc ρ hk) htl (show (fun d=>(g d).den ρ) t = .own false et' (ys.den ρ) by show (g t).den ρ=_;rw [hgt];rfl)
      rw [← hkv] at this
      exact this
     ·exact h.elim
    ·split at h
     ·rename_i s hgv
      obtain ⟨hq,h⟩:=h
      obtain ⟨kvs,tl,hkv,htl⟩:=ZhK hq
      refine Wl h trivial (us1 (show LE.bd n _ from ⟨hl,bk,trivial⟩)) ?_
      have:=Zba ho het (Zc ρ hm) (by rw [hd',hkv]) h2 h1 (Zc ρ hk) htl (Zc ρ hgv)
      rw [← hkv] at this
      exact this
     ·exact h.elim
   ·exact h.elim
  ·exact h.elim
 ·exact h.elim
theorem ZiW {f:FuncId} {args:List Operand} {d:Nat} {gf:FuncId} {l:LE} (h:Zf9 P E g f args=some (d,gf,l)) :
  ∃ x p e,args = [x]∧p∈E.ks∧p.1=f∧p.2.2=gf∧Ja P g x = .mref d 0∧g d = .own true e l∧P.cellsOf e=0∧(Jb P (e-1048576)).isSome=true:=by
 unfold Zf9 at h
 split at h
 ·cases h
 ·split at h
  ·rename_i x p hp
   split at h
   ·rename_i d' hx
    split at h
    ·rename_i e l' hd
     split at h
     ·rename_i hm
      simp only [Option.some.injEq,Prod.mk.injEq] at h
      obtain ⟨rfl,rfl,rfl⟩:=h
      refine ⟨x,p,e,rfl,List.mem_of_find?_eq_some hp,?_,rfl,hx,hd,hm.2,hm.1⟩
      simpa using List.find?_some hp
     ·cases h
    ·cases h
   ·cases h
  ·cases h
theorem Zfw {f:FuncId} {args:List Operand} {d:Nat} {l:LE} (h:Zao P E g f args=some (d,l)) :
  ∃ x p e,args = [x]∧p∈E.ks∧p.2.1=f∧Ja P g x = .eref d 0 (.lit 0) 0 p.2.2∧g d = .own true e l∧P.cellsOf e=0∧(Jb P (e-1048576)).isSome=true:=by
 unfold Zao at h
 split at h
 ·cases h
 ·split at h
  ·rename_i x
   split at h
   ·rename_i d' gf hx
    split at h
    ·rename_i e l' hd
     split at h
     ·rename_i hm
      simp only [Option.some.injEq,Prod.mk.injEq] at h
      obtain ⟨rfl,rfl⟩:=h
      obtain ⟨p,hp,hpq⟩:=List.any_eq_true.1 hm.2.2
      simp only [Bool.and_eq_true,beq_iff_eq] at hpq
      exact ⟨x,p,e,rfl,hp,hpq.1,by rw [hpq.2];exact hx,hd,hm.2.1,hm.1⟩
     ·cases h
    ·cases h
   ·cases h
  ·cases h
theorem Zlo {c:Call} {f:FuncId} {d:Nat} {gf:FuncId} {l:LE} (hps:EnvSound P E) (ho:o.op = .call c) (hc:c.callee = .value (.func f)) (hit:Zf9 P E g f c.args.toList=some (d,gf,l))
  (h:(STree.req (.mq .any l (.lit 0)) (k (.eref d 0 (.lit 0) 0 gf) [] [d] n)).wp P R A ρ):Yw tx P R A ρ g o n k:=by
 obtain ⟨x,p,e,h1,h2,rfl,rfl,h5,h6,h7,h8⟩:=ZiW hit
 obtain ⟨hq,h⟩:=h
 obtain ⟨kvs,tl,hkv⟩:=Zgw hq
 refine ZS h trivial ?_
 have:=ZiI (d:=d) hps.2 h2 ho hc h1 (Zc ρ h5) (by show (g d).den ρ=_;rw [h6];show AV.own true e (l.den ρ)=_;rw [hkv]) h7 h8
 simpa [SV.den,IE.den] using this
theorem Zjf {c:Call} {f:FuncId} {d:Nat} {l:LE} (hps:EnvSound P E) (hg:∀ d,(g d).bd n) (ho:o.op = .call c) (hc:c.callee = .value (.func f)) (hit:Zao P E g f c.args.toList=some (d,l))
  (h:(STree.req (.mq .keys l (.lit 0)) (k (.c (.slice false 1 (.mkeys l))) [] [d] n)).wp P R A ρ):Yw tx P R A ρ g o n k:=by
 obtain ⟨x,p,e,h1,h2,rfl,h5,h6,h7,h8⟩:=Zfw hit
 obtain ⟨hq,h⟩:=h
 obtain ⟨kvs,hkv,hlen,hfine⟩:=Zjo hq
 have hl:=hg d
 rw [h6] at hl
 refine ZS h (show LE.bd n _ from hl) ?_
 have hx:Zm P (fun d=>(g d).den ρ) x = .eref d 0 p.2.2:=by have:=Zc ρ h5;simpa [SV.den,IE.den] using this
 have:=ZfV (d:=d) hps.2 h2 ho hc h1 hx (by show (g d).den ρ=_;rw [h6];show AV.own true e (l.den ρ)=_;rw [hkv]) h7 h8 hlen hfine
 rw [← hkv] at this
 exact this
theorem Zhf (hps:EnvSound P E) (hg:∀ d,(g d).bd n) (htop:∀ i,E.top≤i→g i = .dead) (h:(JL P E tx tk g o n k).wp P R A ρ):Yw tx P R A ρ g o n k:=by
 cases ho:o.op with
 | move x => exact ZlF hg htop ho h
 | assign x => exact ZhV hg htop ho h
 | pick c a b => exact Zmf hg ho h
 | alloc T => exact ZjR ho h
 | box T x => exact ZnA hg ho h
 | build T parts => exact ZkH hg htop ho h
 | buildSlice T len parts => exact Zdg hg ho h
 | load T a => exact ZlN hg htop ho h
 | store T a x => exact ZkK hg htop ho h
 | nilCheck x => exact ZfC hg ho h
 | binOp op T x y T' => exact Zkm hps hg ho h
 | unOp op T x => exact Zl0 hg ho h
 | convert S T x => exact Zhu hg ho h
 | fieldAddr T x f => exact Zep hg ho h
 | field T x f => exact ZjN hg ho h
 | indexAddr T x i => exact ZeI hg ho h
 | makeSlice T a b => exact ZlE hg ho h
 | makeFunc fn first captured => exact ZfM ho h
 | makeMap T x => exact Zg2 ho h
 | lookup T m kx ok => exact Zjr hg ho h
 | insert T m kx v => exact ZeG hg (.inl ho) h
 | mapUpdate T m kx v => exact ZeG hg (.inr ho) h
 | slice T x lo hi mx => exact Zke hg htop ho h
 | extract x i => exact Zg1 hg ho h
 | call c =>
  cases hc:c.callee with
  | builtin b =>
   cases b with
   | len => exact Znl hg ho hc h
   | append => exact Zjb hg htop ho hc h
   | copy => exact Zmd hg ho hc h
   | min => exact ZmA hg ho hc h
   | max => exact Znu hg ho hc h
   | _ => simp only [JL, ho, hc] at h; exact h.elim
  | value x =>
   cases x with
   | func f =>
    simp only [JL,ho,hc] at h
    split at h
    ·rename_i hit
     exact Zlo hps ho hc hit h
    split at h
    ·rename_i hit
     exact Zjf hps hg ho hc hit h
    split at h
    case h_2=>
     rename_i hkl
     split at h
     case isFalse=>exact h.elim
     rename_i hall
     rw [List.all_eq_true] at hall
     cases htx:tx with
     | any N M => exact (hkl (by rw [htx]; rfl)).elim
     | text =>
     subst htx
     refine Zjh (Zas E .text g (E.rfs f) c.args.toList) (fun u hu=>?_) ?_
     ·obtain ⟨k1,k2⟩:=Zfi ρ hu
      exact ⟨k1,k2,by simpa using hall u hu⟩
     ·split at h
      ·rename_i aZ has
       obtain ⟨h1,h2,h3⟩:=V1 ρ _ _ _ has
       refine ZfF (ds:=[]) (fun i hi=>by unfold Zew;split;rfl;exact htop i hi) ho (.inl ⟨hc,rfl⟩) (by simpa using h1) h2 (fun i x hx hci=>?_) h
       have hl:i < aZ.length:=by rw [← h1.1,List.length_map];exact (List.getElem?_eq_some_iff.1 hx).1
       obtain ⟨t,d,q,j,e⟩:=h3 i _ x hx (List.getElem?_eq_getElem hl) (by rw [Nat.zero_add];exact hci)
       exact ⟨t,d,q,j,by rw [List.getElem?_eq_getElem hl,e]⟩
      ·exact h.elim
    split at h
    ·rename_i aZ has
     obtain ⟨h1,h2,h3⟩:=V1 ρ _ _ _ has
     refine ZfF (ds:=[]) htop ho (.inl ⟨hc,rfl⟩) (by simpa using h1) h2 (fun i x hx hci=>?_) h
     have hl:i < aZ.length:=by rw [← h1.1,List.length_map];exact (List.getElem?_eq_some_iff.1 hx).1
     obtain ⟨t,d,q,j,e⟩:=h3 i _ x hx (List.getElem?_eq_getElem hl) (by rw [Nat.zero_add];exact hci)
     exact ⟨t,d,q,j,by rw [List.getElem?_eq_getElem hl,e]⟩
    ·exact h.elim
   | tmp t =>
    simp only [JL,ho,hc] at h
    split at h
    ·rename_i f ds aZ ht has
     obtain ⟨h1,h2,_⟩:=V1 ρ _ _ _ has
     split at h
     ·rename_i cs hcs
      obtain ⟨k1,k2⟩:=Zlm (P:=P) ρ hcs
      refine ZfF (ds:=ds) htop ho (.inr ⟨t,hc,by rw [ht];rfl⟩) (h1.append k1) (fun a ha=>?_) (fun i _ _ hi=>by simp at hi) h
      rcases List.mem_append.1 ha with ha | ha
      ·exact h2 a ha
      ·exact k2 a ha
     ·exact h.elim
    ·exact h.elim
   | _ => simp only [JL, ho, hc] at h; exact h.elim
  | _ => simp only [JL, ho, hc] at h; exact h.elim
 | _ => simp only [JL, ho] at h; exact h.elim
end
end Go.AM
end

section
namespace Go.AM
structure Stp where
 F:List Nat
 ups:List (Nat×AV)
def Zln (T:Odr) (P:Program) (nt:Nat) (ops:Array Oper) (B:Nat→Prop) (i:Nat) (pre:Nat→AV) (s:Stp):Prop:=
 (∀ u∈s.ups,u.1∈s.F)∧(∀ u∈s.ups,B u.1→Zcw u.2)∧(∀ u∈s.ups,∀ d k,T.nr d u.1=true→¬ Z8 u.2 d k)∧(∀ u∈s.ups,∀ j,T.kp u.1 j=true→Z9 u.2 j=Z9 (pre u.1) j)∧
 ∀ (c:Ctx),c.P=P→c.nt=nt→∀ (σ':Nat→AV) (tm:Array Value) (w:World) (lim:Nat→Nat) (X:Nat→Nat→Option Nat),
  (∀ d∈s.F,σ' d=pre d)→(∀ d,B d→Zcw (σ' d))→T.rel pre σ'→Sim c σ' tm w lim X→∀ (Q:Exit→Act→World→Prop) (K:Act→World→Prop),
   (∀ tm' w' lim' X',Sim c (Jl σ' s.ups) tm' w' lim' X'→K ⟨tm',[]⟩ w')→wpOp P ops Q i K ⟨tm,[]⟩ w
def ZeL (T:Odr) (P:Program) (nt:Nat) (ops:Array Oper) (B:Nat→Prop):Nat→(Nat→AV)→List Stp→Prop
 | _, _, [] => True
 | i, σ, s :: ss => Zln T P nt ops B i σ s ∧ ZeL T P nt ops B (i + 1) (Jl σ s.ups) ss
theorem Zc5 {B:Nat→Prop} : ∀ (us:List (Nat×AV)) (σ:Nat→AV),(∀ u∈us,B u.1→Zcw u.2)→(∀ d,B d→Zcw (σ d))→∀ d,B d→Zcw (Jl σ us d)
 | [], _, _, h, d, hd => h d hd
 | (e, x) :: us, σ, hu, h, d, hd => by
  refine Zc5 us (upd σ e x) (fun u h'=>hu u (by simp [h'])) (fun d hd=>?_) d hd
  by_cases he:d=e
  ·subst he;rw [Zu];exact hu (d,x) (by simp) hd
  ·rw [Zd _ _ he];exact h d hd
def ZdP (σ:Nat→AV):List Stp→(Nat→AV)
 | [] => σ
 | s :: ss => ZdP (Jl σ s.ups) ss
section
variable {T:Odr} {P:Program} {nt:Nat} {ops:Array Oper} {B:Nat→Prop} {Q:Exit→Act→World→Prop} {c:Ctx}
theorem Zce (hc:c.P=P) (hn:c.nt=nt):∀ (ss:List Stp) (i:Nat) (σ:Nat→AV) (tm:Array Value) (w:World) (lim:Nat→Nat) (X:Nat→Nat→Option Nat),
  ZeL .text P nt ops B i σ ss→(∀ d,B d→Zcw (σ d))→Sim c σ tm w lim X→(∀ tm' w' lim' X',Sim c (ZdP σ ss) tm' w' lim' X'→Q .normal ⟨tm',[]⟩ w')→wpOps P ops Q (List.range' i ss.length) ⟨tm,[]⟩ w
 | [], i, σ, tm, w, lim, X, _, _, hs, hk => by
  show Q .normal ⟨tm,[]⟩ w
  exact hk tm w lim X hs
 | s :: ss, i, σ, tm, w, lim, X, h, hb, hs, hk => by
  rw [List.length_cons,List.range'_succ,wpOps_cons]
  exact h.1.2.2.2.2 c hc hn σ tm w lim X (fun _ _=>rfl) hb rfl hs Q _ fun tm' w' lim' X' hs'=>Zce hc hn ss (i+1) _ tm' w' lim' X' h.2 (Zc5 _ _ h.1.2.1 hb) hs' hk
def Wx:List (Nat×AV)→Nat→Option AV
 | [], _ => none
 | (e, x) :: us, d => match Wx us d with | some y => some y | none => if d = e then some x else none
theorem Jj:∀ (us:List (Nat×AV)) (σ:Nat→AV) (d:Nat),Jl σ us d=(Wx us d).getD (σ d)
 | [], σ, d => rfl
 | (e, x) :: us, σ, d => by
  simp only [Jl,Wx,Jj us]
  cases Wx us d with
  | some y => rfl
  | none =>
   by_cases h:d=e
   ·subst h;simp [upd]
   ·simp [upd,h]
theorem YF:∀ (us:List (Nat×AV)) (d:Nat),d∉us.map (·.1)→Wx us d=none
 | [], d, _ => rfl
 | (e, x) :: us, d, h => by
  simp only [List.map_cons,List.mem_cons,not_or] at h
  simp only [Wx,YF us d h.2,if_neg h.1]
theorem K9:∀ (us:List (Nat×AV)) (d:Nat),d∈us.map (·.1)→∃ x,Wx us d=some x
 | [], d, h => by simp at h
 | (e, x) :: us, d, h => by
  simp only [Wx]
  cases hl:Wx us d with
  | some y => exact ⟨y, rfl⟩
  | none =>
   simp only [List.map_cons,List.mem_cons] at h
   rcases h with h | h
   ·subst h;exact ⟨x,by simp⟩
   ·obtain ⟨y,hy⟩:=K9 us d h;rw [hl] at hy;cases hy
def comp (S:Nat→Bool):Nat→(Nat→AV)→List Stp→(Nat→AV)
 | _, σ, [] => σ
 | i, σ, s :: ss => comp S (i + 1) (if S i = true then Jl σ s.ups else σ) ss
theorem ZgB (S:Nat→Bool):∀ (ss:List Stp) (i:Nat) (σ:Nat→AV),(∀ j,i≤j→j < i+ss.length→S j=true)→comp S i σ ss=ZdP σ ss
 | [], _, _, _ => rfl
 | s :: ss, i, σ, h => by
  simp only [comp,ZdP,h i (Nat.le_refl _) (by simp),if_true]
  exact ZgB S ss (i+1) _ fun j h1 h2=>h j (by omega) (by simp only [List.length_cons];omega)
theorem ZbC (S:Nat→Bool):∀ (ss:List Stp) (i:Nat) (σ:Nat→AV),(∀ j,i≤j→j < i+ss.length→S j=false)→comp S i σ ss=σ
 | [], _, _, _ => rfl
 | s :: ss, i, σ, h => by
  simp only [comp,h i (Nat.le_refl _) (by simp),Bool.false_eq_true,if_false]
  exact ZbC S ss (i+1) _ fun j h1 h2=>h j (by omega) (by simp only [List.length_cons];omega)
theorem Vi {d:Nat} (S T:Nat→Bool):∀ (ss:List Stp) (i:Nat) (σ τ:Nat→AV),σ d=τ d→(∀ (j:Nat) (s:Stp),ss[j]? = some s→d∈s.ups.map (·.1)→S (i+j)=T (i+j))→comp S i σ ss d=comp T i τ ss d
 | [], _, _, _, h, _ => h
 | s :: ss, i, σ, τ, h, hS => by
  simp only [comp]
  refine Vi S T ss (i+1) _ _ ?_ fun j s' hs' hd=>by
   have:=hS (j+1) s' (by simpa using hs') hd
   rw [show i+1+j=i+(j+1) by omega]
   exact this
  by_cases hd:d∈s.ups.map (·.1)
  ·have h0:=hS 0 s rfl hd
   rw [Nat.add_zero] at h0
   rw [h0]
   split
   ·rw [Jj,Jj,h]
   ·exact h
  ·have hl:=YF s.ups d hd
   split<;>split<;>first
    | (rw [Jj, Jj, hl]; exact h)
    | (rw [Jj, hl]; exact h)
    | exact h
theorem Zbj:∀ (ss:List Stp) (i:Nat) (σ:Nat→AV) (m:Nat),comp (fun j=>decide (j < i+m)) i σ ss=ZdP σ (ss.take m)
 | [], i, σ, m => by simp [comp, ZdP]
 | s :: ss, i, σ, 0 => by
  rw [List.take_zero]
  exact ZbC _ (s::ss) i σ fun j h1 _=>by simp;omega
 | s :: ss, i, σ, m + 1 => by
  simp only [comp,List.take_succ_cons,ZdP,decide_eq_true_eq]
  rw [if_pos (by omega),← Zbj ss (i+1)]
  congr 1
  funext j
  rw [show i+1+m=i+(m+1) by omega]
theorem ZiK (S:Nat→Bool):∀ (ss:List Stp) (i:Nat) (σ:Nat→AV),(∀ s∈ss,∀ u∈s.ups,B u.1→Zcw u.2)→(∀ d,B d→Zcw (σ d))→∀ d,B d→Zcw (comp S i σ ss d)
 | [], _, _, _, h, d, hd => h d hd
 | s :: ss, i, σ, hu, h, d, hd => by
  simp only [comp]
  refine ZiK S ss (i+1) _ (fun s' hs'=>hu s' (by simp [hs'])) (fun d hd=>?_) d hd
  split
  ·exact Zc5 _ _ (hu s (by simp)) h d hd
  ·exact h d hd
theorem Zet:∀ (ss:List Stp) (i:Nat) (σ:Nat→AV),ZeL T P nt ops B i σ ss→∀ s∈ss,∀ u∈s.ups,B u.1→Zcw u.2
 | [], _, _, _, s, hs => by simp at hs
 | s0 :: ss, i, σ, h, s, hs => by
  rcases List.mem_cons.1 hs with rfl | hs
  ·exact h.1.2.1
  ·exact Zet ss (i+1) _ h.2 s hs
theorem Zin:∀ (us:List (Nat×AV)) (σ:Nat→AV),(∀ u∈us,∀ d k,T.nr d u.1=true→¬ Z8 u.2 d k)→(∀ d i k,T.nr d i=true→¬ Z8 (σ i) d k)→∀ d i k,T.nr d i=true→¬ Z8 (Jl σ us i) d k
 | [], _, _, h => h
 | (e, x) :: us, σ, hu, h => by
  refine Zin us (upd σ e x) (fun u h'=>hu u (by simp [h'])) fun d i k hd=>?_
  by_cases he:i=e
  ·subst he;rw [Zu];exact hu (i,x) (by simp) d k hd
  ·rw [Zd _ _ he];exact h d i k hd
theorem Zjl (S:Nat→Bool):∀ (ss:List Stp) (i:Nat) (σ:Nat→AV),(∀ s∈ss,∀ u∈s.ups,∀ d k,T.nr d u.1=true→¬ Z8 u.2 d k)→(∀ d i k,T.nr d i=true→¬ Z8 (σ i) d k)→∀ d j k,T.nr d j=true→¬ Z8 (comp S i σ ss j) d k
 | [], _, _, _, h => h
 | s :: ss, i, σ, hu, h => by
  simp only [comp]
  refine Zjl S ss (i+1) _ (fun s' hs'=>hu s' (by simp [hs'])) ?_
  split
  ·exact Zin _ _ (hu s (by simp)) h
  ·exact h
theorem Zf6:∀ (ss:List Stp) (i:Nat) (σ:Nat→AV),ZeL T P nt ops B i σ ss→∀ s∈ss,∀ u∈s.ups,∀ d k,T.nr d u.1=true→¬ Z8 u.2 d k
 | [], _, _, _, s, hs => by simp at hs
 | s0 :: ss, i, σ, h, s, hs => by
  rcases List.mem_cons.1 hs with rfl | hs
  ·exact h.1.2.2.1
  ·exact Zf6 ss (i+1) _ h.2 s hs
theorem ZdG {τ:Nat→AV} : ∀ (us:List (Nat×AV)) (σ:Nat→AV),(∀ u∈us,∀ j,T.kp u.1 j=true→Z9 u.2 j=Z9 (τ u.1) j)→(∀ d j,T.kp d j=true→Z9 (σ d) j=Z9 (τ d) j)→∀ d j,T.kp d j=true→Z9 (Jl σ us d) j=Z9 (τ d) j
 | [], _, _, h => h
 | (e, x) :: us, σ, hu, h => by
  refine ZdG us (upd σ e x) (fun u h'=>hu u (by simp [h'])) fun d j hd=>?_
  by_cases he:d=e
  ·subst he;rw [Zu];exact hu (d,x) (by simp) j hd
  ·rw [Zd _ _ he];exact h d j hd
theorem ZhR (S:Nat→Bool):∀ (ss:List Stp) (i:Nat) (τ σ:Nat→AV),(∀ s∈ss,∀ u∈s.ups,∀ j,T.kp u.1 j=true→Z9 u.2 j=Z9 (τ u.1) j)→(∀ d j,T.kp d j=true→Z9 (σ d) j=Z9 (τ d) j)→∀ d j,T.kp d j=true→Z9 (comp S i σ ss d) j=Z9 (τ d) j
 | [], _, _, _, _, h => h
 | s :: ss, i, τ, σ, hu, h => by
  simp only [comp]
  refine ZhR S ss (i+1) τ _ (fun s' hs'=>hu s' (by simp [hs'])) ?_
  split
  ·exact ZdG _ _ (hu s (by simp)) h
  ·exact h
theorem ZiQ:∀ (ss:List Stp) (τ σ:Nat→AV),(∀ s∈ss,∀ u∈s.ups,∀ j,T.kp u.1 j=true→Z9 u.2 j=Z9 (τ u.1) j)→(∀ d j,T.kp d j=true→Z9 (σ d) j=Z9 (τ d) j)→∀ d j,T.kp d j=true→Z9 (ZdP σ ss d) j=Z9 (τ d) j
 | [], _, _, _, h => h
 | s :: ss, τ, σ, hu, h => by
  simp only [ZdP]
  exact ZiQ ss τ _ (fun s' hs'=>hu s' (by simp [hs'])) (ZdG _ _ (hu s (by simp)) h)
theorem Zdj:∀ (ss:List Stp) (i:Nat) (σ:Nat→AV),ZeL T P nt ops B i σ ss→∀ s∈ss,∀ u∈s.ups,∀ j,T.kp u.1 j=true→Z9 u.2 j=Z9 (σ u.1) j
 | [], _, _, _, s, hs => by simp at hs
 | s0 :: ss, i, σ, h, s, hs => by
  rcases List.mem_cons.1 hs with rfl | hs
  ·exact h.1.2.2.2.1
  ·intro u hu j hj
   rw [Zdj ss (i+1) _ h.2 s hs u hu j hj]
   exact ZdG s0.ups σ (τ:=σ) h.1.2.2.2.1 (fun _ _ _=>rfl) u.1 j hj
theorem ZgN:∀ (ss:List Stp) (i:Nat) (σ:Nat→AV),ZeL T P nt ops B i σ ss→∀ (j:Nat) (s:Stp),ss[j]? = some s→Zln T P nt ops B (i+j) (ZdP σ (ss.take j)) s
 | [], _, _, _, j, s, h => by simp at h
 | s0 :: ss, i, σ, hc, 0, s, h => by
  simp only [List.getElem?_cons_zero,Option.some.injEq] at h
  subst h
  exact hc.1
 | s0 :: ss, i, σ, hc, j + 1, s, h => by
  have:=ZgN ss (i+1) _ hc.2 j s (by simpa using h)
  rw [show i+(j+1)=i+1+j by omega]
  exact this
theorem ZiU (hc:c.P=P) (hn:c.nt=nt) {N:Nat→Bool} {M:Nat→Option Nat} {K:List (Nat×Nat)} {ss:List Stp} {σ:Nat→AV} (hch:ZeL (.any N M K) P nt ops B 0 σ ss) (hN:∀ d i k,(Odr.any N M K).nr d i=true→¬ Z8 (σ i) d k) (hpb:∀ d,B d→Zcw (σ d)) (hlen:ss.length=ops.size)
  (hlow:∀ (i:Nat) (o:Oper),ops[i]? = some o→∀ e∈o.after,Region.binds .any e=true→e.on < i)
  (hind:∀ (i j:Nat) (a b:Stp),ss[i]? = some a→ss[j]? = some b→j < i→(∃ S:Nat→Prop,(∀ k o,ops[k]? = some o→S k→∀ e∈o.after,Region.binds .any e=true→S e.on)∧S i∧¬ S j)→
   (∀ d∈b.ups.map (·.1),d∉a.F)∧∀ d∈a.ups.map (·.1),d∉b.F) (hfin:∀ tm' w' lim' X',Sim c (ZdP σ ss) tm' w' lim' X'→Q .normal ⟨tm',[]⟩ w') :
  ∀ (fuel:Nat) (listed:Array Bool) (tm:Array Value) (w:World) (lim:Nat→Nat) (X:Nat→Nat→Option Nat),listed.size=ops.size→
   (∀ k o,ops[k]? = some o→listed.getD k false=true→∀ e∈o.after,Region.binds .any e=true→listed.getD e.on false=true)→
   ((List.range ops.size).countP (fun i=>!listed.getD i false)≤fuel)→
   Sim c (comp (fun i=>listed.getD i false) 0 σ ss) tm w lim X→wpAny P .any ops Q fuel listed ⟨tm,[]⟩ w:=by
 -- where nothing is ready, all is done
 have hdone:∀ (listed:Array Bool),listed.size=ops.size→Region.ready .any ops listed = []→∀ j,j < ops.size→listed.getD j false=true:=by
  intro listed hsz hr j
  induction j using Nat.strongRecOn with
  | _ j ih =>
   intro hj
   cases hl:listed.getD j false with
   | true => rfl
   | false =>
    have:j∈Region.ready .any ops listed:=by
     rw [mem_ready]
     refine ⟨?_,ops[j],Array.getElem?_eq_getElem hj,fun e he hb=>?_⟩
     ·simp only [Array.getD,hsz,hj,dite_true] at hl ⊢
      exact hl
     ·have hlt:=hlow j _ (Array.getElem?_eq_getElem hj) e he hb
      exact ih e.on hlt (by omega)
    rw [hr] at this
    cases this
 have hend:∀ (listed:Array Bool) (tm:Array Value) (w:World) (lim:Nat→Nat) (X:Nat→Nat→Option Nat),listed.size=ops.size→Region.ready .any ops listed = []→
   Sim c (comp (fun i=>listed.getD i false) 0 σ ss) tm w lim X→Q .normal ⟨tm,[]⟩ w:=by
  intro listed tm w lim X hsz hr hs
  rw [ZgB _ ss 0 σ fun j _ h2=>hdone listed hsz hr j (by omega)] at hs
  exact hfin tm w lim X hs
 intro fuel
 induction fuel with
 | zero =>
  intro listed tm w lim X hsz hcl hcnt hs
  have hall:∀ j,j < ops.size→listed.getD j false=true:=by
   intro j hj
   have h0:(List.range ops.size).countP (fun i=>!listed.getD i false)=0:=by omega
   have:=(List.countP_eq_zero.1 h0) j (by simpa using hj)
   simpa using this
  have hr:Region.ready .any ops listed = []:=by
   refine List.eq_nil_iff_forall_not_mem.2 fun j hj=>?_
   obtain ⟨h1,o,h2,_⟩:=mem_ready.1 hj
   have hlt:=(Array.getElem?_eq_some_iff.1 h2).1
   have:=hall j hlt
   simp only [Array.getD,hsz,hlt,dite_true] at h1 this
   rw [h1] at this
   cases this
  exact ⟨hr,hend listed tm w lim X hsz hr hs⟩
 | succ fuel ih =>
  intro listed tm w lim X hsz hcl hcnt hs
  refine ⟨fun hr=>hend listed tm w lim X hsz hr hs,fun i hi=>?_⟩
  obtain ⟨h1,o,h2,h3⟩:=mem_ready.1 hi
  have hlt:=(Array.getElem?_eq_some_iff.1 h2).1
  have hun:listed.getD i false=false:=by
   simp only [Array.getD,hsz,hlt,dite_true] at h1 ⊢
   exact h1
  obtain ⟨s,hsi⟩:∃ s,ss[i]? = some s:=⟨_,List.getElem?_eq_getElem (by omega)⟩
  have hst:=ZgN ss 0 σ hch i s hsi
  rw [Nat.zero_add] at hst
  have hset:∀ j,(listed.setIfInBounds i true).getD j false=if j=i then true else listed.getD j false:=by
   intro j
   by_cases hji:j=i
   ·subst hji
    simp [Array.getD,hsz,hlt]
   ·rw [if_neg hji,getD_set_ne false (Ne.symm hji)]
  -- i is not before what is listed
  have hnot:∀ j,listed.getD j false=true→∃ S:Nat→Prop,(∀ k o,ops[k]? = some o→S k→∀ e∈o.after,Region.binds .any e=true→S e.on)∧S j∧¬ S i:=
   fun j hj=>⟨fun k=>listed.getD k false=true,hcl,hj,by simp [hun]⟩
  -- what is not listed is not before i
  have hnot':∀ j,j≠i→listed.getD j false=false→∃ S:Nat→Prop,(∀ k o,ops[k]? = some o→S k→∀ e∈o.after,Region.binds .any e=true→S e.on)∧S i∧¬ S j:=by
   intro j hji hj
   refine ⟨fun k=>k=i∨listed.getD k false=true,fun k o' hk hS e he hb=>?_,.inl rfl,by simp [hji,hj]⟩
   rcases hS with rfl | hS
   ·rw [h2] at hk
    cases hk
    exact .inr (h3 e he hb)
   ·exact .inr (hcl k o' hk hS e he hb)
  have hpre:∀ d∈s.F,comp (fun i=>listed.getD i false) 0 σ ss d=ZdP σ (ss.take i) d:=by
   intro d hd
   rw [← Zbj ss 0 σ i]
   refine Vi _ _ ss 0 σ σ rfl fun j s' hj hdj=>?_
   simp only [Nat.zero_add]
   rcases Nat.lt_trichotomy j i with hlt' | rfl | hgt
   ·simp only [hlt',decide_true]
    cases hl:listed.getD j false with
    | true => rfl
    | false => exact (((hind i j s s' hsi hj hlt' (hnot' j (by omega) hl)).1 d hdj) hd).elim
   ·simp [hun]
   ·have hf:decide (j < i)=false:=by simp;omega
    rw [hf]
    cases hl:listed.getD j false with
    | false => rfl
    | true => exact (((hind j i s' s hj hsi hgt (hnot j hl)).2 d hdj) hd).elim
  refine hst.2.2.2.2 c hc hn _ tm w lim X hpre (ZiK _ ss 0 σ (Zet ss 0 σ hch) hpb) ⟨Zjl _ ss 0 σ (Zf6 ss 0 σ hch) hN,fun d j hd=>(ZhR _ ss 0 σ σ (Zdj ss 0 σ hch) (fun _ _ _=>rfl) d j hd).trans (ZiQ (ss.take i) σ σ (fun s' hs'=>Zdj ss 0 σ hch s' (List.mem_of_mem_take hs')) (fun _ _ _=>rfl) d j hd).symm⟩ hs Q _ fun tm' w' lim' X' hs'=>?_
  refine ih (listed.setIfInBounds i true) tm' w' lim' X' (by simpa using hsz) ?_ ?_ ?_
  ·intro k o' hk hl e he hb
   rw [hset] at hl ⊢
   by_cases hei:e.on=i
   ·simp [hei]
   ·rw [if_neg hei]
    by_cases hki:k=i
    ·subst hki
     rw [h2] at hk
     cases hk
     exact h3 e he hb
    ·rw [if_neg hki] at hl
     exact hcl k o' hk hl e he hb
  ·have hlt2:(List.range ops.size).countP (fun j=>!(listed.setIfInBounds i true).getD j false) < (List.range ops.size).countP (fun j=>!listed.getD j false):=by
    have key:∀ (l:List Nat),i∈l→l.countP (fun j=>!(listed.setIfInBounds i true).getD j false) < l.countP (fun j=>!listed.getD j false):=by
     have hle:∀ (l:List Nat),l.countP (fun j=>!(listed.setIfInBounds i true).getD j false)≤l.countP (fun j=>!listed.getD j false):=by
      intro l
      refine List.countP_mono_left fun j _ hj=>?_
      rw [hset] at hj
      split at hj
      ·simp at hj
      ·exact hj
     intro l
     induction l with
     | nil => intro h; cases h
     | cons x l ihl =>
      intro h
      rw [List.countP_cons,List.countP_cons]
      by_cases hx:x=i
      ·subst hx
       have h1:(listed.setIfInBounds x true).getD x false=true:=by rw [hset,if_pos rfl]
       have:=hle l
       rw [h1,hun]
       simp only [Bool.not_true,Bool.not_false,Bool.false_eq_true,if_false,if_true]
       omega
      ·have:=ihl (by rcases List.mem_cons.1 h with h | h;exact (hx h.symm).elim;exact h)
       rw [hset x,if_neg hx]
       omega
    exact key _ (by simpa using hlt)
   omega
  ·have he:comp (fun j=>(listed.setIfInBounds i true).getD j false) 0 σ ss=Jl (comp (fun i=>listed.getD i false) 0 σ ss) s.ups:=by
    funext d
    rw [Jj]
    by_cases hd:d∈s.ups.map (·.1)
    ·have hdF:d∈s.F:=by
      obtain ⟨u,hu,rfl⟩:=List.mem_map.1 hd
      exact hst.1 u hu
     -- nothing behind i that is listed writes d
     rw [Vi (d:=d) _ (fun j=>decide (j < i+1)) ss 0 σ σ rfl fun j s' hj hdj=>?_]
     ·have:=Zbj ss 0 σ (i+1)
      rw [Nat.zero_add] at this
      rw [this,List.take_add_one,hsi]
      have happ:∀ (l:List Stp) (τ:Nat→AV),ZdP τ (l++[s])=Jl (ZdP τ l) s.ups:=by
       intro l
       induction l with
       | nil => intro τ; rfl
       | cons x l ihl => intro τ; exact ihl _
      show ZdP σ (ss.take i++[s]) d=_
      rw [happ,Jj]
      obtain ⟨x,hx⟩:=K9 s.ups d hd
      rw [hx]
      rfl
     ·rw [Nat.zero_add,hset]
      rcases Nat.lt_trichotomy j i with hlt' | rfl | hgt
      ·have:decide (j < i+1)=true:=by simp;omega
       rw [this,if_neg (by omega)]
       cases hl:listed.getD j false with
       | true => rfl
       | false => exact (((hind i j s s' hsi hj hlt' (hnot' j (by omega) hl)).1 d hdj) hdF).elim
      ·simp
      ·have:decide (j < i+1)=false:=by simp;omega
       rw [this,if_neg (by omega)]
       cases hl:listed.getD j false with
       | false => rfl
       | true => exact (((hind j i s' s hj hsi hgt (hnot j hl)).2 d hdj) hdF).elim
    ·rw [YF s.ups d hd]
     refine Vi _ _ ss 0 σ σ rfl fun j s' hj hdj=>?_
     rw [Nat.zero_add,hset]
     by_cases hji:j=i
     ·subst hji
      rw [hsi] at hj
      cases hj
      exact (hd hdj).elim
     ·rw [if_neg hji]
   rw [he]
   exact hs'
end
theorem Zc0 {ops:Array Oper} {S:Nat→Prop} (hS:∀ k o,ops[k]? = some o→S k→∀ e∈o.after,Region.binds .any e=true→S e.on) (i j:Nat) (hi:S i)
  (hb:((Region.before ops).getD i 0).testBit j=true):S j:=by
 have inner:∀ (acc:Array Nat),(∀ i j,S i→(acc.getD i 0).testBit j=true→S j)→∀ (l:List Edge),(∀ e∈l,Region.binds .any e=true→S e.on)→∀ (s:Nat),(∀ j,s.testBit j=true→S j)→
   ∀ j,(l.foldl (fun s e=>if Region.binds .any e then s||| 2^e.on||| acc.getD e.on 0 else s) s).testBit j=true→S j:=by
  intro acc hacc l
  induction l with
  | nil => intro _ s hs j hj; exact hs j hj
  | cons e l ih =>
   intro hl s hs j hj
   rw [List.foldl_cons] at hj
   refine ih (fun e' he'=>hl e' (by simp [he'])) _ ?_ j hj
   intro j' hj'
   split at hj'
   ·rename_i hbd
    have hon:=hl e (by simp) hbd
    rw [Nat.testBit_or,Nat.testBit_or,Nat.testBit_two_pow,Bool.or_eq_true,Bool.or_eq_true,decide_eq_true_eq] at hj'
    rcases hj' with (h | h) | h
    ·exact hs j' h
    ·rw [← h];exact hon
    ·exact hacc e.on j' hon h
   ·exact hs j' hj'
 have outer:∀ (l:List Oper) (acc:Array Nat),(∀ j,l[j]? = ops[acc.size+j]?)→(∀ i j,S i→(acc.getD i 0).testBit j=true→S j)→
   ∀ i j,S i→((l.foldl (fun acc o=>acc.push (o.after.foldl (fun s e=>if Region.binds .any e then s||| 2^e.on||| acc.getD e.on 0 else s) 0)) acc).getD i 0).testBit j=true→S j:=by
  intro l
  induction l with
  | nil => intro acc _ hacc i j hi hj; exact hacc i j hi hj
  | cons o l ih =>
   intro acc hl hacc i j hi hj
   rw [List.foldl_cons] at hj
   refine ih _ (fun j=>?_) ?_ i j hi hj
   ·have:=hl (j+1)
    simp only [List.getElem?_cons_succ,Array.size_push] at this ⊢
    rw [this]
    congr 1
    omega
   ·intro i' j' hi' hj'
    have h0:ops[acc.size]? = some o:=by simpa using (hl 0).symm
    by_cases h:i' < acc.size
    ·refine hacc i' j' hi' ?_
     simp only [Array.getD,Array.size_push,h,dite_true] at hj' ⊢
     rw [dif_pos (by omega)] at hj'
     simp only [Array.getInternal_eq_getElem,Array.getElem_push,h,dite_true] at hj' ⊢
     exact hj'
    ·by_cases h':i'=acc.size
     ·subst h'
      have:(acc.push (o.after.foldl (fun s e=>if Region.binds .any e then s||| 2^e.on||| acc.getD e.on 0 else s) 0)).getD acc.size 0=o.after.foldl (fun s e=>if Region.binds .any e then s||| 2^e.on||| acc.getD e.on 0 else s) 0:=by
       simp [Array.getD]
      rw [this,← Array.foldl_toList] at hj'
      exact inner acc hacc o.after.toList (fun e he hb=>hS acc.size o h0 hi' e (by simpa using he) hb) 0 (by simp) j' hj'
     ·have:(acc.push (o.after.foldl (fun s e=>if Region.binds .any e then s||| 2^e.on||| acc.getD e.on 0 else s) 0)).getD i' 0=0:=by
       simp only [Array.getD,Array.size_push]
       rw [dif_neg (by omega)]
      rw [this] at hj'
      simp at hj'
 have:=outer ops.toList #[] (fun j=>by simp) (fun i j _ h=>by simp at h) i j hi
 apply this
 rw [Array.foldl_toList]
 exact hb
end Go.AM
end

section
namespace Go.AM
theorem Tr.get_set:∀ (k:Nat) (t:Tr) (d i:Nat) (x:SV),d < 2^k→i < 2^k→(Tr.set k t d x).get i=if i=d then x else t.get i
 | 0, t, d, i, x, hd, hi => by
  have h1:d=0:=by simpa using hd
  have h2:i=0:=by simpa using hi
  subst h1
  subst h2
  rfl
 | k + 1, .node l r, d, i, x, hd, hi => by
  have hd2:d / 2 < 2^k:=by rw [Nat.pow_succ] at hd;omega
  have hi2:i / 2 < 2^k:=by rw [Nat.pow_succ] at hi;omega
  have ihl:=Tr.get_set k l (d / 2) (i / 2) x hd2 hi2
  have ihr:=Tr.get_set k r (d / 2) (i / 2) x hd2 hi2
  rcases Nat.mod_two_eq_zero_or_one d with h | h<;>rcases Nat.mod_two_eq_zero_or_one i with h' | h'
  ·simp only [Tr.set,h,Tr.get,h',ihl]
   by_cases he:i=d
   ·simp [he]
   ·rw [if_neg he,if_neg (by omega)]
  ·simp only [Tr.set,h,Tr.get,h']
   rw [if_neg (by omega)]
  ·simp only [Tr.set,h,Tr.get,h']
   rw [if_neg (by omega)]
  ·simp only [Tr.set,h,Tr.get,h',ihr]
   by_cases he:i=d
   ·simp [he]
   ·rw [if_neg he,if_neg (by omega)]
 | k + 1, .leaf y, d, i, x, hd, hi => by
  have hd2:d / 2 < 2^k:=by rw [Nat.pow_succ] at hd;omega
  have hi2:i / 2 < 2^k:=by rw [Nat.pow_succ] at hi;omega
  have ih:=Tr.get_set k (.leaf y) (d / 2) (i / 2) x hd2 hi2
  rcases Nat.mod_two_eq_zero_or_one d with h | h<;>rcases Nat.mod_two_eq_zero_or_one i with h' | h'
  ·simp only [Tr.set,h,Tr.get,h',ih]
   by_cases he:i=d
   ·simp [he]
   ·rw [if_neg he,if_neg (by omega)]
  ·simp only [Tr.set,h,Tr.get,h']
   rw [if_neg (by omega)]
  ·simp only [Tr.set,h,Tr.get,h']
   rw [if_neg (by omega)]
  ·simp only [Tr.set,h,Tr.get,h',ih]
   by_cases he:i=d
   ·simp [he]
   ·rw [if_neg he,if_neg (by omega)]
def ZO (E:Env) (s:Tr) (ρ:Nat→V):Nat→AV:=fun d=>(gE E s d).den ρ
def KB (E:Env) (s:Tr) (n:Nat):Prop:=∀ d,(gE E s d).bd n
section
variable {P:Program} {E:Env} {R:AV→List AV→Prop} {A:Nat→List V→Prop}
theorem JK {d:Nat} (h:d < E.nt):d < E.top:=Nat.lt_of_lt_of_le h (Nat.le_add_right _ _)
theorem Zk0 (hnt:E.top≤1024) {d:Nat} (hd:d < E.top) (s:Tr) (x:SV) (i:Nat):gE E (s.set depth d x) i=if i=d then x else gE E s i:=by
 unfold gE
 by_cases hi:i < E.top
 ·rw [if_pos hi,if_pos hi]
  exact Tr.get_set 10 s d i x (by omega) (by omega)
 ·rw [if_neg hi,if_neg hi,if_neg (by omega)]
theorem Yp (hnt:E.top≤1024) {d:Nat} (hd:d < E.top) (s:Tr) (x:SV) (ρ:Nat→V):ZO E (s.set depth d x) ρ=upd (ZO E s ρ) d (x.den ρ):=by
 funext i
 simp only [ZO,Zk0 hnt hd,upd]
 split<;>rfl
theorem JP (hnt:E.top≤1024) {d n:Nat} (hd:d < E.top) {s:Tr} {x:SV} (hs:KB E s n) (hx:x.bd n):KB E (s.set depth d x) n:=by
 intro i
 rw [Zk0 hnt hd]
 split
 ·exact hx
 ·exact hs i
def Kv (E:Env) (us:Ups):Prop:=us.all (fun u=>decide (u.1 < E.top))=true
theorem Jz (hnt:E.top≤1024) (ρ:Nat→V):∀ (us:Ups) (s:Tr),Kv E us→ZO E (Je us s) ρ=Jl (ZO E s ρ) (us.map fun u=>(u.1,u.2.den ρ))
 | [], _, _ => rfl
 | (d, x) :: us, s, h => by
  simp only [Kv,List.all_cons,Bool.and_eq_true,decide_eq_true_eq] at h
  simp only [Je,List.map_cons,Jl]
  rw [Jz hnt ρ us _ h.2,Yp hnt h.1]
theorem Jr (hnt:E.top≤1024) {n:Nat} : ∀ (us:Ups) (s:Tr),Kv E us→KB E s n→(∀ u∈us,u.2.bd n)→KB E (Je us s) n
 | [], _, _, hs, _ => hs
 | (d, x) :: us, s, h, hs, hu => by
  simp only [Kv,List.all_cons,Bool.and_eq_true,decide_eq_true_eq] at h
  exact Jr hnt us _ h.2 (JP hnt h.1 hs (hu (d,x) (by simp))) fun u h'=>hu u (by simp [h'])
theorem ZeR {s:Tr} {n n':Nat} (h:KB E s n) (hn:n≤n'):KB E s n':=fun d=>SV.bd_mono hn _ (h d)
theorem Zb6 {s:Tr} {n:Nat} {ρ ρ':Nat→V} (h:KB E s n) (hρ:∀ m,m < n→ρ' m=ρ m):ZO E s ρ'=ZO E s ρ:=by
 funext d
 exact SV.den_congr hρ _ (h d)
theorem Zcg {x:SV} (ρ:Nat→V) (h:∀ cs,x≠.box cs):∀ cs,x.den ρ≠.box cs:=by
 intro cs he
 cases x with
 | box ds => exact h ds rfl
 | c y => cases y <;> cases he
 | _ => cases he
theorem Zdy {x:SV} (ρ:Nat→V) (h:∀ cs,x≠.gbox cs):(x.den ρ).isG=false:=by
 cases x with
 | gbox cs => exact (h cs rfl).elim
 | c y => cases y <;> rfl
 | _ => rfl
theorem Zg5 {a b:AV} (ga:a.isG=false) (gb:b.isG=false) (ha:Vn a) (hb:(∀ cs,b≠.box cs)∨a = .dead):Vu a b=true:=by
 unfold Vu
 split
 ·cases ga
 ·cases gb
 ·rename_i cs _;exact (ha.1 cs rfl).elim
 ·exact (ha.2.1 _ _ rfl).elim
 ·rfl
 ·rename_i h1 h2
  rcases hb with hb | hb
  ·exact (hb _ rfl).elim
  ·exact (h2 hb).elim
 ·rfl
theorem Zih {x:SV} (ρ:Nat→V) (h:∀ cs,x≠.box cs) (h':∀ e l,x≠.own true e l) (h3:∀ cs,x≠.gbox cs):Vn (x.den ρ):=by
 refine ⟨Zcg ρ h,fun e xs he=>?_,fun cs he=>by have:=Zdy ρ h3;rw [he] at this;cases this⟩
 cases x with
 | own b e' l =>
  cases b with
  | true => exact h' _ _ rfl
  | false => cases he
 | c y => cases y <;> cases he
 | _ => cases he
theorem Yb {a b:SV} (ρ:Nat→V) (h:WR a b=true):Vu (a.den ρ) (b.den ρ)=true:=by
 have h1:∀ cs,a≠.box cs:=by
  rintro cs rfl
  cases b<;>cases h
 have h2:∀ e l,a≠.own true e l:=by
  rintro e l rfl
  cases b<;>cases h
 have h3:∀ cs,a≠.gbox cs:=by
  rintro cs rfl
  cases b<;>cases h
 have h4:∀ cs,b≠.gbox cs:=by
  rintro cs rfl
  cases a with
  | own x e l => cases x <;> cases h
  | _ => cases h
 refine Zg5 (Zdy ρ h3) (Zdy ρ h4) (Zih ρ h1 h2 h3) ?_
 by_cases hd:a = .dead
 ·subst hd;exact .inr rfl
 ·refine .inl (Zcg ρ ?_)
  rintro cs rfl
  cases a with
  | dead => exact hd rfl
  | own x e l => cases x <;> cases h
  | _ => cases h
theorem Zhv {c:Ctx} {σ:Nat→AV} {tm:Array Value} {w:World} {lim:Nat→Nat} {X:Nat→Nat→Option Nat} (h:Sim c σ tm w lim X) {ops:Array Oper} {j gd:Nat} {b:Bool}
  (hd:(ops[j]?).bind (·.dst)=some gd) (hb:σ gd = .val (.bool b)):yielded ops tm j=some b:=by
 have hlt:gd < tm.size:=by
  rcases Nat.lt_or_ge gd c.nt with h1 | h1
  ·rw [h.size];exact h1
  ·have:=h.out gd h1;rw [hb] at this;rcases this with h2 | h2<;>cases h2
 have hr:=h.rel gd
 rw [hb] at hr
 have hv:tm.getD gd undef = .bool b:=KU hr
 have h2:tm[gd]? = some (.bool b):=by
  simp only [Array.getD,hlt,dite_true] at hv
  rw [Array.getElem?_eq_getElem hlt]
  exact congrArg some hv
 unfold yielded
 simp only [hd,Option.bind_some,h2]
theorem Ze0 {c:Ctx} {σ:Nat→AV} {tm:Array Value} {w:World} {lim:Nat→Nat} {X:Nat→Nat→Option Nat} (h:Sim c σ tm w lim X) {ops:Array Oper} {j gd:Nat}
  (hd:(ops[j]?).bind (·.dst)=some gd) (hb:σ gd = .tuple []):yielded ops tm j=none:=by
 have hr:=h.rel gd
 rw [hb] at hr
 obtain ⟨us,h1,h2,_⟩:=hr
 have:us = []:=List.eq_nil_of_length_eq_zero h2
 subst this
 unfold yielded
 simp only [hd,Option.bind_some]
 by_cases hlt:gd < tm.size
 ·simp only [Array.getD,hlt,dite_true] at h1
  have h3:tm[gd]? = some (.tuple #[]):=by
   rw [Array.getElem?_eq_getElem hlt]
   exact congrArg some h1
  simp only [h3]
 ·simp only [Array.getElem?_eq_none (Nat.le_of_not_lt hlt)]
theorem Sim.putUndef {c:Ctx} {σ:Nat→AV} {tm:Array Value} {w:World} {lim:Nat→Nat} {X:Nat→Nat→Option Nat} (h:Sim c σ tm w lim X) {d:Nat} (hd:d < c.nt) (hb:Vn (σ d)) :
  ∃ X',Sim c (upd σ d (.tuple [])) (tm.setIfInBounds d undef) w lim X':=
 ⟨_,h.putRow JJ (ZI.refl w lim (fun _=>False)) (fun _ hs=>hs.elim) hd (by simp) (fun i hi=>ZN tm d i undef hi) (.inl hb.1) (fun i q hi hr=>(h.noRefs hb.none i q hi hr).elim)
  ⟨[],by rw [JF tm d undef (by rw [h.size];exact hd)];rfl,rfl,by simp⟩ (fun k b hk=>by simp [JJ] at hk) (fun k k' b hk=>by simp [JJ] at hk)⟩
def Zfj (ops:Array Oper) (o:Oper) (σ:Nat→AV) (gs:List Nat) (v:Bool):Prop:=
 (o.guard=none∧v=true)∨(∃ j want gd b,o.guard=some (j,want)∧(ops[j]?).bind (·.dst)=some gd∧gd∈gs∧σ gd = .val (.bool b)∧(v=true↔want=b))∨
 ∃ j want gd,o.guard=some (j,want)∧(ops[j]?).bind (·.dst)=some gd∧gd∈gs∧σ gd = .tuple []∧v=false
theorem VY {ops:Array Oper} {o:Oper} {σ:Nat→AV} {gs:List Nat} {v:Bool} (hg:Zfj ops o σ gs v) {c:Ctx} {σ':Nat→AV} {tm:Array Value} {w:World} {lim:Nat→Nat} {X:Nat→Nat→Option Nat}
  (h:Sim c σ' tm w lim X) (hag:∀ d∈gs,σ' d=σ d):Region.wanted o (yielded ops tm)=v:=by
 rcases hg with ⟨h1,h2⟩ | ⟨j,want,gd,b,h1,h2,h3,h4,h5⟩ | ⟨j,want,gd,h1,h2,h3,h4,h5⟩
 ·unfold Region.wanted;rw [h1,h2]
 ·have hy:=Zhv h h2 ((hag gd h3).trans h4)
  unfold Region.wanted
  rw [h1]
  simp only [hy]
  cases v<;>cases want<;>cases b<;>simp_all
 ·have hy:=Ze0 h h2 ((hag gd h3).trans h4)
  unfold Region.wanted
  rw [h1,h5]
  simp only [hy]
  rfl
theorem Zf8 {x:SV} (ρ:Nat→V) (h:Zk1 x=true):Zcw (x.den ρ):=by
 unfold Zk1 at h
 split at h
 ·rename_i cs;exact ⟨_,rfl⟩
 ·cases h
theorem Zaw {T:Odr} {i:Nat} {x:SV} (ρ:Nat→V) (h:ZaR T i x=true):∀ d k,T.nr d i=true→¬ Z8 (x.den ρ) d k:=by
 intro d k hd hr
 cases x with
 | mref d' k' =>
  rcases hr with hr | ⟨_,hr⟩ <;> cases hr
  simp [ZaR,hd] at h
 | eref d' k' i s o =>
  rcases hr with hr | ⟨_,hr⟩ <;> cases hr
  simp [ZaR,hd] at h
 | c y => rcases hr with hr | ⟨_, hr⟩ <;> cases y <;> cases hr
 | _ => rcases hr with hr | ⟨_, hr⟩ <;> cases hr
def Vg (T:Odr) (P:Program) (E:Env) (R:AV→List AV→Prop) (A:Nat→List V→Prop) (B:Nat→Bool) (ops:Array Oper) (i:Nat) (s:Tr) (ρ:Nat→V) (cont:Tr→Nat→Log→STree):Prop:=
 ∃ (st:Stp) (ρ':Nat→V) (n':Nat) (s':Tr),KB E s' n'∧(cont s' n' ⟨i,st.F,st.ups.map (·.1)⟩).wp P R A ρ'∧Zln T P E.nt ops (fun d=>B d=true) i (ZO E s ρ) st∧ZO E s' ρ'=Jl (ZO E s ρ) st.ups
variable {ops:Array Oper} {o:Oper} {i:Nat} {s:Tr} {n:Nat} {ρ:Nat→V} {cont:Tr→Nat→Log→STree} {gs:List Nat} {tx:Odr} {tk:Bool} {B:Nat→Bool}
theorem ZdN {P:Program} {R:AV→List AV→Prop} {A:Nat→List V→Prop} {ρ:Nat→V} : ∀ (q:List (IE×IE)) (t:STree),(ZhH q t).wp P R A ρ→(∀ p∈q,p.1.den ρ=p.2.den ρ)∧t.wp P R A ρ
 | [], t, h => ⟨by simp, h⟩
 | (a, b) :: q, t, h => by
  obtain ⟨h1,h2,h3⟩:=h
  obtain ⟨h4,h5⟩:=ZdN q t h3
  refine ⟨fun p hp=>?_,h5⟩
  rcases List.mem_cons.1 hp with rfl | hp
  ·exact Int.le_antisymm h1 h2
  ·exact h4 p hp
theorem Zal (ρ:Nat→V) {kp:Nat→Bool} : ∀ {cs' cs:List BC} {j:Nat} {r:List BC} {q:List (IE×IE)},Zaf kp j cs' cs=some (r,q)→(∀ p∈q,p.1.den ρ=p.2.den ρ)→
  r.map (BC.den ρ)=cs'.map (BC.den ρ)∧∀ i,kp (j+i)=true→((r.map (BC.den ρ))[i]?).map JI=((cs.map (BC.den ρ))[i]?).map JI
 | [], [], j, r, q, h, _ => by
  simp only [Zaf,Option.some.injEq,Prod.mk.injEq] at h
  obtain ⟨rfl,rfl⟩:=h
  exact ⟨rfl,fun _ _=>rfl⟩
 | [], _ :: _, _, _, _, h, _ => by simp [Zaf] at h
 | _ :: _, [], _, _, _, h, _ => by simp [Zaf] at h
 | c' :: cs', c :: cs, j, r, q, h, hq => by
  simp only [Zaf] at h
  split at h
  ·rename_i r1 q1 h1
   split at h
   ·rename_i hk
    split at h
    ·rename_i k' e' k e
     split at h
     ·rename_i hkk
      subst hkk
      simp only [Option.some.injEq,Prod.mk.injEq] at h
      obtain ⟨rfl,rfl⟩:=h
      obtain ⟨g1,g2⟩:=Zal ρ h1 fun p hp=>hq p (by simp [hp])
      have he:e'.den ρ=e.den ρ:=hq (e',e) (by simp)
      refine ⟨?_,fun i hi=>?_⟩
      ·simp only [List.map_cons,g1,BC.den,SC.den,he]
      ·cases i with
       | zero => rfl
       | succ i => simpa using g2 i (by rw [show j + 1 + i = j + (i + 1) by omega]; exact hi)
     ·cases h
    ·rename_i t' l' t l
     split at h
     ·rename_i hkk
      subst hkk
      simp only [Option.some.injEq,Prod.mk.injEq] at h
      obtain ⟨rfl,rfl⟩:=h
      obtain ⟨g1,g2⟩:=Zal ρ h1 hq
      refine ⟨by simp only [List.map_cons,g1],fun i hi=>?_⟩
      cases i with
      | zero => rfl
      | succ i => simpa using g2 i (by rw [show j + 1 + i = j + (i + 1) by omega]; exact hi)
     ·cases h
    ·cases h
   ·rename_i hk
    simp only [Option.some.injEq,Prod.mk.injEq] at h
    obtain ⟨rfl,rfl⟩:=h
    obtain ⟨g1,g2⟩:=Zal ρ h1 hq
    refine ⟨by simp only [List.map_cons,g1],fun i hi=>?_⟩
    cases i with
    | zero => rw [Nat.add_zero, hk] at hi; cases hi
    | succ i => simpa using g2 i (by rw [show j + 1 + i = j + (i + 1) by omega]; exact hi)
  ·cases h
theorem ZeH {kp:Nat→Bool} : ∀ {cs' cs:List BC} {j:Nat} {r:List BC} {q:List (IE×IE)},Zaf kp j cs' cs=some (r,q)→∀ b∈r,b∈cs'∨b∈cs
 | [], [], j, r, q, h => by
  simp only [Zaf,Option.some.injEq,Prod.mk.injEq] at h
  obtain ⟨rfl,rfl⟩:=h
  simp
 | [], _ :: _, _, _, _, h => by simp [Zaf] at h
 | _ :: _, [], _, _, _, h => by simp [Zaf] at h
 | c' :: cs', c :: cs, j, r, q, h => by
  simp only [Zaf] at h
  split at h
  ·rename_i r1 q1 h1
   have ih:=ZeH h1
   have key:∀ b∈r1,b∈c'::cs'∨b∈c::cs:=fun b hb=>by
    rcases ih b hb with h2 | h2
    ·exact .inl (by simp [h2])
    ·exact .inr (by simp [h2])
   split at h
   ·split at h
    ·split at h
     ·simp only [Option.some.injEq,Prod.mk.injEq] at h
      obtain ⟨rfl,rfl⟩:=h
      intro b hb
      rcases List.mem_cons.1 hb with rfl | hb
      ·exact .inr (by simp)
      ·exact key b hb
     ·cases h
    ·split at h
     ·simp only [Option.some.injEq,Prod.mk.injEq] at h
      obtain ⟨rfl,rfl⟩:=h
      intro b hb
      rcases List.mem_cons.1 hb with rfl | hb
      ·exact .inl (by simp)
      ·exact key b hb
     ·cases h
    ·cases h
   ·simp only [Option.some.injEq,Prod.mk.injEq] at h
    obtain ⟨rfl,rfl⟩:=h
    intro b hb
    rcases List.mem_cons.1 hb with rfl | hb
    ·exact .inl (by simp)
    ·exact key b hb
  ·cases h
theorem ZnX {T:Odr} {d j:Nat} (h:T.kp d j=true):T.kpAt d=true:=by
 cases T with
 | text => cases h
 | any N M K =>
  simp only [Odr.kp,Odr.kpAt,List.contains_iff_mem,List.any_eq_true] at h ⊢
  exact ⟨_,h,by simp⟩
theorem Zh3 (ρ:Nat→V) {T:Odr} {g:Nat→SV} {u u':Nat×SV} {q:List (IE×IE)} (h:ZiF T g u=some (u',q)) (hq:∀ p∈q,p.1.den ρ=p.2.den ρ) :
  (u'.1,u'.2.den ρ)=(u.1,u.2.den ρ)∧(∀ j,T.kp u'.1 j=true→Z9 (u'.2.den ρ) j=Z9 ((g u'.1).den ρ) j)∧∀ n,u.2.bd n→(∀ i,(g i).bd n)→u'.2.bd n:=by
 unfold ZiF at h
 split at h
 ·split at h
  ·rename_i cs' cs hu hgu
   split at h
   ·rename_i r q1 h1
    simp only [Option.some.injEq,Prod.mk.injEq] at h
    obtain ⟨rfl,rfl⟩:=h
    obtain ⟨g1,g2⟩:=Zal ρ h1 hq
    refine ⟨?_,fun j hj=>?_,fun n hb hg=>?_⟩
    ·rw [hu];simp only [SV.den,g1]
    ·rw [hgu]
     exact g2 j (by rw [Nat.zero_add];exact hj)
    ·rw [hu] at hb
     have hb2:=hg u.1
     rw [hgu] at hb2
     intro b hbr
     rcases ZeH h1 b hbr with h2 | h2
     ·exact hb b h2
     ·exact hb2 b h2
   ·cases h
  ·cases h
 ·rename_i hk
  simp only [Option.some.injEq,Prod.mk.injEq] at h
  obtain ⟨rfl,rfl⟩:=h
  exact ⟨rfl,fun j hj=>(by rw [ZnX hj] at hk;cases hk),fun n hb _=>hb⟩
theorem Zb9 (ρ:Nat→V) {T:Odr} {g:Nat→SV} : ∀ {us us':Ups} {q:List (IE×IE)},Wu T g us=some (us',q)→(∀ p∈q,p.1.den ρ=p.2.den ρ)→
  (us'.map fun u=>(u.1,u.2.den ρ))=(us.map fun u=>(u.1,u.2.den ρ))∧(∀ u∈us',∀ j,T.kp u.1 j=true→Z9 (u.2.den ρ) j=Z9 ((g u.1).den ρ) j)∧∀ n,(∀ u∈us,u.2.bd n)→(∀ i,(g i).bd n)→∀ u∈us',u.2.bd n
 | [], us', q, h, _ => by
  simp only [Wu,Option.some.injEq,Prod.mk.injEq] at h
  obtain ⟨rfl,rfl⟩:=h
  exact ⟨rfl,by simp,by simp⟩
 | u :: us, us', q, h, hq => by
  simp only [Wu] at h
  split at h
  ·rename_i u1 q1 us1 q2 h1 h2
   simp only [Option.some.injEq,Prod.mk.injEq] at h
   obtain ⟨rfl,rfl⟩:=h
   obtain ⟨a1,a2,a3⟩:=Zh3 ρ h1 fun p hp=>hq p (by simp [hp])
   obtain ⟨b1,b2,b3⟩:=Zb9 ρ h2 fun p hp=>hq p (by simp [hp])
   refine ⟨by simp only [List.map_cons,a1,b1],fun v hv=>?_,fun n hb hg v hv=>?_⟩
   ·rcases List.mem_cons.1 hv with rfl | hv
    ·exact a2
    ·exact b2 v hv
   ·rcases List.mem_cons.1 hv with rfl | hv
    ·exact a3 n (hb u (by simp)) hg
    ·exact b3 n (fun w hw=>hb w (by simp [hw])) hg v hv
  ·cases h
theorem Vv (hps:EnvSound P E) (hnt:E.top≤1024) (hKB:∀ d j,tx.kp d j=true→B d=true) (hB:∀ d,B d=true→Zcw (ZO E s ρ d)) (hi:ops[i]? = some o) (hs:KB E s n) (hg:Zfj ops o (ZO E s ρ) gs true) (h:(Zhs P E tx tk B o i s gs n cont).wp P R A ρ) :
  Vg tx P E R A B ops i s ρ cont:=by
 obtain ⟨ρ',n',x,us0,fp,h1,h2,h3,h40,h50,h60⟩:=Zhf hps hs (fun i hi=>by unfold gE;rw [if_neg (by omega)]) h
 have hσ:(fun d=>(gE E s d).den ρ)=ZO E s ρ:=rfl
 rw [hσ] at h60
 have hs':KB E s n':=ZeR hs h1
 have hc:=Zb6 hs h2
 dsimp only at h50
 cases hst:Wu tx (gE E s) us0 with
 | none => rw [hst] at h50; exact h50.elim
 | some rq =>
 obtain ⟨us,qs⟩:=rq
 rw [hst] at h50
 obtain ⟨hq,h5⟩:=ZdN qs _ h50
 obtain ⟨hus,hkp0,hbd⟩:=Zb9 ρ' hst hq
 have h4:=hbd n' h40 hs'
 have h6:=h60
 rw [← hus] at h6
 have hkp:∀ u∈(us.map fun u=>(u.1,u.2.den ρ')),∀ j,tx.kp u.1 j=true→Z9 u.2 j=Z9 (ZO E s ρ u.1) j:=by
  intro u hu j hj
  obtain ⟨v,hv,rfl⟩:=List.mem_map.1 hu
  rw [← hc]
  exact hkp0 v hv j hj
 clear h60 h50 h40 hus hkp0
 split at h5
 case isFalse=>exact h5.elim
 rename_i hall0
 obtain ⟨hall,hnx⟩:=hall0
 rw [List.all_eq_true] at hall
 have hlow:Kv E us:=by
  unfold Kv
  rw [List.all_eq_true]
  intro u hu
  have:=hall u hu
  rw [Bool.and_eq_true,Bool.and_eq_true] at this
  exact this.1.1
 have hups:∀ u∈(us.map fun u=>(u.1,u.2.den ρ')),B u.1=true→Zcw u.2:=by
  intro u hu hb
  obtain ⟨v,hv,rfl⟩:=List.mem_map.1 hu
  have:=hall v hv
  simp only [Bool.and_eq_true,Bool.or_eq_true,Bool.not_eq_true'] at this
  rcases this.1.2 with h0 | h0
  ·have hb':B v.1=true:=hb
   rw [hb'] at h0;cases h0
  ·exact Zf8 ρ' h0
 have hnr:∀ u∈(us.map fun u=>(u.1,u.2.den ρ')),∀ d k,tx.nr d u.1=true→¬ Z8 u.2 d k:=by
  intro u hu
  obtain ⟨v,hv,rfl⟩:=List.mem_map.1 hu
  have:=hall v hv
  rw [Bool.and_eq_true] at this
  exact Zaw ρ' this.2
 have hids:∀ (σ':Nat→AV),(∀ d∈(KD o).filter (fun t=>!B t),σ' d=ZO E s ρ d)→(∀ d,B d=true→Zcw (σ' d))→∀ d∈KD o,ZcB (ZO E s ρ d) (σ' d):=by
  intro σ' h0 h1 d hd
  cases hb:B d with
  | true => exact .inr ⟨hB d hb, h1 d hb⟩
  | false => exact .inl (h0 d (List.mem_filter.2 ⟨hd, by simp [hb]⟩))
 have hfst:(us.map fun u=>(u.1,u.2.den ρ')).map (·.1)=us.map (·.1):=by rw [List.map_map];rfl
 have hden:ZO E (Je us s) ρ'=Jl (ZO E s ρ) (us.map fun u=>(u.1,u.2.den ρ')):=by rw [Jz hnt ρ' us s hlow,hc]
 split at h5
 ·rename_i d hd
  split at h5
  ·rename_i hh
   refine ⟨⟨(KD o).filter (fun t=>!B t)++gs++fp++us.map (·.1)++[d],(us.map fun u=>(u.1,u.2.den ρ'))++[(d,x.den ρ')]⟩,ρ',n',(Je us s).set depth d x,JP hnt (JK hh.1) (Jr hnt us s hlow hs' h4) h3,?_,⟨?_,?_,?_,?_,?_⟩,?_⟩
   ·rw [List.map_append,hfst]
    exact h5
   ·intro u hu
    rcases List.mem_append.1 hu with hu | hu
    ·refine List.mem_append.2 (.inl (List.mem_append.2 (.inr ?_)))
     rw [← hfst]
     exact List.mem_map.2 ⟨u,hu,rfl⟩
    ·rw [List.mem_singleton] at hu
     subst hu
     simp
   ·intro u hu hb
    rcases List.mem_append.1 hu with hu | hu
    ·exact hups u hu hb
    ·rw [List.mem_singleton] at hu
     subst hu
     have hb':B d=true:=hb
     rw [hh.2.2] at hb'
     cases hb'
   ·intro u hu
    rcases List.mem_append.1 hu with hu | hu
    ·exact hnr u hu
    ·rw [List.mem_singleton] at hu
     subst hu
     unfold ZgH at hnx
     rw [hd] at hnx
     exact Zaw ρ' hnx
   ·intro u hu j hj
    rcases List.mem_append.1 hu with hu | hu
    ·exact hkp u hu j hj
    ·rw [List.mem_singleton] at hu
     subst hu
     have hb':=hKB _ j hj
     rw [hh.2.2] at hb'
     cases hb'
   ·intro c hcP hcn σ' tm w lim X hag hpb hT hsim Q K hK
    unfold wpOp
    simp only [hi]
    rw [VY hg hsim fun d' hd'=>hag d' (by simp [hd'])]
    rw [if_pos rfl]
    refine .inl (h6 c hcP σ' tm w lim X (hids σ' (fun d' hd'=>hag d' (by simp only [List.mem_append];exact .inl (.inl (.inl (.inl hd'))))) hpb) (fun d' hd'=>hag d' (by
     rw [hfst] at hd'
     simp only [List.mem_append] at hd' ⊢
     rcases hd' with hd' | hd'
     ·exact .inl (.inl (.inr hd'))
     ·exact .inl (.inr hd'))) hT hsim K Q fun v w' ha=>?_)
    rw [hd] at ha ⊢
    obtain ⟨lim',X',hsim'⟩:=ha (by rw [hcn];exact hh.1) (by
     have:Jl σ' (us.map fun u=>(u.1,u.2.den ρ')) d=(gE E (Je us s) d).den ρ':=by
      have h7:=congrFun hden d
      rw [Jj] at h7 ⊢
      rw [hag d (by simp)]
      exact h7.symm
     rw [this]
     exact Yb ρ' hh.2.1)
    refine hK _ w' lim' X' ?_
    rw [Km]
    exact hsim'
   ·rw [Yp hnt (JK hh.1),hden,Km]
    rfl
  ·exact h5.elim
 ·rename_i hd
  refine ⟨⟨(KD o).filter (fun t=>!B t)++gs++fp++us.map (·.1),us.map fun u=>(u.1,u.2.den ρ')⟩,ρ',n',Je us s,Jr hnt us s hlow hs' h4,?_,⟨?_,hups,hnr,hkp,?_⟩,hden⟩
  ·rw [hfst]
   exact h5
  ·intro u hu
   refine List.mem_append.2 (.inr ?_)
   rw [← hfst]
   exact List.mem_map.2 ⟨u,hu,rfl⟩
  ·intro c hcP hcn σ' tm w lim X hag hpb hT hsim Q K hK
   unfold wpOp
   simp only [hi]
   rw [VY hg hsim fun d' hd'=>hag d' (by simp [hd'])]
   rw [if_pos rfl]
   refine .inl (h6 c hcP σ' tm w lim X (hids σ' (fun d' hd'=>hag d' (by simp only [List.mem_append];exact .inl (.inl (.inl hd')))) hpb) (fun d' hd'=>hag d' (by
    rw [hfst] at hd'
    simp only [List.mem_append] at hd' ⊢
    rcases hd' with hd' | hd'
    ·exact .inl (.inr hd')
    ·exact .inr hd')) hT hsim K Q fun v w' ha=>?_)
   rw [hd] at ha ⊢
   obtain ⟨lim',X',hsim'⟩:=ha
   exact hK _ w' lim' X' hsim'
theorem KP (hnt:E.top≤1024) (hKB:∀ d j,tx.kp d j=true→B d=true) (hi:ops[i]? = some o) (hs:KB E s n) (hg:Zfj ops o (ZO E s ρ) gs false) (h:(Zbd E B o i s gs n cont).wp P R A ρ) :
  Vg tx P E R A B ops i s ρ cont:=by
 unfold Zbd at h
 split at h
 ·rename_i d hd
  split at h
  ·rename_i hh
   refine ⟨⟨gs++[d],[(d,.tuple [])]⟩,ρ,n,s.set depth d (.tuple []),JP hnt (JK hh.1) hs (by simp [SV.bd]),h,⟨by simp,fun u hu hb=>?_,fun u hu d k _ hr=>?_,fun u hu j hj=>?_,?_⟩,Yp hnt (JK hh.1) _ _ _⟩
   ·rw [List.mem_singleton] at hu
    subst hu
    have hb':B d=true:=hb
    rw [hh.2.2] at hb'
    cases hb'
   ·rw [List.mem_singleton] at hu
    subst hu
    rcases hr with hr | ⟨_,hr⟩ <;> cases hr
   ·rw [List.mem_singleton] at hu
    subst hu
    have hb':=hKB _ j hj
    rw [hh.2.2] at hb'
    cases hb'
   intro c hcP hcn σ' tm w lim X hag hpb hT hsim Q K hK
   unfold wpOp
   simp only [hi]
   rw [VY hg hsim fun d' hd'=>hag d' (by simp [hd'])]
   rw [if_neg (by simp),hd]
   obtain ⟨X',hs'⟩:=hsim.putUndef (d:=d) (by rw [hcn];exact hh.1) (by
    rw [hag d (by simp)]
    exact ZE (Yb ρ hh.2.1))
   exact hK _ w lim X' hs'
  ·exact h.elim
 ·rename_i hd
  refine ⟨⟨gs,[]⟩,ρ,n,s,hs,h,⟨by simp,by simp,by simp,by simp,?_⟩,rfl⟩
  intro c hcP hcn σ' tm w lim X hag hpb hT hsim Q K hK
  unfold wpOp
  simp only [hi]
  rw [VY hg hsim hag]
  rw [if_neg (by simp),hd]
  exact hK _ w lim X hsim
theorem VF (hnt:E.top≤1024) {t:Nat} {b:BE} {v:Bool} (hb:gE E s t = .c (.bool b)) (hv:b.den ρ=v):t < E.top∧ZO E (s.set depth t (.c (.bool (.lit v)))) ρ=ZO E s ρ:=by
 have hlt:t < E.top:=by
  unfold gE at hb
  split at hb
  ·assumption
  ·cases hb
 refine ⟨hlt,?_⟩
 rw [Yp hnt hlt]
 funext d
 by_cases hd:d=t
 ·subst hd
  rw [Zu]
  simp only [ZO,hb,SV.den,SC.den,hv,BE.den]
 ·rw [Zd _ _ hd]
theorem Zeo (hps:EnvSound P E) (hnt:E.top≤1024) (hKB:∀ d j,tx.kp d j=true→B d=true) (hB:∀ d,B d=true→Zcw (ZO E s ρ d)) (hi:ops[i]? = some o) (hs:KB E s n) (h:(Ziu P E tx tk B ops o i s n cont).wp P R A ρ):Vg tx P E R A B ops i s ρ cont:=by
 unfold Ziu at h
 split at h
 ·rename_i hg
  exact Vv hps hnt hKB hB hi hs (.inl ⟨hg,rfl⟩) h
 ·rename_i j want hg
  split at h
  ·exact h.elim
  ·rename_i gd hgd
   split at h
   ·rename_i hb
    have hv:ZO E s ρ gd = .tuple []:=by simp only [ZO,hb];rfl
    exact KP hnt hKB hi hs (.inr (.inr ⟨j,want,gd,hg,hgd,by simp,hv,rfl⟩)) h
   ·rename_i b hb
    have hv:ZO E s ρ gd = .val (.bool b):=by simp only [ZO,hb];rfl
    split at h
    ·rename_i hw
     exact Vv hps hnt hKB hB hi hs (.inr (.inl ⟨j,want,gd,b,hg,hgd,by simp,hv,by simp [hw]⟩)) h
    ·rename_i hw
     exact KP hnt hKB hi hs (.inr (.inl ⟨j,want,gd,b,hg,hgd,by simp,hv,by simp [hw]⟩)) h
   ·rename_i b _ hb
    obtain ⟨ht,hf⟩:=h
    have hcase:∀ v,b.den ρ=v→(if want=v then Zhs P E tx tk B o i (s.set depth gd (.c (.bool (.lit v)))) [gd] n cont else Zbd E B o i (s.set depth gd (.c (.bool (.lit v)))) [gd] n cont).wp P R A ρ→Vg tx P E R A B ops i s ρ cont:=by
     intro v hv hw
     obtain ⟨hlt,hsame⟩:=VF hnt hb hv
     have hbd:KB E (s.set depth gd (.c (.bool (.lit v)))) n:=JP hnt hlt hs trivial
     have hval:ZO E (s.set depth gd (.c (.bool (.lit v)))) ρ gd = .val (.bool v):=by rw [hsame];simp only [ZO,hb,SV.den,SC.den,hv]
     have hgoal:Vg tx P E R A B ops i (s.set depth gd (.c (.bool (.lit v)))) ρ cont:=by
      split at hw
      ·rename_i hw'
       exact Vv hps hnt hKB (by rw [hsame];exact hB) hi hbd (.inr (.inl ⟨j,want,gd,v,hg,hgd,by simp,hval,by simp [hw']⟩)) hw
      ·rename_i hw'
       exact KP hnt hKB hi hbd (.inr (.inl ⟨j,want,gd,v,hg,hgd,by simp,hval,by simp [hw']⟩)) hw
     unfold Vg at hgoal ⊢
     rw [hsame] at hgoal
     exact hgoal
    cases hv:b.den ρ with
    | true => exact hcase true hv (ht hv)
    | false => exact hcase false hv (hf hv)
   ·exact h.elim
def ZdL:Nat→List Stp→List Log
 | _, [] => []
 | i, s :: ss => ZdL (i + 1) ss ++ [⟨i, s.F, s.ups.map (·.1)⟩]
theorem Wy:∀ (ss:List Stp) (i j:Nat) (s:Stp),ss[j]? = some s→(⟨i+j,s.F,s.ups.map (·.1)⟩:Log)∈ZdL i ss
 | [], i, j, s, h => by simp at h
 | s0 :: ss, i, 0, s, h => by
  simp only [List.getElem?_cons_zero,Option.some.injEq] at h
  subst h
  simp [ZdL]
 | s0 :: ss, i, j + 1, s, h => by
  have:=Wy ss (i+1) j s (by simpa using h)
  rw [show i+(j+1)=i+1+j by omega]
  exact List.mem_append.2 (.inl this)
theorem Zbf (hps:EnvSound P E) (hnt:E.top≤1024) (hKB:∀ d j,tx.kp d j=true→B d=true) {tks:Nat→Bool} {k:Tr→Nat→List Log→STree} : ∀ (l:List Oper) (i:Nat) (s:Tr) (n:Nat) (logs:List Log) (ρ:Nat→V),(∀ j,l[j]? = ops[i+j]?)→(∀ d,B d=true→Zcw (ZO E s ρ d))→KB E s n→
  (Zkb P E tx tks B ops l i s n logs k).wp P R A ρ→∃ (ss:List Stp) (ρ':Nat→V) (n':Nat) (s':Tr),ss.length=l.length∧KB E s' n'∧(k s' n' (ZdL i ss++logs)).wp P R A ρ'∧
   ZeL tx P E.nt ops (fun d=>B d=true) i (ZO E s ρ) ss∧ZO E s' ρ'=ZdP (ZO E s ρ) ss
 | [], i, s, n, logs, ρ, _, _, hs, h => ⟨[], ρ, n, s, rfl, hs, h, trivial, rfl⟩
 | o :: l, i, s, n, logs, ρ, hl, hB, hs, h => by
  have h0:ops[i]? = some o:=by simpa using (hl 0).symm
  obtain ⟨st,ρ1,n1,s1,g1,g2,g3,g4⟩:=Zeo hps hnt hKB hB h0 hs h
  obtain ⟨ss,ρ2,n2,s2,k1,k2,k3,k4,k5⟩:=Zbf hps hnt hKB l (i+1) s1 n1 _ ρ1 (fun j=>by
   have:=hl (j+1)
   rw [show i+(j+1)=i+1+j by omega] at this
   simpa using this) (by rw [g4];exact Zc5 _ _ g3.2.1 hB) g1 g2
  refine ⟨st::ss,ρ2,n2,s2,by simp [k1],k2,?_,⟨g3,?_⟩,?_⟩
  ·simp only [ZdL,List.append_assoc,List.singleton_append]
   exact k3
  ·rw [← g4];exact k4
  ·simp only [ZdP]
   rw [← g4];exact k5
theorem ZhF {a b:List Nat} (h:ZnH a b=true):∀ d∈a,d∉b:=by
 intro d hd
 simp only [ZnH,List.all_eq_true] at h
 simpa using h d hd
theorem Za4 {E:Env} (s:Tr):∀ i,E.top≤i→gE E s i = .dead:=fun i hi=>by unfold gE;rw [if_neg (by omega)]
theorem Zks {c:Ctx} {σ:Nat→AV} {tm:Array Value} {w:World} {lim:Nat→Nat} {X:Nat→Nat→Option Nat} (h:Sim c σ tm w lim X) {i k:Nat} (hr:Z8 (σ i) i k):False:=by
 obtain ⟨p,hp⟩:=YJ h hr
 rcases hr with hr | ⟨_,hr⟩ <;> rw [hr] at hp<;>cases hp
theorem ZmL {draw:Bool} {d j:Nat} (h:(ZiP P E draw ops s).kp d j=true):Zk1 (gE E s d)=true:=by
 cases draw with
 | false => cases h
 | true =>
  simp only [ZiP,Odr.kp,List.contains_iff_mem,List.mem_filter] at h
  exact h.2
theorem Zd9 (hm:P.follows .mixedOrders=true) (hps:EnvSound P E) (hnt:E.top≤1024) {id:Nat} {draw:Bool} {k:Tr→Nat→STree} {tks:Nat→Bool} (hKB:∀ d j,(ZiP P E draw ops s).kp d j=true→B d=true) (hB:∀ d,B d=true→Zcw (ZO E s ρ d)) (hs:KB E s n)
  (h:(Zkb P E (ZiP P E draw ops s) tks B ops ops.toList 0 s n [] fun s' n' logs=>if draw=true then (if ZfB ops logs=true then k s' n' else .stuck 114) else k s' n').wp P R A ρ)
  {c:Ctx} (hcP:c.P=P) (hcn:c.nt=E.nt) {tm:Array Value} {w:World} {lim:Nat→Nat} {X:Nat→Nat→Option Nat} (hsim:Sim c (ZO E s ρ) tm w lim X) {Q:Exit→Act→World→Prop}
  (hk:∀ s' n' ρ',KB E s' n'→(k s' n').wp P R A ρ'→∀ tm' w' lim' X',Sim c (ZO E s' ρ') tm' w' lim' X'→Q .normal ⟨tm',[]⟩ w'):(Code.region id ops draw).wp P Q ⟨tm,[]⟩ w:=by
 obtain ⟨ss,ρ',n',s',h1,h2,h3,h4,h5⟩:=Zbf hps hnt hKB ops.toList 0 s n [] ρ (by simp) hB hs h
 have hlen:ss.length=ops.size:=by simpa using h1
 cases draw with
 | false =>
  refine wp_region ?_
  rw [List.range_eq_range',← hlen]
  refine Zce hcP hcn ss 0 _ tm w lim X h4 hB hsim fun tm' w' lim' X' hs'=>hk s' n' ρ' h2 (by simpa using h3) tm' w' lim' X' ?_
  rw [h5];exact hs'
 | true =>
  simp only [if_true] at h3
  split at h3
  ·rename_i hi
   rw [List.append_nil] at hi
   simp only [ZfB,Bool.and_eq_true,CheckFast.beforeF_eq] at hi
   obtain ⟨hlow,hind⟩:=hi
   refine wp_region_any hm ?_
   have hsd:Sim c (ZO E s ρ) tm w.drew lim X:=hsim.world (ZI.refl w lim fun _=>False).drew fun b hb=>hb.elim
   refine ZiU hcP hcn h4 (fun d i k hd hr=>?_) hB hlen ?_ ?_ (fun tm' w' lim' X' hs'=>hk s' n' ρ' h2 h3 tm' w' lim' X' (by rw [h5];exact hs')) ops.size _ tm w.drew lim X (by simp) ?_ ?_ ?_
   ·have hd':(ZK (gE E s) d E.top).isEmpty=true:=by
     rcases Bool.or_eq_true_iff.1 hd with h0 | h0
     ·simp only [Bool.and_eq_true] at h0
      exact h0.1.2
     ·by_cases he:(ZK (gE E s) d E.top).isEmpty=true
      ·exact he
      ·dsimp only at h0;rw [if_neg he] at h0;cases h0
    rw [List.isEmpty_iff] at hd'
    have hda:=(JD (g:=gE E s) ρ (Za4 s) (d:=d)).2 i k
    by_cases hid:i=d
    ·subst hid
     exact Zks hsim hr
    ·have:=hda hid hr
     rw [hd'] at this
     cases this
   ·intro i o hio e he hb
    rw [List.all_eq_true] at hlow
    have:=hlow (o,i) (by
     rw [List.mem_zipIdx_iff_getElem?]
     simpa using hio)
    rw [Array.all_eq_true_iff_forall_mem] at this
    have:=this e he
    simpa [hb] using this
   ·rintro i j a b hia hjb hji ⟨S,hS,hSi,hSj⟩
    rw [List.all_eq_true] at hind
    have m1:=Wy ss 0 i a hia
    have m2:=Wy ss 0 j b hjb
    rw [Nat.zero_add] at m1 m2
    have:=hind _ m1
    rw [List.all_eq_true] at this
    have:=this _ m2
    simp only [Bool.or_eq_true,Bool.and_eq_true,Bool.not_eq_true',decide_eq_false_iff_not] at this
    rcases this with (this | this) | this
    ·exact (this hji).elim
    ·exact (hSj (Zc0 hS i j hSi this)).elim
    ·exact ⟨ZhF this.1,ZhF this.2⟩
   ·intro k o hk hl
    have hlt:=(Array.getElem?_eq_some_iff.1 hk).1
    simp [Array.getD,hlt] at hl
   ·have:=List.countP_le_length (p:=fun i=>!(Array.replicate ops.size false).getD i false) (l:=List.range ops.size)
    simpa using this
   ·rw [ZbC]
    ·exact hsd
    ·intro j _ hj
     simp [Array.getD]
  ·exact h3.elim
end
end Go.AM
end
