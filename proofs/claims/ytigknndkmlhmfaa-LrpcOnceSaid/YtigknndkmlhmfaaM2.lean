/- AmMake, AmNew, AmVar, AmOwn, AmApp, AmCall: texts of the proof, put together. -/
import Derived.Test.YtigknndkmlhmfaaM1

section
namespace Go.AM
theorem Kg (s:Nat):∀ (xs:List (List AV)) (l:Nat),(∀ x∈xs,x.length=s)→(xs.drop l).flatten=xs.flatten.drop (l*s)
 | xs, 0, _ => by simp
 | [], l + 1, _ => by simp
 | x :: xs, l + 1, h => by
  have hx:=h x (by simp)
  have ih:=Kg s xs l fun y hy=>h y (by simp [hy])
  simp only [List.drop_succ_cons,List.flatten_cons,ih]
  have hd:(l+1)*s=x.length+l*s:=by rw [hx,Nat.add_mul];omega
  rw [hd,← List.drop_drop]
  simp
theorem Km (s:Nat):∀ (xs:List (List AV)) (l:Nat),(∀ x∈xs,x.length=s)→(xs.take l).flatten=xs.flatten.take (l*s)
 | xs, 0, _ => by simp
 | [], l + 1, _ => by simp
 | x :: xs, l + 1, h => by
  have hx:=h x (by simp)
  have ih:=Km s xs l fun y hy=>h y (by simp [hy])
  simp only [List.take_succ_cons,List.flatten_cons,ih]
  have hd:(l+1)*s=x.length+l*s:=by rw [hx,Nat.add_mul];omega
  rw [hd,List.take_length_add_append]
theorem Zn2 {w:World} {lim:Nat→Nat} {f f':Bool} {s:Nat} {xs:List (List AV)} {a:Option Addr} {n cap:Nat} (h:Rep w lim (.slice f s xs) (.slice a n cap)) (l hh:Nat)
  (h1:l≤hh) (h2:hh≤xs.length) (hf':f'=true→cap=hh):n=xs.length∧xs.length≤cap∧
  Rep w lim (.slice f' s ((xs.take hh).drop l)) (.slice (if cap=l then a else a.map (·.add (l*s))) (hh-l) (cap-l)):=by
 cases h with
 | sliceN =>
  have h2':hh=0:=by simpa using h2
  subst h2'
  have h1':l=0:=by omega
  subst h1'
  exact ⟨rfl,Nat.le_refl _,.sliceN⟩
 | @sliceE _ _ a _ hf =>
  have h2':hh=0:=by simpa using h2
  subst h2'
  have h1':l=0:=by omega
  subst h1'
  refine ⟨rfl,Nat.zero_le _,?_⟩
  have he:(if cap=0 then some a else (some a).map (·.add (0*s)))=some a:=by
   split
   ·rfl
   ·simp [Addr.add]
  rw [he]
  exact .sliceE fun h=>by simpa using hf' h
 | @sliceC _ _ _ b o _ us hs hc hf hle hlim hus hcell hr =>
  refine ⟨rfl,hle,?_⟩
  have hlen:((xs.take hh).drop l).length=hh-l:=by simp;omega
  have hs':∀ e∈(xs.take hh).drop l,e.length=s:=fun e he=>hs e (List.mem_of_mem_take (List.mem_of_mem_drop he))
  have hc':∀ e∈(xs.take hh).drop l,∀ c∈e,c.isCell=true:=fun e he=>hc e (List.mem_of_mem_take (List.mem_of_mem_drop he))
  rw [← hlen]
  by_cases hcl:cap=l
  ·have hnil:(xs.take hh).drop l = []:=List.eq_nil_of_length_eq_zero (by rw [hlen];omega)
   rw [if_pos hcl,hnil]
   exact .sliceC (xs:=[]) (us:=[]) (by simp) (by simp) (fun h=>by simp;omega) (by simp) (fun h=>(h rfl).elim) (by simp) (by simp) (by simp)
  ·rw [if_neg hcl]
   simp only [Option.map_some,JC]
   have hfl:((xs.take hh).drop l).flatten=(xs.flatten.take (hh*s)).drop (l*s):=by
    rw [Kg s _ l fun e he=>hs e (List.mem_of_mem_take he),Km s xs hh hs]
   have hm1:l*s≤hh*s:=Nat.mul_le_mul_right _ h1
   have hm2:hh*s≤xs.length*s:=Nat.mul_le_mul_right _ h2
   refine .sliceC (us:=(us.take (hh*s)).drop (l*s)) hs' hc' (fun h=>by rw [hlen,hf' h]) (by rw [hlen];omega) (fun hne=>?_) ?_ (fun j u hj=>?_) fun j c u hcj huj=>?_
   ·have hne':us≠[]:=by intro e;subst e;simp at hne
    have:=hlim hne'
    have hpos:0 < ((us.take (hh*s)).drop (l*s)).length:=List.length_pos_iff.2 hne
    simp only [List.length_drop,List.length_take] at hpos ⊢
    omega
   ·rw [hlen,Nat.sub_mul]
    simp only [List.length_drop,List.length_take]
    omega
   ·rw [List.getElem?_drop,List.getElem?_take] at hj
    split at hj
    ·have:=hcell _ u hj
     rwa [← Nat.add_assoc] at this
    ·cases hj
   ·rw [hfl,List.getElem?_drop,List.getElem?_take] at hcj
    rw [List.getElem?_drop,List.getElem?_take] at huj
    split at hcj
    ·rename_i hlt
     rw [if_pos hlt] at huj
     exact hr _ c u hcj huj
    ·cases hcj
theorem ZcJ {w:World} {lim:Nat→Nat} {f:Bool} {s:Nat} {xs:List (List AV)} {v:Value} (h:Rep w lim (.slice f s xs) v) :
  ∃ a cap,v = .slice a xs.length cap∧(f=true→cap=xs.length):=by
 cases h with
 | sliceN => exact ⟨none, 0, rfl, fun _ => rfl⟩
 | sliceE hf => exact ⟨_, _, rfl, hf⟩
 | sliceC hs hc hf => exact ⟨_, _, rfl, hf⟩
theorem ZaY {P:Program} {o:Oper} {σ:Nat→AV} {T e:TypeId} {x:Operand} {lo hi:Option Operand} {f f':Bool} {s:Nat} {xs:List (List AV)} {l h:Nat} (ho:o.op = .slice T x lo hi none)
  (hT:P.underlying T=some (.slice e)) (hs:s=P.cellsOf e) (hs0:P.cellsOf e≠0) (hx:Zr P σ x = .slice f s xs) (h1:l≤h) (h2:h≤xs.length)
  (hlo:(lo=none∧l=0)∨∃ y k,lo=some y∧Zr P σ y = .val (.int k l)) (hhi:(hi=none∧h=xs.length)∨∃ y k,hi=some y∧Zr P σ y = .val (.int k h))
  (hf:f'=true→f=true∧h=xs.length):JA P o σ (.slice f' s ((xs.take h).drop l)) [] []:=by
 refine ZE [] rfl fun c hc σ' tm w lim X hg hfp hsim=>?_
 rw [ho] at hg
 have hv:Rep w lim (.slice f s xs) (Act.eval ⟨tm,[]⟩ x):=J0 hc hsim hx (hg x (by simp [Op.operands]))
 obtain ⟨a,cap,ha,hcap⟩:=ZcJ hv
 rw [ha] at hv
 obtain ⟨_,hle,hr⟩:=Zn2 (f':=f') hv l h h1 h2 (fun hf'=>by rw [hcap (hf hf').1,(hf hf').2])
 obtain ⟨inf,hinf⟩:=ZH hs0
 refine ⟨_,?_,hr⟩
 have hl':∀ y k,lo=some y→Zr P σ y = .val (.int k l)→Act.eval ⟨tm,[]⟩ y = .int k l:=fun y k hy hk=>Z1 hc hsim hk (hg y (by simp [Op.operands,hy]))
 have hh':∀ y k,hi=some y→Zr P σ y = .val (.int k h)→Act.eval ⟨tm,[]⟩ y = .int k h:=fun y k hy hk=>Z1 hc hsim hk (hg y (by simp [Op.operands,hy]))
 have b1:h≤cap:=by omega
 rcases hlo with ⟨rfl,rfl⟩ | ⟨y,k,rfl,hy⟩ <;> rcases hhi with ⟨rfl,rfl⟩ | ⟨z,k',rfl,hz⟩
 ·simp [execOp,ho,ha,Instr.sliceAt,Instr.slice,Instr.sliceBounds,run_underlying hT,Zx hinf,hs]
 ·simp [execOp,ho,ha,Instr.sliceAt,Instr.slice,Instr.sliceBounds,Instr.sliceBound,asIntOf,run_underlying hT,Zx hinf,hh' z k' rfl hz,b1,hs]
 ·simp [execOp,ho,ha,Instr.sliceAt,Instr.slice,Instr.sliceBounds,Instr.sliceBound,asIntOf,run_underlying hT,Zx hinf,hl' y k rfl hy,h1,hs]
 ·simp [execOp,ho,ha,Instr.sliceAt,Instr.slice,Instr.sliceBounds,Instr.sliceBound,asIntOf,run_underlying hT,Zx hinf,hl' y k rfl hy,hh' z k' rfl hz,b1,h1,hs]
theorem Zie {P:Program} {o:Oper} {σ:Nat→AV} {T e:TypeId} {x y z:Operand} {f:Bool} {s:Nat} {xs:List (List AV)} {k k':IntKind} (ho:o.op = .slice T x none (some y) (some z))
  (hT:P.underlying T=some (.slice e)) (hs0:P.cellsOf e≠0) (hx:Zr P σ x = .slice f s xs) (hy:Zr P σ y = .val (.int k 0)) (hz:Zr P σ z = .val (.int k' 0)):JA P o σ (.slice true s []) [] []:=by
 refine ZE [] rfl fun c hc σ' tm w lim X hg hfp hsim=>?_
 rw [ho] at hg
 have hv:Rep w lim (.slice f s xs) (Act.eval ⟨tm,[]⟩ x):=J0 hc hsim hx (hg x (by simp [Op.operands]))
 have hy':=Z1 hc hsim hy (hg y (by simp [Op.operands]))
 have hz':=Z1 hc hsim hz (hg z (by simp [Op.operands]))
 obtain ⟨inf,hinf⟩:=ZH hs0
 generalize hu:Act.eval ⟨tm,[]⟩ x=u at hv
 cases hv with
 | sliceN =>
  refine ⟨.slice none 0 0,?_,.sliceN⟩
  simp [execOp,ho,hu,hy',hz',Instr.sliceAt,Instr.slice,Instr.sliceBounds,Instr.sliceBound,asIntOf,run_underlying hT,Zx hinf]
 | @sliceE _ _ a cap hf =>
  refine ⟨.slice (some a) 0 0,?_,.sliceE (fun _=>rfl)⟩
  simp [execOp,ho,hu,hy',hz',Instr.sliceAt,Instr.slice,Instr.sliceBounds,Instr.sliceBound,asIntOf,run_underlying hT,Zx hinf]
 | @sliceC _ _ _ b p cap us hls hc1 hf hle hlim hus hcell hrep =>
  refine ⟨.slice (some ⟨b,p,none⟩) 0 0,?_,.sliceC (xs:=[]) (us:=[]) (by simp) (by simp) (fun _=>rfl) (by simp) (fun h=>(h rfl).elim) (by simp) (by simp) (by simp)⟩
  simp [execOp,ho,hu,hy',hz',Instr.sliceAt,Instr.slice,Instr.sliceBounds,Instr.sliceBound,asIntOf,run_underlying hT,Zx hinf]
def Zkf (xs:List (List AV)):Prop:=∀ e∈xs,∃ n:Int,0≤n∧n≤255∧e = [.val (.int .u8 n)]
theorem ZbQ {w:World} {lim:Nat→Nat} : ∀ (xs:List (List AV)) (us:List Value),Zkf xs→us.length=xs.length→
  (∀ (j:Nat) (c:AV) (u:Value),xs.flatten[j]? = some c→us[j]? = some u→Rep w lim c u)→
  ∃ ns:List Int,us=ns.map (Value.int .u8)∧xs.map (fun e=>(Znx e).getD 0)=ns.map fun n=>UInt8.ofNat n.toNat
 | [], us, _, hl, _ => by
  have:us = []:=List.eq_nil_of_length_eq_zero (by simpa using hl)
  subst this
  exact ⟨[],rfl,rfl⟩
 | x :: xs, us, hb, hl, hr => by
  obtain ⟨n,h0,h1,rfl⟩:=hb x (by simp)
  cases us with
  | nil => simp at hl
  | cons u us =>
   obtain ⟨ns,h2,h3⟩:=ZbQ (w:=w) (lim:=lim) xs us (fun e he=>hb e (by simp [he])) (by simpa using hl) (fun j c u' hc hu=>hr (j+1) c u' (by simpa using hc) (by simpa using hu))
   have:=KN (hr 0 (.val (.int .u8 n)) u (by simp) rfl)
   exact ⟨n::ns,by simp [this,h2],by rw [List.map_cons,List.map_cons,h3];rfl⟩
theorem Zih (ns:List Int):∀ (s:ByteArray),ns.foldl (fun r n=>r.push (UInt8.ofNat n.toNat)) s=⟨s.data++(ns.map fun n=>UInt8.ofNat n.toNat).toArray⟩:=by
 induction ns with
 | nil => intro s; simp
 | cons n ns ih =>
  intro s
  simp only [List.foldl_cons,ih,List.map_cons]
  congr 1
  show (s.data.push (UInt8.ofNat n.toNat))++_=_
  apply Array.toList_inj.1
  simp
theorem Zit {P:Program} {o:Oper} {σ:Nat→AV} {S T e:TypeId} {x:Operand} {f:Bool} {xs:List (List AV)} (ho:o.op = .convert S T x)
  (hS:P.underlying S=some (.slice e)) (he:P.underlying e=some (.int .u8)) (hT:P.underlying T=some .string) (hx:Zr P σ x = .slice f 1 xs) (hb:Zkf xs) :
  JA P o σ (.val (.string (Zex xs))) [] []:=by
 refine ZE [] rfl fun c hc σ' tm w lim X hg hfp hsim=>⟨.string (Zex xs),?_,.val rfl⟩
 rw [ho] at hg
 have hv:Rep w lim (.slice f 1 xs) (Act.eval ⟨tm,[]⟩ x):=J0 hc hsim hx (hg x (by simp [Op.operands]))
 generalize hu:Act.eval ⟨tm,[]⟩ x=u at hv
 cases hv with
 | sliceN =>
  simp only [execOp,ho,hu,Sem.run_bind,run_convert_bytes_string w S T e none 0 0 hS he hT]
  rfl
 | @sliceE _ _ a cap hf =>
  have hl:=run_loadCells_list (P:=P) w a [] (fun j v hj=>by simp at hj)
  simp only [execOp,ho,hu,Sem.run_bind,run_convert_bytes_string w S T e _ _ _ hS he hT,run_bytesToString w a 0 cap [] hl,Result.andThen_ok,Sem.run_pure]
  rfl
 | @sliceC _ _ _ b p cap us hls hc1 hf hle hlim hus hcell hrep =>
  obtain ⟨ns,h1,h2⟩:=ZbQ xs us hb (by rw [hus];omega) hrep
  subst h1
  have hl:=run_loadCells_list (P:=P) w ⟨b,p,none⟩ (ns.map (Value.int .u8)) (fun j v hj=>by rw [JC];exact hcell j v hj)
  rw [hus,Nat.mul_one] at hl
  simp only [execOp,ho,hu,Sem.run_bind,run_convert_bytes_string w S T e _ _ _ hS he hT,run_bytesToString w ⟨b,p,none⟩ xs.length cap ns hl,Result.andThen_ok,Sem.run_pure]
  rw [Zih]
  have he:ByteArray.empty.data = #[]:=rfl
  simp only [Zex,h2,he,Array.empty_append]
theorem YC (w:World) (lim:Nat→Nat) (arr:Array Value) (t:TypeId) (n:Nat) (S:Nat→Prop) :
  ZN w lim (w.alloc (.cells arr t)) (fun b=>if b=w.heap.size then n else lim b) S where
 os:=rfl
 tape:=rfl
 output:=rfl
 size:=by simp
 frz a _:=RowKit.frozen?_alloc_cells w arr t a
 blk b hb _:=⟨heap_alloc_old w _ hb,if_neg (by omega)⟩
 ext b hb:=⟨by show lim b≤if b=w.heap.size then n else lim b;rw [if_neg (by omega)];exact Nat.le_refl _,fun o u _ hu=>by rw [World.cell?_alloc_lt w _ _ hb];exact hu⟩
theorem YF (w:World) (arr:Array Value) (t:TypeId):(w.alloc (.cells arr t)).heap[w.heap.size]? = some (.cells arr t (0,0)):=heap_alloc_new w _
end Go.AM
end

section
namespace Go.AM
def Yf (w:World) (lim:Nat→Nat) (cs:List AV) (us:List Value):Prop:=
 cs.length=us.length∧(∀ c∈cs,c.isCell=true)∧∀ (i:Nat) (c:AV) (u:Value),cs[i]? = some c→us[i]? = some u→Rep w lim c u
theorem Yf.nil (w:World) (lim:Nat→Nat):Yf w lim [] []:=⟨rfl,by simp,by simp⟩
theorem Yf.one {w:World} {lim:Nat→Nat} {c:AV} {u:Value} (hc:c.isCell=true) (h:Rep w lim c u):Yf w lim [c] [u]:=
 ⟨rfl,by simp [hc],fun i c' u' h1 h2=>by
  cases i with
  | zero => simp at h1 h2; subst h1; subst h2; exact h
  | succ i => simp at h1⟩
theorem Yf.append {w:World} {lim:Nat→Nat} {cs ds:List AV} {us vs:List Value} (h:Yf w lim cs us) (k:Yf w lim ds vs):Yf w lim (cs++ds) (us++vs):=by
 refine ⟨by simp [h.1,k.1],fun c hc=>(List.mem_append.1 hc).elim (h.2.1 c) (k.2.1 c),fun i c u hc hu=>?_⟩
 by_cases hi:i < cs.length
 ·rw [List.getElem?_append_left hi] at hc
  rw [List.getElem?_append_left (by rw [← h.1];exact hi)] at hu
  exact h.2.2 i c u hc hu
 ·rw [List.getElem?_append_right (by omega)] at hc
  rw [List.getElem?_append_right (by rw [← h.1];omega)] at hu
  rw [← h.1] at hu
  exact k.2.2 _ c u hc hu
theorem Yf.take {w:World} {lim:Nat→Nat} {cs:List AV} {us:List Value} (h:Yf w lim cs us) (n:Nat):Yf w lim (cs.take n) (us.take n):=by
 refine ⟨by simp [h.1],fun c hc=>h.2.1 c (List.mem_of_mem_take hc),fun i c u hc hu=>?_⟩
 rw [List.getElem?_take] at hc hu
 split at hc
 ·rename_i hlt
  rw [if_pos hlt] at hu
  exact h.2.2 i c u hc hu
 ·cases hc
theorem Yf.drop {w:World} {lim:Nat→Nat} {cs:List AV} {us:List Value} (h:Yf w lim cs us) (n:Nat):Yf w lim (cs.drop n) (us.drop n):=by
 refine ⟨by simp [h.1],fun c hc=>h.2.1 c (List.mem_of_mem_drop hc),fun i c u hc hu=>?_⟩
 rw [List.getElem?_drop] at hc hu
 exact h.2.2 _ c u hc hu
theorem Yf.mono {w w':World} {lim lim':Nat→Nat} {cs:List AV} {us:List Value} (h:Yf w lim cs us) (he:Ext w lim w' lim'):Yf w' lim' cs us:=
 ⟨h.1,h.2.1,fun i c u hc hu=>(h.2.2 i c u hc hu).mono he⟩
def AV.cells? : AV→Option (List AV)
 | .agg cs => some cs
 | .val v => some [.val v]
 | .slice f s xs => some [.slice f s xs]
 | _ => none
theorem Vg {P:Program} {w:World} {lim:Nat→Nat} {X:Nat→Nat→Option Nat} {σ:Nat→AV} {k:Nat} {x:AV} {v:Value} {cs:List AV} (hx:x.cells? = some cs) (h:ZP P w lim X σ k x v) :
  ∃ us:List Value,v.cells=us.toArray∧Yf w lim cs us:=by
 cases x with
 | agg ds =>
  simp only [AV.cells?,Option.some.injEq] at hx
  subst hx
  have h':Rep w lim (.agg ds) v:=h
  cases h' with
  | agg hl hc hr => exact ⟨_, rfl, hl, hc, hr⟩
 | val u =>
  simp only [AV.cells?,Option.some.injEq] at hx
  subst hx
  have h':Rep w lim (.val u) v:=h
  refine ⟨[v],?_,Yf.one rfl h'⟩
  cases h' with
  | val hs => cases v <;> simp [ZbI] at hs <;> rfl
 | slice f s xs =>
  simp only [AV.cells?,Option.some.injEq] at hx
  subst hx
  have h':Rep w lim (.slice f s xs) v:=h
  refine ⟨[v],?_,Yf.one rfl h'⟩
  cases h'<;>rfl
 | _ => simp [AV.cells?] at hx
theorem YZ {w:World} {lim:Nat→Nat} {vs:List Value} {cs:List AV} (h:Zac vs=some cs):Yf w lim cs vs:=WN h
theorem ZfE (off:Nat):∀ (l:List Value) (k:Nat) (cs:Array Value),off+k+l.length≤cs.size→
  (l.zipIdx k).foldl (fun cs p=>cs.setIfInBounds (off+p.2) p.1) cs=(cs.toList.take (off+k)++l++cs.toList.drop (off+k+l.length)).toArray
 | [], k, cs, _ => by simp
 | v :: l, k, cs, h => by
  simp only [List.zipIdx_cons,List.foldl_cons]
  simp only [List.length_cons] at h
  rw [ZfE off l (k+1) (cs.setIfInBounds (off+k) v) (by simp;omega)]
  simp only [Array.toList_setIfInBounds]
  congr 1
  have:=list_seg_step cs.toList (off+k) v l (by simp;omega)
  rw [← Nat.add_assoc]
  exact this
theorem ZhJ (off:Nat) (l:List Value) (cs:Array Value) (h:off+l.length≤cs.size) :
  (l.toArray.zipIdx.foldl (fun cs (p:Value×Nat)=>cs.setIfInBounds (off+p.2) p.1) cs)=(cs.toList.take off++l++cs.toList.drop (off+l.length)).toArray:=by
 rw [← Array.foldl_toList]
 have:=ZfE off l 0 cs (by simpa using h)
 simpa using this
def ZbA (place:Nat→Option (Nat×Nat)):List AV→List (Nat×AV)→Option (List AV)
 | cells, [] => some cells
 | cells, (i, v) :: rest =>
  match place i,v.cells? with
  | some (off, size), some vc =>
   if vc.length=size∧off+size≤cells.length then ZbA place (cells.take off++vc++cells.drop (off+size)) rest else none
  | _, _ => none
theorem ZdL {P:Program} {w:World} {lim:Nat→Nat} {X:Nat→Nat→Option Nat} {σ:Nat→AV} {k:Nat} {place:Nat→Option (Nat×Nat)} :
  ∀ (parts:List (Nat×AV)) (vparts:List (Nat×Value)) (cells:List AV) (us:List Value) (out:List AV),Yf w lim cells us→
   parts.length=vparts.length→(∀ (i:Nat) (p:Nat×AV) (q:Nat×Value),parts[i]? = some p→vparts[i]? = some q→p.1=q.1∧ZP P w lim X σ k p.2 q.2)→
   ZbA place cells parts=some out→∃ us',Instr.fill place us.toArray vparts=some us'.toArray∧Yf w lim out us'
 | [], vparts, cells, us, out, hr, hl, _, hf => by
  have:vparts = []:=List.eq_nil_of_length_eq_zero (by simpa using hl.symm)
  subst this
  simp only [ZbA,Option.some.injEq] at hf
  subst hf
  exact ⟨us,rfl,hr⟩
 | (i, x) :: parts, vparts, cells, us, out, hr, hl, hp, hf => by
  cases vparts with
  | nil => simp at hl
  | cons q vparts =>
   obtain ⟨i',v⟩:=q
   obtain ⟨rfl,hx⟩:=hp 0 (i,x) (i',v) rfl rfl
   simp only [ZbA] at hf
   split at hf
   ·rename_i off size vc hpl hvc
    split at hf
    ·rename_i hcond
     obtain ⟨us1,hus1,hrel1⟩:=Vg hvc hx
     have hlen:us1.length=size:=by rw [← hrel1.1];exact hcond.1
     have hfit:off+us1.length≤us.length:=by rw [hlen,← hr.1];exact hcond.2
     have hz:=ZhJ off us1 us.toArray (by simpa using hfit)
     simp only at hz
     rw [hlen] at hz
     have hnew:Yf w lim (cells.take off++vc++cells.drop (off+size)) (us.take off++us1++us.drop (off+size)):=((hr.take off).append hrel1).append (hr.drop (off+size))
     obtain ⟨us',h1,h2⟩:=ZdL parts vparts _ _ out hnew (by simpa using hl) (fun j p q hj hq=>hp (j+1) p q (by simpa using hj) (by simpa using hq)) hf
     refine ⟨us',?_,h2⟩
     simp only [Instr.fill,hpl,hus1]
     rw [if_neg (by simp [hlen];rw [← hlen];exact hfit)]
     rw [hz]
     exact h1
    ·cases hf
   ·cases hf
theorem Zdu {P:Program} (w:World) (fs:Array Field) (h:(fs.toList.all fun f=>(P.info? f.type).isSome)=true) :
  (fs.mapM fun f=>do pure (f.offset,← sizeOf f.type):Sem (Array (Nat×Nat))).run P w = .ok (fs.map fun f=>(f.offset,P.cellsOf f.type)) w:=by
 rw [Array.mapM_eq_mapM_toList]
 have key:∀ (l:List Field),(l.all fun f=>(P.info? f.type).isSome)=true→
   (l.mapM fun f=>do pure (f.offset,← sizeOf f.type):Sem (List (Nat×Nat))).run P w = .ok (l.map fun f=>(f.offset,P.cellsOf f.type)) w:=by
  intro l
  induction l with
  | nil => intro _; simp
  | cons f l ih =>
   intro hl
   simp only [List.all_cons,Bool.and_eq_true] at hl
   obtain ⟨i,hi⟩:=Option.isSome_iff_exists.1 hl.1
   have ih':=ih hl.2
   simp only [List.mapM_cons,Sem.run_bind,Zx hi,Result.andThen_ok,Sem.run_pure,List.map_cons]
   rw [ih']
   rfl
 simp only [Sem.run_map,key fs.toList h,Result.andThen_ok]
 congr 1
 apply Array.toList_inj.1
 simp
theorem ZcY {P:Program} {c:Ctx} (hc:c.P=P) {σ σ':Nat→AV} {tm:Array Value} {w:World} {lim:Nat→Nat} {X:Nat→Nat→Option Nat} (h:Sim c σ' tm w lim X) (parts:Array (Nat×Operand))
  (hg:∀ p∈parts.toList,Zr P σ' p.2=Zr P σ p.2) :
  (parts.toList.map fun p=>(p.1,Zr P σ p.2)).length=((parts.map fun p=>(p.1,Act.eval ⟨tm,[]⟩ p.2)).toList).length∧
  ∀ (i:Nat) (p:Nat×AV) (q:Nat×Value),(parts.toList.map fun p=>(p.1,Zr P σ p.2))[i]? = some p→((parts.map fun p=>(p.1,Act.eval ⟨tm,[]⟩ p.2)).toList)[i]? = some q→p.1=q.1∧ZP P w lim X σ' 0 p.2 q.2:=by
 refine ⟨by simp,fun i p q hp hq=>?_⟩
 rw [Array.toList_map] at hq
 rw [List.getElem?_map] at hp hq
 cases hx:parts.toList[i]? with
 | none => rw [hx] at hp; cases hp
 | some x =>
  rw [hx] at hp hq
  simp only [Option.map_some,Option.some.injEq] at hp hq
  subst hp
  subst hq
  have hm:x∈parts.toList:=List.mem_of_getElem? hx
  have:=(Kj h x.2 0).2
  rw [hc,hg x hm] at this
  exact ⟨rfl,this⟩
theorem ZiY {P:Program} {o:Oper} {σ:Nat→AV} {T:TypeId} {parts:Array (Nat×Operand)} {fs:Array Field} {i:TypeInfo} {z:Value} {zc cs:List AV} (ho:o.op = .build T parts)
  (hT:P.underlying T=some (.struct fs)) (hi:P.info? T=some i) (hz:i.zero=some z) (hzc:Zac z.cells.toList=some zc) (hall:(fs.toList.all fun f=>(P.info? f.type).isSome)=true)
  (hf:ZbA (fun i=>(fs[i]?).map fun f=>(f.offset,P.cellsOf f.type)) zc (parts.toList.map fun p=>(p.1,Zr P σ p.2))=some cs):JA P o σ (.agg cs) [] []:=by
 refine ZE [] rfl fun c hc σ' tm w lim X hg hfp hsim=>?_
 rw [ho] at hg
 have hg':∀ p∈parts.toList,Zr P σ' p.2=Zr P σ p.2:=fun p hp=>hg p.2 (by
  simp only [Op.operands,List.mem_toArray]
  exact List.mem_map.2 ⟨p,hp,rfl⟩)
 obtain ⟨h1,h2⟩:=ZcY hc hsim parts hg'
 obtain ⟨us',h3,h4⟩:=ZdL (P:=P) (X:=X) (σ:=σ') (k:=0) _ _ _ _ _ (YZ (w:=w) (lim:=lim) hzc) h1 h2 hf
 refine ⟨.agg us'.toArray,?_,.agg h4.1 h4.2.1 h4.2.2⟩
 have hpl:(fun (i:Nat)=>(fs.map fun (f:Field)=>(f.offset,P.cellsOf f.type))[i]?)=fun (i:Nat)=>(fs[i]?).map fun (f:Field)=>(f.offset,P.cellsOf f.type):=by
  funext i;simp
 have hb:(Instr.build T (parts.map fun p=>(p.1,Act.eval ⟨tm,[]⟩ p.2))).run P w = .ok (.agg us'.toArray) w:=by
  simp only [Instr.build,Sem.run_bind,zeroValue,typeInfo,run_program,hi,hz,Result.andThen_ok,Sem.run_pure,run_underlying hT]
  have hp:=Zdu (P:=P) w fs hall
  rw [hp]
  simp only [Result.andThen_ok]
  rw [hpl]
  rw [Array.toArray_toList] at h3
  rw [h3]
  rfl
 simp only [execOp,ho,Sem.run_bind,hb,Result.andThen_ok,Sem.run_pure]
end Go.AM
end

section
namespace Go.AM
theorem Zcj {x:AV} {cs:List AV} (h:V3 x (.box cs)=true):VQ x:=ZD h
theorem YT {c:Ctx} {σ:Nat→AV} {tm:Array Value} {w:World} {lim:Nat→Nat} {X:Nat→Nat→Option Nat} (h:Sim c σ tm w lim X) (i j:Nat):X i j≠some w.heap.size:=by
 intro e
 have:=(h.ours i j _ e).1
 omega
theorem Zfr {c:Ctx} {σ:Nat→AV} {tm:Array Value} {w:World} {lim:Nat→Nat} {X:Nat→Nat→Option Nat} (h:Sim c σ tm w lim X) {dst:Option Tmp} {cs:List AV} {us:List Value} {t:TypeId}
  (hl:cs.length=us.length) (hb:∀ x∈cs,WZ x) (hr:∀ (i:Nat) (x:AV) (u:Value),cs[i]? = some x→us[i]? = some u→(x.isCell=true∧Rep w lim x u)∨(∃ b e,x = .own b e []∧u = .slice none 0 0)) :
  Zlc c dst σ (.box cs) tm (.pointer (some ⟨w.heap.size,0,none⟩)) (w.alloc (.cells us.toArray t)):=by
 have hstep:=YC w lim us.toArray t 0 (fun _=>False)
 cases dst with
 | none => exact ⟨_, X, h.world hstep fun _ hs => hs.elim⟩
 | some d =>
  intro hd hm
  have h1:=h.world hstep fun _ hs=>hs.elim
  refine ⟨_,_,h1.putRow (hns:=fun k e xs b g1 _ g3=>by cases k with | zero=>simp [ZX] at g1 | succ k=>simp [KD] at g3) (KD (some w.heap.size)) (ZN.refl _ _ (fun _=>False)) (fun _ hs=>hs.elim) hd (tm':=tm.setIfInBounds d (.pointer (some ⟨w.heap.size,0,none⟩))) (by simp) (fun i hi=>ZL tm d i _ hi) (.inl (Zcj hm).1) (fun i q hi hr=>(h1.noRefs (Zcj hm).none i q hi hr).elim) ?_ (fun k b hk=>?_) (fun k k' b hk hk'=>?_)⟩
  ·rw [Jz tm d _ (by rw [h.size];exact hd)]
   refine ⟨w.heap.size,us.toArray,t,?_,rfl,YF w _ t,by simp [hl],if_pos rfl,hb,fun i x u hx hu=>?_⟩
   ·rw [Zp];rfl
   ·have hrow:KH X d (KD (some w.heap.size)) d (i+1)=none:=by rw [Zp];simp [KD]
    rw [hrow]
    rcases hr i x u hx (by simpa using hu) with ⟨h2,h3⟩ | ⟨b,e,rfl,rfl⟩
    ·have h4:=h3.mono hstep.ext
     cases x<;>simp [AV.isCell] at h2<;>exact h4
    ·exact .inl ⟨[],World.ownsRow_nil _ 0 e _,rfl,by simp,by simp,by simp,by simp⟩
  ·unfold KD at hk
   split at hk
   ·simp only [Option.some.injEq] at hk
    subst hk
    exact ⟨by simp,.inr h.frm.size,fun i j _=>YT h i j⟩
   ·cases hk
  ·unfold KD at hk hk'
   split at hk<;>split at hk'
   ·omega
   ·cases hk'
   ·cases hk
   ·cases hk
theorem ZmD {P:Program} {o:Oper} {σ:Nat→AV} {T:TypeId} {x:Operand} {y:AV} {cs:List AV} (ho:o.op = .box T x) (hx:Zr P σ x=y) (hcs:y.cells? = some cs) :
  JA P o σ (.box cs) [] []:=by
 intro c hc σ' tm w lim X hid hag hsim next Q hn
 have hg:Zr P σ' x=Zr P σ x:=ZA fun t ht=>hid t (by simp [Zt (o:=o) (x:=x) (by rw [ho];simp [Op.operands]) ht])
 obtain ⟨us,h1,h2⟩:=Vg hcs (J0 hc hsim hx hg)
 refine Zq (v:=.pointer (some ⟨w.heap.size,0,none⟩)) (w':=w.alloc (.cells us.toArray T)) ?_ (hn _ _ (Zfr hsim h2.1 (fun z hz=>.inl (h2.2.1 z hz)) fun i z u hz hu=>.inl ⟨h2.2.1 z (List.mem_of_getElem? hz),h2.2.2 i z u hz hu⟩))
 simp [execOp,ho,Instr.box,newVar,newRow,h1]
def Zny (cs:List AV) (us:List Value):Prop:=
 cs.length=us.length∧∀ (i:Nat) (x:AV) (u:Value),cs[i]? = some x→us[i]? = some u→Zo2 u=some x∨(∃ b e,x = .own b e []∧u = .slice none 0 0)
theorem ZiR {P:Program} {o:Oper} {σ:Nat→AV} {T:TypeId} {i:TypeInfo} {z:Value} {cs:List AV} (ho:o.op = .alloc T) (hi:P.info? T=some i) (hz:i.zero=some z)
  (hcs:Zny cs z.cells.toList):JA P o σ (.box cs) [] []:=by
 intro c hc σ' tm w lim X hid hag hsim next Q hn
 refine Zq (v:=.pointer (some ⟨w.heap.size,0,none⟩)) (w':=w.alloc (.cells z.cells.toList.toArray T)) ?_ (hn _ _ (Zfr hsim hcs.1 (fun x hx=>?_) fun j x u hx hu=>?_))
 ·simp [execOp,ho,Instr.alloc,zeroValue,typeInfo,hi,hz,newVar,newRow]
 ·obtain ⟨j,hj⟩:=List.mem_iff_getElem?.1 hx
  have hlt:j < z.cells.toList.length:=by rw [← hcs.1];exact (List.getElem?_eq_some_iff.1 hj).1
  rcases hcs.2 j x _ hj (List.getElem?_eq_getElem hlt) with h | ⟨b,e,h,_⟩
  ·exact .inl (WL (w:=w) (lim:=lim) h).1
  ·exact .inr (.inl ⟨b,e,[],h⟩)
 ·rcases hcs.2 j x u hx hu with h | h
  ·exact .inl (WL h)
  ·exact .inr h
theorem replicate_zero (zs:List Value) (len:Nat):((Array.range (len*zs.length)).map fun i=>zs.toArray[i % zs.toArray.size]!)=((List.replicate len zs).flatten).toArray:=by
 by_cases hz:zs = []
 ·subst hz
  have:(List.replicate len ([] : List Value)).flatten = []:=by simp
  simp [this]
 ·have hpos:0 < zs.length:=List.length_pos_iff.2 hz
  apply Array.toList_inj.1
  rw [Array.toList_map]
  apply List.ext_getElem?
  intro j
  by_cases hj:j < len*zs.length
  ·have h1:((Array.range (len*zs.length)).toList)[j]? = some j:=by simp [hj]
   rw [List.getElem?_map,h1]
   simp only [Option.map_some,List.size_toArray]
   have hm:j % zs.length < zs.length:=Nat.mod_lt _ hpos
   have hd:j / zs.length < len:=Nat.div_lt_of_lt_mul (by rw [Nat.mul_comm];exact hj)
   have hflat:∀ (n:Nat) (k:Nat),k < n→∀ m,m < zs.length→((List.replicate n zs).flatten)[k*zs.length+m]? = zs[m]?:=by
    intro n
    induction n with
    | zero => intro k hk; omega
    | succ n ih =>
     intro k hk m hm
     simp only [List.replicate_succ,List.flatten_cons]
     cases k with
     | zero => rw [Nat.zero_mul, Nat.zero_add, List.getElem?_append_left hm]
     | succ k =>
      rw [List.getElem?_append_right (by rw [Nat.add_mul];omega)]
      have:(k+1)*zs.length+m-zs.length=k*zs.length+m:=by rw [Nat.add_mul];omega
      rw [this]
      exact ih k (by omega) m hm
   have:=hflat len (j / zs.length) hd (j % zs.length) hm
   have hj':j / zs.length*zs.length+j % zs.length=j:=by rw [Nat.mul_comm];exact Nat.div_add_mod j zs.length
   rw [hj'] at this
   show some _=((List.replicate len zs).flatten)[j]?
   rw [this]
   simp [hm]
  ·have h1:((Array.range (len*zs.length)).toList)[j]? = none:=by simp;omega
   rw [List.getElem?_map,h1]
   have:((List.replicate len zs).flatten).length≤j:=by simp;omega
   show none=((List.replicate len zs).flatten)[j]?
   rw [List.getElem?_eq_none this]
theorem YI {w:World} {lim:Nat→Nat} {cs:List AV} {us:List Value} (h:Yf w lim cs us):∀ (n:Nat),Yf w lim ((List.replicate n cs).flatten) ((List.replicate n us).flatten)
 | 0 => Yf.nil w lim
 | n + 1 => by
  simp only [List.replicate_succ,List.flatten_cons]
  exact h.append (YI h n)
def Wi (size:Nat) (cs:List AV) (n:Nat):List (List AV):=(List.range n).map fun j=>(cs.drop (j*size)).take size
theorem Zd9 (size:Nat):∀ (n:Nat) (cs:List AV),cs.length=n*size→(Wi size cs n).flatten=cs:=by
 intro n
 induction n with
 | zero => intro cs h; simp at h; subst h; simp [Wi]
 | succ n ih =>
  intro cs h
  have h1:(cs.take (n*size)).length=n*size:=by simp [h,Nat.add_mul]
  have e1:Wi size cs (n+1)=Wi size (cs.take (n*size)) n++[(cs.drop (n*size)).take size]:=by
   simp only [Wi,List.range_succ,List.map_append,List.map_cons,List.map_nil]
   congr 1
   apply List.map_congr_left
   intro j hj
   have hj':j < n:=List.mem_range.1 hj
   have hm:j*size+size≤n*size:=by rw [← Nat.succ_mul];exact Nat.mul_le_mul_right _ hj'
   rw [List.drop_take,List.take_take]
   congr 1
   omega
  rw [e1,List.flatten_append,ih _ h1]
  simp only [List.flatten_cons,List.flatten_nil,List.append_nil]
  have:(cs.drop (n*size)).take size=cs.drop (n*size):=List.take_of_length_le (by simp [h,Nat.add_mul])
  rw [this,List.take_append_drop]
end Go.AM
end

section
namespace Go.AM
theorem JQ {P:Program} {o:Oper} {a:Act} {w w':World} {next:Act→World→Prop} {Q:Exit→Act→World→Prop}
  (hr:(execOp a.eval o).run P w = .ok .skip w') (h:next (a.put o.dst undef) w'):o.wp P a w next Q:=by
 unfold Oper.wp;rw [hr];exact h
theorem Wq (w:World) (g:Nat) (cur cs:Array Value) (t:TypeId) (hg:w.heap[g]? = some (.cells cur t (0,0))) (a:Addr):(w.setRow g cs).frozen? a=w.frozen? a:=by
 by_cases h:a.block=g
 ·have h1:=setRow_heap w g cur cs t (0,0) hg
  unfold World.frozen?
  rw [h,h1,hg]
 ·unfold World.frozen?
  rw [setRow_other w g a.block cs h]
theorem Jc {w:World} {lim:Nat→Nat} {g:Nat} {cur cs:Array Value} {t:TypeId} (hg:w.heap[g]? = some (.cells cur t (0,0))) (hl:lim g=0) :
  ZN w lim (w.setRow g cs) lim (fun b=>b=g) where
 os:=rfl
 tape:=rfl
 output:=rfl
 size:=by simp
 frz a _:=Wq w g cur cs t hg a
 blk b _ hb:=⟨setRow_other w g b cs hb,rfl⟩
 ext b _:=⟨Nat.le_refl _,fun o u ho hu=>by
  by_cases h:b=g
  ·subst h;rw [hl] at ho;omega
  ·unfold World.cell? at hu ⊢
   rw [setRow_other w g b cs h]
   exact hu⟩
def VT (r:Nat→Option Nat) (off n:Nat) (new:Nat→Option Nat):Nat→Option Nat:=fun k=>if k=0 then r 0 else if off < k∧k≤off+n then new (k-1-off) else r k
theorem Sim.setCells {c:Ctx} {σ:Nat→AV} {tm:Array Value} {w:World} {lim:Nat→Nat} {X:Nat→Nat→Option Nat} (h:Sim c σ tm w lim X) {d off b:Nat} {cs vc:List AV} {us:List Value} {arr:Array Value} {t:TypeId}
  (new:Nat→Option Nat) (hd:σ d = .box cs) (hX:X d 0=some b) (hfit:off+vc.length≤cs.length) (hl:vc.length=us.length) (hvc:∀ x∈vc,WZ x)
  (hr:∀ (i:Nat) (x:AV) (u:Value),vc[i]? = some x→us[i]? = some u→JW c.P w lim (new i) x u) (hheap:w.heap[b]? = some (.cells arr t (0,0)))
  (hnp:∀ k,off≤k→k < off+vc.length→∀ i,i≠d→¬ Je (σ i) d (k+1))
  (hn:∀ i b',new i=some b'→i < vc.length∧(c.A b'∨c.w0.heap.size≤b')∧b' < w.heap.size∧(∀ j k,X j k≠some b')∧∀ i',new i'=some b'→i=i')
  (hnw:∀ i e xs b',vc[i]? = some (.own true e xs)→Zg c.P e=true→new i=some b'→VN c.P w lim e xs b' (X (ngN+b')):=by intro i e xs b' _ _ h;cases h) :
  Sim c (upd σ d (.box (cs.take off++vc++cs.drop (off+vc.length)))) tm (w.setRow b (arr.toList.take off++us++arr.toList.drop (off+us.length)).toArray) lim (KH X d (VT (X d) off vc.length new)):=by
 have hrel:=h.rel d
 rw [hd] at hrel
 obtain ⟨b0,arr0,t0,g1,g2,g3,g4,g5,g6,g7⟩:=(show ZI c.P w lim (X d) cs _ from hrel)
 have hb0:b0=b:=by rw [g1] at hX;exact Option.some.inj hX
 subst hb0
 rw [g3] at hheap
 simp only [Option.some.injEq,Obj.cells.injEq,and_true] at hheap
 obtain ⟨rfl,rfl⟩:=hheap
 have hstep:=Jc (cs:=(arr0.toList.take off++us++arr0.toList.drop (off+us.length)).toArray) g3 g5
 have hdn:d < c.nt:=by
  rcases Nat.lt_or_ge d c.nt with hlt | hge
  ·exact hlt
  ·have:=h.out d hge;rw [hd] at this;rcases this with h0 | h0<;>cases h0
 have hal:arr0.toList.length=cs.length:=by simpa using g4
 refine h.putRow (S:=fun b=>b=b0) _ hstep (fun b' hb'=>⟨0,by rw [hb'];exact g1⟩) hdn rfl (fun i _=>rfl) (.inr ⟨⟨_,rfl⟩,rfl,rfl⟩) (fun i q hi hr=>?_) ?_ (fun k b' hk=>?_) (fun k k' b' hk hk'=>?_) (hns:=fun k e xs b' m1 m2 m3=>?_)
 ·obtain ⟨p,hp⟩:=Y7 h hr
  rw [hd] at hp
  cases q with
  | zero => simp [Zo] at hp
  | succ q =>
   have hq:q < off∨off+vc.length≤q:=by
    rcases Nat.lt_or_ge q off with h1 | h1
    ·exact .inl h1
    ·rcases Nat.lt_or_ge q (off+vc.length) with h2 | h2
     ·exact (hnp q h1 h2 i hi hr).elim
     ·exact .inr h2
   have hlt:q < cs.length:=by
    rcases Nat.lt_or_ge q cs.length with h1 | h1
    ·exact h1
    ·simp [Zo,List.getElem?_eq_none h1] at hp
   have hsame:(cs.take off++vc++cs.drop (off+vc.length))[q]? = cs[q]?:=by
    rcases hq with h1 | h1
    ·rw [List.append_assoc,List.getElem?_append_left (by simp;omega),List.getElem?_take,if_pos h1]
    ·rw [List.getElem?_append_right (by simp;omega),List.getElem?_drop]
     congr 1
     simp<;>omega
   refine ⟨fun e xs hex=>⟨xs,?_,rfl⟩,?_,fun b' hb'=>.of (setRow_other w b0 b' _ fun e=>?_)⟩
   ·rw [hd] at hex
    simp only [Zo,hsame] at hex ⊢
    exact hex
   ·unfold VT
    rw [if_neg (by omega),if_neg (by omega)]
   ·have:=(h.dist d (q+1) d 0 b' hb' (by rw [e];exact g1)).2
    omega
 ·refine ⟨b0,(arr0.toList.take off++us++arr0.toList.drop (off+us.length)).toArray,t0,?_,g2,setRow_heap w b0 arr0 _ t0 _ g3,?_,g5,fun x hx=>?_,fun i x u hx hu=>?_⟩
  ·rw [Zp];exact g1
  ·simp only [List.size_toArray,List.length_append,List.length_take,List.length_drop]
   omega
  ·rcases List.mem_append.1 hx with hx | hx
   ·rcases List.mem_append.1 hx with hx | hx
    ·exact g6 x (List.mem_of_mem_take hx)
    ·exact hvc x hx
   ·exact g6 x (List.mem_of_mem_drop hx)
  ·rw [Zp]
   have hu':(arr0.toList.take off++us++arr0.toList.drop (off+us.length))[i]? = some u:=by simpa using hu
   have old:∀ j,i=j→cs[j]? = some x→arr0[j]? = some u→(j < off∨off+vc.length≤j)→JW c.P (w.setRow b0 (arr0.toList.take off++us++arr0.toList.drop (off+us.length)).toArray) lim (VT (X d) off vc.length new (i+1)) x u:=by
    intro j hij hxj huj hout
    subst hij
    have hrow:VT (X d) off vc.length new (i+1)=X d (i+1):=by
     unfold VT
     rw [if_neg (by omega),if_neg (by omega)]
    rw [hrow]
    refine (g7 i x u hxj huj).mono hstep.ext fun b' hb'=>hstep.blk b' (h.ours d (i+1) b' hb').1 fun e=>?_
    have:=h.dist d (i+1) d 0 b' hb' (by rw [e];exact g1)
    omega
   by_cases h1:i < off
   ·rw [List.append_assoc,List.getElem?_append_left (by simp;omega),List.getElem?_take,if_pos h1] at hx
    rw [List.append_assoc,List.getElem?_append_left (by simp;omega),List.getElem?_take,if_pos h1] at hu'
    exact old i rfl hx (by simpa using hu') (.inl h1)
   ·by_cases h2:i < off+vc.length
    ·rw [List.append_assoc,List.getElem?_append_right (by simp;omega),List.getElem?_append_left (by simp;omega)] at hx
     rw [List.append_assoc,List.getElem?_append_right (by simp;omega),List.getElem?_append_left (by simp;omega)] at hu'
     have e1:i-(cs.take off).length=i-off:=by simp<;>omega
     have e2:i-(arr0.toList.take off).length=i-off:=by simp<;>omega
     rw [e1] at hx
     rw [e2] at hu'
     have hrow:VT (X d) off vc.length new (i+1)=new (i-off):=by
      unfold VT
      rw [if_neg (by omega),if_pos (by omega)]
      congr 1<;>omega
     rw [hrow]
     refine (hr (i-off) x u hx hu').mono hstep.ext fun b' hb'=>hstep.blk b' (hn _ b' hb').2.2.1 fun e=>(hn _ b' hb').2.2.2.1 d 0 (by rw [e];exact g1)
    ·have hlt:i < cs.length:=by
      have:=(List.getElem?_eq_some_iff.1 hx).1
      simp at this
      omega
     have e1:(cs.take off++vc++cs.drop (off+vc.length))[i]? = cs[i]?:=by
      rw [List.getElem?_append_right (by simp;omega),List.getElem?_drop]
      congr 1
      simp<;>omega
     have e2:(arr0.toList.take off++us++arr0.toList.drop (off+us.length))[i]? = arr0.toList[i]?:=by
      rw [List.getElem?_append_right (by simp;omega),List.getElem?_drop]
      congr 1
      simp<;>omega
     rw [e1] at hx
     rw [e2] at hu'
     exact old i rfl hx (by simpa using hu') (.inr (by omega))
 ·unfold VT at hk
  split at hk
  ·exact ⟨by simp;exact (h.ours d 0 b' hk).1,(h.ours d 0 b' hk).2,fun i j hi e=>hi (h.dist i j d 0 b' e hk).1⟩
  ·split at hk
   ·have:=hn _ b' hk
    exact ⟨by simp;exact this.2.2.1,this.2.1,fun i j _=>this.2.2.2.1 i j⟩
   ·exact ⟨by simp;exact (h.ours d k b' hk).1,(h.ours d k b' hk).2,fun i j hi e=>hi (h.dist i j d k b' e hk).1⟩
 ·unfold VT at hk hk'
  split at hk<;>split at hk'
  ·omega
  ·split at hk'
   ·exact ((hn _ b' hk').2.2.2.1 d 0 hk).elim
   ·have:=h.dist d 0 d k' b' hk hk';omega
  ·split at hk
   ·exact ((hn _ b' hk).2.2.2.1 d 0 hk').elim
   ·have:=h.dist d k d 0 b' hk hk';omega
  ·split at hk<;>split at hk'
   ·have:=(hn _ b' hk).2.2.2.2 _ hk'
    omega
   ·exact ((hn _ b' hk).2.2.2.1 d k' hk').elim
   ·exact ((hn _ b' hk').2.2.2.1 d k hk).elim
   ·have:=h.dist d k d k' b' hk hk';omega
 ·have hng:=h.ntN
  have hY:∀ j b2,X (ngN+b') j=some b2→Zf6 w lim (w.setRow b0 (arr0.toList.take off++us++arr0.toList.drop (off+us.length)).toArray) lim b2:=fun j b2 hb2=>hstep.blk b2 (h.ours _ j b2 hb2).1 fun e=>by
   have:=(h.dist (ngN+b') j d 0 b2 hb2 (by rw [e];exact g1)).1
   omega
  have fin:VN c.P w lim e xs b' (X (ngN+b'))→b'≠b0→VN c.P (w.setRow b0 (arr0.toList.take off++us++arr0.toList.drop (off+us.length)).toArray) lim e xs b' (X (ngN+b')):=fun hh hne=>hh.mono hstep.ext (setRow_other w b0 b' _ hne) hY
  cases k with
  | zero => simp [ZX] at m1
  | succ k =>
   obtain ⟨xc,hxc,hxe⟩:∃ xc,(cs.take off++vc++cs.drop (off+vc.length))[k]? = some xc∧xc = .own true e xs:=by
    simp only [ZX] at m1
    split at m1
    ·rename_i e1 xs1 hq
     simp only [Option.some.injEq,Prod.mk.injEq] at m1
     obtain ⟨rfl,rfl⟩:=m1
     exact ⟨_,hq,rfl⟩
    ·cases m1
   subst hxe
   unfold VT at m3
   rw [if_neg (by omega)] at m3
   by_cases h1:off < k+1∧k+1≤off+vc.length
   ·rw [if_pos h1,show k+1-1-off=k-off by omega] at m3
    rw [List.append_assoc,List.getElem?_append_right (by simp;omega),List.getElem?_append_left (by simp;omega),show k-(cs.take off).length=k-off by simp<;>omega] at hxc
    exact fin (hnw (k-off) e xs b' hxc m2 m3) fun e=>(hn _ b' m3).2.2.2.1 d 0 (by rw [e];exact g1)
   ·rw [if_neg h1] at m3
    have hsame:cs[k]? = some (.own true e xs):=by
     rcases Nat.lt_or_ge k off with h2 | h2
     ·rw [List.append_assoc,List.getElem?_append_left (by simp;omega),List.getElem?_take,if_pos h2] at hxc
      exact hxc
     ·rw [List.getElem?_append_right (by simp;omega),List.getElem?_drop] at hxc
      rw [← hxc]
      congr 1
      simp<;>omega
    refine fin (h.nst d (k+1) e xs b' (by rw [hd];simp only [ZX,hsame]) m2 m3) fun e=>?_
    have:=h.dist d (k+1) d 0 b' m3 (by rw [e];exact g1)
    omega
theorem Yy {P:Program} {T:TypeId} {w:World} {b off:Nat} {arr:Array Value} {t:TypeId} {v:Value} {us:List Value} {i:TypeInfo} (hi:P.info? T=some i) (hv:v.cells=us.toArray) (hn:us.length=P.cellsOf T)
  (hg:w.heap[b]? = some (.cells arr t (0,0))) (hfit:off+us.length≤arr.size) (h1:∀ u∈us,u.oneCell'=true) :
  (Instr.storeAt T (.pointer (some ⟨b,off,none⟩)) v).run P w = .ok () (w.setRow b (arr.toList.take off++us++arr.toList.drop (off+us.length)).toArray):=by
 have hs:=run_storeCells_at P b off t us 0 arr w hg (by simpa using hfit) h1
 simp only [Nat.add_zero] at hs
 simp [Instr.storeAt,Instr.sureAddr,storeVar,Zx hi,hv,hn,hs]
theorem Zbr {c:Ctx} {σ:Nat→AV} {tm:Array Value} {w:World} {lim:Nat→Nat} {X:Nat→Nat→Option Nat} (h:Sim c σ tm w lim X) {d off n k i:Nat} {cs:List AV} (hd:σ d = .box cs)
  (hn:ZaF ((cs.drop off).take n)) (h1:off≤k) (h2:k < off+n) (hr:Je (σ i) d (k+1)):False:=by
 obtain ⟨p,hp⟩:=Y7 h hr
 rw [hd] at hp
 simp only [Zo] at hp
 split at hp
 ·rename_i e xs hx
  refine hn (.own true e xs) (List.mem_of_getElem? (i:=k-off) ?_) e xs rfl
  rw [List.getElem?_take,if_pos (by omega),List.getElem?_drop,show off+(k-off)=k by omega]
  exact hx
 ·cases hp
theorem Z8 {c:Ctx} {σ1:Nat→AV} {tm:Array Value} {w:World} {lim:Nat→Nat} {X:Nat→Nat→Option Nat} (h:Sim c σ1 tm w lim X) {dst:Option Tmp} {x:Bool} {e:TypeId} {xs:List (List AV)} {v:Value} {ob:Option Nat}
  (hx:ZQ c.P w lim x e xs v ob) (ho:∀ b,ob=some b→(c.A b∨c.w0.heap.size≤b)∧∀ i j,X i j≠some b) (hmo:x=true→ZeA c.P w lim e xs (KD ob))
  (hns:x=true→Zg c.P e=true→∀ b,ob=some b→VN c.P w lim e xs b (X (ngN+b))):Zlc c dst σ1 (.own x e xs) tm v w:=by
 cases dst with
 | none => exact ⟨lim, X, h⟩
 | some d => exact fun hd hm => ⟨lim, _, h.putOwn hd (ZD hm) hx (fun b hb => ⟨(ho b hb).1, fun i j _ => (ho b hb).2 i j⟩) hmo hns⟩
def Vn (P:Program) (x:Bool) (e:TypeId) (xs:List (List AV)):AV:=match x with | true=>.dead | false=>.slice false (P.cellsOf e) xs
theorem Sim.free {c:Ctx} {σ:Nat→AV} {tm:Array Value} {w:World} {lim:Nat→Nat} {X:Nat→Nat→Option Nat} (h:Sim c σ tm w lim X) {t:Nat} {x:Bool} {e:TypeId} {xs:List (List AV)} (ht:σ t = .own x e xs) (hno:ZjV σ t) :
  Sim c (upd σ t (Vn c.P x e xs)) tm w lim (KH X t JV)∧ZQ c.P w lim x e xs (tm.getD t undef) (X t 0)∧
   ∀ b,X t 0=some b→(c.A b∨c.w0.heap.size≤b)∧∀ i j,KH X t JV i j≠some b:=by
 have hr:=h.rel t
 rw [ht] at hr
 have hr':ZQ c.P w lim x e xs (tm.getD t undef) (X t 0):=hr
 have htn:t < c.nt:=by
  rcases Nat.lt_or_ge t c.nt with hlt | hge
  ·exact hlt
  ·have:=h.out t hge;rw [ht] at this;rcases this with h0 | h0<;>cases h0
 refine ⟨h.weaken (k:=0) htn (fun cs hcs=>by rw [ht] at hcs;cases hcs) hno (by cases x<;>rfl) (fun i q hq=>by cases x<;>rcases hq with hq | ⟨_,hq⟩ <;> cases hq) ?_,hr',fun b hb=>⟨(h.ours t 0 b hb).2,fun i j hij=>?_⟩⟩
 ·cases x with
  | true => trivial
  | false => exact ZQ.rep hr' false rfl
 ·by_cases hi:i=t
  ·subst hi;rw [Zp] at hij;cases hij
  ·rw [Zk X JV hi] at hij
   exact hi (h.dist i j t 0 b hij hb).1
def Kf (σ:Nat→AV) (t:Nat) (us:List (Nat×AV)):Prop:=(∀ u∈us,u.1≠t∧u.2 = .dead∧∃ k,Je (σ u.1) t k)∧∀ i k,i≠t→Je (σ i) t k→i∈us.map (·.1)
def Yd (T:Odr) (σ:Nat→AV) (t:Nat) (us:List (Nat×AV)):Prop:=(T = .text∧Kf σ t us)∨∃ N M K,T = .any N M K∧N t=true∧us = []
theorem Yd.all {T:Odr} {σ σ':Nat→AV} {t:Nat} {us:List (Nat×AV)} (h:Yd T σ t us) (hT:T.rel σ σ'):Kf σ' t us:=by
 rcases h with ⟨rfl,h⟩ | ⟨N,M,K,rfl,h1,rfl⟩
 ·have:σ'=σ:=hT
  rw [this]
  exact h
 ·exact ⟨by simp,fun i k _ hr=>(hT.1 t i k (by simp [Odr.nr,h1]) hr).elim⟩
theorem ZcO {T':Odr} {P:Program} {o:Oper} {σ:Nat→AV} {T:TypeId} {a x:Operand} {d off:Nat} {cs vc0 vc:List AV} {y:AV} (ho:o.op = .store T a x) (ha:Zr P σ a = .ptr d off) (hd:σ d = .box cs)
  (hx:Zr P σ x=y) (hy:y.cells? = some vc0) (hn0:vc0.length=P.cellsOf T) (h0:P.cellsOf T≠0) (hfit:off+P.cellsOf T≤cs.length) (hnr:ZaF ((cs.drop off).take (P.cellsOf T))∨Yd T' σ d [])
  (hno:vc.length=vc0.length∧∀ (w:World) (lim:Nat→Nat) (us:List Value),Yf w lim vc0 us→(∀ z∈vc,WZ z)∧∀ (j:Nat) (z:AV) (u:Value),vc[j]? = some z→us[j]? = some u→JW P w lim none z u) :
  YY T' P o σ .dead [(d,.box (cs.take off++vc++cs.drop (off+P.cellsOf T)))] [d]:=by
 intro c hc σ' tm w lim X hid hag hT hsim next Q hnx
 have hga:Zr P σ' a=Zr P σ a:=ZA fun t ht=>hid t (by simp [Zt (o:=o) (x:=a) (by rw [ho];simp [Op.operands]) ht])
 have hgx:Zr P σ' x=Zr P σ x:=ZA fun t ht=>hid t (by simp [Zt (o:=o) (x:=x) (by rw [ho];simp [Op.operands]) ht])
 have hd':σ' d = .box cs:=by rw [hag d (by simp),hd]
 have hva:=J0 hc hsim ha hga
 rw [← hc] at hva
 obtain ⟨b,h1,h2,h3⟩:=Ko hsim hd' hva
 obtain ⟨us,h4,h5⟩:=Vg hy (J0 hc hsim hx hgx)
 have h6:=hno.2 w lim us h5
 have hn:vc.length=P.cellsOf T:=hno.1.trans hn0
 obtain ⟨b0,arr,t,g1,g2,g3,g4,g5,g6,g7⟩:=h3
 have hb0:b0=b:=by rw [g1] at h1;exact Option.some.inj h1
 subst hb0
 obtain ⟨i,hi⟩:=ZH h0
 have hset:=hsim.setCells (off:=off) (vc:=vc) (us:=us) (fun _=>none) hd' g1 (by rw [hn];exact hfit) (hno.1.trans h5.1) h6.1 (fun j z u hz hu=>by rw [hc];exact h6.2 j z u hz hu) g3 (fun k h1 h2 i hi hr=>by
   rcases hnr with hnr | hdr
   ·exact Zbr hsim hd' (by rw [← hn] at hnr;exact hnr) h1 h2 hr
   ·have:=(hdr.all hT).2 i (k+1) hi hr
    simp at this) (fun _ _ he=>by cases he)
 refine JQ (w':=w.setRow b0 (arr.toList.take off++us++arr.toList.drop (off+us.length)).toArray) ?_ (hnx undef _ ?_)
 ·have hst:=Yy (P:=P) (T:=T) (w:=w) (b:=b0) (off:=off) (v:=Act.eval ⟨tm,[]⟩ x) hi h4 (by rw [← h5.1,hn0]) g3 (by rw [← h5.1,hn0,g4];exact hfit) (fun u hu=>by
   obtain ⟨j,hj⟩:=List.mem_iff_getElem?.1 hu
   have hlt:j < vc0.length:=by rw [h5.1];exact (List.getElem?_eq_some_iff.1 hj).1
   exact (h5.2.2 j _ u (List.getElem?_eq_getElem hlt) hj).oneCell (h5.2.1 _ (List.getElem_mem hlt)))
  simp only [execOp,ho,h2,Sem.run_bind,hst,Result.andThen_ok,Sem.run_pure]
 ·rw [hn] at hset
  exact Zy hset rfl (k:=0) trivial
theorem KR (σ:Nat→AV):∀ (us vs:List (Nat×AV)),Ju σ (us++vs)=Ju (Ju σ us) vs
 | [], _ => rfl
 | (d, x) :: us, vs => by
  simp only [List.cons_append,Ju]
  exact KR _ us vs
theorem Kt:∀ (us:List (Nat×AV)) (σ:Nat→AV) (i:Nat),(∀ u∈us,u.2 = .dead)→Ju σ us i=if i∈us.map (·.1) then .dead else σ i
 | [], σ, i, _ => by simp [Ju]
 | (d, x) :: us, σ, i, h => by
  have hx:x = .dead:=h (d,x) (by simp)
  subst hx
  rw [Ju,Kt us _ i fun u hu=>h u (by simp [hu])]
  by_cases hm:i∈us.map (·.1)
  ·rw [if_pos hm,if_pos (by simp only [List.map_cons,List.mem_cons];exact .inr hm)]
  ·rw [if_neg hm]
   by_cases hi:i=d
   ·subst hi
    rw [ZC,if_pos (by simp)]
   ·rw [Zf _ _ hi,if_neg (by simp only [List.map_cons,List.mem_cons];exact fun h=>h.elim hi hm)]
theorem Yw {x:AV} {d k:Nat} (h:Je x d k):(∀ cs,x≠.box cs)∧VQ x∧x.isG=false:=by
 rcases h with rfl | ⟨o,rfl⟩ <;> exact ⟨fun _ h=>(by cases h),⟨fun _ h=>(by cases h),fun _ _ h=>(by cases h),fun _ h=>(by cases h)⟩,rfl⟩
theorem Sim.drops {c:Ctx} {tm:Array Value} {w:World} {lim:Nat→Nat} : ∀ (us:List (Nat×AV)) {σ:Nat→AV} {X:Nat→Nat→Option Nat},Sim c σ tm w lim X→(∀ u∈us,u.2 = .dead∧VQ (σ u.1)∧u.1 < c.nt)→
  ∃ X',Sim c (Ju σ us) tm w lim X'∧∀ i,i∉us.map (·.1)→X' i=X i
 | [], _, X, h, _ => ⟨X, h, fun _ _ => rfl⟩
 | (d, x) :: us, σ, X, h, hu => by
  obtain ⟨h1,h2,h3⟩:=hu (d,x) (by simp)
  have h1:x = .dead:=h1
  subst h1
  have hw:=h.weaken (k:=0) h3 h2.1 (h.noRefs h2.none) (x:=.dead) rfl (fun i q hq=>by rcases hq with hq | ⟨_,hq⟩ <;> cases hq) trivial
  obtain ⟨X',g1,g2⟩:=Sim.drops us hw fun u hm=>by
   obtain ⟨k1,k2,k3⟩:=hu u (by simp [hm])
   refine ⟨k1,?_,k3⟩
   by_cases he:u.1=d
   ·rw [he,ZC]
    exact ⟨fun _ h=>(by cases h),fun _ _ h=>(by cases h),fun _ h=>(by cases h)⟩
   ·rw [Zf _ _ he]
    exact k2
  refine ⟨X',g1,fun i hi=>?_⟩
  simp only [List.map_cons,List.mem_cons,not_or] at hi
  rw [g2 i hi.2,Zk X JV hi.1]
theorem Yl {c:Ctx} {σ:Nat→AV} {tm:Array Value} {w:World} {lim:Nat→Nat} {X:Nat→Nat→Option Nat} (h:Sim c σ tm w lim X) {t:Nat} (h1:σ t≠.dead) (h2:(σ t).isG=false):t < c.nt:=by
 rcases Nat.lt_or_ge t c.nt with hlt | hge
 ·exact hlt
 ·rcases h.out t hge with h0 | h0
  ·exact (h1 h0).elim
  ·rw [h2] at h0;cases h0
theorem Sim.freeAll {c:Ctx} {σ:Nat→AV} {tm:Array Value} {w:World} {lim:Nat→Nat} {X:Nat→Nat→Option Nat} (h:Sim c σ tm w lim X) {t:Nat} {x:Bool} {e:TypeId} {xs:List (List AV)} {us:List (Nat×AV)} (ht:σ t = .own x e xs)
  (hus:(x=false∧us = [])∨Kf σ t us) :
  ∃ X',Sim c (Ju σ ((t,Vn c.P x e xs)::us)) tm w lim X'∧ZQ c.P w lim x e xs (tm.getD t undef) (X t 0)∧(∀ b,X t 0=some b→(c.A b∨c.w0.heap.size≤b)∧∀ i j,X' i j≠some b)∧∀ i,c.nt≤i→X' i=X i:=by
 have htn0:t < c.nt:=Yl h (by rw [ht];exact fun h=>by cases h) (by rw [ht];rfl)
 rcases hus with ⟨rfl,rfl⟩ | ⟨hd1,hd2⟩
 ·obtain ⟨h1,h2,h3⟩:=h.free ht (h.noRefs fun k=>by rw [ht];rfl)
  exact ⟨_,h1,h2,h3,fun i hi=>Zk X JV (by omega)⟩
 ·obtain ⟨X1,g1,g2⟩:=h.drops us fun u hu=>by
   obtain ⟨k1,k2,k,k3⟩:=hd1 u hu
   obtain ⟨m1,m2,m3⟩:=Yw k3
   exact ⟨k2,m2,Yl h (fun e=>by rw [e] at k3;rcases k3 with k3 | ⟨_,k3⟩ <;> cases k3) m3⟩
  have htn:t∉us.map (·.1):=by
   intro hm
   obtain ⟨u,hu,rfl⟩:=List.mem_map.1 hm
   exact (hd1 u hu).1 rfl
  have hdead:∀ (σ:Nat→AV) (i:Nat),Ju σ us i=if i∈us.map (·.1) then .dead else σ i:=fun σ i=>Kt us σ i fun u hu=>(hd1 u hu).2.1
  have ht1:Ju σ us t = .own x e xs:=by rw [hdead,if_neg htn,ht]
  obtain ⟨f1,f2,f3⟩:=g1.free ht1 (fun i k hi hr=>by
   rw [hdead] at hr
   split at hr
   ·rcases hr with hr | ⟨_,hr⟩ <;> cases hr
   ·rename_i hm
    exact hm (hd2 i k hi hr))
  rw [g2 t htn] at f2 f3
  have husn:∀ i,c.nt≤i→i∉us.map (·.1):=by
   intro i hi hm
   obtain ⟨u,hu,rfl⟩:=List.mem_map.1 hm
   obtain ⟨k1,k2,k,k3⟩:=hd1 u hu
   have:=Yl h (t:=u.1) (fun e=>by rw [e] at k3;rcases k3 with k3 | ⟨_,k3⟩ <;> cases k3) (Yw k3).2.2
   omega
  refine ⟨_,?_,f2,f3,fun i hi=>(Zk _ _ (by omega)).trans (g2 i (husn i hi))⟩
  have he:Ju σ ((t,Vn c.P x e xs)::us)=upd (Ju σ us) t (Vn c.P x e xs):=by
   funext i
   simp only [Ju]
   rw [hdead]
   by_cases hi:i=t
   ·subst hi
    rw [if_neg htn,ZC,ZC]
   ·rw [Zf _ _ hi,Zf _ _ hi,hdead]
  rw [he]
  exact f1
theorem Zft {T:Odr} {P:Program} {o:Oper} {σ:Nat→AV} {t:Nat} {x:Bool} {e:TypeId} {xs:List (List AV)} {us:List (Nat×AV)} (ho:o.op = .move (.tmp t)∨o.op = .assign (.tmp t)) (ht:σ t = .own x e xs)
  (hus:(x=false∧us = [])∨Yd T σ t us) (hmv:x=true→Mv P e xs):YY T P o σ (.own x e xs) ((t,Vn P x e xs)::us) []:=by
 intro c hc σ' tm w lim X hid hag hT hsim next Q hn
 have ht':σ' t = .own x e xs:=by rw [hag t (by simp),ht]
 obtain ⟨X',h1,h2,h3,h4⟩:=hsim.freeAll (us:=us) ht' (hus.imp id fun h=>h.all hT)
 rw [hc] at h1
 refine Zq (v:=tm.getD t undef) (w':=w) ?_ (hn _ w (Z8 h1 h2 h3 (fun hx=>.mv (by rw [hc];exact hmv hx)) fun hx hd b hb=>?_))
 rotate_left
 ·subst hx
  rw [h4 _ (Nat.le_trans hsim.ntN (Nat.le_add_right _ _))]
  exact hsim.nst t 0 e xs b (by rw [ht'];rfl) hd hb
 rcases ho with ho | ho<;>simp [execOp,ho,Act.eval]
theorem Zmz {P:Program} {o:Oper} {σ:Nat→AV} {x:Bool} {e:TypeId} (ho:o.op = .assign (.const (.slice none 0 0))):JA P o σ (.own x e []) [] []:=by
 intro c hc σ' tm w lim X hid hag hsim next Q hn
 refine Zq (v:=.slice none 0 0) (w':=w) (by simp [execOp,ho,Act.eval]) (hn _ w (Z8 (ob:=none) hsim (.inl ⟨[],World.ownsRow_nil _ 0 e _,rfl,by simp,by simp,by simp,by simp⟩) (by simp) (fun _=>.none rfl) fun _ _ b hb=>by cases hb))
theorem Zi1 {P:Program} {o:Oper} {σ:Nat→AV} {t:Nat} {vs:List AV} (ho:o.op = .move (.tmp t)) (ht:σ t = .tuple vs):JA P o σ (.tuple vs) [(t,.gone)] []:=by
 intro c hc σ' tm w lim X hid hag hsim next Q hn
 have ht':σ' t = .tuple vs:=by rw [hag t (by simp),ht]
 have htn:t < c.nt:=by
  rcases Nat.lt_or_ge t c.nt with hlt | hge
  ·exact hlt
  ·have:=hsim.out t hge;rw [ht'] at this;rcases this with h0 | h0<;>cases h0
 have h1:Sim c (upd σ' t .gone) tm w lim (KH X t JV):=hsim.weaken (k:=0) htn (fun cs hcs=>by rw [ht'] at hcs;cases hcs) (hsim.noRefs fun k=>by rw [ht'];rfl) rfl (fun i q hq=>by rcases hq with hq | ⟨_,hq⟩ <;> cases hq) trivial
 have hr:=hsim.rel t
 rw [ht'] at hr
 obtain ⟨us,g1,g2,g3⟩:=hr
 refine Zq (v:=tm.getD t undef) (w':=w) (by simp [execOp,ho,Act.eval]) (hn _ w ?_)
 cases hdst:o.dst with
 | none => exact ⟨lim, _, h1⟩
 | some d =>
  intro hd hm
  refine ⟨lim,_,h1.putRow (hns:=fun k e xs b m1 m2 m3=>by
   have:=hsim.ntN
   rw [Zk X JV (show ngN+b≠t by omega)]
   exact hsim.nst t k e xs b (by rw [ht'];exact m1) m2 m3) (X t) (ZN.refl w lim (fun _=>False)) (fun _ hs=>hs.elim) hd (tm':=tm.setIfInBounds d (tm.getD t undef)) (by simp) (fun i hi=>ZL tm d i _ hi) (.inl (ZD hm).1) (fun i q hi hr=>(h1.noRefs (ZD hm).none i q hi hr).elim) ?_ (fun k b hk=>⟨(hsim.ours t k b hk).1,(hsim.ours t k b hk).2,fun i j _ hij=>?_⟩) (fun k k' b hk hk'=>(hsim.dist t k t k' b hk hk').2)⟩
  ·rw [Jz tm d _ (by rw [hsim.size];exact hd)]
   refine ⟨us,g1,g2,?_⟩
   rw [Zp]
   exact g3
  ·by_cases hi:i=t
   ·subst hi;rw [Zp] at hij;cases hij
   ·rw [Zk X JV hi] at hij
    exact hi (hsim.dist i j t k b hij hk).1
theorem ZaB {P:Program} {o:Oper} {σ:Nat→AV} {t i:Nat} {vs:List AV} {x:AV} (ho:o.op = .extract (.tmp t) i) (ht:σ t = .tuple vs) (hx:vs[i]? = some x) (hp:x.plain=true) (hnp:∀ d p,x≠.ptr d p) (hne:∀ cs,x≠.eptr cs) (hnd:x≠.dead) (hng:x≠.gone):JA P o σ x [] []:=by
 intro c hc σ' tm w lim X hid hag hsim next Q hn
 have ht':σ' t = .tuple vs:=by rw [(hid t (Zt (o:=o) (x:=.tmp t) (t:=t) (by rw [ho];simp [Op.operands]) rfl)).eq fun cs e=>(by rw [ht] at e;cases e),ht]
 have hr:=hsim.rel t
 rw [ht'] at hr
 obtain ⟨us,g1,g2,g3⟩:=hr
 have hlt:i < us.length:=by rw [g2];exact (List.getElem?_eq_some_iff.1 hx).1
 have hu:=List.getElem?_eq_getElem hlt
 have hc3:=g3 i x _ hx hu
 refine Zq (v:=us[i]) (w':=w) ?_ (hn _ w (Zy hsim hp (k:=0) ?_))
 ·have hev:Act.eval ⟨tm,[]⟩ (.tmp t) = .tuple us.toArray:=g1
  simp [execOp,ho,hev,Instr.extract,hlt]
 ·cases x<;>first | (simp [AV.plain] at hp;done) | (exact (hnp _ _ rfl).elim) | (exact (hne _ rfl).elim) | (exact (hnd rfl).elim) | (exact (hng rfl).elim) | (have hz:Rep w lim _ _:=hc3;cases hz;done) | exact hc3
def Zp6 (P:Program) (x:Bool) (e:TypeId) (xs:List (List AV)):AV:=match x with | true=>.gone | false=>.slice false (P.cellsOf e) xs
theorem ZaL {P:Program} {o:Oper} {σ:Nat→AV} {t i:Nat} {vs:List AV} {x:Bool} {e:TypeId} {xs:List (List AV)} (ho:o.op = .extract (.tmp t) i) (ht:σ t = .tuple vs) (hx0:vs[i]? = some (.own x e xs)) (hmv:x=true→Mv P e xs) :
  JA P o σ (.own x e xs) [(t,.tuple (vs.set i (Zp6 P x e xs)))] []:=by
 have hx:=hx0
 intro c hc σ' tm w lim X hid hag hsim next Q hn
 have ht':σ' t = .tuple vs:=by rw [hag t (by simp),ht]
 have htn:t < c.nt:=by
  rcases Nat.lt_or_ge t c.nt with hlt | hge
  ·exact hlt
  ·have:=hsim.out t hge;rw [ht'] at this;rcases this with h0 | h0<;>cases h0
 have hr:=hsim.rel t
 rw [ht'] at hr
 obtain ⟨us,g1,g2,g3⟩:=hr
 have hlt:i < us.length:=by rw [g2];exact (List.getElem?_eq_some_iff.1 hx).1
 have hu:=List.getElem?_eq_getElem hlt
 have hown:ZQ c.P w lim x e xs us[i] (X t (i+1)):=g3 i _ _ hx hu
 have h1:Sim c (upd σ' t (.tuple (vs.set i (Zp6 P x e xs)))) tm w lim (KH X t fun k=>if k=i+1 then none else X t k):=by
  refine hsim.putRow (S:=fun _=>False) _ (ZN.refl w lim _) (fun _ hs=>hs.elim) htn rfl (fun j _=>rfl) (.inl fun cs hcs=>by rw [ht'] at hcs;cases hcs) (fun i q hi hr=>(hsim.noRefs (fun k=>by rw [ht'];rfl) i q hi hr).elim) ?_ (fun k b hk=>?_) (fun k k' b hk hk'=>?_) (hns:=fun k e1 xs1 b m1 m2 m3=>?_)
  ·refine ⟨us,g1,by simp [g2],fun j y u hy hju=>?_⟩
   rw [Zp]
   by_cases hji:j=i
   ·subst hji
    rw [List.getElem?_set_self (by omega)] at hy
    simp only [Option.some.injEq] at hy
    subst hy
    rw [hu] at hju
    simp only [Option.some.injEq] at hju
    subst hju
    cases x with
    | true => trivial
    | false =>
     have:=ZQ.rep hown false rfl
     rw [hc] at this
     exact this
   ·rw [List.getElem?_set_ne (fun h=>hji h.symm)] at hy
    rw [if_neg (by omega)]
    exact g3 j y u hy hju
  ·split at hk
   ·cases hk
   ·exact ⟨(hsim.ours t k b hk).1,(hsim.ours t k b hk).2,fun a j ha hj=>ha (hsim.dist a j t k b hj hk).1⟩
  ·split at hk<;>split at hk'
   ·omega
   ·cases hk
   ·cases hk'
   ·exact (hsim.dist t k t k' b hk hk').2
  ·split at m3
   ·cases m3
   ·rename_i hki
    refine hsim.nst t k e1 xs1 b ?_ m2 m3
    rw [ht',← m1]
    cases k with
    | zero => rfl
    | succ k => simp only [ZX]; rw [List.getElem?_set_ne (fun h => hki (by rw [h]))]
 refine Zq (v:=us[i]) (w':=w) ?_ (hn _ w (Z8 h1 hown (fun b hb=>⟨(hsim.ours t _ b hb).2,fun a j haj=>?_⟩) (fun hx=>.mv (by rw [hc];exact hmv hx)) fun hx hdp b hb=>?_))
 rotate_left 2
 ·subst hx
  have:=hsim.ntN
  rw [Zk X _ (show ngN+b≠t by omega)]
  exact hsim.nst t (i+1) e xs b (by rw [ht'];simp only [ZX,hx0]) hdp hb
 ·have hev:Act.eval ⟨tm,[]⟩ (.tmp t) = .tuple us.toArray:=g1
  simp [execOp,ho,hev,Instr.extract,hlt]
 ·by_cases ha:a=t
  ·subst ha
   rw [Zp] at haj
   split at haj
   ·cases haj
   ·rename_i hne
    exact hne (hsim.dist a j a (i+1) b haj hb).2
  ·rw [Zk X _ ha] at haj
   exact ha (hsim.dist a j t (i+1) b haj hb).1
theorem Zz {y:AV} {k:Nat} {e:TypeId} {xs:List (List AV)} (h:Zo y k=some (e,xs)) :
  (y = .own true e xs∧k=0)∨(∃ cs q,y = .box cs∧k=q+1∧cs[q]? = some (.own true e xs))∨∃ cs q,y = .gbox cs∧k=q+1∧cs[q]? = some (.own true e xs):=by
 unfold Zo at h
 split at h
 ·simp only [Option.some.injEq,Prod.mk.injEq] at h
  obtain ⟨rfl,rfl⟩:=h
  exact .inl ⟨rfl,rfl⟩
 ·rename_i cs q
  split at h
  ·rename_i e' xs' hc
   simp only [Option.some.injEq,Prod.mk.injEq] at h
   obtain ⟨rfl,rfl⟩:=h
   exact .inr (.inl ⟨cs,q,rfl,rfl,hc⟩)
  ·cases h
 ·rename_i cs q
  split at h
  ·rename_i e' xs' hc
   simp only [Option.some.injEq,Prod.mk.injEq] at h
   obtain ⟨rfl,rfl⟩:=h
   exact .inr (.inr ⟨cs,q,rfl,rfl,hc⟩)
  ·cases h
 ·cases h
theorem JI {c:Ctx} {σ:Nat→AV} {tm:Array Value} {w:World} {lim:Nat→Nat} {X:Nat→Nat→Option Nat} (h:Sim c σ tm w lim X) {d k:Nat} {e:TypeId} {xs:List (List AV)} (hp:Zo (σ d) k=some (e,xs)) :
  ∃ v,ZQ c.P w lim true e xs v (X d k):=by
 have hr:=h.rel d
 rcases Zz hp with ⟨h1,rfl⟩ | ⟨cs,q,h1,rfl,h2⟩ | ⟨cs,q,h1,rfl,h2⟩
 ·rw [h1] at hr
  exact ⟨_,hr⟩
 ·rw [h1] at hr
  obtain ⟨b,arr,t,g1,g2,g3,g4,g5,g6,g7⟩:=(show ZI c.P w lim (X d) cs _ from hr)
  have hlt:=(List.getElem?_eq_some_iff.1 h2).1
  exact ⟨arr[q]'(by omega),g7 q _ _ h2 (Array.getElem?_eq_getElem (by omega))⟩
 ·rw [h1] at hr
  obtain ⟨v',b,arr,t,g1,g2,g3,g4,g5,g6,g7⟩:=hr
  have hlt:=(List.getElem?_eq_some_iff.1 h2).1
  exact ⟨arr[q]'(by omega),g7 q _ _ h2 (Array.getElem?_eq_getElem (by omega))⟩
theorem Vk {P:Program} {w:World} {lim:Nat→Nat} {e:TypeId} {xs:List (List AV)} {v:Value} {b:Nat} (h:ZQ P w lim true e xs v (some b)) (hm:Zm P e=false∨(Zg P e=false∧∃ arr t fz,w.heap[b]? = some (.cells arr t fz))) :
  ∃ arr cap,v = .slice (some ⟨b,0,none⟩) xs.length cap∧w.heap[b]? = some (.cells arr e (0,0))∧lim b=0∧xs.length≤cap∧cap≤maxLen∧arr.size=cap*P.cellsOf e∧
   (∀ x∈xs,x.length=P.cellsOf e)∧(∀ x∈xs,∀ z∈x,z.isCell=true)∧∀ (j:Nat) (z:AV) (u:Value),xs.flatten[j]? = some z→arr[j]? = some u→Rep w lim z u:=by
 rcases h with ⟨us,h1,h2,h3,h4,h5,h6⟩ | ⟨_,h,_⟩ | ⟨_,⟨h,_,_,_,_,_,_,hb,_,hh,_⟩ | ⟨h,_⟩ | ⟨h,_,_,_,_,_,_,hb,_,hh,_⟩⟩
 ·rcases h1.2 with ⟨hv,hn⟩ | ⟨g,cap,cur,hv,hbg,hg,hnc,hcm,hcs,htake⟩
  ·rw [hv] at h2;cases h2
  ·have hgb:g=b:=by rw [hv] at h2;exact Option.some.inj h2
   subst hgb
   refine ⟨cur,cap,hv,hg,by rw [h3 g rfl];rfl,hnc,hcm,hcs,h4,h5,fun j z u hz hu=>h6 j z u hz ?_⟩
   have hj:=(List.getElem?_eq_some_iff.1 hz).1
   rw [Zl xs _ h4] at hj
   rw [← htake,List.getElem?_take,if_pos hj]
   simpa using hu
 ·cases h
 ·rcases hm with hm | ⟨_,_,_,_,hm⟩
  ·rw [hm] at h;cases h
  ·cases hb;rw [hm] at hh;cases hh
 ·rcases hm with hm | ⟨hm,_⟩
  ·rw [ZT hm] at h;cases h
  ·rw [hm] at h;cases h
 ·rcases hm with hm | ⟨_,_,_,_,hm⟩
  ·rw [hm] at h;cases h
  ·cases hb;rw [hm] at hh;cases hh
theorem Ke {P:Program} {w:World} {lim:Nat→Nat} {e:TypeId} {xs:List (List AV)} {v:Value} {b:Nat} (h:ZQ P w lim true e xs v (some b)) (hm:Zm P e=false∨Zg P e=true) (hd:Zff P w e (some b)) :
  ∃ arr cap,v = .slice (some ⟨b,0,none⟩) xs.length cap∧w.heap[b]? = some (.cells arr (bT e) (0,0))∧lim b=0∧xs.length≤cap∧cap≤maxLen∧arr.size=cap*P.cellsOf (bT e)∧
   (∀ x∈xs,x.length=P.cellsOf (bT e))∧(∀ x∈xs,∀ z∈x,z.isCell=true)∧∀ (j:Nat) (z:AV) (u:Value),xs.flatten[j]? = some z→arr[j]? = some u→Rep w lim z u:=by
 have h1:=h.one hm hd
 have hb:Zm P (bT e)=false:=by
  rcases hm with hm | hm
  ·rw [Kd hm];exact hm
  ·rcases h with ⟨us,k1,k2,_⟩ | ⟨_,h,_⟩ | ⟨_,⟨_,_,_,_,_,et,k1,_⟩ | h | ⟨_,_,_,_,_,_,⟨_,_,k1⟩,_⟩⟩
   ·exfalso
    rcases k1.2 with ⟨hv,_⟩ | ⟨g,cap,cur,hv,_,hg,_⟩
    ·rw [hv] at k2;cases k2
    ·obtain ⟨arr,ha⟩:=hd hm b rfl
     have hgb:g=b:=by rw [hv] at k2;exact Option.some.inj k2
     rw [hgb,ha] at hg
     simp only [Option.some.injEq,Obj.cells.injEq,and_true] at hg
     have h8:2097152≤e:=by simp only [Zg,Bool.and_eq_true,decide_eq_true_eq] at hm;exact hm.1
     have h9:=hg.2
     rw [bT,if_pos h8] at h9
     exact absurd h9 (Nat.ne_of_lt (Nat.sub_lt (Nat.lt_of_lt_of_le (by decide) h8) (by decide)))
   ·cases h
   ·rw [Kb k1] at hm;cases hm
   ·exact h.2.1
   ·rw [Yg k1] at hm;cases hm
 exact Vk h1.own (.inl hb)
theorem KK {P:Program} {w:World} {lim:Nat→Nat} {e:TypeId} {xs:List (List AV)} {b cap:Nat} {arr:Array Value} (h1:w.heap[b]? = some (.cells arr e (0,0))) (h2:lim b=0) (h3:xs.length≤cap) (h4:cap≤maxLen)
  (h5:arr.size=cap*P.cellsOf e) (h6:∀ x∈xs,x.length=P.cellsOf e) (h7:∀ x∈xs,∀ z∈x,z.isCell=true) (h8:∀ (j:Nat) (z:AV) (u:Value),xs.flatten[j]? = some z→arr[j]? = some u→Rep w lim z u) :
  ZQ P w lim true e xs (.slice (some ⟨b,0,none⟩) xs.length cap) (some b):=by
 have hle:xs.length*P.cellsOf e≤cap*P.cellsOf e:=Nat.mul_le_mul_right _ h3
 refine .inl ⟨arr.toList.take (xs.length*P.cellsOf e),⟨?_,.inr ⟨b,cap,arr,rfl,Nat.zero_le _,h1,h3,h4,h5,rfl⟩⟩,rfl,fun b' hb'=>?_,h6,h7,fun j z u hz hu=>h8 j z u hz ?_⟩
 ·have hal:arr.toList.length=cap*P.cellsOf e:=by simpa using h5
  rw [List.length_take,hal]
  exact Nat.min_eq_left hle
 ·cases hb'
  rw [if_pos rfl]
  exact h2
 ·rw [List.getElem?_take] at hu
  split at hu
  ·simpa using hu
  ·cases hu
end Go.AM
end

section
namespace Go.AM
theorem Wz (cs:List AV) (off:Nat) (x:AV) (h:off < cs.length):cs.take off++[x]++cs.drop (off+1)=cs.set off x:=by
 rw [List.set_eq_take_append_cons_drop,if_pos h]
 simp
theorem Vr (σ:Nat→AV) (us:List (Nat×AV)) (d:Nat) (x:AV):Ju σ (us++[(d,x)])=upd (Ju σ us) d x:=by
 induction us generalizing σ with
 | nil => rfl
 | cons u us ih => obtain ⟨e, y⟩ := u; simp only [List.cons_append, Ju]; exact ih _
theorem Zkw:∀ (us:List (Nat×AV)) (σ:Nat→AV) (i:Nat),Ju σ us i=σ i∨∃ u∈us,Ju σ us i=u.2
 | [], _, _ => .inl rfl
 | (d, x) :: us, σ, i => by
  simp only [Ju]
  rcases Zkw us (upd σ d x) i with h | ⟨v,hv,h⟩
  ·by_cases hi:i=d
   ·subst hi
    exact .inr ⟨(i,x),by simp,by rw [h,ZC]⟩
   ·exact .inl (by rw [h,Zf _ _ hi])
  ·exact .inr ⟨v,by simp [hv],h⟩
theorem Zca (us:List (Nat×AV)) (σ:Nat→AV) (d:Nat) (h:d∉us.map (·.1)):Ju σ us d=σ d:=by
 induction us generalizing σ with
 | nil => rfl
 | cons u us ih =>
  obtain ⟨e,y⟩:=u
  simp only [List.map_cons,List.mem_cons,not_or] at h
  simp only [Ju]
  rw [ih _ h.2,Zf _ _ h.1]
theorem ZjA {σ:Nat→AV} {t d:Nat} {us:List (Nat×AV)} {cs:List AV} (hd:σ d = .box cs) (h:us = []∨Kf σ t us):d∉us.map (·.1):=by
 rcases h with rfl | ⟨h,_⟩
 ·simp
 ·intro hm
  obtain ⟨u,hu,rfl⟩:=List.mem_map.1 hm
  obtain ⟨_,_,k,hk⟩:=h u hu
  exact (Yw hk).1 cs hd
theorem ZcF {T':Odr} {P:Program} {o:Oper} {σ:Nat→AV} {T:TypeId} {a:Operand} {t d off:Nat} {cs:List AV} {x:Bool} {e:TypeId} {xs:List (List AV)} {us:List (Nat×AV)} (ho:o.op = .store T a (.tmp t)) (ha:Zr P σ a = .ptr d off) (hd:σ d = .box cs)
  (ht:σ t = .own x e xs) (hn:P.cellsOf T=1) (hfit:off < cs.length) (hnr:ZaF ((cs.drop off).take 1)∨Yd T' σ d []) (hus:(x=false∧us = [])∨Yd T' σ t us) :
  YY T' P o σ .dead (((t,Vn P x e xs)::us)++[(d,.box (cs.set off (.own x e xs)))]) [d]:=by
 intro c hc σ' tm w lim X hid hag hT hsim next Q hnx
 have hga:Zr P σ' a=Zr P σ a:=ZA fun t ht=>hid t (by simp [Zt (o:=o) (x:=a) (by rw [ho];simp [Op.operands]) ht])
 have hd':σ' d = .box cs:=by rw [hag d (by simp),hd]
 have ht':σ' t = .own x e xs:=by rw [hag t (by simp),ht]
 have hdt:d≠t:=fun h=>by rw [h,ht'] at hd';cases hd'
 have hus':(x=false∧us = [])∨Kf σ' t us:=hus.imp id fun h=>h.all hT
 have hva:=J0 hc hsim ha hga
 rw [← hc] at hva
 obtain ⟨b,h1,h2,h3⟩:=Ko hsim hd' hva
 obtain ⟨i,hi⟩:=ZH (P:=P) (T:=T) (by omega)
 have hrd:=hsim.rel d
 rw [hd'] at hrd
 obtain ⟨b9,_,_,m1,m2,_⟩:=(show ZI c.P w lim (X d) cs _ from hrd)
 obtain ⟨X1,k1,k2,k3,k4⟩:=hsim.freeAll (us:=us) ht' hus'
 have hd1:Ju σ' ((t,Vn c.P x e xs)::us) d = .box cs:=by
  rw [Zca _ _ _ ?_,hd']
  simp only [List.map_cons,List.mem_cons,not_or]
  exact ⟨hdt,ZjA hd' (hus'.imp (fun h=>h.2) id)⟩
 have hr1:=k1.rel d
 rw [hd1] at hr1
 obtain ⟨b0,arr,ty,g1,g2,g3,g4,g5,g6,g7⟩:=(show ZI c.P w lim (X1 d) cs _ from hr1)
 have hb0:b0=b:=by
  rw [h1] at m1
  rw [m2] at g2
  simp only [Value.pointer.injEq,Option.some.injEq,Addr.mk.injEq,and_true] at g2
  have:=Option.some.inj m1
  omega
 subst hb0
 have hset:=k1.setCells (off:=off) (vc:=[.own x e xs]) (us:=[tm.getD t undef]) (fun i=>if i=0 then X t 0 else none) hd1 g1 (by simp;omega) rfl
  (fun z hz=>by simp at hz;subst hz;exact .inr (.inl ⟨x,e,xs,rfl⟩)) (fun j z u hz hu=>by
   cases j with
   | zero =>
    simp only [List.getElem?_cons_zero,Option.some.injEq] at hz hu
    subst hz
    subst hu
    show ZQ c.P w lim x e xs _ (if 0=0 then X t 0 else none)
    rw [if_pos rfl]
    exact k2
   | succ j => simp at hz) g3 (fun k h1 h2 i hi hr => by
   rcases hnr with hnr | hdr
   ·exact Zbr k1 hd1 hnr h1 (by simpa using h2) hr
   ·rcases Zkw ((t,Vn c.P x e xs)::us) σ' i with h | ⟨u,hu,h⟩
    ·rw [h] at hr
     have:=(hdr.all hT).2 i (k+1) hi hr
     simp at this
    ·rw [h] at hr
     rcases List.mem_cons.1 hu with rfl | hu
     ·cases x<;>rcases hr with hr | ⟨_,hr⟩ <;> cases hr
     ·rcases hus' with ⟨_,rfl⟩ | hda
      ·simp at hu
      ·rw [(hda.1 u hu).2.1] at hr
       rcases hr with hr | ⟨_,hr⟩ <;> cases hr) (fun j b' hb'=>by
   by_cases hj:j=0
   ·subst hj
    rw [if_pos rfl] at hb'
    exact ⟨by simp,(k3 b' hb').1,(hsim.ours t 0 b' hb').1,(k3 b' hb').2,fun i' hi'=>by
     by_cases hz:i'=0
     ·exact hz.symm
     ·rw [if_neg hz] at hi';cases hi'⟩
   ·rw [if_neg hj] at hb';cases hb') (hnw:=fun j e1 xs1 b' m1 m2 m3=>by
   by_cases hj:j=0
   ·subst hj
    rw [if_pos rfl] at m3
    simp only [List.getElem?_cons_zero,Option.some.injEq,AV.own.injEq] at m1
    obtain ⟨rfl,rfl,rfl⟩:=m1
    rw [k4 _ (Nat.le_trans hsim.ntN (Nat.le_add_right _ _))]
    exact hsim.nst t 0 _ _ b' (by rw [ht'];rfl) m2 m3
   ·rw [if_neg hj] at m3;cases m3)
 refine JQ (w':=w.setRow b0 (arr.toList.take off++[tm.getD t undef]++arr.toList.drop (off+1)).toArray) ?_ (hnx undef _ ?_)
 ·have hcell:(tm.getD t undef).cells = [tm.getD t undef].toArray∧(tm.getD t undef).oneCell'=true:=ZQ.cells1 k2
  have hst:=Yy (P:=P) (T:=T) (w:=w) (b:=b0) (off:=off) (v:=tm.getD t undef) hi hcell.1 (by simp [hn]) g3 (by simp [g4];omega) (fun u hu=>by
   simp at hu
   subst hu
   simpa using hcell.2)
  have hev:Act.eval ⟨tm,[]⟩ (.tmp t)=tm.getD t undef:=rfl
  simp only [execOp,ho,h2,hev,Sem.run_bind,hst,Result.andThen_ok,Sem.run_pure]
  rfl
 ·have hl:cs.take off++[.own x e xs]++cs.drop (off + [AV.own x e xs].length)=cs.set off (.own x e xs):=Wz cs off _ hfit
  rw [hl,hc] at hset
  rw [Vr]
  exact Zy hset rfl (k:=0) trivial
theorem Ws {P:Program} {o:Oper} {σ:Nat→AV} {T:TypeId} {a:Operand} {d off:Nat} {cs:List AV} {e:TypeId} {xs:List (List AV)} (ho:o.op = .load T a) (hT:Z0 P T=some false)
  (ha:Zr P σ a = .ptr d off) (hd:σ d = .box cs) (hx:cs[off]? = some (.own true e xs)):JA P o σ (.mref d (off+1)) [] [d]:=by
 refine ZE [d] rfl fun c hc σ' tm w lim X hg hfp hsim=>?_
 rw [ho] at hg
 have hv:=J0 hc hsim ha (hg a (by simp [Op.operands]))
 have hd':σ' d = .box cs:=by rw [hfp d (by simp),hd]
 rw [← hc] at hv
 obtain ⟨b,h1,h2,h3⟩:=Ko hsim hd' hv
 have hlt:off < cs.length:=(List.getElem?_eq_some_iff.1 hx).1
 obtain ⟨b0,arr,ty,g1,g2,g3,g4,g5,g6,g7⟩:=h3
 have hb0:b0=b:=by rw [g1] at h1;exact Option.some.inj h1
 subst hb0
 have hu:arr[off]? = some arr[off]:=Array.getElem?_eq_getElem (by omega)
 refine ⟨arr[off],?_,e,xs,by rw [hd'];simp only [Zo,hx],?_⟩
 ·have hcell:w.cell? ⟨b0,off,none⟩=some arr[off]:=by rw [Zs g3];exact hu
  simp [execOp,ho,h2,Jy hT hcell]
 ·have:=ZQ.sliceV (show ZQ c.P w lim true e xs arr[off] (X d (off+1)) from g7 off _ _ hx hu) (hsim.deepB (xs:=xs) (by rw [hd'];simp only [ZX,hx]))
  rw [hc] at this
  exact this
theorem Wo {T':Odr} {P:Program} {o:Oper} {σ:Nat→AV} {T:TypeId} {a:Operand} {d off:Nat} {cs:List AV} {e:TypeId} {xs:List (List AV)} (ho:o.op = .load T a) (hT:Z0 P T=some false)
  (ha:Zr P σ a = .ptr d off) (hd:σ d = .box cs) (hx:cs[off]? = some (.own true e xs)) (hk:T'.kp d off=true):YY T' P o σ (.mref d (off+1)) [] []:=by
 refine Zch hd fun σ' hrel=>?_
 obtain ⟨cs2,y,h1,h2,h3⟩:=Ze5 hrel hd hk hx
 obtain ⟨ys,rfl⟩:=ZgH h3
 exact ⟨cs2,h1,fun σ2 g1 g2=>Ws ho hT ((Zby hd g1 g2 a).trans ha) g2 h2⟩
theorem Zd1 {P:Program} {o:Oper} {σ:Nat→AV} {T:TypeId} {a:Operand} {d off:Nat} {cs:List AV} {e:TypeId} {xs:List (List AV)} (ho:o.op = .load T a) (hT:Z0 P T=some false)
  (ha:Zr P σ a = .ptr d off) (hd:σ d = .box cs) (hx:cs[off]? = some (.own false e xs)):JA P o σ (.own false e xs) [(d,.box (cs.set off (.slice false (P.cellsOf e) xs)))] [d]:=by
 intro c hc σ' tm w lim X hid hag hsim next Q hn
 have hg:Zr P σ' a=Zr P σ a:=ZA fun t ht=>hid t (by simp [Zt (o:=o) (x:=a) (by rw [ho];simp [Op.operands]) ht])
 have hv:=J0 hc hsim ha hg
 have hd':σ' d = .box cs:=by rw [hag d (by simp),hd]
 rw [← hc] at hv
 obtain ⟨b,h1,h2,h3⟩:=Ko hsim hd' hv
 have hlt:off < cs.length:=(List.getElem?_eq_some_iff.1 hx).1
 have hrel:=hsim.rel d
 rw [hd'] at hrel
 obtain ⟨b0,arr,ty,g1,g2,g3,g4,g5,g6,g7⟩:=(show ZI c.P w lim (X d) cs _ from hrel)
 have hb0:b0=b:=by rw [g1] at h1;exact Option.some.inj h1
 subst hb0
 have hlt':off < arr.size:=by omega
 have hu:arr[off]? = some arr[off]:=Array.getElem?_eq_getElem hlt'
 have hown:ZQ c.P w lim false e xs arr[off] (X d (off+1)):=g7 off _ _ hx hu
 have hdn:d < c.nt:=by
  rcases Nat.lt_or_ge d c.nt with hlt | hge
  ·exact hlt
  ·have:=hsim.out d hge;rw [hd'] at this;rcases this with h0 | h0<;>cases h0
 have h1':Sim c (upd σ' d (.box (cs.set off (.slice false (P.cellsOf e) xs)))) tm w lim (KH X d fun k=>if k=off+1 then none else X d k):=by
  refine hsim.putRow (S:=fun _=>False) _ (ZN.refl w lim _) (fun _ hs=>hs.elim) hdn rfl (fun j _=>rfl) (.inr ⟨⟨_,rfl⟩,by rw [if_neg (by omega)],rfl⟩) (fun i q hi hr=>?_) ?_ (fun k b hk=>?_) (fun k k' b hk hk'=>?_) (hns:=fun k e1 xs1 b m1 m2 m3=>?_)
  ·obtain ⟨p,hp⟩:=Y7 hsim hr
   rw [hd'] at hp
   cases q with
   | zero => simp [Zo] at hp
   | succ q =>
    have hqo:q≠off:=by
     intro he
     subst he
     simp [Zo,hx] at hp
    refine ⟨fun e2 xs2 hex=>⟨xs2,?_,rfl⟩,by rw [if_neg (by omega)],fun _ _=>.of rfl⟩
    rw [hd'] at hex
    simp only [Zo,List.getElem?_set_ne (Ne.symm hqo)] at hex ⊢
    exact hex
  ·refine ⟨b0,arr,ty,by rw [Zp];exact g1,g2,g3,by simp [g4],g5,fun y hy=>?_,fun j y u hy hju=>?_⟩
   ·obtain ⟨j,hj⟩:=List.mem_iff_getElem?.1 hy
    by_cases hji:j=off
    ·subst hji
     rw [List.getElem?_set_self hlt] at hj
     simp only [Option.some.injEq] at hj
     subst hj
     exact .inl rfl
    ·rw [List.getElem?_set_ne (fun h=>hji h.symm)] at hj
     exact g6 y (List.mem_of_getElem? hj)
   ·rw [Zp]
    by_cases hji:j=off
    ·subst hji
     rw [List.getElem?_set_self hlt] at hy
     simp only [Option.some.injEq] at hy
     subst hy
     rw [hu] at hju
     simp only [Option.some.injEq] at hju
     subst hju
     have:=ZQ.rep hown false rfl
     rw [hc] at this
     exact this
    ·rw [List.getElem?_set_ne (fun h=>hji h.symm)] at hy
     rw [if_neg (by omega)]
     exact g7 j y u hy hju
  ·split at hk
   ·cases hk
   ·exact ⟨(hsim.ours d k b hk).1,(hsim.ours d k b hk).2,fun a j ha hj=>ha (hsim.dist a j d k b hj hk).1⟩
  ·split at hk<;>split at hk'
   ·omega
   ·cases hk
   ·cases hk'
   ·exact (hsim.dist d k d k' b hk hk').2
  ·rcases Yp m1 with ⟨_,h⟩ | ⟨h,h'⟩
   ·cases h
   ·rw [if_neg h] at m3
    exact hsim.nst d k e1 xs1 b (by rw [hd'];exact h') m2 m3
 refine Zq (v:=arr[off]) (w':=w) ?_ (hn _ w (Z8 h1' hown (fun b hb=>⟨(hsim.ours d _ b hb).2,fun a j haj=>?_⟩) (fun hx=>by cases hx) fun hx=>by cases hx))
 ·have hcell:w.cell? ⟨b0,off,none⟩=some arr[off]:=by rw [Zs g3];exact hu
  simp [execOp,ho,h2,Jy hT hcell]
 ·by_cases ha:a=d
  ·subst ha
   rw [Zp] at haj
   split at haj
   ·cases haj
   ·rename_i hne
    exact hne (hsim.dist a j a (off+1) b haj hb).2
  ·rw [Zk X _ ha] at haj
   exact ha (hsim.dist a j d (off+1) b haj hb).1
theorem Zcz {T':Odr} {P:Program} {o:Oper} {σ:Nat→AV} {T:TypeId} {a:Operand} {d off:Nat} {cs:List AV} {e:TypeId} {xs:List (List AV)} {us:List (Nat×AV)} (ho:o.op = .load T a) (hT:Z0 P T=some false)
  (ha:Zr P σ a = .ptr d off) (hd:σ d = .box cs) (hx:cs[off]? = some (.own true e xs)) (hus:Yd T' σ d us) (hmv:Mv P e xs):YY T' P o σ (.own true e xs) (us++[(d,.box (cs.set off .gone))]) [d]:=by
 intro c hc σ' tm w lim X hid hag hT' hsim next Q hn
 have hg:Zr P σ' a=Zr P σ a:=ZA fun t ht=>hid t (by simp [Zt (o:=o) (x:=a) (by rw [ho];simp [Op.operands]) ht])
 have hv:=J0 hc hsim ha hg
 have hd':σ' d = .box cs:=by rw [hag d (by simp),hd]
 rw [← hc] at hv
 obtain ⟨b,h1,h2,h3⟩:=Ko hsim hd' hv
 have hlt:off < cs.length:=(List.getElem?_eq_some_iff.1 hx).1
 have hda:=hus.all hT'
 obtain ⟨hd1,hd2⟩:=hda
 obtain ⟨X1,k1,k2⟩:=hsim.drops us fun u hu=>by
  obtain ⟨m0,m1,k,m3⟩:=hd1 u hu
  obtain ⟨p1,p2,p3⟩:=Yw m3
  exact ⟨m1,p2,Yl hsim (fun e=>by rw [e] at m3;rcases m3 with m3 | ⟨_,m3⟩ <;> cases m3) p3⟩
 have hdm:d∉us.map (·.1):=by
  intro hm
  obtain ⟨u,hu,rfl⟩:=List.mem_map.1 hm
  exact (hd1 u hu).1 rfl
 have hdead:∀ (σ:Nat→AV) (i:Nat),Ju σ us i=if i∈us.map (·.1) then .dead else σ i:=fun σ i=>Kt us σ i fun u hu=>(hd1 u hu).2.1
 have hds:Ju σ' us d = .box cs:=by rw [hdead,if_neg hdm,hd']
 have hnor:∀ i k,i≠d→Je (Ju σ' us i) d k→False:=fun i k hi hr=>by
  rw [hdead] at hr
  split at hr
  ·rcases hr with hr | ⟨_,hr⟩ <;> cases hr
  ·rename_i hm
   exact hm (hd2 i k hi hr)
 have hXd:X1 d=X d:=k2 d hdm
 have hrel:=k1.rel d
 rw [hds] at hrel
 obtain ⟨b0,arr,ty,g1,g2,g3,g4,g5,g6,g7⟩:=(show ZI c.P w lim (X1 d) cs _ from hrel)
 have hb0:b0=b:=by rw [hXd] at g1;rw [g1] at h1;exact Option.some.inj h1
 subst hb0
 have hlt':off < arr.size:=by omega
 have hu:arr[off]? = some arr[off]:=Array.getElem?_eq_getElem hlt'
 have hown:ZQ c.P w lim true e xs arr[off] (X1 d (off+1)):=g7 off _ _ hx hu
 have hdn:d < c.nt:=by
  rcases Nat.lt_or_ge d c.nt with hlt | hge
  ·exact hlt
  ·have:=hsim.out d hge;rw [hd'] at this;rcases this with h0 | h0<;>cases h0
 have h1':Sim c (upd (Ju σ' us) d (.box (cs.set off .gone))) tm w lim (KH X1 d fun k=>if k=off+1 then none else X1 d k):=by
  refine k1.putRow (S:=fun _=>False) _ (ZN.refl w lim _) (fun _ hs=>hs.elim) hdn rfl (fun j _=>rfl) (.inr ⟨⟨_,rfl⟩,by rw [if_neg (by omega)],rfl⟩) (fun i q hi hr=>(hnor i q hi hr).elim) ?_ (fun k b hk=>?_) (fun k k' b hk hk'=>?_) (hns:=fun k e1 xs1 b m1 m2 m3=>?_)
  ·refine ⟨b0,arr,ty,by rw [Zp];exact g1,g2,g3,by simp [g4],g5,fun y hy=>?_,fun j y u hy hju=>?_⟩
   ·obtain ⟨j,hj⟩:=List.mem_iff_getElem?.1 hy
    by_cases hji:j=off
    ·subst hji
     rw [List.getElem?_set_self hlt] at hj
     simp only [Option.some.injEq] at hj
     subst hj
     exact .inr (.inr rfl)
    ·rw [List.getElem?_set_ne (fun h=>hji h.symm)] at hj
     exact g6 y (List.mem_of_getElem? hj)
   ·rw [Zp]
    by_cases hji:j=off
    ·subst hji
     rw [List.getElem?_set_self hlt] at hy
     simp only [Option.some.injEq] at hy
     subst hy
     exact trivial
    ·rw [List.getElem?_set_ne (fun h=>hji h.symm)] at hy
     rw [if_neg (by omega)]
     exact g7 j y u hy hju
  ·split at hk
   ·cases hk
   ·exact ⟨(k1.ours d k b hk).1,(k1.ours d k b hk).2,fun a j ha hj=>ha (k1.dist a j d k b hj hk).1⟩
  ·by_cases e1:k=off+1
   ·rw [if_pos e1] at hk;cases hk
   ·by_cases e2:k'=off+1
    ·rw [if_pos e2] at hk';cases hk'
    ·rw [if_neg e1] at hk
     rw [if_neg e2] at hk'
     exact (k1.dist d k d k' b hk hk').2
  ·rcases Yp m1 with ⟨_,h⟩ | ⟨h,h'⟩
   ·cases h
   ·rw [if_neg h] at m3
    exact k1.nst d k e1 xs1 b (by rw [hds];exact h') m2 m3
 rw [← Vr] at h1'
 refine Zq (v:=arr[off]) (w':=w) ?_ (hn _ w (Z8 h1' hown (fun b hb=>⟨(k1.ours d _ b hb).2,fun a j haj=>?_⟩) (fun _=>.mv (by rw [hc];exact hmv)) fun _ hdp b hb=>?_))
 rotate_left 2
 ·have:=hsim.ntN
  rw [Zk X1 _ (show ngN+b≠d by omega)]
  exact k1.nst d (off+1) e xs b (by rw [hds];simp only [ZX,hx]) hdp hb
 ·have hcell:w.cell? ⟨b0,off,none⟩=some arr[off]:=by rw [Zs g3];exact hu
  simp [execOp,ho,h2,Jy hT hcell]
 ·by_cases ha:a=d
  ·subst ha
   rw [Zp] at haj
   split at haj
   ·cases haj
   ·rename_i hne
    exact hne (k1.dist a j a (off+1) b haj hb).2
  ·rw [Zk X1 _ ha] at haj
   exact ha (k1.dist a j d (off+1) b haj hb).1
theorem Zb0 {P:Program} {T ty e:TypeId} {i:TypeInfo} (hT:P.underlying T=some (.slice e)) (hi:P.info? e=some i) (w:World) (base:Option Addr) (n cap:Nat) (hn:n≤cap) (a:Option Addr) (c:Nat) :
  (Builtin.append_ #[T,T] ty #[.slice base n cap,.slice a 0 c]).run P w = .ok (.slice base n cap) w:=by
 cases a<;>cases base <;>
  simp [Builtin.append_,run_underlying hT,sizeOf,typeInfo,hi,Builtin.lenOf,hn,Builtin.firstCells,loadCells,loadCellsFrom,storeCells]
theorem ZoO {P:Program} {w:World} {lim:Nat→Nat} (x:Bool) {e:TypeId} {zs:List (List AV)} {us:List Value} {arr:Array Value} {cap:Nat} (h1:us.length=zs.length*P.cellsOf e) (h2:zs.length≤cap) (h3:cap≤maxLen)
  (h4:arr.size=cap*P.cellsOf e) (h5:arr.toList.take us.length=us) (h6:∀ x∈zs,x.length=P.cellsOf e) (h7:∀ x∈zs,∀ c∈x,c.isCell=true)
  (h8:∀ (j:Nat) (c:AV) (u:Value),zs.flatten[j]? = some c→us[j]? = some u→Rep w lim c u) (S:Nat→Prop) :
  ZQ P (w.drew.alloc (.cells arr e)) (fun b=>if b=w.heap.size then (if x=true then 0 else us.length) else lim b) x e zs (.slice (some ⟨w.heap.size,0,none⟩) zs.length cap) (some w.heap.size)∧
  ZN w lim (w.drew.alloc (.cells arr e)) (fun b=>if b=w.heap.size then (if x=true then 0 else us.length) else lim b) S:=by
 have hstep:ZN w lim (w.drew.alloc (.cells arr e)) (fun b=>if b=w.heap.size then (if x=true then 0 else us.length) else lim b) S:=by
  have:=YC w.drew lim arr e (if x=true then 0 else us.length) S
  exact ⟨this.os,this.tape,this.output,this.size,this.frz,this.blk,this.ext⟩
 refine ⟨.inl ⟨us,⟨h1,.inr ⟨w.heap.size,cap,arr,rfl,Nat.zero_le _,YF w.drew arr e,h2,h3,h4,by rw [← h1];exact h5⟩⟩,rfl,fun b hb=>?_,h6,h7,fun j c u hc hu=>(h8 j c u hc hu).mono hstep.ext⟩,hstep⟩
 simp only [Option.some.injEq] at hb
 subst hb
 exact if_pos rfl
def RdS (w:World) (lim:Nat→Nat) (s:Nat) (ys:List (List AV)) (v:Value):Prop:=
 (ys = []∧∃ a c,v = .slice a 0 c)∨∃ (b o cap:Nat) (us:List Value),v = .slice (some ⟨b,o,none⟩) ys.length cap∧(∀ e∈ys,e.length=s)∧(∀ e∈ys,∀ c∈e,c.isCell=true)∧us.length=ys.length*s∧
  (∀ (j:Nat) (u:Value),us[j]? = some u→w.cell? ⟨b,o+j,none⟩=some u)∧∀ (j:Nat) (c:AV) (u:Value),ys.flatten[j]? = some c→us[j]? = some u→Rep w lim c u
theorem RdS.of {w:World} {lim:Nat→Nat} {f:Bool} {s:Nat} {ys:List (List AV)} {v:Value} (h:Rep w lim (.slice f s ys) v):RdS w lim s ys v:=by
 cases h with
 | sliceN => exact .inl ⟨rfl, _, _, rfl⟩
 | sliceE _ => exact .inl ⟨rfl, _, _, rfl⟩
 | @sliceC _ _ _ b o ycap news hs hcl hf hle hlim hnl hncell hnr => exact .inr ⟨b, o, ycap, news, rfl, hs, hcl, hnl, hncell, hnr⟩
theorem RdS.form {w:World} {lim:Nat→Nat} {s:Nat} {ys:List (List AV)} {v:Value} (h:RdS w lim s ys v):∃ a c,v = .slice a ys.length c:=by
 rcases h with ⟨rfl,a,c,h⟩ | ⟨b,o,cap,us,h,_⟩
 ·exact ⟨a,c,h⟩
 ·exact ⟨_,_,h⟩
theorem Ky {P:Program} {T ty e:TypeId} {i:TypeInfo} {z:Value} {w:World} {lim:Nat→Nat} {xs ys:List (List AV)} {v yv:Value} {ob:Option Nat} {x:Bool} (hT:P.underlying T=some (.slice e)) (hi:P.info? e=some i)
  (hz:i.zero=some z) (hzs:z.cells.size=i.size) (hx:ZQ P w lim x e xs v ob) (hy:RdS w lim (P.cellsOf e) ys yv) (hroom:(xs.length+ys.length)*(i.bytes+1)≤Ja) (hnm:Zm P e=false) :
  ∃ v' w' lim' ob',(Builtin.append_ #[T,T] ty #[v,yv]).run P w = .ok v' w'∧ZQ P w' lim' x e (xs++ys) v' ob'∧ZN w lim w' lim' (fun b=>ob=some b)∧(ob'=ob∨ob'=some w.heap.size):=by
 have hsz:P.cellsOf e=i.size:=ZG hi
 have hb1:xs.length+ys.length≤1099511627776:=by
  have:(xs.length+ys.length)*1≤(xs.length+ys.length)*(i.bytes+1):=Nat.mul_le_mul_left _ (by omega)
  unfold Ja at hroom
  omega
 have hb2:(xs.length+ys.length)*i.bytes≤1099511627776:=by
  have:(xs.length+ys.length)*i.bytes≤(xs.length+ys.length)*(i.bytes+1):=Nat.mul_le_mul_left _ (by omega)
  unfold Ja at hroom
  omega
 have hvform:∃ base cap,v = .slice base xs.length cap∧xs.length≤cap:=by
  rcases hx.noMap hnm with ⟨us,hr,_⟩ | ⟨rfl,_,a,rfl⟩
  ·rcases hr.2 with ⟨hv,hn⟩ | ⟨g,cap,cur,hv,_,_,hnc,_⟩
   ·exact ⟨none,0,by rw [hv,hn],by omega⟩
   ·exact ⟨_,cap,hv,hnc⟩
  ·exact ⟨_,0,rfl,Nat.le_refl _⟩
 by_cases hm:ys = []
 ·subst hm
  obtain ⟨base,cap,hv,hle⟩:=hvform
  obtain ⟨a,c,hyv⟩:=hy.form
  refine ⟨v,w,lim,ob,?_,by rw [List.append_nil];exact hx,ZN.refl w lim _,.inl rfl⟩
  rw [hv,hyv]
  exact Zb0 hT hi w base xs.length cap hle a c
 ·have hm0:0 < ys.length:=List.length_pos_iff.2 hm
  rcases hy with ⟨hye,_⟩ | ⟨b,o,ycap,news,rfl,hs,hcl,hnl,hncell,hnr⟩
  ·exact (hm hye).elim
  ·have hnews:∀ (j:Nat) (u:Value),news[j]? = some u→w.cell? ((⟨b,o,none⟩:Addr).add j)=some u:=fun j u hj=>by rw [JC];exact hncell j u hj
   have hcells:∀ x∈xs++ys,x.length=P.cellsOf e:=by
    intro x hx'
    rcases List.mem_append.1 hx' with h | h
    ·rcases hx.noMap hnm with ⟨_,_,_,_,h4,_⟩ | ⟨rfl,_⟩
     ·exact h4 x h
     ·simp at h
    ·exact hs x h
   have hcc:∀ x∈xs++ys,∀ c∈x,c.isCell=true:=by
    intro x hx'
    rcases List.mem_append.1 hx' with h | h
    ·rcases hx.noMap hnm with ⟨_,_,_,_,_,h5,_⟩ | ⟨rfl,_⟩
     ·exact h5 x h
     ·simp at h
    ·exact hcl x h
   have hnew1:∀ u∈news,u.oneCell'=true:=by
    intro u hu
    obtain ⟨j,hj⟩:=List.mem_iff_getElem?.1 hu
    have hlt:j < ys.flatten.length:=by
     rw [Zl ys _ hs,← hnl];exact (List.getElem?_eq_some_iff.1 hj).1
    have hcell:=hnr j _ u (List.getElem?_eq_getElem hlt) hj
    obtain ⟨y,hy1,hy2⟩:=List.mem_flatten.1 (List.getElem_mem hlt)
    exact hcell.oneCell (hcl y hy1 _ hy2)
   have both:∀ (us:List Value),us.length=xs.length*P.cellsOf e→(∀ x∈xs,x.length=P.cellsOf e)→(∀ (j:Nat) (c:AV) (u:Value),xs.flatten[j]? = some c→us[j]? = some u→Rep w lim c u)→
     ∀ (j:Nat) (c:AV) (u:Value),(xs++ys).flatten[j]? = some c→(us++news)[j]? = some u→Rep w lim c u:=by
    intro us hul hxl hur j c u hc hu
    have hfl:xs.flatten.length=us.length:=by rw [Zl xs _ hxl,hul]
    rw [List.flatten_append] at hc
    by_cases hj:j < us.length
    ·rw [List.getElem?_append_left (by omega)] at hc
     rw [List.getElem?_append_left hj] at hu
     exact hur j c u hc hu
    ·rw [List.getElem?_append_right (by omega),hfl] at hc
     rw [List.getElem?_append_right (by omega)] at hu
     exact hnr _ c u hc hu
   have grown:∀ (us:List Value) (old:Nat),us.length=xs.length*P.cellsOf e→(∀ (j:Nat) (c:AV) (u:Value),xs.flatten[j]? = some c→us[j]? = some u→Rep w lim c u)→(∀ x∈xs,x.length=P.cellsOf e)→
     ∃ lim',ZQ P (w.drew.alloc (.cells (us.toArray++news.toArray++Builtin.zeroCells z.cells (grownCap w (xs.length+ys.length) old e-(xs.length+ys.length))) e)) lim' x e (xs++ys) (.slice (some ⟨w.heap.size,0,none⟩) (xs.length+ys.length) (grownCap w (xs.length+ys.length) old e)) (some w.heap.size)∧
      ZN w lim (w.drew.alloc (.cells (us.toArray++news.toArray++Builtin.zeroCells z.cells (grownCap w (xs.length+ys.length) old e-(xs.length+ys.length))) e)) lim' (fun b=>ob=some b):=by
    intro us old hul hur hxl
    have hge:=grownCap_ge w (xs.length+ys.length) old e
    have hml:=grownCap_le_maxLen w (xs.length+ys.length) old e (by simp only [maxLen];omega)
    have:=ZoO (P:=P) (w:=w) (lim:=lim) x (e:=e) (zs:=xs++ys) (us:=us++news) (arr:=us.toArray++news.toArray++Builtin.zeroCells z.cells (grownCap w (xs.length+ys.length) old e-(xs.length+ys.length)))
     (cap:=grownCap w (xs.length+ys.length) old e) (by rw [List.length_append,List.length_append,hul,hnl,Nat.add_mul]) (by rw [List.length_append];exact hge) hml ?_ ?_ hcells hcc (both us hul hxl hur) (fun b=>ob=some b)
    ·have hla:(xs++ys).length=xs.length+ys.length:=List.length_append
     rw [hla] at this
     exact ⟨_,this.1,this.2⟩
    ·simp only [Array.size_append,List.size_toArray,size_zeroCells,hzs,hul,hnl,hsz,← Nat.add_mul]
     congr 1
     omega
    ·simp only [Array.toList_append]
     exact List.take_left
   rcases hx.noMap hnm with ⟨us,hr,hob,hlimo,hxl,hxc,hur⟩ | ⟨rfl,hob,b',hv⟩
   ·rcases hr.2 with ⟨hv,hn⟩ | ⟨g,cap,cur,hv,hbg,hg,hnc,hcm,hcs,htake⟩
    ·have hxe:xs = []:=List.eq_nil_of_length_eq_zero hn
     have hue:us = []:=List.eq_nil_of_length_eq_zero (by rw [hr.1,hn];simp)
     subst hxe
     subst hue
     have hrun:=run_append_nil (P:=P) w T ty e i z hT hi hz ⟨b,o,none⟩ ys.length ycap news (by rw [hnl,hsz]) hnews hm0 (by omega) (by simp only [List.length_nil,Nat.zero_add] at hb2;omega)
     obtain ⟨lim',h1,h2⟩:=grown [] 0 (by simp) (by simp) (by simp)
     simp only [List.length_nil,Nat.zero_add] at h1 h2
     have hemp:([] : List Value).toArray++news.toArray=news.toArray:=by simp
     rw [hemp] at h1 h2
     rw [hv]
     exact ⟨_,_,lim',_,hrun,h1,h2,.inr rfl⟩
    ·have hobg:ob=some g:=by rw [← hob,hv];rfl
     by_cases hroom':xs.length+ys.length≤cap
     ·have hfit:xs.length*i.size+news.length≤cur.size:=by rw [hnl,hcs,hsz,← Nat.add_mul];exact Nat.mul_le_mul_right _ hroom'
      have hrun:=run_append_room (P:=P) w T ty e i hT hi g xs.length cap cur hg ⟨b,o,none⟩ ys.length ycap news (by rw [hnl,hsz]) hnews hnew1 hroom' hfit
      have htake':cur.toList.take (xs.length*i.size)=us:=by rw [← hsz];exact htake
      rw [htake'] at hrun
      have hul:us.length=xs.length*i.size:=by rw [hr.1,hsz]
      have hstep:ZN w lim (w.setRow g (us++news++cur.toList.drop (xs.length*i.size+news.length)).toArray) (fun k=>if k=g then (if x=true then 0 else us.length+news.length) else lim k) (fun k=>ob=some k):=by
       refine ⟨rfl,rfl,rfl,by simp,fun a _=>Wq w g cur _ e hg a,fun k _ hk=>⟨setRow_other w g k _ (fun h=>hk (by rw [hobg,h])),if_neg (fun h=>hk (by rw [hobg,h]))⟩,fun k hk=>⟨?_,fun p u hp hu=>?_⟩⟩
       ·show lim k≤if k=g then (if x=true then 0 else us.length+news.length) else lim k
        split
        ·rename_i h;subst h;rw [hlimo k hobg];split<;>omega
        ·exact Nat.le_refl _
       ·by_cases h:k=g
        ·subst h
         have hp:p < us.length:=by
          rw [hlimo k hobg] at hp
          split at hp<;>omega
         rw [Zs (setRow_heap w k cur _ e (0,0) hg)]
         rw [Zs hg] at hu
         have h1:us[p]? = some u:=by
          rw [← htake',List.getElem?_take,if_pos (by omega)]
          simpa using hu
         rw [List.getElem?_toArray,List.append_assoc,List.getElem?_append_left hp]
         exact h1
        ·unfold World.cell? at hu ⊢
         rw [setRow_other w g k _ h]
         exact hu
      refine ⟨_,_,_,some g,by rw [hv];exact hrun,.inl ⟨us++news,⟨by rw [List.length_append,List.length_append,hul,hnl,hsz,Nat.add_mul],.inr ⟨g,cap,_,?_,Nat.zero_le _,setRow_heap w g cur _ e (0,0) hg,by rw [List.length_append];exact hroom',hcm,?_,?_⟩⟩,rfl,fun b' hb'=>?_,hcells,hcc,fun j c u hc hu=>(both us hr.1 hxl hur j c u hc hu).mono hstep.ext⟩,hstep,.inl hobg.symm⟩
      ·rw [List.length_append]
      ·simp only [List.size_toArray,List.length_append,List.length_drop,Array.length_toList]
       rw [hcs,hsz]
       rw [hcs,hsz] at hfit
       omega
      ·have:(xs++ys).length*P.cellsOf e=(us++news).length:=by rw [List.length_append,List.length_append,hul,hnl,hsz,Nat.add_mul]
       rw [this]
       exact List.take_left
      ·simp only [Option.some.injEq] at hb'
       subst hb'
       rw [List.length_append]
       exact if_pos rfl
     ·have holds:∀ (j:Nat) (u:Value),us[j]? = some u→w.cell? ((⟨g,0,none⟩:Addr).add j)=some u:=hr.cells (g:=g) (by rw [hv];rfl)
      have hrun:=run_append_grow (P:=P) w T ty e i z hT hi hz ⟨g,0,none⟩ xs.length cap us (by rw [hr.1,hsz]) holds ⟨b,o,none⟩ ys.length ycap news (by rw [hnl,hsz]) hnews (by omega) (by omega) (growslice_fits (by omega) (by omega))
      obtain ⟨lim',h1,h2⟩:=grown us cap hr.1 hur hxl
      exact ⟨_,_,lim',_,by rw [hv];exact hrun,h1,h2,.inr rfl⟩
   ·have hrun:=run_append_grow (P:=P) w T ty e i z hT hi hz b' 0 0 [] (by simp) (by simp) ⟨b,o,none⟩ ys.length ycap news (by rw [hnl,hsz]) hnews (by omega) (by omega) (growslice_fits (by omega) (by simp only [List.length_nil] at hb2;omega))
    obtain ⟨lim',h1,h2⟩:=grown [] 0 (by simp) (by simp) (by simp)
    exact ⟨_,_,lim',_,by rw [hv];exact hrun,h1,h2,.inr rfl⟩
end Go.AM
end

section
namespace Go.AM
theorem Zba {P:Program} {o:Oper} {σ:Nat→AV} (x:Bool) {T e:TypeId} {len:Nat} {parts:Array (Nat×Operand)} {i:TypeInfo} {z:Value} {zc cs cs':List AV} (ho:o.op = .buildSlice T len parts)
  (hT:P.underlying T=some (.slice e)) (hi:P.info? e=some i) (hz:i.zero=some z) (hzc:Zac z.cells.toList=some zc) (hzs:z.cells.size=i.size) (hs0:0 < i.size) (hbig:len*i.size≤1048576) (hnm:Zm P e=false)
  (hf:ZbA (fun j=>some (j*i.size,i.size)) ((List.replicate len zc).flatten) (parts.toList.map fun p=>(p.1,Zr P σ p.2))=some cs)
  (hw:cs'.length=cs.length∧∀ (w:World) (lim:Nat→Nat) (us:List Value),Yf w lim cs us→Yf w lim cs' us):JA P o σ (.own x e (Wi i.size cs' len)) [] []:=by
 intro c hc σ' tm w lim X hid hag hsim next Q hn
 have hg:∀ p∈parts.toList,Zr P σ' p.2=Zr P σ p.2:=fun p hp=>ZA fun t ht=>hid t (by
  refine Zt (x:=p.2) ?_ ht
  rw [ho]
  simp only [Op.operands,List.mem_toArray]
  exact List.mem_map.2 ⟨p,hp,rfl⟩)
 obtain ⟨h1,h2⟩:=ZcY hc hsim parts hg
 have hz0:=YI (YZ (w:=w) (lim:=lim) hzc) len
 obtain ⟨us',h3,h4⟩:=ZdL (P:=P) (X:=X) (σ:=σ') (k:=0) _ _ _ _ _ hz0 h1 h2 hf
 have hzl:z.cells.toList.length=i.size:=by rw [← hzs];simp
 have hcl:cs.length=len*i.size:=by
  have hinv:∀ (parts:List (Nat×AV)) (cells out:List AV),ZbA (fun j=>some (j*i.size,i.size)) cells parts=some out→out.length=cells.length:=by
   intro parts
   induction parts with
   | nil => intro cells out h; simp only [ZbA, Option.some.injEq] at h; rw [h]
   | cons p parts ih =>
    intro cells out h
    simp only [ZbA] at h
    split at h
    ·split at h
     ·rename_i hcond
      rw [ih _ _ h]
      simp
      omega
     ·cases h
    ·cases h
  rw [hinv _ _ _ hf]
  have hzcl:zc.length=i.size:=by rw [(YZ (w:=w) (lim:=lim) hzc).1,hzl]
  simp [hzcl]
 replace h4:=hw.2 _ _ _ h4
 have hcl':cs'.length=len*i.size:=by rw [hw.1,hcl]
 have hb:(Instr.buildSlice T len (parts.map fun p=>(p.1,Act.eval ⟨tm,[]⟩ p.2))).run P w = .ok (.slice (some ⟨w.heap.size,0,none⟩) len len) (w.alloc (.cells us'.toArray e)):=by
  have hnb:¬ (2^24 < len*i.size):=by omega
  by_cases hnz:len*i.size=0
  ·have hl0:len=0:=(Nat.mul_eq_zero.1 hnz).elim id fun h=>by omega
   subst hl0
   have hr0:Array.range 0 = #[]:=rfl
   simp only [Instr.buildSlice,Sem.run_bind,run_underlying hT,Result.andThen_ok,sizeOf,typeInfo,run_program,hi,Sem.run_pure,gt_iff_lt,Nat.zero_mul,Nat.not_lt_zero,if_false,if_true,hr0,Array.map_empty]
   simp only [List.replicate_zero,List.flatten_nil] at h3
   rw [h3]
   simp [newRow]
  ·have hrep:=replicate_zero z.cells.toList len
   rw [hzl,Array.toArray_toList] at hrep
   simp only [Instr.buildSlice,Sem.run_bind,run_underlying hT,Result.andThen_ok,sizeOf,typeInfo,run_program,hi,Sem.run_pure,gt_iff_lt,if_neg hnb,if_neg hnz,zeroValue,hz]
   rw [hrep,h3]
   simp [newRow]
 have hsz:P.cellsOf e=i.size:=ZG hi
 have hstep:=YC w lim us'.toArray e (if x=true then 0 else us'.length) (fun _=>False)
 have hel:(Wi i.size cs' len).length=len:=by simp [Wi]
 have hfl:=Zd9 i.size len cs' hcl'
 have h5:=h4.mono hstep.ext
 have hlu:us'.length=len*i.size:=by rw [← h4.1,hcl']
 have hlm:len≤maxLen:=by
  have:len*1≤len*i.size:=Nat.mul_le_mul_left _ hs0
  have:(1048576:Nat)≤maxLen:=by decide
  omega
 have key:ZQ P (w.alloc (.cells us'.toArray e)) (fun b=>if b=w.heap.size then (if x=true then 0 else us'.length) else lim b) x e (Wi i.size cs' len) (.slice (some ⟨w.heap.size,0,none⟩) (Wi i.size cs' len).length len) (some w.heap.size):=by
  refine .inl ⟨us',⟨by rw [hel,hsz,hlu],.inr ⟨w.heap.size,len,us'.toArray,rfl,Nat.zero_le _,YF w _ e,by rw [hel];exact Nat.le_refl _,hlm,by simp [hsz,hlu],by rw [hel,hsz,← hlu];simp⟩⟩,rfl,fun b hb=>?_,fun x hx=>?_,fun x hx y hy=>?_,fun j y u hy hu=>?_⟩
  ·simp only [Option.some.injEq] at hb
   subst hb
   exact if_pos rfl
  ·obtain ⟨j,hj,rfl⟩:=List.mem_map.1 hx
   have hj':j < len:=List.mem_range.1 hj
   have hm:j*i.size+i.size≤len*i.size:=by rw [← Nat.succ_mul];exact Nat.mul_le_mul_right _ hj'
   simp [hcl',hsz]
   omega
  ·refine h5.2.1 y ?_
   rw [← hfl]
   exact List.mem_flatten.2 ⟨x,hx,hy⟩
  ·rw [hfl] at hy
   exact h5.2.2 j y u hy hu
 rw [hel] at key
 have hw2:=hsim.world hstep fun _ hs=>hs.elim
 refine Zq (v:=.slice (some ⟨w.heap.size,0,none⟩) len len) (w':=w.alloc (.cells us'.toArray e)) (by simp only [execOp,ho,Sem.run_bind,hb,Result.andThen_ok,Sem.run_pure]) (hn _ _ (Z8 hw2 (by rw [hc];exact key) (fun b hb=>?_) (fun _=>.cells fun b hb=>by cases hb;exact ⟨_,_,_,YF w _ e⟩) fun _ hd=>by rw [hc,ZT hnm] at hd;cases hd))
 simp only [Option.some.injEq] at hb
 subst hb
 exact ⟨.inr hsim.frm.size,fun i j=>YT hsim i j⟩
theorem ZbF {T':Odr} {P:Program} {o:Oper} {σ:Nat→AV} {cl:Call} {T e:TypeId} {i:TypeInfo} {z:Value} {t:Nat} {y:Operand} {x:Bool} {xs ys:List (List AV)} {us:List (Nat×AV)} {f:Bool} (ho:o.op = .call cl) (hcl:cl.callee = .builtin .append)
  (hargs:cl.args.toList = [.tmp t,y]) (hts:cl.argTypes.toList = [T,T]) (hT:P.underlying T=some (.slice e)) (hi:P.info? e=some i) (hz:i.zero=some z) (hzs:z.cells.size=i.size)
  (ht:σ t = .own x e xs) (hy:Zr P σ y = .slice f i.size ys) (hroom:(xs.length+ys.length)*(i.bytes+1)≤Ja) (hus:(x=false∧us = [])∨Yd T' σ t us) (hnm:Zm P e=false) :
  YY T' P o σ (.own x e (xs++ys)) ((t,Vn P x e xs)::us) []:=by
 have hargs':cl.args = #[.tmp t,y]:=by apply Array.toList_inj.1;rw [hargs]
 have hts':cl.argTypes = #[T,T]:=by apply Array.toList_inj.1;rw [hts]
 intro c hc σ' tm w lim X hid hag hTx hsim next Q hn
 have hsz:P.cellsOf e=i.size:=ZG hi
 have hgy:Zr P σ' y=Zr P σ y:=ZA fun t ht=>hid t (by simp [Zt (o:=o) (x:=y) (by rw [ho];simp [Op.operands,Call.operands,hargs',hcl]) ht])
 have ht':σ' t = .own x e xs:=by rw [hag t (by simp),ht]
 obtain ⟨X1,h1,h2,h3,_⟩:=hsim.freeAll (us:=us) ht' (hus.imp id fun h=>h.all hTx)
 have hyv:Rep w lim (.slice f (P.cellsOf e) ys) (Act.eval ⟨tm,[]⟩ y):=by rw [hsz];exact J0 hc hsim hy hgy
 rw [hc] at h2
 obtain ⟨v',w',lim',ob',r1,r2,r3,r4⟩:=Ky (ty:=o.type) hT hi hz hzs h2 (.of hyv) hroom hnm
 have hw:=h1.world r3 h3
 refine Zq (v:=v') (w':=w') ?_ (hn _ w' ?_)
 ·have hev:Act.eval ⟨tm,[]⟩ (.tmp t)=tm.getD t undef:=rfl
  simp only [execOp,ho,resolve,hcl,hargs',hts',List.map_toArray,List.map_cons,List.map_nil,Sem.run_bind,Sem.run_pure,Result.andThen_ok,invoke,builtin,hev,r1]
 ·rw [hc] at hw
  rw [← hc] at r2
  refine Z8 hw r2 (fun b hb=>?_) (fun _=>.noMap (by rw [hc];exact hnm)) fun _ hd=>by rw [hc,ZT hnm] at hd;cases hd
  rcases r4 with r4 | r4
  ·rw [r4] at hb;exact h3 b hb
  ·rw [r4] at hb
   simp only [Option.some.injEq] at hb
   subst hb
   exact ⟨.inr hsim.frm.size,fun i j=>YT h1 i j⟩
theorem Za4 {P:Program} {w:World} {lim:Nat→Nat} {x:Bool} {e:TypeId} {v:Value} {s:Nat} (h:Rep w lim (.slice true s []) v):ZQ P w lim x e [] v none:=by
 have key:∀ (y:AV),Rep w lim y v→y = .slice true s []→ZQ P w lim x e [] v none:=by
  intro y hy hye
  cases hy with
  | sliceN => exact .inl ⟨[], World.ownsRow_nil _ 0 e _, rfl, by simp, by simp, by simp, by simp⟩
  | @sliceE f s' a cap hf =>
   injection hye with h1 h2 h3
   have:=hf h1
   subst this
   exact .inr (.inl ⟨rfl,rfl,a,rfl⟩)
  | @sliceC f s' xs b o cap us hs hc hf hle hlim hus hcell hr =>
   injection hye with h1 h2 h3
   subst h3
   have:=hf h1
   simp at this
   subst this
   exact .inr (.inl ⟨rfl,rfl,_,rfl⟩)
  | val _ => cases hye
  | agg _ _ _ => cases hye
  | nest => cases hye
 exact key _ h rfl
theorem ZaH {P:Program} {o:Oper} {σ:Nat→AV} (ex:Bool) {cl:Call} {T e:TypeId} {i:TypeInfo} {z:Value} {x y:Operand} {ys:List (List AV)} {f:Bool} {s:Nat} (ho:o.op = .call cl) (hcl:cl.callee = .builtin .append)
  (hargs:cl.args.toList = [x,y]) (hts:cl.argTypes.toList = [T,T]) (hT:P.underlying T=some (.slice e)) (hi:P.info? e=some i) (hz:i.zero=some z) (hzs:z.cells.size=i.size)
  (hx:Zr P σ x = .slice true s []) (hy:Zr P σ y = .slice f i.size ys) (hroom:(([] : List (List AV)).length+ys.length)*(i.bytes+1)≤Ja) (hnm:Zm P e=false) :
  JA P o σ (.own ex e ys) [] []:=by
 have hargs':cl.args = #[x,y]:=by apply Array.toList_inj.1;rw [hargs]
 have hts':cl.argTypes = #[T,T]:=by apply Array.toList_inj.1;rw [hts]
 intro c hc σ' tm w lim X hid hag hsim next Q hn
 have hsz:P.cellsOf e=i.size:=ZG hi
 have hgx:Zr P σ' x=Zr P σ x:=ZA fun t ht=>hid t (by simp [Zt (o:=o) (x:=x) (by rw [ho];simp [Op.operands,Call.operands,hargs',hcl]) ht])
 have hgy:Zr P σ' y=Zr P σ y:=ZA fun t ht=>hid t (by simp [Zt (o:=o) (x:=y) (by rw [ho];simp [Op.operands,Call.operands,hargs',hcl]) ht])
 have hxv:ZQ P w lim ex e [] (Act.eval ⟨tm,[]⟩ x) none:=Za4 (s:=s) (J0 hc hsim hx hgx)
 have hyv:Rep w lim (.slice f (P.cellsOf e) ys) (Act.eval ⟨tm,[]⟩ y):=by rw [hsz];exact J0 hc hsim hy hgy
 obtain ⟨v',w',lim',ob',r1,r2,r3,r4⟩:=Ky (ty:=o.type) hT hi hz hzs hxv (.of hyv) hroom hnm
 have hw:=hsim.world r3 fun b hb=>by cases hb
 refine Zq (v:=v') (w':=w') ?_ (hn _ w' ?_)
 ·simp only [execOp,ho,resolve,hcl,hargs',hts',List.map_toArray,List.map_cons,List.map_nil,Sem.run_bind,Sem.run_pure,Result.andThen_ok,invoke,builtin,r1]
 ·rw [← hc,List.nil_append] at r2
  refine Z8 hw r2 (fun b hb=>?_) (fun _=>.noMap (by rw [hc];exact hnm)) fun _ hd=>by rw [hc,ZT hnm] at hd;cases hd
  rcases r4 with r4 | r4
  ·rw [r4] at hb;cases hb
  ·rw [r4] at hb
   simp only [Option.some.injEq] at hb
   subst hb
   exact ⟨.inr hsim.frm.size,fun i j=>YT hsim i j⟩
theorem ZcG {T':Odr} {P:Program} {o:Oper} {σ:Nat→AV} {T:TypeId} {parts:Array (Nat×Operand)} {f t:Nat} {fs:Array Field} {fd:Field} {i:TypeInfo} {z:Value} {zc:List AV} {e:TypeId} {xs:List (List AV)} {us:List (Nat×AV)} (ho:o.op = .build T parts) (hp:parts.toList = [(f,.tmp t)])
  (hT:P.underlying T=some (.struct fs)) (hi:P.info? T=some i) (hz:i.zero=some z) (hzc:Zac z.cells.toList=some zc) (hall:(fs.toList.all fun f=>(P.info? f.type).isSome)=true) (hfd:fs[f]? = some fd)
  (h1:P.cellsOf fd.type=1) (hoff:fd.offset < zc.length) (ht:σ t = .own true e xs) (hus:Yd T' σ t us) :
  YY T' P o σ (.aggo (zc.set fd.offset (.own true e xs))) ((t,Vn P true e xs)::us) []:=by
 have hp':parts = #[(f,.tmp t)]:=by apply Array.toList_inj.1;rw [hp]
 intro c hc σ' tm w lim X hid hag hTx hsim next Q hn
 have ht':σ' t = .own true e xs:=by rw [hag t (by simp),ht]
 obtain ⟨X1,k1,k2,k3,k4⟩:=hsim.freeAll (us:=us) ht' (.inr (hus.all hTx))
 rw [hc] at k1 k2
 have hcell:(tm.getD t undef).cells = #[tm.getD t undef]:=(ZQ.cells1 k2).1
 have hzr:=YZ (w:=w) (lim:=lim) hzc
 have hzl:fd.offset < z.cells.toList.length:=by rw [← hzr.1];exact hoff
 have hzip:=ZhJ fd.offset [tm.getD t undef] z.cells.toList.toArray (by have:=hzl;simp at this ⊢; omega)
 simp only [List.length_cons,List.length_nil,Nat.zero_add] at hzip
 have hrun:(execOp (Act.eval ⟨tm,[]⟩) o).run P w = .ok (.value (.agg (z.cells.toList.set fd.offset (tm.getD t undef)).toArray)) w:=by
  have hpl:(fun (i:Nat)=>(fs.map fun (f:Field)=>(f.offset,P.cellsOf f.type))[i]?)=fun (i:Nat)=>(fs[i]?).map fun (f:Field)=>(f.offset,P.cellsOf f.type):=by
   funext i;simp
  have hb:(Instr.build T (parts.map fun p=>(p.1,Act.eval ⟨tm,[]⟩ p.2))).run P w = .ok (.agg (z.cells.toList.set fd.offset (tm.getD t undef)).toArray) w:=by
   simp only [Instr.build,Sem.run_bind,zeroValue,typeInfo,run_program,hi,hz,Result.andThen_ok,Sem.run_pure,run_underlying hT]
   have hpq:=Zdu (P:=P) w fs hall
   rw [hpq]
   simp only [Result.andThen_ok]
   rw [hpl,hp']
   have hev:Act.eval ⟨tm,[]⟩ (.tmp t)=tm.getD t undef:=rfl
   have hsz:¬ (z.cells.size < fd.offset+1):=by
    have:z.cells.toList.length=z.cells.size:=by simp
    omega
   simp only [List.map_toArray,List.map_cons,List.map_nil,hev,Instr.fill,hfd,Option.map_some,h1,hcell]
   rw [if_neg (by simp;omega)]
   have h2:z.cells.toList.take fd.offset++[tm.getD t undef]++z.cells.toList.drop (fd.offset+1)=z.cells.toList.set fd.offset (tm.getD t undef):=by
    rw [List.set_eq_take_append_cons_drop,if_pos hzl];simp
   rw [Array.toArray_toList] at hzip
   rw [hzip,h2]
   rfl
  simp only [execOp,ho,Sem.run_bind,hb,Result.andThen_ok,Sem.run_pure]
 refine Zq hrun (hn _ w ?_)
 rw [← hc] at k1 k2
 have hlenz:(z.cells.toList.set fd.offset (tm.getD t undef)).length=(zc.set fd.offset (.own true e xs)).length:=by rw [List.length_set,List.length_set,hzr.1]
 cases hdst:o.dst with
 | none => rw [hc] at k1; exact ⟨lim, X1, by rw [← hc] at k1 ⊢; exact k1⟩
 | some d =>
  intro hd hm
  rw [← hc]
  refine ⟨lim,_,k1.putRow (hns:=fun k e1 xs1 b m1 m2 m3=>by
   split at m3
   ·rename_i hk
    subst hk
    have hx1:(e1,xs1)=(e,xs):=by
     simp only [ZX] at m1
     rw [List.getElem?_set_self (by simpa using hoff)] at m1
     simpa using m1.symm
    cases hx1
    rw [k4 _ (Nat.le_trans hsim.ntN (Nat.le_add_right _ _))]
    exact hsim.nst t 0 _ _ b (by rw [ht'];rfl) m2 m3
   ·cases m3) (fun k=>if k=fd.offset+1 then X t 0 else none) (ZN.refl w lim (fun _=>False)) (fun _ hs=>hs.elim) hd (tm':=tm.setIfInBounds d (.agg (z.cells.toList.set fd.offset (tm.getD t undef)).toArray)) (by simp) (fun i hi=>ZL tm d i _ hi)
   (.inl (by rw [hc];exact (ZD hm).1)) (fun i q hi hr=>(k1.noRefs (by rw [hc];exact (ZD hm).none) i q hi hr).elim) ?_ (fun k b hk=>?_) (fun k k' b hk hk'=>?_)⟩
  ·rw [Jz tm d _ (by rw [hsim.size];exact hd)]
   refine ⟨_,rfl,hlenz,⟨fun x hx=>?_,fun u hu=>?_⟩,fun j x u hx hu=>?_⟩
   ·rcases List.mem_or_eq_of_mem_set hx with hx | hx
    ·exact .inl (hzr.2.1 x hx)
    ·exact .inr (.inl ⟨_,_,_,hx⟩)
   ·rcases List.mem_or_eq_of_mem_set hu with hu | rfl
    ·obtain ⟨j,hj⟩:=List.mem_iff_getElem?.1 hu
     have hlt:j < zc.length:=by rw [hzr.1];exact (List.getElem?_eq_some_iff.1 hj).1
     exact (hzr.2.2 j _ u (List.getElem?_eq_getElem hlt) hj).oneCell (hzr.2.1 _ (List.getElem_mem hlt))
    ·exact (ZQ.cells1 k2).2
   ·rw [Zp]
    by_cases hj:j=fd.offset
    ·subst hj
     rw [List.getElem?_set_self hoff] at hx
     rw [List.getElem?_set_self hzl] at hu
     simp only [Option.some.injEq] at hx hu
     subst hx
     subst hu
     rw [if_pos rfl]
     exact k2
    ·rw [List.getElem?_set_ne (fun h=>hj h.symm)] at hx hu
     rw [if_neg (by omega)]
     have hrj:=hzr.2.2 j x u hx hu
     have hxc:=hzr.2.1 x (List.mem_of_getElem? hx)
     cases x<;>simp [AV.isCell] at hxc<;>exact hrj
  ·split at hk
   ·obtain ⟨m1,m2⟩:=k3 b hk
    exact ⟨(hsim.ours t 0 b hk).1,m1,fun i j _=>m2 i j⟩
   ·cases hk
  ·split at hk<;>split at hk'
   ·omega
   ·cases hk'
   ·cases hk
   ·cases hk
theorem ZbL {P:Program} {o:Oper} {σ:Nat→AV} {T:TypeId} {a:Operand} {t d off:Nat} {cs vc:List AV} (ho:o.op = .store T a (.tmp t)) (ha:Zr P σ a = .ptr d off) (hd:σ d = .box cs) (ht:σ t = .aggo vc)
  (hn:vc.length=P.cellsOf T) (h0:P.cellsOf T≠0) (hfit:off+P.cellsOf T≤cs.length) (hnr:ZaF ((cs.drop off).take (P.cellsOf T))) :
  JA P o σ .dead [(t,.dead),(d,.box (cs.take off++vc++cs.drop (off+P.cellsOf T)))] [d]:=by
 intro c hc σ' tm w lim X hid hag hsim next Q hnx
 have hga:Zr P σ' a=Zr P σ a:=ZA fun t ht=>hid t (by simp [Zt (o:=o) (x:=a) (by rw [ho];simp [Op.operands]) ht])
 have hd':σ' d = .box cs:=by rw [hag d (by simp),hd]
 have ht':σ' t = .aggo vc:=by rw [hag t (by simp),ht]
 have hdt:d≠t:=fun h=>by rw [h,ht'] at hd';cases hd'
 have hva:=J0 hc hsim ha hga
 rw [← hc] at hva
 obtain ⟨b,h1,h2,h3⟩:=Ko hsim hd' hva
 obtain ⟨i,hi⟩:=ZH h0
 have hrt:=hsim.rel t
 rw [ht'] at hrt
 obtain ⟨us,u1,u2,u3,u4⟩:=hrt
 have htn:t < c.nt:=Yl hsim (by rw [ht'];exact fun h=>by cases h) (by rw [ht'];rfl)
 have k1:Sim c (upd σ' t .dead) tm w lim (KH X t JV):=hsim.weaken (k:=0) htn (fun cs h=>by rw [ht'] at h;cases h) (hsim.noRefs fun k=>by rw [ht'];rfl) rfl (fun i q hq=>by rcases hq with hq | ⟨_,hq⟩ <;> cases hq) trivial
 have hd1:upd σ' t .dead d = .box cs:=by rw [Zf _ _ hdt,hd']
 obtain ⟨b0,arr,ty,g1,g2,g3,g4,g5,g6,g7⟩:=h3
 have hb0:b0=b:=by rw [g1] at h1;exact Option.some.inj h1
 subst hb0
 have hset:=k1.setCells (off:=off) (vc:=vc) (us:=us) (b:=b0) (fun j=>if j < vc.length then X t (j+1) else none) hd1 (by rw [Zk X JV hdt];exact g1) (by rw [hn];exact hfit) u2.symm u3.1 (fun j x u hx hu=>?_) g3
  (fun k q1 q2 i hi hr=>Zbr k1 hd1 (by rw [← hn] at hnr;exact hnr) q1 q2 hr) (fun j b' hb'=>?_) (hnw:=fun j e1 xs1 b' m1 m2 m3=>?_)
 ·refine JQ (w':=w.setRow b0 (arr.toList.take off++us++arr.toList.drop (off+us.length)).toArray) ?_ (hnx undef _ ?_)
  ·have hev:Act.eval ⟨tm,[]⟩ (.tmp t) = .agg us.toArray:=u1
   have hst:=Yy (P:=P) (T:=T) (w:=w) (b:=b0) (off:=off) (v:=.agg us.toArray) (us:=us) hi rfl (by rw [u2,hn]) g3 (by rw [u2,hn,g4];exact hfit) (fun u hu=>by
    exact u3.2 u hu)
   simp only [execOp,ho,h2,hev,Sem.run_bind,hst,Result.andThen_ok,Sem.run_pure]
  ·rw [hn] at hset
   exact Zy hset rfl (k:=0) trivial
 ·have hlt:j < vc.length:=(List.getElem?_eq_some_iff.1 hx).1
  show JW c.P w lim (if j < vc.length then X t (j+1) else none) x u
  rw [if_pos hlt]
  exact u4 j x u hx hu
 ·have hb2:(if j < vc.length then X t (j+1) else none)=some b':=hb'
  split at hb2
  ·rename_i hlt
   obtain ⟨o1,o2⟩:=hsim.ours t (j+1) b' hb2
   refine ⟨hlt,o2,o1,fun i k hik=>?_,fun i' hi'=>?_⟩
   ·by_cases hit:i=t
    ·subst hit;rw [Zp] at hik;cases hik
    ·rw [Zk X JV hit] at hik
     exact hit (hsim.dist i k t (j+1) b' hik hb2).1
   ·have hi2:(if i' < vc.length then X t (i'+1) else none)=some b':=hi'
    split at hi2
    ·have:=(hsim.dist t (j+1) t (i'+1) b' hb2 hi2).2
     omega
    ·cases hi2
  ·cases hb2
 ·have h5:(if j < vc.length then X t (j+1) else none)=some b':=m3
  split at h5
  ·have:=hsim.ntN
   rw [Zk X JV (show ngN+b'≠t by omega)]
   exact hsim.nst t (j+1) e1 xs1 b' (by rw [ht'];simp only [ZX,m1]) m2 h5
  ·cases h5
def ZM (l:List AV):Nat→AV:=fun i=>(l[i]?).getD .dead
def ZkF (X:Nat→Nat→Option Nat):Prop:=∀ d k d' k' b,X d k=some b→X d' k'=some b→d=d'∧k=k'
def Callable (P : Program) (f : FuncId) : Prop := ∃ fn, P.funcs[f]? = some fn ∧ (fn.name == "runtime.NumGoroutine") = false ∧ fn.body.isNone = false
def W3 (n:Nat) (cargs:List Value) (v:Value) (i:Nat):Value:=if i=n then v else cargs.getD i undef
def V5 (P:Program) (aZ:List AV):Prop:=∀ i k e xs,ZX (ZM aZ i) k=some (e,xs)→Zg P e=false
def ZpP (P:Program) (w:World) (lim:Nat→Nat) (X:Nat→Nat→Option Nat) (res:AV) (n:Nat):Prop:=
 ∀ k e xs b,ZX res k=some (e,xs)→Zg P e=true→X n k=some b→VN P w lim e xs b (X (ngN+b))
def JM (P:Program) (f:FuncId) (args:List AV) (res:AV) (outs:List AV):Prop:=
 Callable P f∧args.length < ngN∧∀ (w:World) (lim:Nat→Nat) (X:Nat→Nat→Option Nat) (cargs:List Value),cargs.length+args.countP AV.isG≤args.length→
  (∀ i,ZP P w lim X (ZM args) i (ZM args i) (cargs.getD i undef))→ZkF X→(∀ i k b,X i k=some b→b < w.heap.size)→(∀ i,args.length≤i→∀ k,X i k=none)→
  Calls P f cargs.toArray w fun e w'=>∃ v lim' X',e = .returned v∧ZN w lim w' lim' (fun b=>∃ i k,X i k=some b)∧outs.length=args.length∧
   (∀ i,ZP P w' lim' X' (ZM (outs++[res])) i (ZM (outs++[res]) i) (W3 args.length cargs v i))∧ZkF X'∧
   (∀ i k b,X' i k=some b→b < w'.heap.size∧((∃ i k,X i k=some b)∨w.heap.size≤b))∧(∀ i,(ZM (outs++[res]) i).isG=true→(ZM args i).isG=true∧X' i 0=X i 0)∧V5 P outs∧ZpP P w' lim' X' res args.length
def VZ (x:AV):Bool:=match x with | .val _=>true | _=>false
def ZcA (x:AV):Bool:=
 match x with
 | .val _ => true
 | .dead => true
 | .agg cs => cs.all VZ
 | .box cs => cs.all VZ
 | .gbox cs => cs.all VZ
 | .tuple vs => vs.all fun v => match v with | .agg cs => cs.all VZ | v => VZ v
 | _ => false
def Vl (lim:Nat→Nat) (b0 N:Nat):Nat→Nat:=fun b=>if b=b0 then N else lim b
theorem Za6 {w w':World} {lim lim':Nat→Nat} {x:AV} {v:Value} (hx:VZ x=true) (h:Rep w lim x v):Rep w' lim' x v:=by
 cases x<;>simp [VZ] at hx
 cases h with
 | val h => exact .val h
theorem ZhI {w w':World} {lim lim':Nat→Nat} {cs:List AV} {v:Value} (hx:cs.all VZ=true) (h:Rep w lim (.agg cs) v):Rep w' lim' (.agg cs) v:=by
 rw [List.all_eq_true] at hx
 cases h with
 | agg hl hc hr => exact .agg hl hc fun i c v hi hv => Za6 (hx c (List.mem_of_getElem? hi)) (hr i c v hi hv)
theorem Zjp {P:Program} {w w':World} {lim lim':Nat→Nat} {ob:Option Nat} {x:AV} {v:Value} (hx:VZ x=true) (h:JW P w lim ob x v):JW P w' lim' ob x v:=by
 cases x<;>simp [VZ] at hx
 exact Za6 rfl (show Rep w lim _ v from h)
theorem Zdv {P:Program} {w:World} {lim lim':Nat→Nat} {X:Nat→Option Nat} {cs:List AV} {v:Value} (hx:cs.all VZ=true) (hl:∀ b,X 0=some b→lim' b=lim b) (h:ZI P w lim X cs v):ZI P w lim' X cs v:=by
 rw [List.all_eq_true] at hx
 obtain ⟨b,arr,t,h1,h2,h3,h4,h5,h6,h7⟩:=h
 exact ⟨b,arr,t,h1,h2,h3,h4,(hl b h1).trans h5,h6,fun i c u hc hu=>Zjp (hx c (List.mem_of_getElem? hc)) (h7 i c u hc hu)⟩
theorem Zkx {P:Program} {w:World} {lim lim':Nat→Nat} {X:Nat→Nat→Option Nat} {σ:Nat→AV} {d:Nat} {x:AV} {v:Value} (hx:ZcA x=true) (hl:∀ b,X d 0=some b→lim' b=lim b) (h:ZP P w lim X σ d x v):ZP P w lim' X σ d x v:=by
 cases x with
 | val u => exact Za6 rfl (show Rep w lim _ v from h)
 | dead => trivial
 | agg cs => exact ZhI hx (show Rep w lim _ v from h)
 | box cs => exact Zdv hx hl h
 | gbox cs =>
  obtain ⟨v',h⟩:=h
  exact ⟨v',Zdv hx hl h⟩
 | tuple vs =>
  simp only [ZcA,List.all_eq_true] at hx
  obtain ⟨us,h1,h2,h3⟩:=h
  refine ⟨us,h1,h2,fun i c u hc hu=>?_⟩
  have hcx:=hx c (List.mem_of_getElem? hc)
  have h4:=h3 i c u hc hu
  cases c with
  | agg cs => exact ZhI hcx (show Rep w lim _ u from h4)
  | val y => exact Za6 rfl (show Rep w lim _ u from h4)
  | _ => cases hcx
 | _ => cases hx
theorem ZbH {P:Program} {w:World} {lim:Nat→Nat} {e:TypeId} {xs:List (List AV)} {v:Value} {b0:Nat} (h:ZQ P w lim true e xs v (some b0)) (hnm:Zm P e=false) (hext:Ext w lim w (Vl lim b0 (xs.length*P.cellsOf e))) :
  ZQ P w (Vl lim b0 (xs.length*P.cellsOf e)) false e xs v (some b0):=by
 rcases h.noMap hnm with ⟨ws,g1,g2,g3,g4,g5,g6⟩ | ⟨_,h,_⟩
 ·refine .inl ⟨ws,g1,g2,fun b hb=>?_,g4,g5,fun j z u hz hu=>(g6 j z u hz hu).mono hext⟩
  have hbb:b0=b:=Option.some.inj hb
  subst hbb
  rw [if_neg (by simp),g1.1]
  exact if_pos rfl
 ·cases h
theorem Ziw {x:AV} (h:ZcA x=true) (k:Nat):ZX x k=none:=by
 have key:∀ (cs:List AV) (k:Nat),(∀ c∈cs,∀ e xs,c≠.own true e xs)→(match cs[k]? with | some (.own true e xs)=>some (e,xs) | _=>none)=none:=fun cs k hc=>by
  split
  ·rename_i e xs hx
   exact (hc _ (List.mem_of_getElem? hx) e xs rfl).elim
  ·rfl
 have flat:∀ cs:List AV,cs.all VZ=true→∀ c∈cs,∀ e xs,c≠.own true e xs:=fun cs h c hc e xs he=>by
  rw [List.all_eq_true] at h
  have:=h c hc
  rw [he] at this
  cases this
 cases x with
 | box cs => cases k with | zero => rfl | succ k => exact key cs k (flat cs h)
 | gbox cs => cases k with | zero => rfl | succ k => exact key cs k (flat cs h)
 | tuple vs =>
  cases k with
  | zero => rfl
  | succ k =>
   refine key vs k fun c hc e xs he=>?_
   simp only [ZcA,List.all_eq_true] at h
   have:=h c hc
   rw [he] at this
   cases this
 | val _ => cases k <;> rfl
 | dead => cases k <;> rfl
 | agg _ => cases k <;> rfl
 | _ => cases h
theorem JM.borrow {P:Program} {f:FuncId} {args:List AV} {res:AV} {outs:List AV} (h:JM P f args res outs) (hf:∀ i,ZcA (ZM (outs++[res]) i)=true) {w:World} {lim:Nat→Nat} {X:Nat→Nat→Option Nat} {cargs:List Value} {b0 N:Nat}
  (hb0:b0 < w.heap.size) (hl0:lim b0=0) (hX0:∀ i k,X i k≠some b0) (hlen:cargs.length+args.countP AV.isG≤args.length)
  (hrel:∀ i,ZP P w (Vl lim b0 N) X (ZM args) i (ZM args i) (cargs.getD i undef)) (hdist:ZkF X) (hsize:∀ i k b,X i k=some b→b < w.heap.size) (hfar:∀ i,args.length≤i→∀ k,X i k=none) :
  Calls P f cargs.toArray w fun e w'=>∃ v lim' X',e = .returned v∧ZN w lim w' lim' (fun b=>∃ i k,X i k=some b)∧outs.length=args.length∧
   (∀ i,ZP P w' lim' X' (ZM (outs++[res])) i (ZM (outs++[res]) i) (W3 args.length cargs v i))∧ZkF X'∧
   (∀ i k b,X' i k=some b→b < w'.heap.size∧((∃ i k,X i k=some b)∨w.heap.size≤b))∧(∀ i,(ZM (outs++[res]) i).isG=true→(ZM args i).isG=true∧X' i 0=X i 0)∧V5 P outs∧ZpP P w' lim' X' res args.length:=by
 refine (h.2.2 w (Vl lim b0 N) X cargs hlen hrel hdist hsize hfar).mono ?_
 rintro e w' ⟨v,lim',X',he,hst,hol,hr,hd,hin,hgh,hnl,hnr⟩
 have hne:∀ i k b,X' i k=some b→b≠b0:=by
  intro i k b hb hbb
  subst hbb
  rcases (hin i k b hb).2 with ⟨i',k',h1⟩ | h1
  ·exact hX0 i' k' h1
  ·omega
 have hk0:=hst.blk b0 hb0 fun ⟨i,k,hb⟩=>hX0 i k hb
 refine ⟨v,fun b=>if b=b0 then 0 else lim' b,X',he,⟨hst.os,hst.tape,hst.output,hst.size,hst.frz,fun b hb hn=>?_,fun b hb=>?_⟩,hol,fun i=>?_,hd,hin,hgh,hnl,fun k e1 xs1 b m1=>?_⟩
 ·obtain ⟨h1,h2⟩:=hst.blk b hb hn
  refine ⟨h1,?_⟩
  by_cases hbb:b=b0
  ·subst hbb
   show (if b=b then 0 else lim' b)=lim b
   rw [if_pos rfl,hl0]
  ·show (if b=b0 then 0 else lim' b)=lim b
   rw [if_neg hbb,h2]
   exact if_neg hbb
 ·by_cases hbb:b=b0
  ·subst hbb
   refine ⟨by rw [hl0];exact Nat.zero_le _,fun o u ho _=>by rw [hl0] at ho;omega⟩
  ·obtain ⟨h1,h2⟩:=hst.ext b hb
   have h3:Vl lim b0 N b=lim b:=if_neg hbb
   rw [h3] at h1 h2
   exact ⟨by show lim b≤if b=b0 then 0 else lim' b;rw [if_neg hbb];exact h1,h2⟩
 ·exact Zkx (hf i) (fun b hb=>if_neg (hne i 0 b hb)) (hr i)
 ·have hres:ZM (outs++[res]) outs.length=res:=by simp [ZM]
  have hfl:=hf outs.length
  rw [hres] at hfl
  rw [Ziw hfl] at m1
  cases m1
def mkB (gh:Bool) (cs:List AV):AV:=match gh with | true=>.gbox cs | false=>.box cs
inductive AK where
 | imm (x : AV)
 | own (t : Nat) (x : Bool) (e : TypeId) (xs : List (List AV))
 | box (d : Nat) (fr to : Bool) (cs : List AV)
 | clo (g : FuncId) (ds gs : List Nat)
 | ref (t d q j : Nat)
 | pad
def AK.av:AK→AV
 | .imm x => x
 | .own _ x e xs => .own x e xs
 | .box _ _ to cs => mkB to cs
 | .clo g _ gs => .clo g gs
 | .ref _ _ q j => .mref j q
 | .pad => .dead
def AK.slot:AK→Option Nat
 | .imm _ => none
 | .own t _ _ _ => some t
 | .box d _ _ _ => some d
 | .clo _ _ _ => none
 | .ref t _ _ _ => some t
 | .pad => none
def ZmA (x:AV):Prop:=(∃ v,x = .val v)∨(∃ cs,x = .agg cs)∨∃ f s xs,x = .slice f s xs
inductive ZaM where
 | op (x : Operand)
 | cap (d : Nat)
 | ghost
 | pad
def ZrV (P:Program) (σ:Nat→AV) (x:Operand) (y:AV):Prop:=∃ d q e xs,(Zr P σ x = .mref d q∧∀ t e' ys,x = .tmp t→σ t≠.own true e' ys)∧Zo (σ d) q=some (e,xs)∧(P.cellsOf e≠0∧Zm P e=false)∧y = .slice false (P.cellsOf e) xs
def AK.ok (P:Program) (σ:Nat→AV):ZaM→AK→Prop
 | .op x, .imm y => (Zr P σ x = y ∧ ZmA y) ∨ ZrV P σ x y
 | .op x, .own t b e xs => x = .tmp t ∧ σ t = .own b e xs
 | .op x, .box d fr to cs => Zr P σ x = .ptr d 0 ∧ σ d = .box cs ∧ fr = false ∧ to = false
 | .op x, .clo g ds _ => Zr P σ x = .clo g ds
 | .op x, .ref t d q _ => x = .tmp t ∧ σ t = .mref d q
 | .cap d', .box d fr to cs => d' = d ∧ σ d = mkB fr cs ∧ to = false
 | .ghost, .box d fr to cs => σ d = mkB fr cs ∧ to = true
 | .pad, .pad => True
 | _, _ => False
def reB (fr to:Bool) (o:AV):AV:=
 match to,o with
 | true, .gbox cs => mkB fr cs
 | false, .box cs => mkB fr cs
 | _, _ => .dead
theorem Zo8 (fr to:Bool) (cs:List AV):reB fr to (mkB to cs)=mkB fr cs:=by cases to<;>rfl
theorem ZeN (a b:Bool) (cs:List AV) (q:Nat):Zo (mkB a cs) q=Zo (mkB b cs) q:=by cases a<;>cases b<;>cases q<;>rfl
theorem ZdU (gh:Bool) (cs:List AV):(mkB gh cs).isG=gh:=by cases gh<;>rfl
theorem ZoG (gh:Bool) (cs:List AV):(mkB gh cs).isB=true:=by cases gh<;>rfl
def Za8:List AK→List AV→List (Nat×AV)
 | .own t _ _ _ :: aZ, _ :: os => (t, .gone) :: Za8 aZ os
 | .box d fr to _ :: aZ, o :: os => (d, reB fr to o) :: Za8 aZ os
 | .imm _ :: aZ, _ :: os => Za8 aZ os
 | .clo _ _ _ :: aZ, _ :: os => Za8 aZ os
 | .ref t _ _ _ :: aZ, _ :: os => (t, .dead) :: Za8 aZ os
 | .pad :: aZ, _ :: os => Za8 aZ os
 | _, _ => []
theorem ZZ:∀ (aZ:List AK) (os:List AV) (σ:Nat→AV) (d:Nat),(∀ a∈aZ,a.slot≠some d)→Ju σ (Za8 aZ os) d=σ d
 | [], os, σ, d, _ => by cases os <;> rfl
 | a :: aZ, [], σ, d, _ => by cases a <;> rfl
 | .imm _ :: aZ, o :: os, σ, d, h => ZZ aZ os σ d fun a ha => h a (by simp [ha])
 | .clo _ _ _ :: aZ, o :: os, σ, d, h => ZZ aZ os σ d fun a ha => h a (by simp [ha])
 | .pad :: aZ, o :: os, σ, d, h => ZZ aZ os σ d fun a ha => h a (by simp [ha])
 | .ref t x e xs :: aZ, o :: os, σ, d, h => by
  show Ju (upd σ t .dead) (Za8 aZ os) d=σ d
  rw [ZZ aZ os _ d fun a ha=>h a (by simp [ha])]
  exact Zf σ _ fun hd=>h (.ref t x e xs) (by simp) (by rw [hd];rfl)
 | .own t x e xs :: aZ, o :: os, σ, d, h => by
  show Ju (upd σ t .gone) (Za8 aZ os) d=σ d
  rw [ZZ aZ os _ d fun a ha=>h a (by simp [ha])]
  exact Zf σ _ fun hd=>h (.own t x e xs) (by simp) (by rw [hd];rfl)
 | .box t fr to cs :: aZ, o :: os, σ, d, h => by
  show Ju (upd σ t (reB fr to o)) (Za8 aZ os) d=σ d
  rw [ZZ aZ os _ d fun a ha=>h a (by simp [ha])]
  exact Zf σ _ fun hd=>h (.box t fr to cs) (by simp) (by rw [hd];rfl)
theorem J8:∀ (aZ:List AK) (os:List AV) (σ:Nat→AV) (i:Nat) (a:AK) (o:AV) (d:Nat),aZ.length=os.length→(aZ.filterMap AK.slot).Nodup→aZ[i]? = some a→os[i]? = some o→a.slot=some d→
  Ju σ (Za8 aZ os) d=match a with | .own _ _ _ _=>.gone | .box _ fr to _=>reB fr to o | .ref _ _ _ _=>.dead | _=>o
 | [], os, σ, i, a, o, d, _, _, ha, _, _ => by simp at ha
 | b :: aZ, [], σ, i, a, o, d, hl, _, _, _, _ => by simp at hl
 | b :: aZ, p :: os, σ, 0, a, o, d, hl, hnd, ha, ho, hd => by
  simp only [List.getElem?_cons_zero,Option.some.injEq] at ha ho
  subst ha
  subst ho
  have hno:∀ a∈aZ,a.slot≠some d:=by
   intro a ha hs
   rw [List.filterMap_cons,hd] at hnd
   exact (List.nodup_cons.1 hnd).1 (List.mem_filterMap.2 ⟨a,ha,hs⟩)
  cases b with
  | imm x => simp [AK.slot] at hd
  | clo g ds gs => simp [AK.slot] at hd
  | pad => simp [AK.slot] at hd
  | own t x e xs =>
   simp only [AK.slot,Option.some.injEq] at hd
   subst hd
   show Ju (upd σ t .gone) (Za8 aZ os) t = .gone
   rw [ZZ aZ os _ t hno,ZC]
  | ref t x e xs =>
   simp only [AK.slot,Option.some.injEq] at hd
   subst hd
   show Ju (upd σ t .dead) (Za8 aZ os) t = .dead
   rw [ZZ aZ os _ t hno,ZC]
  | box t fr to cs =>
   simp only [AK.slot,Option.some.injEq] at hd
   subst hd
   show Ju (upd σ t (reB fr to p)) (Za8 aZ os) t=reB fr to p
   rw [ZZ aZ os _ t hno,ZC]
 | b :: aZ, p :: os, σ, i + 1, a, o, d, hl, hnd, ha, ho, hd => by
  have hl':aZ.length=os.length:=by simpa using hl
  have ha':aZ[i]? = some a:=by simpa using ha
  have ho':os[i]? = some o:=by simpa using ho
  cases b with
  | imm x => exact J8 aZ os σ i a o d hl' (by simpa [List.filterMap_cons, AK.slot] using hnd) ha' ho' hd
  | clo g ds gs => exact J8 aZ os σ i a o d hl' (by simpa [List.filterMap_cons, AK.slot] using hnd) ha' ho' hd
  | pad => exact J8 aZ os σ i a o d hl' (by simpa [List.filterMap_cons, AK.slot] using hnd) ha' ho' hd
  | ref t x e xs =>
   rw [List.filterMap_cons] at hnd
   exact J8 aZ os (upd σ t .dead) i a o d hl' (List.nodup_cons.1 hnd).2 ha' ho' hd
  | own t x e xs =>
   rw [List.filterMap_cons] at hnd
   exact J8 aZ os (upd σ t .gone) i a o d hl' (List.nodup_cons.1 hnd).2 ha' ho' hd
  | box t fr to cs =>
   rw [List.filterMap_cons] at hnd
   exact J8 aZ os (upd σ t (reB fr to p)) i a o d hl' (List.nodup_cons.1 hnd).2 ha' ho' hd
theorem Zhr:∀ (aZ:List AK),(aZ.filterMap AK.slot).Nodup→∀ (i j:Nat) (a b:AK) (d:Nat),aZ[i]? = some a→aZ[j]? = some b→a.slot=some d→b.slot=some d→i=j
 | [], _, i, j, a, b, d, ha, _, _, _ => by simp at ha
 | x :: aZ, hnd, i, j, a, b, d, ha, hb, hda, hdb => by
  have htail:(aZ.filterMap AK.slot).Nodup:=by
   rw [List.filterMap_cons] at hnd
   split at hnd
   ·exact hnd
   ·exact (List.nodup_cons.1 hnd).2
  have hhead:∀ d,x.slot=some d→∀ a∈aZ,a.slot≠some d:=by
   intro d hx a ha hs
   rw [List.filterMap_cons,hx] at hnd
   exact (List.nodup_cons.1 hnd).1 (List.mem_filterMap.2 ⟨a,ha,hs⟩)
  cases i with
  | zero =>
   cases j with
   | zero => rfl
   | succ j =>
    simp only [List.getElem?_cons_zero,Option.some.injEq] at ha
    subst ha
    exact (hhead d hda b (List.mem_of_getElem? (by simpa using hb)) hdb).elim
  | succ i =>
   cases j with
   | zero =>
    simp only [List.getElem?_cons_zero,Option.some.injEq] at hb
    subst hb
    exact (hhead d hdb a (List.mem_of_getElem? (by simpa using ha)) hda).elim
   | succ j => rw [Zhr aZ htail i j a b d (by simpa using ha) (by simpa using hb) hda hdb]
def Zao (X:Nat→Nat→Option Nat) (aZ:List AK):Nat→Nat→Option Nat:=fun i k=>
 match aZ[i]? with
 | some (.own t _ _ _) => if k = 0 then X t 0 else none
 | some (.box d _ _ _) => X d k
 | _ => none
def Zcb:List AK→Nat→Nat→Option (Nat×AK)
 | [], _, _ => none
 | a :: aZ, d, n => if a.slot = some d then some (n, a) else Zcb aZ d (n + 1)
theorem Zds:∀ (aZ:List AK) (d n m:Nat) (a:AK),Zcb aZ d n=some (m,a)→∃ i,m=n+i∧aZ[i]? = some a∧a.slot=some d
 | [], _, _, _, _, h => by cases h
 | b :: aZ, d, n, m, a, h => by
  unfold Zcb at h
  split at h
  ·rename_i hs
   simp only [Option.some.injEq,Prod.mk.injEq] at h
   obtain ⟨rfl,rfl⟩:=h
   exact ⟨0,rfl,rfl,hs⟩
  ·obtain ⟨i,h1,h2,h3⟩:=Zds aZ d (n+1) m a h
   exact ⟨i+1,by omega,by simpa using h2,h3⟩
theorem Zdw:∀ (aZ:List AK) (d n:Nat),Zcb aZ d n=none→∀ a∈aZ,a.slot≠some d
 | [], _, _, _, a, ha => by simp at ha
 | b :: aZ, d, n, h, a, ha => by
  unfold Zcb at h
  split at h
  ·cases h
  ·rename_i hs
   rcases List.mem_cons.1 ha with rfl | ha
   ·exact hs
   ·exact Zdw aZ d (n+1) h a ha
def XaA (X X':Nat→Nat→Option Nat) (aZ:List AK):Nat→Nat→Option Nat:=fun d k=>
 match Zcb aZ d 0 with
 | some (i, .box _ _ _ _) => X' i k
 | some _ => none
 | none => X d k
def Zfk (x:AV):Prop:=ZmA x∨(∃ b e xs,x = .own b e xs)∨(∃ vs,x = .tuple vs)∨(∃ cs,x = .aggo cs)∨∃ cs,x = .box cs
theorem ZiD {P:Program} {w:World} {lim:Nat→Nat} {X X':Nat→Nat→Option Nat} {σ σ':Nat→AV} {d d':Nat} {x:AV} {v:Value} (hx:Zfk x) (h:ZP P w lim X σ d x v) (hX:X' d'=X d):ZP P w lim X' σ' d' x v:=by
 rcases hx with (⟨u,rfl⟩ | ⟨cs,rfl⟩ | ⟨f,s,xs,rfl⟩) | ⟨b,e,xs,rfl⟩ | ⟨vs,rfl⟩ | ⟨cs,rfl⟩ | ⟨cs,rfl⟩
 ·exact h
 ·exact h
 ·exact h
 ·show ZQ P w lim b e xs v (X' d' 0);rw [hX];exact h
 ·obtain ⟨us,h1,h2,h3⟩:=h
  refine ⟨us,h1,h2,?_⟩
  rw [hX]
  exact h3
 ·obtain ⟨us,h1,h2,h4,h3⟩:=h
  refine ⟨us,h1,h2,h4,?_⟩
  rw [hX]
  exact h3
 ·show ZI P w lim (X' d') cs v;rw [hX];exact h
theorem ZkL {P:Program} {w:World} {lim:Nat→Nat} {X X':Nat→Nat→Option Nat} {σ σ':Nat→AV} {d d':Nat} {x:AV} {v:Value} (hx:ZmA x) (h:ZP P w lim X σ d x v):ZP P w lim X' σ' d' x v:=by
 rcases hx with ⟨u,rfl⟩ | ⟨cs,rfl⟩ | ⟨f,s,xs,rfl⟩ <;> exact h
def AK.okV (P:Program) (bor:Nat→Nat→Prop) (w:World) (lim:Nat→Nat) (X:Nat→Nat→Option Nat) (σ:Nat→AV) (tm:Array Value) (v:Value):AK→Prop
 | .imm y => (ZP P w lim X σ 0 y v ∧ ZmA y) ∨ ∃ d q e xs, Zo (σ d) q = some (e, xs) ∧ (P.cellsOf e ≠ 0 ∧ Zm P e = false) ∧ y = .slice false (P.cellsOf e) xs ∧ Zat P w (X d q) e xs.length v ∧ bor d q
 | .own t x e xs => σ t = .own x e xs ∧ v = tm.getD t undef
 | .box d fr to cs => σ d = mkB fr cs ∧ ∃ b, X d 0 = some b ∧ ZI P w lim (X d) cs (.pointer (some ⟨b, 0, none⟩)) ∧ (fr = false → tm.getD d undef = .pointer (some ⟨b, 0, none⟩)) ∧ (to = false → v = .pointer (some ⟨b, 0, none⟩))
 | .clo g ds _ => ZP P w lim X σ 0 (.clo g ds) v
 | .ref t d q _ => σ t = .mref d q ∧ v = tm.getD t undef
 | .pad => True
def Zpz (aks:List AK):Prop:=∀ (i:Nat) (g:FuncId) (ds gs:List Nat),aks[i]? = some (.clo g ds gs)→gs.length=ds.length∧
 ∀ (k d j:Nat),ds[k]? = some d→gs[k]? = some j→∃ fr cs,aks[j]? = some (.box d fr true cs)
def Zqh (aks:List AK):Prop:=∀ (i t d q j:Nat),aks[i]? = some (.ref t d q j)→∃ fr cs,aks[j]? = some (.box d fr true cs)
theorem Y1 {P:Program} {w:World} {lim:Nat→Nat} {X:Nat→Option Nat} {cs:List AV} {v:Value} (h:ZI P w lim X cs v):∃ b,X 0=some b∧v = .pointer (some ⟨b,0,none⟩):=by
 obtain ⟨b,_,_,h1,h2,_⟩:=h
 exact ⟨b,h1,h2⟩
theorem ZiG {c:Ctx} {σ:Nat→AV} {tm:Array Value} {w:World} {lim:Nat→Nat} {X:Nat→Nat→Option Nat} (h:Sim c σ tm w lim X) {d:Nat} {fr:Bool} {cs:List AV} (hd:σ d=mkB fr cs) :
  ∃ b,X d 0=some b∧ZI c.P w lim (X d) cs (.pointer (some ⟨b,0,none⟩))∧(fr=false→tm.getD d undef = .pointer (some ⟨b,0,none⟩)):=by
 have hr:=h.rel d
 rw [hd] at hr
 cases fr with
 | false =>
  have hp:=(show ZI c.P w lim (X d) cs (tm.getD d undef) from hr)
  obtain ⟨b,h1,h2⟩:=Y1 hp
  exact ⟨b,h1,by rw [← h2];exact hp,fun _=>h2⟩
 | true =>
  obtain ⟨v,hp⟩:=hr
  obtain ⟨b,h1,h2⟩:=Y1 hp
  exact ⟨b,h1,by rw [← h2];exact hp,fun h=>by cases h⟩
theorem Zjv {T:Odr} (Bd Bq:Nat) (bp:List Nat) {P:Program} {o:Oper} {σ:Nat→AV} {cl:Call} {f:FuncId} {ds:List Nat} {tail:List ZaM} {aks:List AK} {res:AV} {outs:List AV} (ho:o.op = .call cl)
  (hcl:(cl.callee = .value (.func f)∧ds = [])∨∃ t,cl.callee = .value (.tmp t)∧σ t = .clo f ds)
  (hlen:(cl.args.toList.map ZaM.op++ds.map ZaM.cap++tail).length=aks.length) (hargs:∀ (i:Nat) (x:ZaM) (a:AK),(cl.args.toList.map ZaM.op++ds.map ZaM.cap++tail)[i]? = some x→aks[i]? = some a→a.ok P σ x)
  (htail:∀ x∈tail,x = .pad∨x = .ghost) (hcnt:cl.args.toList.length+ds.length+(aks.map AK.av).countP AV.isG≤aks.length) (hclo:Zpz aks) (hrf:Zqh aks) (hnd:(aks.filterMap AK.slot).Nodup)
  (hol:outs.length=aks.length) (hout:∀ (i d:Nat) (fr to:Bool) (cs:List AV) (y:AV),aks[i]? = some (.box d fr to cs)→outs[i]? = some y→∃ cs',y=mkB to cs') (hres:Zfk res) (hrm:∀ e xs,res = .own true e xs→Mv P e xs)
  (hex:∀ (i t:Nat) (e:TypeId) (xs:List (List AV)),aks[i]? = some (.own t true e xs)→Yd T σ t [])
  (hbx:∀ (i d:Nat) (fr to:Bool) (cs:List AV),aks[i]? = some (.box d fr to cs)→ZaF cs∨Yd T σ d []∨∀ σ',T.rel σ σ'→∀ i k,Je (σ' i) d k→∃ a∈aks,a.slot=some i)
  (hB:∀ (i:Nat) (x:Operand),cl.args.toList[i]? = some x→(∃ z,aks[i]? = some (.imm z))→∀ d q,Zr P σ x = .mref d q→(∀ t e' ys,x = .tmp t→σ t≠.own true e' ys)→d=Bd∧q=Bq∧Bd∈bp∧(∀ a∈aks,a.slot≠some Bd)∧∀ i,ZcA (ZM (outs++[res]) i)=true)
  (hcall:JM P f (aks.map AK.av) res outs):YY T P o σ res (Za8 aks outs) (aks.filterMap AK.slot++bp):=by
 intro c hc σ' tm w lim X hid hag hT hsim next Q hn
 subst hc
 obtain ⟨⟨fn,hfn,hname,hbody⟩,hcs,hc2⟩:=hcall
 have hslot:∀ a∈aks,∀ d,a.slot=some d→σ' d=σ d:=fun a ha d hd=>hag d (List.mem_append.2 (.inl (List.mem_append.2 (.inl (List.mem_filterMap.2 ⟨a,ha,hd⟩)))))
 have hops:∀ x∈cl.args.toList,x∈o.op.operands:=by
  intro x hx
  rw [ho]
  rcases hcl with ⟨h,_⟩ | ⟨t,h,_⟩ <;> simp only [Op.operands,Call.operands,h]<;>simp [Array.mem_toList_iff.1 hx]
 have hg:∀ x∈cl.args.toList,Zr c.P σ' x=Zr c.P σ x:=fun x hx=>ZA fun t ht=>hid t (Zt (hops x hx) ht)
 -- the blocks of what the function value has captured
 obtain ⟨bs,hbl,hbs,hcv⟩:∃ bs:List Nat,bs.length=ds.length∧(∀ (i d b:Nat),ds[i]? = some d→bs[i]? = some b→X d 0=some b)∧
   (resolve (Act.eval ⟨tm,[]⟩) cl o.type).run c.P w = .ok { target:=.fn (.func f) (bs.map fun b=>Value.pointer (some ⟨b,0,none⟩)).toArray,args:=cl.args.map (Act.eval ⟨tm,[]⟩) } w:=by
  rcases hcl with ⟨h,rfl⟩ | ⟨t,h,ht⟩
  ·refine ⟨[],rfl,by simp,?_⟩
   have hev:Act.eval ⟨tm,[]⟩ (.func f) = .func (.func f) #[] #[]:=rfl
   simp [resolve,h,hev,Deferred.ofValue]
  ·have hr:=hsim.rel t
   have htu:σ' t=σ t:=(hid t (Zt (x:=.tmp t) (by rw [ho];simp [Op.operands,Call.operands,h]) rfl)).eq fun cs e=>by rw [ht] at e;cases e
   rw [htu,ht] at hr
   obtain ⟨bs,h1,h2,h3⟩:=hr
   refine ⟨bs,h2,fun i d b hd hb=>(h3 i d b hd hb).1,?_⟩
   have hev:Act.eval ⟨tm,[]⟩ (.tmp t)=tm.getD t undef:=rfl
   simp [resolve,h,hev,h1,Deferred.ofValue]
 obtain ⟨cargs,hcargs⟩:∃ cargs:List Value,cargs=cl.args.toList.map (Act.eval ⟨tm,[]⟩)++bs.map (fun b=>Value.pointer (some ⟨b,0,none⟩)):=⟨_,rfl⟩
 have hcl2:cargs.length=cl.args.toList.length+ds.length:=by rw [hcargs];simp [hbl]
 have hok:∀ (i:Nat) (a:AK),aks[i]? = some a→a.okV c.P (fun d q=>d=Bd∧q=Bq∧(∀ a∈aks,a.slot≠some Bd)∧∀ i,ZcA (ZM (outs++[res]) i)=true) w lim X σ' tm (cargs.getD i undef):=by
  intro i a ha
  have hlt:i < (cl.args.toList.map ZaM.op++ds.map ZaM.cap++tail).length:=by rw [hlen];exact (List.getElem?_eq_some_iff.1 ha).1
  have hsrc:=List.getElem?_eq_getElem hlt
  have h:=hargs i _ a hsrc ha
  generalize hx:(cl.args.toList.map ZaM.op++ds.map ZaM.cap++tail)[i]=x at h hsrc
  have hsl:∀ d,a.slot=some d→σ' d=σ d:=fun d hd=>hslot a (List.mem_of_getElem? ha) d hd
  have hbox:∀ d fr to cs,a = .box d fr to cs→σ d=mkB fr cs→σ' d=mkB fr cs∧∃ b,X d 0=some b∧ZI c.P w lim (X d) cs (.pointer (some ⟨b,0,none⟩))∧(fr=false→tm.getD d undef = .pointer (some ⟨b,0,none⟩)):=by
   intro d fr to cs he h1
   have h3:σ' d=mkB fr cs:=(hsl d (by rw [he];rfl)).trans h1
   exact ⟨h3,ZiG hsim h3⟩
  cases x with
  | op y =>
   -- an operand
   have hi:i < cl.args.toList.length:=by
    rcases Nat.lt_or_ge i cl.args.toList.length with h0 | h0
    ·exact h0
    ·rw [List.append_assoc,List.getElem?_append_right (by simpa using h0)] at hsrc
     rcases List.mem_append.1 (List.mem_of_getElem? hsrc) with hm | hm
     ·obtain ⟨_,_,e⟩:=List.mem_map.1 hm;cases e
     ·rcases htail _ hm with e | e<;>cases e
   have hy:cl.args.toList[i]? = some y:=by
    rw [List.append_assoc,List.getElem?_append_left (by simpa using hi),List.getElem?_map] at hsrc
    rw [List.getElem?_eq_getElem hi] at hsrc ⊢
    simpa using hsrc
   have hv:cargs.getD i undef=Act.eval ⟨tm,[]⟩ y:=by
    rw [hcargs,List.getD_eq_getElem?_getD,List.getElem?_append_left (by simpa using hi),List.getElem?_map,hy];rfl
   have hgy:=hg y (List.mem_of_getElem? hy)
   rw [hv]
   cases a with
   | imm z =>
    have hrl:=(Kj hsim y 0).2
    rw [hgy] at hrl
    rcases h with h | ⟨d,q,e,xs,m1,m2,m3,m4⟩
    ·rw [h.1] at hrl
     exact .inl ⟨hrl,h.2⟩
    ·rw [m1.1] at hrl
     obtain ⟨b1,b2,b3,b4,b5⟩:=hB i y hy ⟨z,ha⟩ d q m1.1 m1.2
     subst b1
     have hsd:σ' d=σ d:=hag d (List.mem_append.2 (.inl (List.mem_append.2 (.inr b3))))
     obtain ⟨e',xs',n1,n2⟩:=hrl
     rw [hsd,m2] at n1
     simp only [Option.some.injEq,Prod.mk.injEq] at n1
     obtain ⟨rfl,rfl⟩:=n1
     exact .inr ⟨d,q,e,xs,by rw [hsd];exact m2,m3,m4,n2,rfl,b2,b4,b5⟩
   | own t x e xs =>
    obtain ⟨rfl,ht⟩:=h
    exact ⟨(hsl t rfl).trans ht,rfl⟩
   | box d fr to cs =>
    obtain ⟨h1,h2,rfl,rfl⟩:=h
    obtain ⟨k1,b,k2,k3,k4⟩:=hbox d false false cs rfl h2
    refine ⟨k1,b,k2,k3,k4,fun _=>?_⟩
    have h4:=(Kj hsim y 0).2
    rw [hgy,h1] at h4
    obtain ⟨b',_,m1,_,m3⟩:=h4
    rw [k2] at m1
    cases m1
    exact m3
   | clo g ds gs =>
    have:=(Kj hsim y 0).2
    rw [hgy,show Zr c.P σ y = .clo g ds from h] at this
    exact this
   | ref t d q j =>
    obtain ⟨rfl,ht⟩:=h
    exact ⟨(hsl t rfl).trans ht,rfl⟩
   | pad => cases h
  | cap d' =>
   have hi:cl.args.toList.length≤i∧i-cl.args.toList.length < ds.length:=by
    rcases Nat.lt_or_ge i cl.args.toList.length with h0 | h0
    ·rw [List.append_assoc,List.getElem?_append_left (by simpa using h0)] at hsrc
     obtain ⟨_,_,e⟩:=List.mem_map.1 (List.mem_of_getElem? hsrc);cases e
    ·refine ⟨h0,?_⟩
     rcases Nat.lt_or_ge (i-cl.args.toList.length) ds.length with h1 | h1
     ·exact h1
     ·rw [List.getElem?_append_right (by rw [List.length_append,List.length_map,List.length_map];omega)] at hsrc
      rcases htail _ (List.mem_of_getElem? hsrc) with e | e<;>cases e
   have hd:ds[i-cl.args.toList.length]? = some d':=by
    rw [List.append_assoc,List.getElem?_append_right (by simpa using hi.1),List.getElem?_append_left (by simpa using hi.2),List.getElem?_map,List.length_map] at hsrc
    rw [List.getElem?_eq_getElem hi.2] at hsrc ⊢
    simpa using hsrc
   cases a with
   | box d fr to cs =>
    obtain ⟨rfl,h1,rfl⟩:=h
    obtain ⟨k1,b,k2,k3,k4⟩:=hbox d' fr false cs rfl h1
    refine ⟨k1,b,k2,k3,k4,fun _=>?_⟩
    have hb:=List.getElem?_eq_getElem (l:=bs) (i:=i-cl.args.toList.length) (by rw [hbl];exact hi.2)
    have hbb:=hbs _ _ _ hd hb
    rw [k2] at hbb
    rw [hcargs,List.getD_eq_getElem?_getD,List.getElem?_append_right (by simpa using hi.1),List.length_map,List.getElem?_map,hb,← Option.some.inj hbb]
    rfl
   | imm _ => cases h
   | own _ _ _ => cases h
   | clo _ _ _ => cases h
   | ref _ _ _ _ => cases h
   | pad => cases h
  | ghost =>
   cases a with
   | box d fr to cs =>
    obtain ⟨h1,rfl⟩:=h
    obtain ⟨k1,b,k2,k3,k4⟩:=hbox d fr true cs rfl h1
    exact ⟨k1,b,k2,k3,k4,fun h=>by cases h⟩
   | imm _ => cases h
   | own _ _ _ => cases h
   | clo _ _ _ => cases h
   | ref _ _ _ _ => cases h
   | pad => cases h
  | pad =>
   cases a with
   | pad => trivial
   | imm _ => cases h
   | own _ _ _ => cases h
   | clo _ _ _ => cases h
   | ref _ _ _ _ => cases h
   | box _ _ _ _ => cases h
 have hget:∀ (i:Nat) (a:AK),aks[i]? = some a→ZM (aks.map AK.av) i=a.av:=fun i a ha=>by simp [ZM,ha]
 -- the arguments as the callee sees them
 have hrel0:∀ i,(∀ z,aks[i]?≠some (.imm z))→ZP c.P w lim (Zao X aks) (ZM (aks.map AK.av)) i (ZM (aks.map AK.av) i) (cargs.getD i undef):=by
  intro i hni
  cases ha:aks[i]? with
  | none =>
   have:ZM (aks.map AK.av) i = .dead:=by simp [ZM,ha]
   rw [this]
   trivial
  | some a =>
   rw [hget i a ha]
   have h:=hok i a ha
   cases a with
   | imm y => exact (hni y ha).elim
   | own t x e xs =>
    obtain ⟨ht,hv⟩:=h
    have:=hsim.rel t
    rw [ht] at this
    have hX:Zao X aks i 0=X t 0:=by simp [Zao,ha]
    show ZQ c.P w lim x e xs _ (Zao X aks i 0)
    rw [hX,hv]
    exact this
   | box d fr to cs =>
    obtain ⟨h1,b,h2,h3,h4,h5⟩:=h
    have hX:Zao X aks i=X d:=by funext k;simp [Zao,ha]
    cases to with
    | false =>
     show ZI c.P w lim (Zao X aks i) cs _
     rw [hX,h5 rfl]
     exact h3
    | true =>
     exact ⟨.pointer (some ⟨b,0,none⟩),by rw [hX];exact h3⟩
   | clo g es gs =>
    obtain ⟨l1,l2⟩:=hclo i g es gs ha
    obtain ⟨bs',m1,m2,m3⟩:=h
    refine ⟨bs',m1,by rw [m2,l1],fun k j b hj hb=>?_⟩
    have hlt:k < es.length:=by rw [← m2];exact (List.getElem?_eq_some_iff.1 hb).1
    obtain ⟨fr,cs,hbx⟩:=l2 k _ j (List.getElem?_eq_getElem hlt) hj
    have hX:Zao X aks j 0=X es[k] 0:=by simp [Zao,hbx]
    exact ⟨by rw [hX];exact (m3 k _ b (List.getElem?_eq_getElem hlt) hb).1,by rw [hget j _ hbx];exact ZoG true cs⟩
   | ref t d q j =>
    obtain ⟨ht,hv⟩:=h
    have hr:=hsim.rel t
    rw [ht] at hr
    obtain ⟨e,xs,n1,n2⟩:=hr
    obtain ⟨fr,cs,hb⟩:=hrf i t d q j ha
    have hX:Zao X aks j q=X d q:=by simp [Zao,hb]
    rw [(hok j _ hb).1,ZeN fr true] at n1
    exact ⟨e,xs,by rw [hget j _ hb];exact n1,by rw [hX,hv];exact n2⟩
   | pad => trivial
 have hXof:∀ i k b,Zao X aks i k=some b→∃ a d,aks[i]? = some a∧a.slot=some d∧X d k=some b:=by
  intro i k b h
  unfold Zao at h
  split at h
  ·rename_i t x e xs ha
   split at h
   ·rename_i hk;subst hk;exact ⟨_,t,ha,rfl,h⟩
   ·cases h
  ·rename_i d fr to cs ha;exact ⟨_,d,ha,rfl,h⟩
  ·cases h
 have hdist:ZkF (Zao X aks):=by
  intro i k i' k' b h h'
  obtain ⟨a,d,h1,h2,h3⟩:=hXof i k b h
  obtain ⟨a',d',h1',h2',h3'⟩:=hXof i' k' b h'
  obtain ⟨e1,e2⟩:=hsim.dist d k d' k' b h3 h3'
  subst e1
  exact ⟨Zhr aks hnd i i' a a' d h1 h1' h2 h2',e2⟩
 have hsize:∀ i k b,Zao X aks i k=some b→b < w.heap.size:=by
  intro i k b h
  obtain ⟨a,d,h1,h2,h3⟩:=hXof i k b h
  exact (hsim.ours d k b h3).1
 have hxfar:∀ i,(aks.map AK.av).length≤i→∀ k,Zao X aks i k=none:=fun i hi k=>by
  rw [List.length_map] at hi
  have:aks[i]? = none:=List.getElem?_eq_none hi
  simp only [Zao,this]
 have hlc:cargs.length+(aks.map AK.av).countP AV.isG≤(aks.map AK.av).length:=by rw [hcl2,List.length_map];exact hcnt
 have hcalls:Calls c.P f cargs.toArray w fun e w'=>∃ v lim' X',e = .returned v∧ZN w lim w' lim' (fun b=>∃ i k,Zao X aks i k=some b)∧outs.length=(aks.map AK.av).length∧
   (∀ i,ZP c.P w' lim' X' (ZM (outs++[res])) i (ZM (outs++[res]) i) (W3 (aks.map AK.av).length cargs v i))∧ZkF X'∧
   (∀ i k b,X' i k=some b→b < w'.heap.size∧((∃ i k,Zao X aks i k=some b)∨w.heap.size≤b))∧(∀ i,(ZM (outs++[res]) i).isG=true→(ZM (aks.map AK.av) i).isG=true∧X' i 0=Zao X aks i 0)∧V5 c.P outs∧ZpP c.P w' lim' X' res (aks.map AK.av).length:=by
  by_cases hbor:∃ e xs b0,Zo (σ' Bd) Bq=some (e,xs)∧X Bd Bq=some b0∧(∀ a∈aks,a.slot≠some Bd)∧(c.P.cellsOf e≠0∧Zm c.P e=false)∧∀ i,ZcA (ZM (outs++[res]) i)=true
  ·obtain ⟨e,xs,b0,p1,p2,p3,p4,p5⟩:=hbor
   obtain ⟨v0,ho⟩:=JI hsim p1
   rw [p2] at ho
   obtain ⟨arr,cap,r1,r2,r3,r4,r5,r6,r7,r8,r9⟩:=Vk ho (.inl p4.2)
   have hX0:∀ i k,Zao X aks i k≠some b0:=by
    intro i k hb
    obtain ⟨a,d,q1,q2,q3⟩:=hXof i k b0 hb
    obtain ⟨e1,_⟩:=hsim.dist d k Bd Bq b0 q3 p2
    subst e1
    exact p3 a (List.mem_of_getElem? q1) q2
   have hext:Ext w lim w (Vl lim b0 (xs.length*c.P.cellsOf e)):=by
    intro b _
    refine ⟨?_,fun _ _ _ hu=>hu⟩
    unfold Vl
    split
    ·rename_i hbb;rw [hbb,r3];exact Nat.zero_le _
    ·exact Nat.le_refl _
   refine JM.borrow ⟨⟨fn,hfn,hname,hbody⟩,hcs,hc2⟩ p5 (N:=xs.length*c.P.cellsOf e) (hsim.ours Bd Bq b0 p2).1 r3 hX0 hlc (fun i=>?_) hdist hsize hxfar
   by_cases him:∃ z,aks[i]? = some (.imm z)
   ·obtain ⟨z,ha⟩:=him
    rw [hget i _ ha]
    rcases hok i _ ha with h | ⟨d,q,e',xs',n1,n2,n3,n4,n5,n6,_⟩
    ·obtain ⟨h1,h2⟩:=h
     rcases h2 with ⟨u,rfl⟩ | ⟨cs,rfl⟩ | ⟨f,s,xs,rfl⟩ <;> exact Rep.mono hext (show Rep w lim _ _ from h1)
    ·subst n5
     subst n6
     subst n3
     rw [p1] at n1
     simp only [Option.some.injEq,Prod.mk.injEq] at n1
     obtain ⟨rfl,rfl⟩:=n1
     rw [← Kd n2.2] at r2 r6
     rcases n4 with ⟨k1,_⟩ | ⟨b,arr',cap',k1,k2,k3,k4⟩ | ⟨k0,_⟩ | ⟨k0,_⟩
     ·rw [p2] at k1;cases k1
     ·rw [p2] at k1
      have hbb:b0=b:=Option.some.inj k1
      subst hbb
      rw [r2] at k2
      simp only [Option.some.injEq,Obj.cells.injEq,and_true] at k2
      subst k2
      have hcap:cap'=cap:=Nat.eq_of_mul_eq_mul_right (by have:=p4.1;rw [Kd n2.2];omega) (k3.symm.trans r6)
      subst hcap
      rw [k4,← r1]
      exact ZQ.rep (ZbH ho p4.2 hext) false rfl
     ·rw [n2.2] at k0;cases k0
     ·rw [n2.2] at k0;cases k0
   ·exact (hrel0 i fun z hz=>him ⟨z,hz⟩).mono hext (fun k b hb=>⟨rfl,if_neg fun (hbb:b=b0)=>hX0 i k (by rw [← hbb];exact hb)⟩) fun d' k b _ _=>.of rfl
  ·refine hc2 w lim (Zao X aks) cargs hlc (fun i=>?_) hdist hsize hxfar
   by_cases him:∃ z,aks[i]? = some (.imm z)
   ·obtain ⟨z,ha⟩:=him
    rw [hget i _ ha]
    rcases hok i _ ha with h | ⟨d,q,e',xs',n1,n2,n3,n4,n5,n6,n7,n8⟩
    ·exact ZkL h.2 h.1
    ·subst n5
     subst n6
     subst n3
     rcases n4 with ⟨_,k2,k3⟩ | ⟨b,arr,cap,k2,_⟩ | ⟨k0,_⟩ | ⟨k0,_⟩
     ·have:xs' = []:=List.eq_nil_of_length_eq_zero k2
      subst this
      rcases k3 with k3 | ⟨a,k3⟩
      ·show Rep w lim _ _
       rw [k3];exact .sliceN
      ·show Rep w lim _ _
       rw [k3];exact .sliceE fun h=>by cases h
     ·exact (hbor ⟨e',xs',b,n1,k2,n7,n2,n8⟩).elim
     ·rw [n2.2] at k0;cases k0
     ·rw [n2.2] at k0;cases k0
   ·exact hrel0 i fun z hz=>him ⟨z,hz⟩
 have hrun:(execOp (Act.eval ⟨tm,[]⟩) o).run c.P w = .ok (.enter f cargs.toArray) w:=by
  have harr:cl.args.map (Act.eval ⟨tm,[]⟩)++(bs.map fun b=>Value.pointer (some ⟨b,0,none⟩)).toArray=cargs.toArray:=by
   apply Array.toList_inj.1;rw [hcargs];simp
  simp only [execOp,ho,Sem.run_bind,hcv,Result.andThen_ok,invoke,callFunc,run_program,hfn,hname,hbody]
  rw [harr]
  rfl
 unfold Oper.wp
 rw [hrun,Oper.upon_enter]
 refine hcalls.mono ?_
 rintro e w' ⟨v,lim',X',rfl,hstep,hl',hrel',hdist',hours',hgh',hnl',hnr'⟩
 rw [List.length_map] at hnr'
 have hal:aks.length < ngN:=by have:=hcs;rwa [List.length_map] at this
 refine hn v w' ?_
 -- what the slots are behind the call
 have hpass:∀ d,(∃ i a,Zcb aks d 0=some (i,a)∧aks[i]? = some a∧a.slot=some d)∨(Zcb aks d 0=none∧∀ a∈aks,a.slot≠some d):=by
  intro d
  cases hf:Zcb aks d 0 with
  | none => exact .inr ⟨rfl, Zdw aks d 0 hf⟩
  | some p =>
   obtain ⟨m,a⟩:=p
   obtain ⟨i,h1,h2,h3⟩:=Zds aks d 0 m a hf
   rw [Nat.zero_add] at h1
   subst h1
   exact .inl ⟨m,a,rfl,h2,h3⟩
 have houtAt:∀ i a,aks[i]? = some a→∃ y,outs[i]? = some y:=fun i a ha=>⟨_,List.getElem?_eq_getElem (by rw [hol];exact (List.getElem?_eq_some_iff.1 ha).1)⟩
 have hret:∀ i,i < aks.length→W3 (aks.map AK.av).length cargs v i=cargs.getD i undef:=by
  intro i hi
  unfold W3
  rw [if_neg (by rw [List.length_map];omega)]
 have hboxOut:∀ i d fr to cs,aks[i]? = some (.box d fr to cs)→∃ cs' b,outs[i]? = some (mkB to cs')∧ZI c.P w' lim' (X' i) cs' (.pointer (some ⟨b,0,none⟩))∧(fr=false→tm.getD d undef = .pointer (some ⟨b,0,none⟩))∧X' i 0=some b∧X d 0=some b∧
   Ju σ' (Za8 aks outs) d=mkB fr cs':=by
  intro i d fr to cs ha
  obtain ⟨y,hy⟩:=houtAt i _ ha
  obtain ⟨cs',rfl⟩:=hout i d fr to cs y ha hy
  have h1:=hrel' i
  have hlt:i < outs.length:=(List.getElem?_eq_some_iff.1 hy).1
  have ho1:ZM (outs++[res]) i=mkB to cs':=by
   simp only [ZM]
   rw [List.getElem?_append_left hlt,hy]
   rfl
  obtain ⟨k1,b,k2,k3,k4,k5⟩:=hok i _ ha
  rw [ho1,hret i (by rw [← hol];exact hlt)] at h1
  have hup:=J8 aks outs σ' i (.box d fr to cs) (mkB to cs') d hol.symm hnd ha hy rfl
  simp only [Zo8] at hup
  have hpl:ZI c.P w' lim' (X' i) cs' (.pointer (some ⟨b,0,none⟩))∧X' i 0=some b:=by
   cases to with
   | false =>
    rw [k5 rfl] at h1
    have hp:ZI c.P w' lim' (X' i) cs' (.pointer (some ⟨b,0,none⟩)):=h1
    obtain ⟨b',m1,m2⟩:=Y1 hp
    simp only [Value.pointer.injEq,Option.some.injEq,Addr.mk.injEq,and_true] at m2
    exact ⟨hp,by rw [m1,m2]⟩
   | true =>
    obtain ⟨v',hp⟩:=(show ∃ v',ZI c.P w' lim' (X' i) cs' v' from h1)
    have hgx:=(hgh' i (by rw [ho1];rfl)).2
    have hX:Zao X aks i 0=X d 0:=by simp [Zao,ha]
    obtain ⟨b',m1,m2⟩:=Y1 hp
    rw [hgx,hX,k2] at m1
    cases m1
    exact ⟨by rw [← m2];exact hp,by rw [hgx,hX,k2]⟩
  exact ⟨cs',b,hy,hpl.1,k4,hpl.2,k2,hup⟩
 have hafter:Sim c (Ju σ' (Za8 aks outs)) tm w' lim' (XaA X X' aks):=by
  have hSours:∀ b,(∃ i k,Zao X aks i k=some b)→c.A b∨c.w0.heap.size≤b:=by
   rintro b ⟨i,k,h⟩
   obtain ⟨a,d,_,_,h3⟩:=hXof i k b h
   exact (hsim.ours d k b h3).2
  have hXa:∀ d k b,XaA X X' aks d k=some b→(∃ i a fr to cs,Zcb aks d 0=some (i,a)∧aks[i]? = some (.box d fr to cs)∧X' i k=some b)∨(Zcb aks d 0=none∧(∀ a∈aks,a.slot≠some d)∧X d k=some b):=by
   intro d k b h
   unfold XaA at h
   rcases hpass d with ⟨i,a,h1,h2,h3⟩ | ⟨h1,h2⟩
   ·rw [h1] at h
    cases a with
    | imm y => simp at h
    | own t x e xs => simp at h
    | clo _ _ _ => simp at h
    | ref _ _ _ _ => simp at h
    | pad => simp at h
    | box d' fr to cs =>
     simp only [AK.slot,Option.some.injEq] at h3
     subst h3
     exact .inl ⟨i,_,fr,to,cs,h1,h2,h⟩
   ·rw [h1] at h
    exact .inr ⟨h1,h2,h⟩
  have hfarA:∀ d,ngN≤d→∀ a∈aks,a.slot≠some d:=by
   intro d hd a ha hs
   have h0:=hsim.far d hd
   obtain ⟨j,hj⟩:=List.mem_iff_getElem?.1 ha
   have hk:=hok j a hj
   cases a with
   | imm y => simp [AK.slot] at hs
   | clo _ _ _ => simp [AK.slot] at hs
   | pad => simp [AK.slot] at hs
   | ref t x e xs =>
    simp only [AK.slot,Option.some.injEq] at hs
    subst hs
    rw [hk.1] at h0
    cases h0
   | own t x e xs =>
    simp only [AK.slot,Option.some.injEq] at hs
    subst hs
    rw [hk.1] at h0
    cases h0
   | box t fr to cs =>
    simp only [AK.slot,Option.some.injEq] at hs
    subst hs
    rw [hk.1] at h0
    cases fr<;>cases h0
  have hXold:∀ d k b,(∀ a∈aks,a.slot≠some d)→X d k=some b→¬ ∃ i k,Zao X aks i k=some b:=by
   rintro d k b hno hb ⟨i,k',h⟩
   obtain ⟨a,d',h1,h2,h3⟩:=hXof i k' b h
   obtain ⟨e1,_⟩:=hsim.dist d k d' k' b hb h3
   subst e1
   exact hno a (List.mem_of_getElem? h1) h2
  -- a box of the caller's stays one
  have hkeep:∀ d' gh cs,σ' d'=mkB gh cs→(∃ cs',Ju σ' (Za8 aks outs) d'=mkB gh cs'∧((∀ a∈aks,a.slot≠some d')→cs'=cs))∧XaA X X' aks d' 0=X d' 0:=by
   intro d' gh cs hd'
   rcases hpass d' with ⟨i,a,k1,k2,k3⟩ | ⟨k1,k2⟩
   ·cases a with
    | imm y => simp [AK.slot] at k3
    | clo _ _ _ => simp [AK.slot] at k3
    | pad => simp [AK.slot] at k3
    | own t x e xs =>
     simp only [AK.slot,Option.some.injEq] at k3
     subst k3
     have:=hok i _ k2
     rw [this.1] at hd'
     cases gh<;>cases hd'
    | ref t x e xs =>
     simp only [AK.slot,Option.some.injEq] at k3
     subst k3
     have:=hok i _ k2
     rw [this.1] at hd'
     cases gh<;>cases hd'
    | box d'' fr to cs'' =>
     simp only [AK.slot,Option.some.injEq] at k3
     subst k3
     obtain ⟨cs',b,g1,g2,g3,g4,g5,g6⟩:=hboxOut i d'' fr to cs'' k2
     have hkk:=(hok i _ k2).1
     rw [hd'] at hkk
     have hfg:gh=fr:=by have:=congrArg AV.isG hkk;rwa [ZdU,ZdU] at this
     subst hfg
     refine ⟨⟨cs',g6,fun hno=>(hno _ (List.mem_of_getElem? k2) rfl).elim⟩,?_⟩
     simp only [XaA,k1]
     rw [g4,g5]
   ·exact ⟨⟨cs,by rw [ZZ aks outs σ' d' k2];exact hd',fun _=>rfl⟩,by simp only [XaA,k1]⟩
  have hkb:∀ d' cs,σ' d' = .box cs→(∃ cs',Ju σ' (Za8 aks outs) d' = .box cs')∧XaA X X' aks d' 0=X d' 0:=by
   intro d' cs hd'
   obtain ⟨⟨cs',h1,_⟩,h3⟩:=hkeep d' false cs hd'
   exact ⟨⟨cs',h1⟩,h3⟩
  -- what is referred to is not handed over
  have href:∀ i d' k,Je (σ' i) d' k→(∀ a∈aks,a.slot≠some i)→∀ a∈aks,a.slot≠some d':=by
   intro i d' k hr hni a ha hs
   obtain ⟨p,hp⟩:=Y7 hsim hr
   obtain ⟨j,hj⟩:=List.mem_iff_getElem?.1 ha
   have hk:=hok j a hj
   cases a with
   | imm y => simp [AK.slot] at hs
   | clo _ _ _ => simp [AK.slot] at hs
   | pad => simp [AK.slot] at hs
   | ref t x e xs =>
    simp only [AK.slot,Option.some.injEq] at hs
    subst hs
    rw [hk.1] at hp
    simp [Zo] at hp
   | own t x e xs =>
    simp only [AK.slot,Option.some.injEq] at hs
    subst hs
    cases x with
    | false => rw [hk.1] at hp; simp [Zo] at hp
    | true =>
     obtain ⟨h1,h2⟩:=(hex j t e xs hj).all hT
     by_cases hit:i=t
     ·subst hit
      rw [hk.1] at hr
      rcases hr with hr | ⟨_,hr⟩ <;> cases hr
     ·have:=h2 i k hit hr
      cases this
   | box t fr to cs =>
    simp only [AK.slot,Option.some.injEq] at hs
    subst hs
    rw [hk.1,ZeN fr false] at hp
    rcases hbx j t fr to cs hj with hnr | hdr | hdr
    ·cases k with
     | zero => simp [mkB, Zo] at hp
     | succ k =>
      simp only [mkB,Zo] at hp
      split at hp
      ·rename_i e xs hx
       exact hnr _ (List.mem_of_getElem? hx) e xs rfl
      ·cases hp
    ·obtain ⟨h1,h2⟩:=hdr.all hT
     by_cases hit:i=t
     ·subst hit
      rw [hk.1] at hr
      cases fr<;>rcases hr with hr | ⟨_,hr⟩ <;> cases hr
     ·have:=h2 i k hit hr
      cases this
    ·obtain ⟨a,ha',hsa⟩:=hdr σ' hT i k hr
     exact hni a ha' hsa
  have hkg:∀ d',(σ' d').isG=true→(Ju σ' (Za8 aks outs) d').isG=true∧XaA X X' aks d' 0=X d' 0:=by
   intro d' hd'
   obtain ⟨cs,hcs⟩:∃ cs,σ' d'=mkB true cs:=by
    generalize σ' d'=x at hd'
    cases x<;>simp [AV.isG] at hd'
    exact ⟨_,rfl⟩
   obtain ⟨⟨cs',h1,_⟩,h3⟩:=hkeep d' true cs hcs
   exact ⟨by rw [h1];rfl,h3⟩
  refine ⟨fun d=>?_,hsim.size,fun d hd=>?_,fun d hd=>?_,fun d k d' k' b h h'=>?_,fun d k b h=>?_,hsim.frm.step hstep hSours,fun d v hv=>?_,fun d e xs hdo=>?_,fun d b hb=>?_,hsim.ntN,fun d hd=>?_,fun d k e xs b m1 m2 m3=>?_,fun b m b' hb=>?_⟩
  ·rcases hpass d with ⟨i,a,h1,h2,h3⟩ | ⟨h1,h2⟩
   ·cases a with
    | imm y => simp [AK.slot] at h3
    | clo _ _ _ => simp [AK.slot] at h3
    | pad => simp [AK.slot] at h3
    | own t x e xs =>
     simp only [AK.slot,Option.some.injEq] at h3
     subst h3
     obtain ⟨y,hy⟩:=houtAt i _ h2
     rw [J8 aks outs σ' i (.own t x e xs) y t hol.symm hnd h2 hy rfl]
     trivial
    | ref t x e xs =>
     simp only [AK.slot,Option.some.injEq] at h3
     subst h3
     obtain ⟨y,hy⟩:=houtAt i _ h2
     rw [J8 aks outs σ' i (.ref t x e xs) y t hol.symm hnd h2 hy rfl]
     trivial
    | box d' fr to cs =>
     simp only [AK.slot,Option.some.injEq] at h3
     subst h3
     obtain ⟨cs',b,g1,g2,g3,g4,g5,g6⟩:=hboxOut i d' fr to cs h2
     rw [g6]
     have hrow:XaA X X' aks d'=X' i:=by funext k;simp only [XaA,h1]
     cases fr with
     | false =>
      show ZI c.P w' lim' (XaA X X' aks d') cs' _
      rw [hrow,g3 rfl]
      exact g2
     | true => exact ⟨_, by rw [hrow]; exact g2⟩
   ·rw [ZZ aks outs σ' d h2]
    have hm:=(hsim.rel d).mono hstep.ext (fun k b hb=>hstep.blk b (hsim.ours d k b hb).1 (hXold d k b h2 hb)) fun d' k b he hb=>
     .of (hstep.blk b (hsim.ours d' k b hb).1 (hXold d' k b (href d d' k (.inl he) h2) hb)).1
    refine hm.chg (by funext k;simp only [XaA,h1]) hkb hkg fun d' k hr=>?_
    have hno:=href d d' k hr h2
    refine ⟨by rw [ZZ aks outs σ' d' hno];exact Kl.refl _ _,?_⟩
    rcases hpass d' with ⟨i,a,_,k2,k3⟩ | ⟨k1,_⟩
    ·exact (hno a (List.mem_of_getElem? k2) k3).elim
    ·simp only [XaA,k1]
  ·rcases hsim.out d hd with h | h
   ·left
    have hno:∀ a∈aks,a.slot≠some d:=by
     intro a ha hs
     obtain ⟨i,hi⟩:=List.mem_iff_getElem?.1 ha
     have hok':=hok i a hi
     cases a with
     | imm y => simp [AK.slot] at hs
     | clo _ _ _ => simp [AK.slot] at hs
     | pad => simp [AK.slot] at hs
     | own t x e xs =>
      simp only [AK.slot,Option.some.injEq] at hs
      subst hs
      rw [hok'.1] at h
      cases h
     | ref t x e xs =>
      simp only [AK.slot,Option.some.injEq] at hs
      subst hs
      rw [hok'.1] at h
      cases h
     | box t fr to cs =>
      simp only [AK.slot,Option.some.injEq] at hs
      subst hs
      rw [hok'.1] at h
      cases fr<;>cases h
    rw [ZZ aks outs σ' d hno]
    exact h
   ·exact .inr (hkg d h).1
  ·rcases hpass d with ⟨i,a,h1,h2,h3⟩ | ⟨h1,h2⟩
   ·cases a with
    | imm y => simp [AK.slot] at h3
    | clo _ _ _ => simp [AK.slot] at h3
    | pad => simp [AK.slot] at h3
    | own t x e xs =>
     simp only [AK.slot,Option.some.injEq] at h3
     subst h3
     obtain ⟨y,hy⟩:=houtAt i _ h2
     rw [J8 aks outs σ' i (.own t x e xs) y t hol.symm hnd h2 hy rfl] at hd
     cases hd
    | ref t x e xs =>
     simp only [AK.slot,Option.some.injEq] at h3
     subst h3
     obtain ⟨y,hy⟩:=houtAt i _ h2
     rw [J8 aks outs σ' i (.ref t x e xs) y t hol.symm hnd h2 hy rfl] at hd
     cases hd
    | box d' fr to cs =>
     simp only [AK.slot,Option.some.injEq] at h3
     subst h3
     obtain ⟨cs',b,g1,g2,g3,g4,g5,g6⟩:=hboxOut i d' fr to cs h2
     rw [g6,ZdU] at hd
     exact hsim.ghost d' (by rw [(hok i _ h2).1,ZdU];exact hd)
   ·rw [ZZ aks outs σ' d h2] at hd
    exact hsim.ghost d hd
  ·rcases hXa d k b h with ⟨i,a,fr,to,cs,g1,g2,g3⟩ | ⟨g1,g2,g3⟩ <;> rcases hXa d' k' b h' with ⟨i',a',fr',to',cs',g1',g2',g3'⟩ | ⟨g1',g2',g3'⟩
   ·obtain ⟨e1,e2⟩:=hdist' i k i' k' b g3 g3'
    subst e1
    rw [g2] at g2'
    simp only [Option.some.injEq,AK.box.injEq] at g2'
    exact ⟨g2'.1,e2⟩
   ·rcases (hours' i k b g3).2 with hS | hS
    ·exact (hXold d' k' b g2' g3' hS).elim
    ·have:=(hsim.ours d' k' b g3').1;omega
   ·rcases (hours' i' k' b g3').2 with hS | hS
    ·exact (hXold d k b g2 g3 hS).elim
    ·have:=(hsim.ours d k b g3).1;omega
   ·exact hsim.dist d k d' k' b g3 g3'
  ·rcases hXa d k b h with ⟨i,a,fr,to,cs,g1,g2,g3⟩ | ⟨g1,g2,g3⟩
   ·refine ⟨(hours' i k b g3).1,?_⟩
    rcases (hours' i k b g3).2 with hS | hS
    ·exact hSours b hS
    ·exact .inr (Nat.le_trans hsim.frm.size hS)
   ·exact ⟨Nat.lt_of_lt_of_le (hsim.ours d k b g3).1 hstep.size,(hsim.ours d k b g3).2⟩
  ·obtain ⟨p1,cs,p2⟩:=hsim.pin d v hv
   obtain ⟨⟨cs',h1⟩,_⟩:=hkb d cs p2
   exact ⟨p1,cs',h1⟩
  ·rcases hpass d with ⟨i,a,h1,h2,h3⟩ | ⟨h1,h2⟩
   ·exfalso
    cases a with
    | imm y => simp [AK.slot] at h3
    | clo _ _ _ => simp [AK.slot] at h3
    | pad => simp [AK.slot] at h3
    | own t x e xs =>
     simp only [AK.slot,Option.some.injEq] at h3
     subst h3
     obtain ⟨y,hy⟩:=houtAt i _ h2
     rw [J8 aks outs σ' i (.own t x e xs) y t hol.symm hnd h2 hy rfl] at hdo
     cases hdo
    | ref t x e xs =>
     simp only [AK.slot,Option.some.injEq] at h3
     subst h3
     obtain ⟨y,hy⟩:=houtAt i _ h2
     rw [J8 aks outs σ' i (.ref t x e xs) y t hol.symm hnd h2 hy rfl] at hdo
     cases hdo
    | box d' fr to cs =>
     simp only [AK.slot,Option.some.injEq] at h3
     subst h3
     obtain ⟨cs',b,g1,g2,g3,g4,g5,g6⟩:=hboxOut i d' fr to cs h2
     rw [g6] at hdo
     cases fr<;>cases hdo
   ·rw [ZZ aks outs σ' d h2] at hdo
    rw [show XaA X X' aks d=X d from by funext k;simp only [XaA,h1]]
    exact (hsim.mp d e xs hdo).mono hstep.ext fun k b hb=>hstep.blk b (hsim.ours d k b hb).1 (hXold d k b h2 hb)
  ·obtain ⟨p1,p2⟩:=hsim.gpin d b hb
   obtain ⟨h1,h2⟩:=hkg d p2
   exact ⟨h2.trans p1,h1⟩
  ·rw [ZZ aks outs σ' d (hfarA d hd)]
   exact hsim.far d hd
  ·have hfb:=hfarA (ngN+b) (Nat.le_add_right _ _)
   have hXfb:XaA X X' aks (ngN+b)=X (ngN+b):=by
    rcases hpass (ngN+b) with ⟨i,a,g1,g2,g3⟩ | ⟨g1,_⟩
    ·exact (hfb a (List.mem_of_getElem? g2) g3).elim
    ·funext k;simp only [XaA,g1]
   rcases hpass d with ⟨i,a,h1,h2,h3⟩ | ⟨h1,h2⟩
   ·exfalso
    cases a with
    | imm y => simp [AK.slot] at h3
    | clo _ _ _ => simp [AK.slot] at h3
    | pad => simp [AK.slot] at h3
    | own t x e' xs' =>
     simp only [AK.slot,Option.some.injEq] at h3
     subst h3
     obtain ⟨y,hy⟩:=houtAt i _ h2
     rw [J8 aks outs σ' i (.own t x e' xs') y t hol.symm hnd h2 hy rfl] at m1
     cases k<;>cases m1
    | ref t x e' xs' =>
     simp only [AK.slot,Option.some.injEq] at h3
     subst h3
     obtain ⟨y,hy⟩:=houtAt i _ h2
     rw [J8 aks outs σ' i (.ref t x e' xs') y t hol.symm hnd h2 hy rfl] at m1
     cases k<;>cases m1
    | box d' fr to cs =>
     simp only [AK.slot,Option.some.injEq] at h3
     subst h3
     obtain ⟨cs',b',g1,g2,g3,g4,g5,g6⟩:=hboxOut i d' fr to cs h2
     rw [g6] at m1
     have hno:=hnl' i k e xs (by simp only [ZM,g1];cases fr<;>cases to<;>cases k<;>exact m1)
     rw [hno] at m2
     cases m2
   ·rw [ZZ aks outs σ' d h2] at m1
    rw [show XaA X X' aks d k=X d k from by simp only [XaA,h1]] at m3
    rw [hXfb]
    refine (hsim.nst d k e xs b m1 m2 m3).mono hstep.ext (hstep.blk b (hsim.ours d k b m3).1 (hXold d k b h2 m3)).1 fun j b' hb'=>hstep.blk b' (hsim.ours _ j b' hb').1 (hXold _ j b' hfb hb')
  ·have hfb:=hfarA (ngN+b) (Nat.le_add_right _ _)
   rcases hpass (ngN+b) with ⟨i,a,g1,g2,g3⟩ | ⟨g1,_⟩
   ·exact (hfb a (List.mem_of_getElem? g2) g3).elim
   ·simp only [XaA,g1] at hb
    exact Nat.lt_of_lt_of_le (hsim.yfr b m b' hb) hstep.size
 -- the result
 have hresv:ZP c.P w' lim' X' (ZM (outs++[res])) aks.length res v:=by
  have h1:=hrel' aks.length
  have ho1:ZM (outs++[res]) aks.length=res:=by
   simp only [ZM]
   rw [List.getElem?_append_right (by omega),hol]
   simp
  have hv:W3 (aks.map AK.av).length cargs v aks.length=v:=by
   unfold W3
   rw [if_pos (by rw [List.length_map])]
  rw [ho1,hv] at h1
  exact h1
 have hresg:res.isG=false:=by
  rcases hres with (⟨u,rfl⟩ | ⟨cs,rfl⟩ | ⟨f,s,xs,rfl⟩) | ⟨b,e,xs,rfl⟩ | ⟨vs,rfl⟩ | ⟨cs,rfl⟩ | ⟨cs,rfl⟩ <;> rfl
 cases hdst:o.dst with
 | none => exact ⟨lim', _, hafter⟩
 | some d =>
  intro hd hm
  have hfree:∀ m k b,aks.length≤m→X' m k=some b→∀ i j,XaA X X' aks i j≠some b:=by
   intro m k b hml hk i j hij
   unfold XaA at hij
   rcases hpass i with ⟨m',a,h1,h2,h3⟩ | ⟨h1,h2⟩
   ·rw [h1] at hij
    cases a with
    | imm y => simp at hij
    | own t x e xs => simp at hij
    | clo _ _ _ => simp at hij
    | ref _ _ _ _ => simp at hij
    | pad => simp at hij
    | box d fr to cs =>
     obtain ⟨e1,_⟩:=hdist' _ _ _ _ b hk hij
     have:=(List.getElem?_eq_some_iff.1 h2).1
     omega
   ·rw [h1] at hij
    rcases (hours' _ k b hk).2 with ⟨i',k',hS⟩ | hS
    ·obtain ⟨a,d',g1,g2,g3⟩:=hXof i' k' b hS
     obtain ⟨e1,_⟩:=hsim.dist i j d' k' b hij g3
     subst e1
     exact h2 a (List.mem_of_getElem? g1) g2
    ·have:=(hsim.ours i j b hij).1;omega
  have hown:∀ m k b,X' m k=some b→c.A b∨c.w0.heap.size≤b:=by
   intro m k b hk
   rcases (hours' _ k b hk).2 with ⟨i,k',hS⟩ | hS
   ·obtain ⟨a,d',_,_,h3⟩:=hXof i k' b hS
    exact (hsim.ours d' k' b h3).2
   ·exact .inr (Nat.le_trans hsim.frm.size hS)
  obtain ⟨X2,hX2,hX2f,hX2b,hX2n⟩:∃ X2,Sim c (Ju σ' (Za8 aks outs)) tm w' lim' X2∧(∀ d,d < ngN→X2 d=XaA X X' aks d)∧(∀ k b,X' aks.length k=some b→X2 (ngN+b)=X' (ngN+b))∧∀ k b,X' aks.length k=some b→∀ i j,X2 i j≠some b:=by
   classical
   refine ⟨fun d=>if ngN≤d∧∃ k,X' aks.length k=some (d-ngN) then X' d else XaA X X' aks d,hafter.graft (fun b=>∃ k,X' aks.length k=some b) (fun d hd=>if_neg fun h=>by omega) (fun b hb=>if_neg fun h=>hb (by rw [Nat.add_sub_cancel_left] at h;exact h.2)) (fun b ⟨k,hb⟩=>⟨(hours' _ k b hb).1,hfree _ k b (Nat.le_refl _) hb⟩) (fun b k b' hb hk=>?_),fun d hd=>if_neg fun h=>by omega,fun k b hb=>if_pos ⟨Nat.le_add_right _ _,k,by rw [Nat.add_sub_cancel_left];exact hb⟩,fun k b hb i j hij=>?_⟩
   ·have hcond:∀ b,(∃ k,X' aks.length k=some b)→(if ngN≤ngN+b∧∃ k,X' aks.length k=some (ngN+b-ngN) then X' (ngN+b) else XaA X X' aks (ngN+b))=X' (ngN+b):=fun b hb=>if_pos ⟨Nat.le_add_right _ _,by rw [Nat.add_sub_cancel_left];exact hb⟩
    rw [hcond b hb] at hk
    refine ⟨(hours' _ k b' hk).1,hown _ k b' hk,fun d j hdj=>(hfree _ k b' (by omega) hk d j hdj).elim,fun b2 k2 hb2 hk2=>?_⟩
    rw [hcond b2 hb2] at hk2
    obtain ⟨e1,e2⟩:=hdist' _ _ _ _ b' hk2 hk
    exact ⟨by omega,e2⟩
   ·have hij':(if ngN≤i∧∃ k,X' aks.length k=some (i-ngN) then X' i else XaA X X' aks i) j=some b:=hij
    split at hij'
    ·rename_i hc
     have:=(hdist' _ _ _ _ b hb hij').1
     omega
    ·exact hfree _ k b (Nat.le_refl _) hb i j hij'
  refine ⟨lim',_,hX2.putRow (X' aks.length) (ZN.refl w' lim' (fun _=>False)) (fun _ hs=>hs.elim) hd (tm':=tm.setIfInBounds d v) (by simp) (fun i hi=>ZL tm d i v hi) (.inl (ZD hm).1) (fun i q hi hr=>(hX2.noRefs (ZD hm).none i q hi hr).elim) ?_ (fun k b hk=>⟨(hours' _ k b hk).1,hown _ k b hk,fun i j _=>hX2n k b hk i j⟩) (fun k k' b hk hk'=>(hdist' _ k _ k' b hk hk').2) hresg (fun e xs he=>.mv (hrm e xs he)) (hns:=fun k e xs b m1 m2 m3=>by rw [hX2b k b m3];exact hnr' k e xs b m1 m2 m3)⟩
  rw [Jz tm d v (by rw [hsim.size];exact hd)]
  exact ZiD hres hresv (Zp _ d _)
theorem ZdG {P:Program} {o:Oper} {σ:Nat→AV} {f:FuncId} {first captured:Array Operand} {ds:List Nat} (ho:o.op = .makeFunc (.func f) first captured) (hf:first.toList = [])
  (hl:captured.toList.length=ds.length) (hc:∀ (i:Nat) (x:Operand) (d:Nat),(captured.toList)[i]? = some x→ds[i]? = some d→Zr P σ x = .ptr d 0∧∃ cs,σ d = .box cs):JA P o σ (.clo f ds) [] ds:=by
 have hf':first = #[]:=by apply Array.toList_inj.1;rw [hf]
 refine ZE ds rfl fun c hcP σ' tm w lim X hg hfp hsim=>⟨.func (.func f) #[] (captured.map (Act.eval ⟨tm,[]⟩)),?_,?_⟩
 ·simp [execOp,ho,Instr.makeFunc,hf']
 ·have hb:∀ i:Nat,∃ b:Nat,∀ (x:Operand) (d:Nat),(captured.toList)[i]? = some x→ds[i]? = some d→Act.eval ⟨tm,[]⟩ x = .pointer (some ⟨b,0,none⟩)∧X d 0=some b∧(σ' d).isB=true:=by
   intro i
   cases hx:captured.toList[i]? with
   | none => exact ⟨0, fun x d h => by cases h⟩
   | some x =>
    cases hd:ds[i]? with
    | none => exact ⟨0, fun x d _ h => by cases h⟩
    | some d =>
     obtain ⟨h1,cs,h2⟩:=hc i x d hx hd
     rw [ho] at hg
     have hv:=J0 hcP hsim h1 (hg x (by
      have:=List.mem_of_getElem? hx
      simp [Op.operands,Array.mem_toList_iff.1 this]))
     obtain ⟨b,cs',m1,m2,m3⟩:=hv
     refine ⟨b,fun y e hy he=>?_⟩
     cases hy
     cases he
     exact ⟨m3,m1,by rw [m2];rfl⟩
  obtain ⟨bf,hbf⟩:=Classical.axiomOfChoice hb
  have hat:∀ i,i < ds.length→∃ x,captured.toList[i]? = some x:=fun i hi=>⟨_,List.getElem?_eq_getElem (by rw [hl];exact hi)⟩
  refine ⟨(List.range ds.length).map bf,?_,by simp,fun i d b hd hb=>?_⟩
  ·have:captured.map (Act.eval ⟨tm,[]⟩)=(((List.range ds.length).map bf).map fun b=>Value.pointer (some ⟨b,0,none⟩)).toArray:=by
    apply Array.toList_inj.1
    rw [Array.toList_map]
    apply List.ext_getElem?
    intro i
    rw [List.getElem?_map,List.getElem?_map,List.getElem?_map]
    by_cases hi:i < ds.length
    ·obtain ⟨x,hx⟩:=hat i hi
     rw [hx,List.getElem?_range hi]
     simp only [Option.map_some]
     exact congrArg some (hbf i x _ hx (List.getElem?_eq_getElem hi)).1
    ·rw [List.getElem?_eq_none (by rw [hl];omega),List.getElem?_eq_none (by simp;omega)]
     rfl
   rw [this]
  ·have hi:=(List.getElem?_eq_some_iff.1 hd).1
   obtain ⟨x,hx⟩:=hat i hi
   rw [List.getElem?_map,List.getElem?_range hi] at hb
   simp only [Option.map_some,Option.some.injEq] at hb
   subst hb
   exact ⟨(hbf i x d hx hd).2.1,(hbf i x d hx hd).2.2⟩
end Go.AM
end
