import Derived.Test.YtpjnmgjphfnmmaaM6
import Derived.Test.YtpjnmgjphfnmmaaFWh
import Derived.Test.YtpjnmgjphfnmmaaFWe
open Option renaming some→Xa,none→Xe,bind_some→XM
open Bool renaming true→Xb,false→Xc,false_eq_true→Uh,true_and→UE
open List renaming map_cons→Xg,getElem?_eq_some_iff→Xi,mem_map→Xj,getElem?_map→Xk,mem_cons→Xl,replicate→Xm,getElem?_eq_getElem→Xp,length_map→Xq,mem_append→Xt,append_assoc→Xu,getElem?_append_left→Xv,map_nil→Xz,length_append→XA,mem_singleton→XC,length_cons→XJ,map_append→XL,cons_append→XP,nil_append→XX,map_map→X6,getElem?_set_self→X8,append_nil→Wc,mem_cons_of_mem→We,length_nil→Wi,map_congr_left→Wk,ext_getElem?→Ua,getElem?_eq_none→Uc,pairwise_append→Un,mem_append_left→UC,pairwise_cons→UK,filter_append→UL,filter_eq_self→US,find?_cons→UT,mem_append_right→U5,any_cons→U7,filter_cons_of_neg→U8,mem_of_find?_eq_some→Tg,find?_some→Th,find?_eq_some_iff_append→Tt
open Nat renaming le_refl→XD,zero_add→XF
open Int renaming toNat_natCast→UI
set_option linter.unusedVariables false
set_option linter.unusedSimpArgs false
set_option linter.defProp false
namespace Go.W
section
open Go Go.AM Go.Proofs.Ytpjnmgjphfnmmaa
set_option maxRecDepth 100000
structure Pr where
 id:Int
 parent:Int
 name:ByteArray
 cores:List Int
 ended : Bool
 status:Int
 waiting:Bool
structure PE where
 j:Nat
 c:Option (Nat×Nat)
 p:Pr
def PE.core (e:PE):AV:=match e.c with | none=>.osl 0 0 0 | some q=>.osl 3 (q.1+1) e.p.cores.length
def PE.row (e:PE):List AV:=[I e.p.id,I e.p.parent,.val (.string e.p.name),e.core,B e.p.ended,I e.p.status,B e.p.waiting]
def PE.arr (e:PE) (k:Nat):List AV:=e.p.cores.map (fun z=>I z)++Xm k (I 0)
def PE.frag (e:PE):Zbq:=(e.j,e.row)::(match e.c with | none=>[] | some q=>[(q.1,e.arr q.2)])
def PE.ok (e:PE):Prop:=match e.c with | none=>e.p.cores = [] | some q=>e.p.cores.length+q.2≠0
structure MS where
 jm:Nat
 jq:Nat
 es:List PE
 last:Int
def PE.kv (e:PE):List AV:=[I e.p.id,.oref (e.j+1) 0]
def MS.head (m:MS):List AV:=[.omap (m.jq+1),I m.last]
def MS.map (m:MS):List AV:=ZX (m.es.map PE.kv)
def MS.frag (m:MS):Zbq:=(m.jm,m.head)::(m.jq,m.map)::m.es.flatMap PE.frag
def MS.find (m:MS) (k:Int):Option PE:=m.es.find? fun e=>decide (e.p.id=k)
def nmE (o:Option PE):LL:=match o with | none=>[[.oref 0 0]] | some e=>[[.oref (e.j+1) 0]]
variable {rows:LL} {F:Zbq} {m:MS}
theorem head_at (h:ZO rows (m.frag++F)):rows[m.jm]? = Xa m.head:=h.get (by simp [MS.frag])
theorem map_at (h:ZO rows (m.frag++F)):rows[m.jq]? = Xa m.map:=h.get (by simp [MS.frag])
theorem Zle (h:ZO rows (m.frag++F)) {e:PE} (he:e∈m.es):rows[e.j]? = Xa e.row:=h.get (by
 simp only [MS.frag,XP,Xl,Xt,List.mem_flatMap]
 exact .inr (.inr (.inl ⟨e,he,by simp [PE.frag]⟩)))
theorem Zia {x:LL} {k:Int} (h:ZO rows (m.frag++F)) (hx:Zk x = .omap (m.jq+1)):Zf .mget rows k x []=nmE (m.find k):=by
 simp only [Zf,hx,Zn9,ZrZ,Yt (map_at h),MS.map,ZX,Kv]
 have:(m.es.map PE.kv).find? (fun r=>ZM r == Xa k)=(m.find k).map PE.kv:=by
  unfold MS.find
  induction m.es with
  | nil => rfl
  | cons e es ih =>
   have hk:(ZM e.kv == Xa k)=decide (e.p.id=k):=by
    show (Xa e.p.id == Xa k)=_
    by_cases hd:e.p.id=k<;>simp [hd]
   simp only [Xg,UT,hk]
   cases hd:decide (e.p.id=k) with
   | true => rfl
   | false => exact ih
 rw [this]
 cases m.find k with
 | none => rfl
 | some e => rfl
theorem Zbe {x:LL} (h:ZO rows (m.frag++F)) (hx:Zk x = .omap (m.jq+1)):Zf .mchk rows 0 x [] = [[]]:=by
 simp only [Zf,hx,Zso,Yt (map_at h),MS.map,ZX,Yu,okL]
theorem JO {k:Int} {e:PE} (h:m.find k=Xa e):e∈m.es∧e.p.id=k:=by
 unfold MS.find at h
 refine ⟨Tg h,?_⟩
 have:=Th h
 simpa using this
def MS.run (m:MS) (k:Int):Option PE:=match m.find k with | some e=>if e.p.ended=Xb then Xe else Xa e | none=>Xe
theorem YM {γ:Type} {c:AV} (hc:JC c=Xb) (k:LL→Option γ):Jn [[c]] 0 [.cel] k=k [[c]]:=by
 refine Vx (l:=[[c]]) (sh:=[.cel]) (cs:=[c]) (r:=([[c]] : LL)) k (by decide:(0:Int)≤0) rfl ?_
 show (if JC c=Xb then Xa [[c]] else Xe)=Xa [[c]]
 rw [if_pos hc]
theorem Ww {γ:Type} (b:Bool) (k:Bool→Option γ):Jn [[B b]] 0 [.bool] k=k b:=Vx (l:=[[B b]]) (sh:=[.bool]) (cs:=[B b]) (r:=(b:Bool)) k (by decide:(0:Int)≤0) rfl rfl
theorem Yg {γ:Type} (z:Int) (k:Int→Option γ):Jn [[I z]] 0 [.int .i64] k=k z:=Vx (l:=[[I z]]) (sh:=[.int .i64]) (cs:=[I z]) (r:=(z:Int)) k (by decide:(0:Int)≤0) rfl rfl
theorem ne1 {l:LL} (h:l = [[]]):l≠[]:=by rw [h];simp
theorem VF {x:LL} (h:ZO rows (m.frag++F)) (hx:Zk x = .oref (m.jm+1) 0):Zf (.get 1) rows 0 (Zf (.padd 0) x 0 E0 []) [] = [[.omap (m.jq+1)]]:=by
 rw [ZaO hx]
 exact Zfn rfl (head_at h) rfl rfl
theorem Zjp {x:LL} (h:ZO rows (m.frag++F)) (hx:Zk x = .oref (m.jm+1) 0):Zf (.get 1) rows 0 (Zf (.padd 1) x 0 E0 []) [] = [[I m.last]]:=by
 rw [ZaO hx]
 exact Zfn rfl (head_at h) rfl rfl
theorem Zdn (o:Option PE):Zf .pisr (nmE o) 0 E0 [] = [[]]:=by cases o with | none=>exact Zri rfl | some e=>exact Zsb rfl
theorem Zgc:Zf .pnn (nmE Xe) 0 E0 [] = []:=Zsy rfl
theorem ZF (e:PE):Zf .pnn (nmE (Xa e)) 0 E0 [] = [[]]:=Yr rfl
theorem ZdA (e:PE):Zk (nmE (Xa e)) = .oref (e.j+1) 0:=rfl
theorem VW {e:PE} {o:Nat} {c:AV} (h:ZO rows (m.frag++F)) (he:e∈m.es) (hc:e.row[o]? = Xa c):Zf (.get 1) rows 0 (Zf (.padd o) (nmE (Xa e)) 0 E0 []) [] = [[c]]:=by
 rw [ZaO (ZdA e),XF]
 exact Zfn rfl (Zle h he) rfl hc
theorem s27 {x:LL} (h:ZO rows (m.frag++F)) (hx:Zk x = .oref (m.jm+1) 0) (k:Int):g27 x k rows=Xa (nmE (m.run k),rows):=by
 rw [Zr7,Za (ne1 (Yr hx)),Za (ne1 (Yr hx)),VF h hx,YM rfl,Za (ne1 (Zbe h rfl)),Zia h rfl,Za (ne1 (Zdn _))]
 unfold MS.run
 cases hf:m.find k with
 | none =>
  rw [Zgc]
  rfl
 | some e =>
  rw [Za (ne1 (ZF e)),Za (ne1 (ZF e)),VW h (JO hf).1 (c:=B e.p.ended) rfl,Ww,ZF]
  show _=Xa (nmE (if e.p.ended=Xb then Xe else Xa e),rows)
  cases hb:e.p.ended<;>rfl
end
section
open Go Go.AM Go.Proofs.Ytpjnmgjphfnmmaa
set_option maxRecDepth 100000
structure MS.Ok (m:MS):Prop where
 srt:m.es.Pairwise fun a b=>a.p.id < b.p.id
 rng:∀ e∈m.es,1≤e.p.id∧e.p.id≤m.last
 cor:∀ e∈m.es,e.ok
 par:∀ e∈m.es,0≤e.p.parent∧e.p.parent < e.p.id
 len:m.es.length≤64
 lst:m.last≤1048576
variable {rows:LL} {F:Zbq} {m:MS}
def MS.ids (m:MS):LL:=m.es.map fun e=>[I e.p.id]
theorem ZqG (es:List PE):(es.map PE.kv).filterMap ZM=es.map fun e=>e.p.id:=by
 induction es with
 | nil => rfl
 | cons e es ih => rw [Xg, List.filterMap_cons_some (f := ZM) (a := e.kv) (b := e.p.id) rfl, ih, Xg]
theorem Zjq (h:m.es.Pairwise fun a b=>a.p.id < b.p.id):ZdH (m.es.map PE.kv)=m.ids:=by
 unfold ZdH MS.ids
 rw [ZqG,List.mergeSort_of_pairwise,X6]
 ·rfl
 ·rw [List.pairwise_map]
  exact h.imp fun hab=>decide_eq_true (by omega)
theorem s51 {x:LL} {rows:LL} (hx:Zk x = .omap (m.jq+1)):g51 x rows=Xa ([[.fnc 69 [rows.length+1]]],rows++[[.omap (m.jq+1)]]):=by
 have hp:Zf .pnew rows 0 E0 [] = [[.oref (rows.length+1) 0]]:=rfl
 rw [Zsu,hp,Za (by simp [Zf,Zk,JC,okL]),Za (ne1 (Yr rfl)),hx]
 rfl
theorem s50 (h:ZO rows (m.frag++F)) (hm:m.Ok):g50 [[.fnc 69 [rows.length+1]]] (rows++[[.omap (m.jq+1)]])=Xa (m.ids,rows++[[.omap (m.jq+1)]]):=by
 have e:g50 [[.fnc 69 [rows.length+1]]] (rows++[[.omap (m.jq+1)]])=ZcA 69 [[.fnc 69 [rows.length+1]]] (rows++[[.omap (m.jq+1)]]):=rfl
 rw [e]
 have hq:(rows++[[.omap (m.jq+1)]])[m.jq]? = Xa m.map:=by
  have:=map_at h
  rw [Xv (Xi.1 this).1]
  exact this
 have hb:Z9 (rows++[[.omap (m.jq+1)]]) (rows.length+1) = [.omap (m.jq+1)]:=Yt (by simp)
 have hr:Z9 (rows++[[.omap (m.jq+1)]]) (m.jq+1)=ZX (m.es.map PE.kv):=Yt hq
 unfold ZcA
 simp only [Zk,JC,hb]
 rw [hr]
 have hk:Kv (ZX (m.es.map PE.kv))=m.es.map PE.kv:=rfl
 rw [hk,Za,Zjq hm.srt]
 refine ⟨trivial,rfl,by have:=hm.len;simp;omega,List.all_eq_true.2 fun r hr=>?_⟩
 obtain ⟨e,he,rfl⟩:=Xj.1 hr
 have h1:=hm.rng e he
 have h2:=hm.lst
 show (decide (-9223372036854775808≤e.p.id)&&decide (e.p.id≤9223372036854775807))=Xb
 rw [decide_eq_true (by omega),decide_eq_true (by omega)]
 rfl
theorem s29 {x:LL} (h:ZO rows (m.frag++F)) (hm:m.Ok) (hx:Zk x = .oref (m.jm+1) 0):g29 x rows=Xa (m.ids,rows++[[.omap (m.jq+1)]]):=by
 rw [Zr9,Za (ne1 (Yr hx)),Za (ne1 (Yr hx)),VF h hx,YM rfl,s51 (m:=m) rfl,XM,s50 h hm]
 rfl
end
section
open Go Go.AM Go.Proofs.Ytpjnmgjphfnmmaa
set_option maxRecDepth 100000
variable {rows:LL} {F:Zbq} {m:MS}
def PE.cf (e:PE):Zbq:=match e.c with | none=>[] | some q=>[(q.1,e.arr q.2)]
theorem PE.frag_eq (e:PE):e.frag=(e.j,e.row)::e.cf:=rfl
def MS.put (m:MS) (pre:List PE) (e:PE) (post:List PE):MS:={ m with es:=pre++e::post }
theorem WZ (m:MS) {pre post:List PE} {e:PE} (hs:m.es=pre++e::post) :
  (m.frag++F).Perm ((e.j,e.row)::((m.jm,m.head)::(m.jq,m.map)::(pre.flatMap PE.frag++(e.cf++post.flatMap PE.frag))++F)):=by
 have:m.frag++F=((m.jm,m.head)::(m.jq,m.map)::pre.flatMap PE.frag)++((e.j,e.row)::(e.cf++post.flatMap PE.frag++F)):=by
  simp only [MS.frag,hs,List.flatMap_append,List.flatMap_cons,PE.frag_eq,XP,Xu]
 rw [this]
 refine List.perm_middle.trans (List.Perm.cons _ ?_)
 simp only [XP,Xu]
 exact List.Perm.refl _
theorem holds_row (h:ZO rows (m.frag++F)) {pre post:List PE} {e e':PE} (hs:m.es=pre++e::post) (hj:e'.j=e.j) (hid:e'.p.id=e.p.id) (hc:e'.cf=e.cf):ZO (rows.set e.j e'.row) ((m.put pre e' post).frag++F):=by
 have h1:=(h.perm (WZ m hs)).set e'.row
 have h2:=(WZ (F:=F) (m.put pre e' post) (pre:=pre) (e:=e') (post:=post) rfl).symm
 refine ZO.perm ?_ h2
 have hm:(m.put pre e' post).map=m.map:=by
  simp only [MS.map,MS.put,hs,XL,Xg,PE.kv,hj,hid]
 have hh:(m.put pre e' post).head=m.head:=rfl
 rw [hm,hh,hj,hc]
 exact h1
theorem ZbN {k:Int} {e:PE} (h:m.find k=Xa e):∃ pre post,m.es=pre++e::post∧e.p.id=k∧∀ a∈pre,a.p.id≠k:=by
 obtain ⟨h1,pre,post,h2,h3⟩:=Tt.1 (show m.es.find? (fun e=>decide (e.p.id=k))=Xa e from h)
 exact ⟨pre,post,h2,by simpa using h1,fun a ha=>by simpa using h3 a ha⟩
def MS.del (m:MS) (pre post:List PE):MS:={ m with es:=pre++post }
theorem holds_del (h:ZO rows (m.frag++F)) {pre post:List PE} {e:PE} (hs:m.es=pre++e::post):ZO (rows.set m.jq (m.del pre post).map) ((m.del pre post).frag++(e.frag++F)):=by
 have h0:(m.frag++F).Perm ((m.jq,m.map)::((m.jm,m.head)::((m.del pre post).es.flatMap PE.frag++(e.frag++F)))):=by
  simp only [MS.frag,hs,MS.del,List.flatMap_append,List.flatMap_cons,XP,Xu]
  refine (List.Perm.swap _ _ _).trans (List.Perm.cons _ (List.Perm.cons _ (List.Perm.append_left _ ?_)))
  rw [← Xu,← Xu (post.flatMap PE.frag)]
  exact List.Perm.append_right _ List.perm_append_comm
 refine ((h.perm h0).set (m.del pre post).map).perm ?_
 have:(m.del pre post).frag++(e.frag++F)=(m.jm,m.head)::(m.jq,(m.del pre post).map)::((m.del pre post).es.flatMap PE.frag++(e.frag++F)):=rfl
 rw [this]
 exact List.Perm.swap _ _ _
theorem Zi9 {pre post:List PE} {e:PE} (h:(pre++e::post).Pairwise fun a b=>a.p.id < b.p.id):Za9 ((pre++e::post).map PE.kv) e.p.id=(pre++post).map PE.kv:=by
 unfold Za9
 rw [List.filter_map]
 congr 1
 have hk:∀ a:PE,(((fun r=>!(ZM r == Xa e.p.id)) ∘ PE.kv) a) = !decide (a.p.id=e.p.id):=fun a=>by
  show (!(Xa a.p.id == Xa e.p.id))=_
  by_cases hd:a.p.id=e.p.id<;>simp [hd]
 rw [Un,UK] at h
 obtain ⟨_,⟨h2,_⟩,h3⟩:=h
 rw [UL,U8 (by rw [hk];simp),US.2 fun a ha=>?_,US.2 fun a ha=>?_]
 ·rw [hk]
  have:=h2 a ha
  simp
  omega
 ·rw [hk]
  have:=h3 a ha e (by simp)
  simp
  omega
theorem Zp4 (hm:m.Ok) {pre post:List PE} {e e':PE} (hs:m.es=pre++e::post) (hid:e'.p.id=e.p.id) (hok:e'.ok) (hpr:0≤e'.p.parent∧e'.p.parent < e'.p.id):(m.put pre e' post).Ok:=by
 have hsrt:=hm.srt
 rw [hs] at hsrt
 have hmem:∀ a∈pre++e'::post,a=e'∨a∈m.es:=fun a ha=>by
  rw [hs]
  rcases Xt.1 ha with ha | ha
  ·exact .inr (UC _ ha)
  ·rcases Xl.1 ha with rfl | ha
   ·exact .inl rfl
   ·exact .inr (U5 _ (We _ ha))
 have he:=hm.rng e (by rw [hs];simp)
 refine ⟨?_,fun a ha=>?_,fun a ha=>?_,fun a ha=>?_,?_,hm.lst⟩
 ·show (pre++e'::post).Pairwise _
  rw [Un,UK] at hsrt ⊢
  obtain ⟨h1,⟨h2,h3⟩,h4⟩:=hsrt
  refine ⟨h1,⟨fun a ha=>by rw [hid];exact h2 a ha,h3⟩,fun a ha b hb=>?_⟩
  rcases Xl.1 hb with rfl | hb
  ·rw [hid];exact h4 a ha e (by simp)
  ·exact h4 a ha b (by simp [hb])
 ·rcases hmem a ha with rfl | ha
  ·rw [hid];exact he
  ·exact hm.rng a ha
 ·rcases hmem a ha with rfl | ha
  ·exact hok
  ·exact hm.cor a ha
 ·rcases hmem a ha with rfl | ha
  ·exact hpr
  ·exact hm.par a ha
 ·have:=hm.len
  rw [hs] at this
  show (pre++e'::post).length≤64
  simp at this ⊢
  omega
theorem Zss (hm:m.Ok) {pre post:List PE} {e:PE} (hs:m.es=pre++e::post):(m.del pre post).Ok:=by
 have hsrt:=hm.srt
 rw [hs] at hsrt
 have hmem:∀ a∈pre++post,a∈m.es:=fun a ha=>by
  rw [hs]
  rcases Xt.1 ha with ha | ha
  ·exact UC _ ha
  ·exact U5 _ (We _ ha)
 refine ⟨?_,fun a ha=>hm.rng a (hmem a ha),fun a ha=>hm.cor a (hmem a ha),fun a ha=>hm.par a (hmem a ha),?_,hm.lst⟩
 ·show (pre++post).Pairwise _
  rw [Un,UK] at hsrt
  rw [Un]
  exact ⟨hsrt.1,hsrt.2.1.2,fun a ha b hb=>hsrt.2.2 a ha b (We _ hb)⟩
 ·have:=hm.len
  rw [hs] at this
  show (pre++post).length≤64
  simp at this ⊢
  omega
end
section
open Go Go.AM Go.Proofs.Ytpjnmgjphfnmmaa
set_option maxRecDepth 100000
variable {rows:LL} {F:Zbq} {m:MS}
def ZhX (k:Int) (f:Pr→Pr) (es:List PE):List PE:=es.map fun e=>if e.p.id=k then { e with p:=f e.p } else e
def Zon (k:Int) (es:List PE):List PE:=es.filter fun e=>!decide (e.p.id=k)
theorem ZnS {k:Int} {f:Pr→Pr} {pre post:List PE} {e:PE} (h:(pre++e::post).Pairwise fun a b=>a.p.id < b.p.id) (hk:e.p.id=k):ZhX k f (pre++e::post)=pre++{ e with p:=f e.p } :: post:=by
 rw [Un,UK] at h
 obtain ⟨_,⟨h2,_⟩,h3⟩:=h
 unfold ZhX
 rw [XL,Xg,if_pos hk]
 congr 1
 ·conv=>rhs;rw [← List.map_id pre]
  refine Wk fun a ha=>?_
  have:=h3 a ha e (by simp)
  rw [if_neg (by omega)];rfl
 ·congr 1
  conv=>rhs;rw [← List.map_id post]
  refine Wk fun a ha=>?_
  have:=h2 a ha
  rw [if_neg (by omega)];rfl
theorem ZcQ {k:Int} {pre post:List PE} {e:PE} (h:(pre++e::post).Pairwise fun a b=>a.p.id < b.p.id) (hk:e.p.id=k):Zon k (pre++e::post)=pre++post:=by
 rw [Un,UK] at h
 obtain ⟨_,⟨h2,_⟩,h3⟩:=h
 unfold Zon
 rw [UL,U8 (by simp [hk]),US.2 fun a ha=>?_,US.2 fun a ha=>?_]
 ·have:=h2 a ha
  simp
  omega
 ·have:=h3 a ha e (by simp)
  simp
  omega
theorem Zqb {e:PE} {o:Nat} {c:AV} (h:ZO rows (m.frag++F)) (he:e∈m.es) (ho:o < 7):Zf .set rows 0 (Zf (.padd o) (nmE (Xa e)) 0 E0 []) [c]=rows.set e.j (e.row.set o c):=by
 rw [ZaO (ZdA e),XF]
 exact Zng rfl (Zle h he) ho
theorem ZmG {e:PE} {f:Pr→Pr} (h:ZO rows (m.frag++F)) (hm:m.Ok) (he:m.find e.p.id=Xa e) (hid:(f e.p).id=e.p.id) (hc:(f e.p).cores=e.p.cores) (hpr:0≤(f e.p).parent∧(f e.p).parent < e.p.id) :
  ZO (rows.set e.j ({ e with p:=f e.p } : PE).row) (({ m with es:=ZhX e.p.id f m.es } : MS).frag++F)∧({ m with es:=ZhX e.p.id f m.es } : MS).Ok:=by
 obtain ⟨pre,post,hs,_,_⟩:=ZbN he
 have hsrt:=hm.srt
 rw [hs] at hsrt
 have hu:({ m with es:=ZhX e.p.id f m.es } : MS)=m.put pre { e with p:=f e.p } post:=by
  simp only [MS.put,hs,ZnS hsrt rfl]
 rw [hu]
 refine ⟨holds_row h hs rfl hid ?_,Zp4 hm hs hid ?_ (by show 0≤(f e.p).parent∧(f e.p).parent < (f e.p).id;rw [hid];exact hpr)⟩
 ·simp only [PE.cf,PE.arr,hc]
 ·have:=hm.cor e (by rw [hs];simp)
  unfold PE.ok at this ⊢
  simp only [hc]
  exact this
theorem Zl8 {e:PE} (h:ZO rows (m.frag++F)) (hm:m.Ok) (he:m.find e.p.id=Xa e) {x:LL} (hx:Zk x = .omap (m.jq+1)) :
  ZO (Zf .mdel rows e.p.id x []) (({ m with es:=Zon e.p.id m.es } : MS).frag++(e.frag++F))∧({ m with es:=Zon e.p.id m.es } : MS).Ok:=by
 obtain ⟨pre,post,hs,_,_⟩:=ZbN he
 have hsrt:=hm.srt
 rw [hs] at hsrt
 have hu:({ m with es:=Zon e.p.id m.es } : MS)=m.del pre post:=by
  simp only [MS.del,hs,ZcQ hsrt rfl]
 rw [hu]
 refine ⟨?_,Zss hm hs⟩
 have:=holds_del h hs
 have hst:Zf .mdel rows e.p.id x []=rows.set m.jq (m.del pre post).map:=by
  simp only [Zf,hx,ZkN,Yt (map_at h)]
  show rows.set m.jq (ZX (Za9 (m.es.map PE.kv) e.p.id))=_
  rw [hs,Zi9 hsrt]
  rfl
 rw [hst]
 exact this
abbrev Zrf:=Int×Int×Int
def K8 (l:List Zrf):LL:=l.map fun r=>[I r.1,I r.2.1,I r.2.2]
def VB (es:List PE) (par:Int) (c:Pr):List PE×List Zrf:=
 match es.find? fun e=>decide (e.p.id=par) with
 | some p => if p.p.waiting = Xb then (Zon c.id (ZhX par (fun q => { q with waiting := Xc }) es), [(par, c.id, c.status)]) else (es, [])
 | none => (es, [])
theorem Zcs {k k':Int} {f:Pr→Pr} {e:PE} (hid:∀ q,(f q).id=q.id) (h:m.find k'=Xa e):({ m with es:=ZhX k f m.es } : MS).find k'=Xa (if e.p.id=k then { e with p:=f e.p } else e):=by
 unfold MS.find ZhX at *
 dsimp only
 rw [List.find?_map]
 have:((fun e:PE=>decide (e.p.id=k')) ∘ fun e=>if e.p.id=k then { e with p:=f e.p } else e)=fun e=>decide (e.p.id=k'):=by
  funext a
  simp only [Function.comp]
  by_cases ha:a.p.id=k
  ·simp only [if_pos ha,hid]
  ·simp only [if_neg ha]
 rw [this,h]
 rfl
theorem s52 {x:LL} (h:ZO rows (m.frag++F)) (hm:m.Ok) (hx:Zk x = .oref (m.jm+1) 0) {e:PE} (he:m.find e.p.id=Xa e) (par:Int) :
  ∃ rows' F',g52 x par (nmE (Xa e)) rows=Xa (K8 (VB m.es par e.p).2,rows')∧ZO rows' (({ m with es:=(VB m.es par e.p).1 } : MS).frag++(F'++F))∧({ m with es:=(VB m.es par e.p).1 } : MS).Ok:=by
 rw [Zsm,Za (ne1 (Yr hx)),Za (ne1 (Yr hx)),VF h hx,YM rfl,Za (ne1 (Zbe h rfl)),Zia h rfl,Za (ne1 (Zdn _))]
 unfold VB
 cases hf:m.find par with
 | none =>
  have hf':m.es.find? (fun e=>decide (e.p.id=par))=Xe:=hf
  rw [hf',Zgc]
  exact ⟨rows,[],rfl,h,hm⟩
 | some p =>
  have hf':m.es.find? (fun e=>decide (e.p.id=par))=Xa p:=hf
  obtain ⟨hp,hpk⟩:=JO hf
  subst hpk
  rw [hf',Za (ne1 (ZF p)),Za (ne1 (ZF p)),VW h hp (c:=B p.p.waiting) rfl,Ww,ZF]
  rw [if_neg (by decide)]
  dsimp only
  cases hw:p.p.waiting with
  | false =>
   simp only [Uh,if_false]
   exact ⟨rows,[],rfl,h,hm⟩
  | true =>
   simp only [Bool.not_true,Uh,if_false,if_true]
   obtain ⟨hu1,hu2⟩:=ZmG (f:=fun q=>{ q with waiting:=Xc }) h hm (by rw [hf]) rfl rfl (hm.par p hp)
   have hst:Zf .set rows 0 (Zf (.padd 6) (nmE (Xa p)) 0 E0 []) [AV.val (.bool Xc)]=rows.set p.j ({ p with p:={ p.p with waiting:=Xc } } : PE).row:=by rw [Zqb h hp (by decide)];rfl
   have hfe:=Zcs (k:=p.p.id) (f:=fun q=>{ q with waiting:=Xc }) (fun _=>rfl) he
   obtain ⟨e1,he1⟩:∃ e1,e1=if e.p.id=p.p.id then { e with p:=(fun q:Pr=>{ q with waiting:=Xc }) e.p } else e:=⟨_,rfl⟩
   rw [← he1] at hfe
   have hj:e1.j=e.j:=by rw [he1];split<;>rfl
   have hi:e1.p.id=e.p.id:=by rw [he1];split<;>rfl
   have hs:e1.p.status=e.p.status:=by rw [he1];split<;>rfl
   have hn:nmE (Xa e)=nmE (Xa e1):=by simp only [nmE,hj]
   rw [← hi] at hfe
   rw [hn,hst,Za (by simp),Za (by simp),Za (by simp),Za (ne1 (Yr hx)),Za (ne1 (Yr hx))]
   generalize rows.set p.j ({ p with p:={ p.p with waiting:=Xc } } : PE).row=rows1 at hu1 ⊢
   obtain ⟨hv1,hv2⟩:=Zl8 hu1 hu2 hfe (x:=[[.omap (m.jq+1)]]) rfl
   rw [VF hu1 hx,YM rfl,Za (ne1 (ZF _)),Za (ne1 (ZF _)),VW hu1 (JO hfe).1 (c:=I e1.p.id) rfl,Yg,Za (ne1 (Zbe hu1 rfl)),Za (ne1 (ZF _)),Za (ne1 (ZF _))]
   have hr:(Zf .mdel rows1 e1.p.id [[.omap (m.jq+1)]] [])[e1.j]? = Xa e1.row:=hv1.get (by simp [PE.frag])
   rw [ZaO (ZdA e1),ZaO (ZdA e1),Zfn (c:=I e1.p.id) rfl hr rfl rfl,Yg,Za (ne1 (ZF _)),Za (ne1 (ZF _)),Zfn (c:=I e1.p.status) rfl hr rfl rfl,Yg]
   refine ⟨_,e1.frag,?_,by rw [← hi];exact hv1,by rw [← hi];exact hv2⟩
   rw [hi,hs]
   rfl
end
section
open Go Go.AM Go.Proofs.Ytpjnmgjphfnmmaa
set_option maxRecDepth 100000
variable {rows:LL} {F:Zbq} {m:MS}
def VS (st:Int) (e:PE):PE:={ e with c:=Xe,p:={ e.p with ended:=Xb,status:=st,cores:=[],waiting:=Xc } }
def Zei (k:Int) (f:PE→PE) (es:List PE):List PE:=es.map fun e=>if e.p.id=k then f e else e
theorem ZeM {k:Int} {f:PE→PE} {pre post:List PE} {e:PE} (h:(pre++e::post).Pairwise fun a b=>a.p.id < b.p.id) (hk:e.p.id=k):Zei k f (pre++e::post)=pre++f e::post:=by
 rw [Un,UK] at h
 obtain ⟨_,⟨h2,_⟩,h3⟩:=h
 unfold Zei
 rw [XL,Xg,if_pos hk]
 congr 1
 ·conv=>rhs;rw [← List.map_id pre]
  refine Wk fun a ha=>?_
  have:=h3 a ha e (by simp)
  rw [if_neg (by omega)];rfl
 ·congr 1
  conv=>rhs;rw [← List.map_id post]
  refine Wk fun a ha=>?_
  have:=h2 a ha
  rw [if_neg (by omega)];rfl
theorem Zrs {e:PE} {f:PE→PE} (h:ZO rows (m.frag++F)) (hm:m.Ok) (he:m.find e.p.id=Xa e) (hj:(f e).j=e.j) (hid:(f e).p.id=e.p.id) (hc:(f e).c=Xe) (hok:(f e).ok) (hpr:0≤(f e).p.parent∧(f e).p.parent < e.p.id) :
  ZO (rows.set e.j (f e).row) (({ m with es:=Zei e.p.id f m.es } : MS).frag++(e.cf++F))∧({ m with es:=Zei e.p.id f m.es } : MS).Ok:=by
 obtain ⟨pre,post,hs,_,_⟩:=ZbN he
 have hsrt:=hm.srt
 rw [hs] at hsrt
 have hu:({ m with es:=Zei e.p.id f m.es } : MS)=m.put pre (f e) post:=by
  simp only [MS.put,hs,ZeM hsrt rfl]
 rw [hu]
 refine ⟨?_,Zp4 hm hs hid hok (by rw [hid];exact hpr)⟩
 have hcf:(f e).cf = []:=by simp only [PE.cf,hc]
 have h1:=(h.perm (WZ m hs)).set (f e).row
 have h2:=(WZ (F:=e.cf++F) (m.put pre (f e) post) (pre:=pre) (e:=f e) (post:=post) rfl).symm
 refine ZO.perm ?_ h2
 have hmm:(m.put pre (f e) post).map=m.map:=by
  simp only [MS.map,MS.put,hs,XL,Xg,PE.kv,hj,hid]
 have hh:(m.put pre (f e) post).head=m.head:=rfl
 rw [hmm,hh,hj,hcf]
 refine h1.perm (List.Perm.cons _ ?_)
 simp only [XP,XX,Xu]
 refine List.Perm.cons _ (List.Perm.cons _ (List.Perm.append_left _ ?_))
 rw [← Xu,← Xu (post.flatMap PE.frag)]
 exact List.Perm.append_right _ List.perm_append_comm
end
section
open Go Go.AM Go.Proofs.Ytpjnmgjphfnmmaa
set_option maxRecDepth 100000
variable {rows:LL} {F:Zbq} {m:MS}
abbrev ints (zs:List Int):LL:=zs.map fun z=>[I z]
theorem Vq {γ:Type} {zs:List Int} {i:Nat} {z:Int} (h:zs[i]? = Xa z) (k:Int→Option γ):Jn (ints zs) (i:Int) [.int .i64] k=k z:=
 Vx (l:=ints zs) (sh:=[.int .i64]) (cs:=[I z]) (r:=(z:Int)) k (by omega) (by rw [UI,Xk,h];rfl) rfl
theorem WO (m:MS):m.ids=ints (m.es.map fun e=>e.p.id):=by simp only [MS.ids,ints,X6];rfl
def J7 (pid:Int) (es:List PE) (k:Int):List PE×List Zrf:=
 match es.find? fun e=>decide (e.p.id=k) with
 | some c =>
  if c.p.parent=pid then
   (if c.p.ended=Xb then VB (ZhX k (fun q=>{ q with parent:=1 }) es) 1 { c.p with parent:=1 } else (ZhX k (fun q=>{ q with parent:=1 }) es,[]))
  else (es,[])
 | none => (es, [])
def Ye (pid:Int):List PE→List Int→List PE×List Zrf
 | es, [] => (es, [])
 | es, k :: ks => ((Ye pid (J7 pid es k).1 ks).1, (J7 pid es k).2 ++ (Ye pid (J7 pid es k).1 ks).2)
theorem Zmx {es:List PE} {par:Int} {c:Pr} {k:Int} {e:PE} (hk:k≠c.id) (h:es.find? (fun e=>decide (e.p.id=k))=Xa e):∃ e',(VB es par c).1.find? (fun e=>decide (e.p.id=k))=Xa e'∧e'.j=e.j∧e'.p.id=e.p.id∧e'.p.parent=e.p.parent∧e'.p.status=e.p.status∧e'.p.ended=e.p.ended:=by
 unfold VB
 split
 ·rename_i p hp
  split
  ·have h1:=Zcs (m:=⟨0,0,es,0⟩) (k:=par) (k':=k) (f:=fun q=>{ q with waiting:=Xc }) (fun _=>rfl) h
   refine ⟨if e.p.id=par then { e with p:=(fun q:Pr=>{ q with waiting:=Xc }) e.p } else e,?_,?_⟩
   ·show (Zon c.id (ZhX par (fun q=>{ q with waiting:=Xc }) es)).find? (fun e=>decide (e.p.id=k))=Xa (if e.p.id=par then { e with p:=(fun q:Pr=>{ q with waiting:=Xc }) e.p } else e)
    unfold Zon
    rw [List.find?_filter]
    have:(fun a:PE=>decide ((!decide (a.p.id=c.id))=Xb∧decide (a.p.id=k)=Xb))=fun a=>decide (a.p.id=k):=by
     funext a
     by_cases ha:a.p.id=k
     ·simp [ha,hk]
     ·simp [ha]
    rw [this]
    exact h1
   ·split<;>exact ⟨rfl,rfl,rfl,rfl,rfl⟩
  ·exact ⟨e,h,rfl,rfl,rfl,rfl,rfl⟩
 ·exact ⟨e,h,rfl,rfl,rfl,rfl,rfl⟩
theorem Zgl (es:List PE) (par:Int) (c:Pr):(VB es par c).2.length≤1:=by
 unfold VB
 split
 ·split<;>simp
 ·simp
theorem ZjF (pid:Int) (es:List PE) (k:Int):(J7 pid es k).2.length≤1:=by
 unfold J7
 split
 ·split
  ·split
   ·exact Zgl _ _ _
   ·simp
  ·simp
 ·simp
theorem Zqx {i:Nat} (h:i≤1048576):iop .add .i64 (i:Int) 1=((i+1:Nat):Int):=by
 rw [ZiD (by omega) (by omega)]
 omega
theorem ZnH {a b:LL} (ha:a.length≤100000) (hb:b.length≤1):Zaz a b 24:=by
 unfold Zaz ZZ
 omega
theorem Zpp {x:LL} (h:ZO rows (m.frag++F)) (hm:m.Ok) (hx:Zk x = .oref (m.jm+1) 0) {e c:PE} (he:m.find e.p.id=Xa e) (hc:m.find c.p.id=Xa c) (hc1:e.p.id≠1) {zs:List Int} {i:Nat} (hz:zs[i]? = Xa c.p.id) (hzl:zs.length≤64) {acc:LL} (hacc:acc.length≤100000) (k:Nat) :
  ∃ rows' F',Zf4 (k+1) x (nmE (Xa e)) acc (ints zs) (zs.length:Int) (i:Int) rows=Zf4 k x (nmE (Xa e)) (acc++K8 (J7 e.p.id m.es c.p.id).2) (ints zs) (zs.length:Int) ((i+1:Nat):Int) rows'∧
   ZO rows' (({ m with es:=(J7 e.p.id m.es c.p.id).1 } : MS).frag++(F'++F))∧({ m with es:=(J7 e.p.id m.es c.p.id).1 } : MS).Ok:=by
 have hi:i < zs.length:=(Xi.1 hz).1
 have hem:=(JO he).1
 have hcm:=(JO hc).1
 have hc':m.es.find? (fun e=>decide (e.p.id=c.p.id))=Xa c:=hc
 rw [Zj1,if_pos (by simp [cop];omega),Vq hz,Za (ne1 (Yr hx)),Za (ne1 (Yr hx)),VF h hx,YM rfl,Za (ne1 (Zbe h rfl)),Zia h rfl,hc,Za (ne1 (ZF c)),Za (ne1 (ZF c)),VW h hcm (c:=I c.p.parent) rfl,Yg,
  Za (ne1 (ZF e)),Za (ne1 (ZF e)),VW h hem (c:=I e.p.id) rfl,Yg,Zqx (by omega)]
 unfold J7
 rw [hc']
 dsimp only
 by_cases hpar:c.p.parent=e.p.id
 ·rw [if_neg (by simp [cop,hpar]),if_pos hpar,Za (ne1 (ZF c)),Za (ne1 (ZF c)),Za (by simp),Za (ne1 (ZF c)),Za (ne1 (ZF c))]
  have hce:=hm.par c hcm
  have hee:=hm.rng e hem
  obtain ⟨hu1,hu2⟩:=ZmG (f:=fun q=>{ q with parent:=1 }) h hm hc rfl rfl ⟨by show (0:Int)≤1;decide,by show (1:Int) < c.p.id;omega⟩
  have hst:Zf .set rows 0 (Zf (.padd 1) (nmE (Xa c)) 0 E0 []) [AV.val (.int .i64 1)]=rows.set c.j ({ c with p:={ c.p with parent:=1 } } : PE).row:=by rw [Zqb h hcm (by decide)];rfl
  have hfe:=Zcs (k:=c.p.id) (f:=fun q=>{ q with parent:=1 }) (fun _=>rfl) hc
  rw [if_pos rfl] at hfe
  rw [hst]
  generalize rows.set c.j ({ c with p:={ c.p with parent:=1 } } : PE).row=rows1 at hu1 ⊢
  obtain ⟨c1,hc1'⟩:∃ c1,c1=({ c with p:={ c.p with parent:=1 } } : PE):=⟨_,rfl⟩
  have hfe1:({ m with es:=ZhX c.p.id (fun q=>{ q with parent:=1 }) m.es } : MS).find c1.p.id=Xa c1:=by rw [hc1'];exact hfe
  have hn:nmE (Xa c)=nmE (Xa c1):=by rw [hc1'];rfl
  have hcp:c1.p = { c.p with parent:=1 }:=by rw [hc1']
  rw [hn,VW hu1 (JO hfe1).1 (c:=B c1.p.ended) rfl,Ww,hcp]
  dsimp only
  cases hen:c.p.ended with
  | true =>
   obtain ⟨rows2,F',q1,q2,q3⟩:=s52 hu1 hu2 hx hfe1 1
   rw [hcp] at q1 q2 q3
   simp only [if_true]
   rw [q1,XM,Za (ZnH hacc (by have:=Zgl (ZhX c.p.id (fun q=>{ q with parent:=1 }) m.es) 1 { c.p with parent:=1 }; simp only [K8,Xq];exact this))]
   exact ⟨rows2,F',rfl,q2,q3⟩
  | false =>
   simp only [Uh,if_false]
   exact ⟨rows1,[],by simp [K8],hu1,hu2⟩
 ·rw [if_pos (by simp [cop,hpar]),if_neg hpar]
  exact ⟨rows,[],by simp [K8],h,hm⟩
theorem ZgN {es:List PE} {pid z k:Int} {e:PE} (hk:k≠z) (h:es.find? (fun e=>decide (e.p.id=k))=Xa e):∃ e',(J7 pid es z).1.find? (fun e=>decide (e.p.id=k))=Xa e'∧e'.j=e.j∧e'.p.id=e.p.id∧e'.p.parent=e.p.parent∧e'.p.status=e.p.status:=by
 unfold J7
 split
 ·rename_i c hc
  have hcz:c.p.id=z:=by have:=Th hc;simpa using this
  split
  ·have h1:=Zcs (m:=⟨0,0,es,0⟩) (k:=z) (k':=k) (f:=fun q=>{ q with parent:=1 }) (fun _=>rfl) h
   have hek:e.p.id=k:=by have:=Th h;simpa using this
   rw [if_neg (by rw [hek];exact hk)] at h1
   split
   ·obtain ⟨e',g1,g2,g3,g4,g5,_⟩:=Zmx (es:=ZhX z (fun q=>{ q with parent:=1 }) es) (par:=1) (c:={ c.p with parent:=1 }) (k:=k) (e:=e) (by show k≠c.p.id;rw [hcz];exact hk) h1
    exact ⟨e',g1,g2,g3,g4,g5⟩
   ·exact ⟨e,h1,rfl,rfl,rfl,rfl⟩
  ·exact ⟨e,h,rfl,rfl,rfl,rfl⟩
 ·exact ⟨e,h,rfl,rfl,rfl,rfl⟩
theorem Zne {e:PE} (hm:m.Ok) (he:m.find e.p.id=Xa e):J7 e.p.id m.es e.p.id=(m.es,[]):=by
 have he':m.es.find? (fun a=>decide (a.p.id=e.p.id))=Xa e:=he
 unfold J7
 rw [he']
 have:=hm.par e (JO he).1
 exact if_neg (by omega)
theorem ZjG {x:LL} {zs:List Int} (hzl:zs.length≤64) {pid:Int} (hp1:pid≠1):∀ (ks pre:List Int) (rows:LL) (F:Zbq) (m:MS) (e:PE) (acc:LL) (k:Nat),zs=pre++ks→ks.length < k→ks.Nodup→(∀ z∈ks,∃ c,m.find z=Xa c)→ZO rows (m.frag++F)→m.Ok→Zk x = .oref (m.jm+1) 0→
  m.find pid=Xa e→acc.length+ks.length≤100000→
  ∃ rows' F' k' e',Zf4 k x (nmE (Xa e)) acc (ints zs) (zs.length:Int) (pre.length:Int) rows=Zf4 (k'+1) x (nmE (Xa e)) (acc++K8 (Ye pid m.es ks).2) (ints zs) (zs.length:Int) (zs.length:Int) rows'∧
   ZO rows' (({ m with es:=(Ye pid m.es ks).1 } : MS).frag++(F'++F))∧({ m with es:=(Ye pid m.es ks).1 } : MS).Ok∧({ m with es:=(Ye pid m.es ks).1 } : MS).find pid=Xa e'∧e'.j=e.j∧e'.p.parent=e.p.parent∧e'.p.status=e.p.status
 | [], pre, rows, F, m, e, acc, k, hz, hk, _, _, h, hm, _, he, _ => by
  obtain ⟨k',rfl⟩:∃ k',k=k'+1:=⟨k-1,by simp at hk;omega⟩
  have hl:zs.length=pre.length:=by rw [hz,Wc]
  exact ⟨rows,[],k',e,by rw [hl];simp [Ye,K8],h,hm,he,rfl,rfl,rfl⟩
 | z :: ks, pre, rows, F, m, e, acc, k, hz, hk, hn, hin, h, hm, hx, he, hacc => by
  obtain ⟨k',rfl⟩:∃ k',k=k'+1:=⟨k-1,by simp at hk;omega⟩
  obtain ⟨c,hc⟩:=hin z (by simp)
  have hcz:=(JO hc).2
  have hep:=(JO he).2
  subst hcz
  subst hep
  obtain ⟨rows1,F1,q1,q2,q3⟩:=Zpp h hm hx he hc hp1 (zs:=zs) (i:=pre.length) (by rw [hz];simp) hzl (acc:=acc) (by omega) k'
  rw [List.nodup_cons] at hn
  have hfe:∃ e1,({ m with es:=(J7 e.p.id m.es c.p.id).1 } : MS).find e.p.id=Xa e1∧e1.j=e.j∧e1.p.parent=e.p.parent∧e1.p.status=e.p.status:=by
   by_cases hce:e.p.id=c.p.id
   ·rw [← hce,Zne hm he]
    exact ⟨e,he,rfl,rfl,rfl⟩
   ·obtain ⟨e1,g1,g2,_,g4,g5⟩:=ZgN (pid:=e.p.id) hce he
    exact ⟨e1,g1,g2,g4,g5⟩
  obtain ⟨e1,g1,g2,g4,g5⟩:=hfe
  obtain ⟨rows2,F2,k2,e2,r1,r2,r3,r4,r5,r6,r7⟩:=ZjG hzl hp1 ks (pre++[c.p.id]) rows1 (F1++F) _ e1 (acc++K8 (J7 e.p.id m.es c.p.id).2) k' (by rw [hz];simp) (by simp at hk;omega) hn.2
   (fun z hzk=>by
    obtain ⟨c',hc'⟩:=hin z (by simp [hzk])
    obtain ⟨c1,t1,_⟩:=ZgN (pid:=e.p.id) (z:=c.p.id) (fun hh=>hn.1 (by rw [← hh];exact hzk)) hc'
    exact ⟨c1,t1⟩) q2 q3 hx g1 (by have:=ZjF e.p.id m.es c.p.id;simp only [XA,K8,Xq,XJ] at hacc ⊢; omega)
  have hnm:nmE (Xa e1)=nmE (Xa e):=by simp only [nmE,g2]
  refine ⟨rows2,F2++F1,k2,e2,?_,by rw [Xu];exact r2,r3,r4,r5.trans g2,r6.trans g4,r7.trans g5⟩
  rw [q1]
  rw [hnm] at r1
  have hlen:((pre++[c.p.id]).length:Int)=((pre.length+1:Nat):Int):=by simp
  rw [hlen] at r1
  rw [r1]
  simp only [Ye,K8,XL,Xu]
end
section
open Go Go.AM Go.Proofs.Ytpjnmgjphfnmmaa
set_option maxRecDepth 100000
variable {rows:LL} {F:Zbq} {m:MS}
def Zrp (es:List PE) (pid st:Int):List PE×List Zrf:=
 match es.find? fun e=>decide (e.p.id=pid) with
 | some e =>
  if pid=1 then (Zei pid (VS st) es,[])
  else
   ((VB (Ye pid (Zei pid (VS st) es) (es.map fun e=>e.p.id)).1 e.p.parent (VS st e).p).1,
    (Ye pid (Zei pid (VS st) es) (es.map fun e=>e.p.id)).2++(VB (Ye pid (Zei pid (VS st) es) (es.map fun e=>e.p.id)).1 e.p.parent (VS st e).p).2)
 | none => (es, [])
theorem Zm3 {k k':Int} {f:PE→PE} {es:List PE} {e:PE} (hid:∀ q,(f q).p.id=q.p.id) (h:es.find? (fun e=>decide (e.p.id=k'))=Xa e):(Zei k f es).find? (fun e=>decide (e.p.id=k'))=Xa (if e.p.id=k then f e else e):=by
 unfold Zei
 rw [List.find?_map]
 have:((fun e:PE=>decide (e.p.id=k')) ∘ fun e=>if e.p.id=k then f e else e)=fun e=>decide (e.p.id=k'):=by
  funext a
  simp only [Function.comp]
  by_cases ha:a.p.id=k
  ·simp only [if_pos ha,hid]
  ·simp only [if_neg ha]
 rw [this,h]
 rfl
theorem ZjX {k:Int} {f:PE→PE} {es:List PE} (hid:∀ q,(f q).p.id=q.p.id):(Zei k f es).map (fun e=>e.p.id)=es.map fun e=>e.p.id:=by
 unfold Zei
 rw [X6]
 refine Wk fun a _=>?_
 simp only [Function.comp]
 split
 ·exact hid a
 ·rfl
theorem ZaF {e:PE} {rows1:LL} {row:List AV} {o:Nat} {c:AV} (hr:rows1[e.j]? = Xa row) (ho:o < row.length):Zf .set rows1 0 (Zf (.padd o) (nmE (Xa e)) 0 E0 []) [c]=rows1.set e.j (row.set o c):=by
 rw [ZaO (ZdA e),XF]
 exact Zng rfl hr ho
theorem WY {e:PE} {rows1:LL} {row:List AV} {o:Nat} {c:AV} (hr:rows1[e.j]? = Xa row) (h0:JQ row=Xb) (hc:row[o]? = Xa c):Zf (.get 1) rows1 0 (Zf (.padd o) (nmE (Xa e)) 0 E0 []) [] = [[c]]:=by
 rw [ZaO (ZdA e),XF]
 exact Zfn rfl hr h0 hc
theorem Zlr {es:List PE} {par:Int} {c c':Pr} (h1:c.id=c'.id) (h2:c.status=c'.status):VB es par c=VB es par c':=by
 unfold VB
 rw [h1,h2]
theorem ZjO (pid:Int):∀ (ks:List Int) (es:List PE),(Ye pid es ks).2.length≤ks.length
 | [], _ => XD _
 | k :: ks, es => by
  have h1:=ZjF pid es k
  have h2:=ZjO pid ks (J7 pid es k).1
  simp only [Ye,XA,XJ]
  omega
theorem s30 {x:LL} (h:ZO rows (m.frag++F)) (hm:m.Ok) (hx:Zk x = .oref (m.jm+1) 0) {e:PE} (he:m.find e.p.id=Xa e) (st:Int) :
  ∃ rows' F',g30 x (nmE (Xa e)) st rows=Xa (K8 (Zrp m.es e.p.id st).2,rows')∧ZO rows' (({ m with es:=(Zrp m.es e.p.id st).1 } : MS).frag++(F'++F))∧({ m with es:=(Zrp m.es e.p.id st).1 } : MS).Ok:=by
 have hem:=(JO he).1
 have hr:=Zle h hem
 have hlt:e.j < rows.length:=(Xi.1 hr).1
 have hs4:Zf .set rows 0 (Zf (.padd 4) (nmE (Xa e)) 0 E0 []) [AV.val (.bool Xb)]=rows.set e.j (e.row.set 4 (B Xb)):=ZaF hr (by simp [PE.row])
 have hr4:(rows.set e.j (e.row.set 4 (B Xb)))[e.j]? = Xa (e.row.set 4 (B Xb)):=X8 hlt
 have hs5:Zf .set (rows.set e.j (e.row.set 4 (B Xb))) 0 (Zf (.padd 5) (nmE (Xa e)) 0 E0 []) [I st]=rows.set e.j ((e.row.set 4 (B Xb)).set 5 (I st)):=by rw [ZaF hr4 (by simp [PE.row]),List.set_set]
 have hr5:(rows.set e.j ((e.row.set 4 (B Xb)).set 5 (I st)))[e.j]? = Xa ((e.row.set 4 (B Xb)).set 5 (I st)):=X8 hlt
 have hs3:Zf .set (rows.set e.j ((e.row.set 4 (B Xb)).set 5 (I st))) 0 (Zf (.padd 3) (nmE (Xa e)) 0 E0 []) [Zk (Zf (.pnil 1) E0 0 E0 [])]=rows.set e.j (((e.row.set 4 (B Xb)).set 5 (I st)).set 3 (.osl 0 0 0)):=by rw [ZaF hr5 (by simp [PE.row]),List.set_set];rfl
 have hr3:(rows.set e.j (((e.row.set 4 (B Xb)).set 5 (I st)).set 3 (.osl 0 0 0)))[e.j]? = Xa (((e.row.set 4 (B Xb)).set 5 (I st)).set 3 (.osl 0 0 0)):=X8 hlt
 have hs6:Zf .set (rows.set e.j (((e.row.set 4 (B Xb)).set 5 (I st)).set 3 (.osl 0 0 0))) 0 (Zf (.padd 6) (nmE (Xa e)) 0 E0 []) [AV.val (.bool Xc)]=rows.set e.j (VS st e).row:=by rw [ZaF hr3 (by simp [PE.row]),List.set_set];rfl
 rw [ZsM,Za (ne1 (ZF e)),Za (ne1 (ZF e)),Za (by rw [WY hr rfl (c:=B e.p.ended) rfl];simp),Za (ne1 (ZF e)),Za (ne1 (ZF e)),hs4,Za (by rw [WY hr4 rfl (c:=I e.p.status) rfl];simp),
  Za (ne1 (ZF e)),Za (ne1 (ZF e)),hs5,Za (by rw [WY hr5 rfl (c:=e.core) rfl];simp),Za (ne1 (ZF e)),Za (ne1 (ZF e)),hs3,Za (by rw [WY hr3 rfl (c:=B e.p.waiting) rfl];simp),
  Za (ne1 (ZF e)),Za (ne1 (ZF e)),hs6]
 have he':m.es.find? (fun a=>decide (a.p.id=e.p.id))=Xa e:=he
 obtain ⟨hu1,hu2⟩:=Zrs (f:=VS st) h hm he rfl rfl rfl (by show ([] : List Int) = [];rfl) (hm.par e hem)
 have hfe:=Zm3 (k:=e.p.id) (f:=VS st) (fun _=>rfl) he'
 rw [if_pos rfl] at hfe
 have hfe1:({ m with es:=Zei e.p.id (VS st) m.es } : MS).find e.p.id=Xa (VS st e):=hfe
 generalize rows.set e.j (VS st e).row=rows1 at hu1 ⊢
 rw [show nmE (Xa e)=nmE (Xa (VS st e)) from rfl,VW hu1 (JO hfe1).1 (c:=I e.p.id) rfl,Yg]
 unfold Zrp
 rw [he']
 dsimp only
 by_cases h1:e.p.id=1
 ·rw [if_pos (by simp [cop,h1]),if_pos h1]
  exact ⟨rows1,e.cf,rfl,hu1,hu2⟩
 ·have hids:({ m with es:=Zei e.p.id (VS st) m.es } : MS).ids=ints (m.es.map fun e=>e.p.id):=by rw [WO];exact congrArg ints (ZjX fun _=>rfl)
  rw [if_neg (by simp [cop,h1]),if_neg h1,s29 hu1 hu2 hx,XM,hids]
  dsimp only
  have hp:=(hu1.push [.omap (m.jq+1)]).tail
  have hl2:(m.es.map fun e=>e.p.id).length≤64:=by rw [Xq];exact hm.len
  have hnod:(m.es.map fun e=>e.p.id).Nodup:=by
   rw [List.nodup_iff_pairwise_ne,List.pairwise_map]
   exact hm.srt.imp fun hab hh=>by omega
  have hin:∀ z∈m.es.map fun e=>e.p.id,∃ c,({ m with es:=Zei e.p.id (VS st) m.es } : MS).find z=Xa c:=fun z hz=>by
   obtain ⟨a,ha,rfl⟩:=Xj.1 hz
   cases hq:({ m with es:=Zei e.p.id (VS st) m.es } : MS).find a.p.id with
   | some c => exact ⟨c, rfl⟩
   | none =>
    exfalso
    have hz2:a.p.id∈(Zei e.p.id (VS st) m.es).map fun e=>e.p.id:=by rw [ZjX (f:=VS st) fun _=>rfl];exact hz
    obtain ⟨b,hb,hbb⟩:=Xj.1 hz2
    have:=List.find?_eq_none.1 hq b hb
    simp [hbb] at this
  have hlen:((ints (m.es.map fun e=>e.p.id)).length:Int)=((m.es.map fun e=>e.p.id).length:Int):=by simp
  rw [hlen]
  obtain ⟨rows2,F2,k2,e2,r1,r2,r3,r4,r5,r6,r7⟩:=ZjG hl2 h1 (m.es.map fun e=>e.p.id) [] _ _ _ (VS st e) E0 ZeD rfl (by unfold ZeD;omega) hnod hin hp hu2 hx hfe1 (by simp at hl2 ⊢; omega)
  ·have hz:((([] : List Int).length:Nat):Int)=0:=rfl
   rw [hz] at r1
   have hid2:e2.p.id=e.p.id:=(JO r4).2
   have hnm:nmE (Xa (VS st e))=nmE (Xa e2):=by simp only [nmE,r5]
   have hf2:({ m with es:=(Ye e.p.id (Zei e.p.id (VS st) m.es) (m.es.map fun e=>e.p.id)).1 } : MS).find e2.p.id=Xa e2:=by rw [hid2];exact r4
   rw [r1,hnm,Zj1,if_neg (by simp [cop]),Za (ne1 (ZF e2)),Za (ne1 (ZF e2)),VW r2 (JO r4).1 (c:=I e2.p.parent) rfl,Yg]
   obtain ⟨rows3,F3,t1,t2,t3⟩:=s52 r2 r3 hx hf2 e2.p.parent
   have hpar:e2.p.parent=e.p.parent:=r6
   have htc:∀ es,VB es e2.p.parent e2.p=VB es e.p.parent (VS st e).p:=fun es=>by rw [hpar];exact Zlr hid2 r7
   rw [htc] at t1 t2 t3
   rw [t1,XM,Za (ZnH ?_ ?_)]
   ·refine ⟨rows3,F3++(F2++e.cf),?_,?_,t3⟩
    ·simp only [K8,XL,XX]
    ·simp only [Xu]
     simp only [Xu] at t2
     exact t2
   ·have:=ZjO e.p.id (m.es.map fun e=>e.p.id) (Zei e.p.id (VS st) m.es)
    simp only [XX,K8,Xq] at this hl2 ⊢
    omega
   ·have:=Zgl (Ye e.p.id (Zei e.p.id (VS st) m.es) (m.es.map fun e=>e.p.id)).1 e.p.parent (VS st e).p
    simp only [K8,Xq]
    exact this
end
section
open Go Go.AM Go.Proofs.Ytpjnmgjphfnmmaa
set_option maxRecDepth 100000
variable {rows:LL} {F:Zbq} {m:MS}
def Zls (es:List PE) (z:Int):Option PE:=match es.find? fun e=>decide (e.p.id=z) with | some e=>if e.p.ended=Xb then Xe else Xa e | none=>Xe
theorem Zny (z:Int):m.run z=Zls m.es z:=rfl
theorem ZcO {es:List PE} {z:Int} {e:PE} (h:Zls es z=Xa e):es.find? (fun e=>decide (e.p.id=z))=Xa e∧e.p.ended=Xc:=by
 unfold Zls at h
 split at h
 ·split at h
  ·cases h
  ·rename_i e' h1 h2
   cases h
   exact ⟨h1,by simpa using h2⟩
 ·cases h
end
section
open Go Go.AM Go.Proofs.Ytpjnmgjphfnmmaa
set_option maxRecDepth 100000
variable {rows:LL} {F:Zbq} {m:MS}
def ZcR (es:List PE) (k st:Int):(List PE×List Zrf)×Int:=
 match Zls es k with
 | none => ((es, []), 17)
 | some _ => if st < 0 then ((es, []), 1) else if 255 < st then ((es, []), 1) else (Zrp es k st, 0)
theorem s13 {x:LL} (h:ZO rows (m.frag++F)) (hm:m.Ok) (hx:Zk x = .oref (m.jm+1) 0) (k st:Int) :
  ∃ rows' F',g13 x k st rows=Xa (K8 (ZcR m.es k st).1.2,(ZcR m.es k st).2,rows')∧ZO rows' (({ m with es:=(ZcR m.es k st).1.1 } : MS).frag++(F'++F))∧({ m with es:=(ZcR m.es k st).1.1 } : MS).Ok:=by
 rw [ZsW,s27 h hx,XM,Za (ne1 (Zdn _)),Zny]
 unfold ZcR
 cases ho:Zls m.es k with
 | none =>
  rw [Zgc,if_pos (by decide)]
  exact ⟨rows,[],rfl,h,hm⟩
 | some e =>
  obtain ⟨hf,hen⟩:=ZcO ho
  have hez:e.p.id=k:=(JO hf).2
  subst hez
  rw [ZF,if_neg (by decide)]
  dsimp only
  by_cases h1:st < 0
  ·rw [if_pos (by simp [cop,h1]),if_pos h1]
   exact ⟨rows,[],rfl,h,hm⟩
  ·rw [if_neg (by simp [cop];omega),if_neg h1]
   by_cases h2:255 < st
   ·rw [if_pos (by simp [cop,h2]),if_pos h2]
    exact ⟨rows,[],rfl,h,hm⟩
   ·rw [if_neg (by simp [cop];omega),if_neg h2]
    obtain ⟨rows1,F1,q1,q2,q3⟩:=s30 h hm hx hf st
    rw [q1]
    exact ⟨rows1,F1,rfl,q2,q3⟩
theorem s26 (z:Int):g26 z=Xa (decide (0≤z∧z < 32)):=by
 rw [Zsq]
 by_cases h1:0≤z
 ·rw [if_pos (by simp [cop,h1])]
  by_cases h2:z < 32<;>simp [cop,h1,h2]
 ·rw [if_neg (by simp [cop];omega)]
  simp [h1]
theorem ZkM (zs:List Int) (rest:List AV):YP 1 (zs.map (fun z=>I z)++rest) zs.length=ints zs:=by
 unfold YP
 apply Ua
 intro i
 simp only [Xk]
 by_cases hi:i < zs.length
 ·rw [List.getElem?_range hi,Xp hi]
  simp only [Option.map_some,Nat.mul_one]
  congr 1
  apply Ua
  intro k
  rw [List.getElem?_take]
  cases k with
  | zero =>
   simp only [Nat.lt_one_iff,if_true,List.getElem?_drop,Nat.add_zero]
   rw [Xv (by simpa using hi),Xk,Xp hi]
   rfl
  | succ k => simp
 ·rw [Uc (by simpa using Nat.le_of_not_lt hi),Uc (Nat.le_of_not_lt hi)]
  rfl
theorem Zqz (h:ZO rows (m.frag++F)) {e:PE} (he:e∈m.es) {q:Nat×Nat} (hq:e.c=Xa q):rows[q.1]? = Xa (e.arr q.2):=h.get (by
 simp only [MS.frag,XP,Xl,Xt,List.mem_flatMap]
 exact .inr (.inr (.inl ⟨e,he,by simp [PE.frag,hq]⟩)))
theorem Zrl (e:PE) (k:Nat):(e.arr k).length=e.p.cores.length+k:=by simp [PE.arr]
theorem Zps (e:PE) {k:Nat} (h:e.p.cores.length+k≠0):JQ (e.arr k)=Xb:=by
 unfold PE.arr
 cases hc:e.p.cores with
 | cons z zs => rfl
 | nil =>
  rw [hc] at h
  cases k with
  | zero => simp at h
  | succ k => rfl
theorem ZkE (e:PE):JC e.core=Xb:=by
 unfold PE.core
 split<;>rfl
theorem ZmW {x:LL} {e:PE} (hx:Zk x=e.core):Zf .pisl x 0 E0 [] = [[]]:=by
 have:∃ a b c,e.core = .osl a b c:=by
  unfold PE.core
  split<;>exact ⟨_,_,_,rfl⟩
 obtain ⟨a,b,c,he⟩:=this
 simp only [Zf,hx,he,okL]
theorem ZnN (hm:m.Ok) {x:LL} {e:PE} (he:e∈m.es) (hx:Zk x=e.core):Zf .plen x 0 E0 []=Xm e.p.cores.length []:=by
 have hok:=hm.cor e he
 unfold PE.ok at hok
 unfold PE.core at hx
 cases hc:e.c with
 | none =>
  rw [hc] at hx hok
  simp only [Zf,hx,hok]
  rfl
 | some q =>
  rw [hc] at hx
  simp only [Zf,hx]
theorem Zmr (h:ZO rows (m.frag++F)) (hm:m.Ok) {x:LL} {e:PE} (he:e∈m.es) (hx:Zk x=e.core):Zf (.vchk 3 1) rows 0 x [] = [[]]:=by
 have hok:=hm.cor e he
 unfold PE.ok at hok
 unfold PE.core at hx
 cases hc:e.c with
 | none =>
  rw [hc] at hx hok
  simp only [Zf,hx,ZgG,okL]
 | some q =>
  rw [hc] at hx hok
  have hr:=Zqz h he hc
  simp only [Zf,hx,ZgG,Yt hr,Zps e hok,decide_true,UE,Zrl]
  rw [decide_eq_true (by omega)]
  rfl
theorem Zn6 (h:ZO rows (m.frag++F)) (hm:m.Ok) {x:LL} {e:PE} (he:e∈m.es) (hx:Zk x=e.core):Zf (.view 1) rows 0 x []=ints e.p.cores:=by
 have hok:=hm.cor e he
 unfold PE.ok at hok
 unfold PE.core at hx
 cases hc:e.c with
 | none =>
  rw [hc] at hx hok
  simp only [Zf,hx,Zcd,pJ,pO,hok]
  rfl
 | some q =>
  rw [hc] at hx hok
  have hr:=Zqz h he hc
  simp only [Zf,hx,Zcd,pJ,pO,Yt hr]
  exact ZkM _ _
theorem s53 (h:ZO rows (m.frag++F)) (hm:m.Ok) {x:LL} {e:PE} (he:e∈m.es) (hx:Zk x=e.core) (hl:e.p.cores.length≤100000):g53 x rows=Xa (ints e.p.cores,rows):=by
 rw [ZsD,Za (ne1 (ZmW hx)),ZnN hm he hx]
 refine ZqO (fun hn=>?_) ?_
 ·have:e.p.cores = []:=by
   cases hc:e.p.cores with
   | nil => rfl
   | cons z zs => rw [hc] at hn; simp at hn
  rw [if_pos rfl,this]
  rfl
 ·rw [if_neg (by decide),Za (ne1 (Zmr h hm he hx)),Zn6 h hm he hx,Za (by unfold Zaz ZZ;simp only [Wi,Xq];omega)]
  rfl
theorem Zos {γ:Type} {e:PE} (k:Int×Int×ByteArray×LL×Bool×Int×Bool→Option γ):Jn [e.row] 0 [.int .i64,.int .i64,.str,.cel,.bool,.int .i64,.bool] k=k (e.p.id,e.p.parent,e.p.name,[[e.core]],e.p.ended,e.p.status,e.p.waiting):=by
 refine Vx (l:=[e.row]) (sh:=[.int .i64,.int .i64,.str,.cel,.bool,.int .i64,.bool]) (cs:=e.row) (r:=(e.p.id,e.p.parent,e.p.name,[[e.core]],e.p.ended,e.p.status,e.p.waiting)) k (by decide) rfl ?_
 unfold PE.row PE.core
 split<;>rfl
def Zrz (p:Pr):List AV:=[I p.id,I p.parent,.val (.string p.name),.slice Xc 1 (ints p.cores),B p.ended,I p.status,B p.waiting]
theorem s31 (h:ZO rows (m.frag++F)) (hm:m.Ok) {e:PE} (he:e∈m.es) (hl:e.p.cores.length≤100000):g31 (nmE (Xa e)) rows=Xa (e.p.id,e.p.parent,e.p.name,ints e.p.cores,e.p.ended,e.p.status,e.p.waiting,rows):=by
 rw [Zs0,Za (ne1 (ZF e)),ZsC (n:=7) (ZdA e) (Zle h he) rfl rfl,Zos,Za (ne1 (ZF e)),Za (ne1 (ZF e)),VW h he (c:=e.core) rfl,YM (ZkE e),s53 h hm he (Zub (ZkE e)) hl]
 rfl
theorem Zkt {x:LL} (h:ZO rows (m.frag++F)) (hm:m.Ok) (hx:Zk x = .oref (m.jm+1) 0) (hl:∀ e∈m.es,e.p.cores.length≤100000):∀ (ks pre:List PE) (k:Nat),m.es=pre++ks→ks.length < k→
  Zpv k x ((pre.map PE.p).map Zrz) m.ids (m.es.length:Int) (pre.length:Int) rows=Xa ((m.es.map PE.p).map Zrz,rows)
 | [], pre, k, hs, hk => by
  obtain ⟨k',rfl⟩:∃ k',k=k'+1:=⟨k-1,by simp at hk;omega⟩
  rw [Wc] at hs
  rw [Zkh,hs,if_neg (by simp [cop])]
 | e :: ks, pre, k, hs, hk => by
  obtain ⟨k',rfl⟩:∃ k',k=k'+1:=⟨k-1,by simp at hk;omega⟩
  have he:e∈m.es:=by rw [hs];simp
  have hlen:(pre.length:Int) < (m.es.length:Int):=by rw [hs];simp;omega
  have hml:=hm.len
  have hpl:pre.length≤64:=by omega
  have hf:m.find e.p.id=Xa e:=by
   unfold MS.find
   rw [Tt]
   refine ⟨by simp,pre,ks,hs,fun a ha=>?_⟩
   have hsrt:=hm.srt
   rw [hs,Un] at hsrt
   have:=hsrt.2.2 a ha e (by simp)
   simp;omega
  have hz:(m.es.map fun e=>e.p.id)[pre.length]? = Xa e.p.id:=by rw [hs];simp
  rw [Zkh,if_pos (by simp [cop];omega),WO,Vq hz,Za (ne1 (Yr hx)),Za (ne1 (Yr hx)),VF h hx,YM rfl,Za (ne1 (Zbe h rfl)),Zia h rfl,hf,s31 h hm he (hl e he),XM,
   Za (by unfold Zaz ZZ;simp;omega),Zqx (by omega)]
  have:=Zkt h hm hx hl ks (pre++[e]) k' (by rw [hs];simp) (by simp at hk;omega)
  rw [WO] at this
  simp only [XA,XJ,Wi,XL,Xg,Xz] at this
  exact this
theorem s14 {x:LL} (h:ZO rows (m.frag++F)) (hm:m.Ok) (hx:Zk x = .oref (m.jm+1) 0) (hl:∀ e∈m.es,e.p.cores.length≤100000) :
  ∃ rows' F',g14 x rows=Xa ((m.es.map PE.p).map Zrz,rows')∧ZO rows' (m.frag++(F'++F)):=by
 have hp:=(h.push [.omap (m.jq+1)])
 have hq:ZO (rows++[[.omap (m.jq+1)]]) (m.frag++([(rows.length,[.omap (m.jq+1)])]++F)):=hp.perm (by
  rw [XP,XX]
  exact List.perm_middle.symm)
 refine ⟨rows++[[.omap (m.jq+1)]],[(rows.length,[.omap (m.jq+1)])],?_,hq⟩
 rw [Zsf,s29 h hm hx,XM]
 have hl2:((m.ids).length:Int)=(m.es.length:Int):=by simp [MS.ids]
 rw [hl2]
 exact Zkt hq hm hx hl m.es [] ZeD rfl (by have:=hm.len;unfold ZeD;omega)
end
section
open Go Go.AM Go.Proofs.Ytpjnmgjphfnmmaa
set_option maxRecDepth 100000
variable {rows:LL} {F:Zbq} {m:MS}
theorem Zmc (l:LL) (x:List AV):Z9 (l++[x]) (l.length+1)=x:=Yt (by simp)
theorem Zqp {x:LL} {j:Nat} {k:Int} {c:AV} {kvs:LL} (hx:Zk x = .omap (j+1)) (hr:rows[j]? = Xa (ZX kvs)):Zf .mput rows k x [c]=rows.set j (ZX (YF kvs k c)):=by
 simp only [Zf,hx,ZkN,Yt hr]
 rfl
theorem ZjM (l:LL) (a b:List AV):(l++[a]).set l.length b=l++[b]:=by simp
def Zba:ByteArray:=⟨#[105,110,105,116]⟩
def ZpG (z:Int):Pr:=⟨1,0,Zba,[z],Xc,0,Xc⟩
theorem s8 {z:Int} (hz:0≤z∧z < 32) (h:ZO rows F):∃ m:MS,∃ rows',g8 z rows=Xa ([[.oref (m.jm+1) 0]],0,rows')∧ZO rows' (m.frag++F)∧m.Ok∧m.es.map PE.p = [ZpG z]∧m.last=1:=by
 have h1:=h.push [I z]
 have h2:=h1.push [I 1,I 0,.val (.string Zba),.osl 3 (rows.length+1) 1,B Xc,I 0,B Xc]
 have h3:=h2.push (ZX [[I 1,.oref (rows.length+1+1) 0]])
 have h4:=h3.push [.omap (rows.length+1+1+1),I 1]
 refine ⟨⟨rows.length+3,rows.length+2,[⟨rows.length+1,Xa (rows.length,0),ZpG z⟩],1⟩,rows++[[I z]]++[[I 1,I 0,.val (.string Zba),.osl 3 (rows.length+1) 1,B Xc,I 0,B Xc]]++[ZX [[I 1,.oref (rows.length+1+1) 0]]]++[[.omap (rows.length+1+1+1),I 1]],?_,?_,⟨?_,?_,?_,?_,?_,?_⟩,rfl,rfl⟩
 ·rw [ZtG,s26,XM,decide_eq_true hz]
  have hn:∀ l:LL,Zf .newm l 0 E0 []=l++[ZX []]:=fun _=>rfl
  have hp:∀ l:LL,Zf .pmap l 0 E0 [] = [[.omap (l.length+1)]]:=fun _=>rfl
  have hw:∀ l:LL,Zf .pnew l 0 E0 [] = [[.oref (l.length+1) 0]]:=fun _=>rfl
  have ha:∀ l:LL,Zf (.parr 3) l 1 E0 [] = [[.osl 3 (l.length+1) 1]]:=fun _=>rfl
  rw [if_neg (by decide),hn,hp,ha,Za (by simp only [Zf,Zk,JC,Zso,Zmc];rw [show Yu (ZX [])=Xb from rfl];simp [okL]),hw,Za (by simp [Zf,Zk,JC,okL])]
  rw [Zqp (j:=(rows++[[I z]]++[[I 1,I 0,.val (.string Zba),.osl 3 (rows.length+1) 1,B Xc,I 0,B Xc]]).length) (kvs:=[]) rfl (by
   have:=List.getElem?_concat_length (l:=rows++[[I z]]++[[I 1,I 0,.val (.string Zba),.osl 3 (rows.length+1) 1,B Xc,I 0,B Xc]]) (a:=ZX [])
   exact this)]
  have hs:∀ (l:LL) (a b:List AV),(l++[a]).set l.length b=l++[b]:=ZjM
  have e1:∀ l:LL,l=rows++[[I z]]++[[I 1,I 0,.val (.string Zba),Zk [[.osl 3 (rows.length+1) 1]],B Xc,I 0,B Xc]]→l.length=rows.length+2:=fun l hl=>by rw [hl];simp
  show Xa _=Xa _
  congr 1
  have hl1:(rows++[[I z]]).length=rows.length+1:=by simp
  simp only [Zk,JC,Zba,hw,List.length_set,XA,XJ,Wi,hl1]
  refine Prod.ext ?_ (Prod.ext rfl ?_)
  ·simp
  ·simp only [Prod.snd]
   congr 1
   have:=ZjM (rows++[[I z]]++[[I 1,I 0,.val (.string Zba),.osl 3 (rows.length+1) 1,B Xc,I 0,B Xc]]) (ZX []) (ZX [[I 1,.oref (rows.length+1+1) 0]])
   have hl2:(rows++[[I z]]++[[I 1,I 0,.val (.string Zba),.osl 3 (rows.length+1) 1,B Xc,I 0,B Xc]]).length=rows.length+1+1:=by simp
   rw [hl2] at this
   exact this
 ·simp only [XA,XJ,Wi,XF] at h4
  simp only [MS.frag,MS.head,MS.map,PE.kv,PE.frag,PE.row,PE.core,PE.arr,ZpG,Xg,Xz,List.flatMap_cons,List.flatMap_nil,List.replicate_zero,Wc,XJ,Wi,XF,XP,XX]
  exact h4
 ·exact List.pairwise_singleton _ _
 ·intro e he
  rw [XC] at he
  subst he
  exact ⟨Int.le_refl _,Int.le_refl _⟩
 ·intro e he
  rw [XC] at he
  subst he
  show (1+0:Nat)≠0
  decide
 ·intro e he
  rw [XC] at he
  subst he
  exact ⟨Int.le_refl _,by show (0:Int) < 1;decide⟩
 ·show (1:Nat)≤64
  decide
 ·show (1:Int)≤1048576
  decide
def Zku (es:List PE) (parent core:Int) (nm:Bool):Int:=
 match Zls es parent with
 | none => 17
 | some _ => if nm = Xb then (if 0 ≤ core ∧ core < 32 then (if es.length = 64 then 15 else 0) else 1) else 63
theorem put_new {es:List PE} {k:Int} {c:AV} (h:∀ e∈es,e.p.id < k):YF (es.map PE.kv) k c=es.map PE.kv++[[I k,c]]:=by
 unfold YF
 rw [if_neg]
 intro hh
 obtain ⟨r,hr,hk⟩:=List.any_eq_true.1 hh
 obtain ⟨e,he,rfl⟩:=Xj.1 hr
 have:=h e he
 have hk':(Xa e.p.id == Xa k)=Xb:=hk
 simp at hk'
 omega
theorem s10 {x:LL} (h:ZO rows (m.frag++F)) (hm:m.Ok) (hx:Zk x = .oref (m.jm+1) 0) {parent core:Int} {name:ByteArray} {nm:Bool} (hn:g28 name=Xa nm) (hc:Zku m.es parent core nm=0) (hlast:m.last < 1048576) :
  ∃ rows',∃ e':PE,g10 x parent name core rows=Xa (m.last+1,0,rows')∧e'.p=⟨m.last+1,parent,name,[core],Xc,0,Xc⟩∧ZO rows' (({ m with es:=m.es++[e'],last:=m.last+1 } : MS).frag++F)∧({ m with es:=m.es++[e'],last:=m.last+1 } : MS).Ok:=by
 rw [Zsa,s27 h hx,XM,Za (ne1 (Zdn _)),Zny]
 unfold Zku at hc
 cases ho:Zls m.es parent with
 | none => rw [ho] at hc; exact absurd hc (by show ¬ ((17 : Int) = 0); decide)
 | some e =>
  rw [ho] at hc
  dsimp only at hc
  cases nm with
  | false => rw [if_neg (by decide)] at hc; exact absurd hc (by decide)
  | true =>
  rw [if_pos rfl] at hc
  by_cases hr:0≤core∧core < 32
  ·rw [if_pos hr] at hc
   by_cases hl:m.es.length=64
   ·rw [if_pos hl] at hc;exact absurd hc (by decide)
   ·have hrows:Zf .mrows rows 0 [[.omap (m.jq+1)]] []=m.es.map PE.kv:=by
     simp only [Zf,Zk,JC,ZrZ,Yt (map_at h),MS.map,ZX,Kv]
    obtain ⟨hf,_⟩:=ZcO ho
    have hem:=JO (m:=m) hf
    have hrg:=hm.rng e hem.1
    have hlst:=hm.lst
    rw [ZF,if_neg (by decide),hn,XM,if_neg (by decide),s26,XM,decide_eq_true hr,if_neg (by decide),Za (ne1 (Yr hx)),Za (ne1 (Yr hx)),VF h hx,YM rfl,Za (ne1 (Zbe h rfl)),hrows,if_neg (by simp [cop];omega),
     Za (ne1 (Yr hx)),Za (ne1 (Yr hx)),Zjp h hx,Yg,Za (ne1 (Yr hx)),Za (ne1 (Yr hx)),Za (by simp),Za (ne1 (Yr hx)),Za (ne1 (Yr hx))]
    have hadd:iop .add .i64 m.last 1=m.last+1:=ZiD (by omega) (by omega)
    rw [hadd]
    have hs1:Zf .set rows 0 (Zf (.padd 1) x 0 E0 []) [AV.val (.int .i64 (m.last+1))]=rows.set m.jm [.omap (m.jq+1),I (m.last+1)]:=by
     rw [ZaO hx]
     rw [Zng rfl (head_at h) (by simp [MS.head])]
     rfl
    rw [hs1]
    have h1:ZO (rows.set m.jm [.omap (m.jq+1),I (m.last+1)]) (({ m with last:=m.last+1 } : MS).frag++F):=ZO.set h [.omap (m.jq+1),I (m.last+1)]
    generalize rows.set m.jm [.omap (m.jq+1),I (m.last+1)]=r1 at h1 ⊢
    have h2:=h1.push [I core]
    have h3:=h2.push [I (m.last+1),I parent,.val (.string name),.osl 3 (r1.length+1) 1,B Xc,I 0,B Xc]
    have hw:∀ l:LL,Zf .pnew l 0 E0 [] = [[.oref (l.length+1) 0]]:=fun _=>rfl
    have ha:Zf (.parr 3) r1 1 E0 [] = [[.osl 3 (r1.length+1) 1]]:=rfl
    have hc3:Zk [[AV.osl 3 (r1.length+1) 1]] = .osl 3 (r1.length+1) 1:=rfl
    have hc4:Zk [[AV.oref ((r1++[[AV.val (.int .i64 core)]]).length+1) 0]] = .oref ((r1++[[AV.val (.int .i64 core)]]).length+1) 0:=rfl
    rw [VF (m:={ m with last:=m.last+1 }) h1 hx,YM rfl,Za (ne1 (Yr hx)),Za (ne1 (Yr hx)),Zjp (m:={ m with last:=m.last+1 }) h1 hx,Yg,Za (ne1 (Yr hx)),Za (ne1 (Yr hx)),Yg,ha,hc3]
    dsimp only
    generalize hr3:r1++[[AV.val (.int .i64 core)]]++[[AV.val (.int .i64 (m.last+1)),AV.val (.int .i64 parent),AV.val (.string name),AV.osl 3 (r1.length+1) 1,AV.val (.bool Xc),AV.val (.int .i64 0),AV.val (.bool Xc)]]=r3
    have hr3':r1++[[I core]]++[[I (m.last+1),I parent,.val (.string name),.osl 3 (r1.length+1) 1,B Xc,I 0,B Xc]]=r3:=hr3
    rw [hr3'] at h3
    have h3m:=h3.tail.tail
    rw [Za (ne1 (Zbe (m:={ m with last:=m.last+1 }) h3m rfl)),hw,hc4,Za (by simp [Zf,Zk,JC,okL]),Za (ne1 (Yr hx)),Za (ne1 (Yr hx))]
    rw [Zqp (j:=m.jq) (kvs:=m.es.map PE.kv) rfl (map_at (m:={ m with last:=m.last+1 }) h3m),put_new (fun a ha=>by have:=hm.rng a ha;omega)]
    have hlen:(r1++[[AV.val (.int .i64 core)]]).length=r1.length+1:=by simp
    have hlen':(r1++[[I core]]).length=r1.length+1:=by simp
    rw [hlen]
    rw [hlen'] at h3
    obtain ⟨e',he'⟩:∃ e':PE,e'=⟨r1.length+1,Xa (r1.length,0),⟨m.last+1,parent,name,[core],Xc,0,Xc⟩⟩:=⟨_,rfl⟩
    have hfr:e'.frag = [(r1.length+1,[I (m.last+1),I parent,.val (.string name),.osl 3 (r1.length+1) 1,B Xc,I 0,B Xc]),(r1.length,[I core])]:=by rw [he'];rfl
    have hkv:e'.kv = [I (m.last+1),.oref (r1.length+1+1) 0]:=by rw [he'];rfl
    have hp1:((r1.length+1,[I (m.last+1),I parent,.val (.string name),.osl 3 (r1.length+1) 1,B Xc,I 0,B Xc])::(r1.length,[I core])::(({ m with last:=m.last+1 } : MS).frag++F)).Perm ((m.jq,m.map)::((m.jm,[.omap (m.jq+1),I (m.last+1)])::((m.es++[e']).flatMap PE.frag++F))):=by
     have:(m.es++[e']).flatMap PE.frag++F=m.es.flatMap PE.frag++(e'.frag++F):=by simp [List.flatMap_append]
     rw [this]
     have h0:(r1.length+1,[I (m.last+1),I parent,.val (.string name),.osl 3 (r1.length+1) 1,B Xc,I 0,B Xc])::(r1.length,[I core])::(({ m with last:=m.last+1 } : MS).frag++F)=e'.frag++(({ m with last:=m.last+1 } : MS).frag++F):=by rw [hfr];rfl
     rw [h0]
     refine (List.perm_append_comm_assoc _ _ _).trans ?_
     exact (List.Perm.swap _ _ _)
    have h4:=((h3.perm hp1).set (ZX (m.es.map PE.kv++[e'.kv]))).perm (List.Perm.swap _ _ _)
    have hfin:ZO (r3.set m.jq (ZX (m.es.map PE.kv++[e'.kv]))) (({ m with es:=m.es++[e'],last:=m.last+1 } : MS).frag++F):=by
     have hmap:({ m with es:=m.es++[e'],last:=m.last+1 } : MS).map=ZX (m.es.map PE.kv++[e'.kv]):=by simp [MS.map]
     unfold MS.frag
     rw [hmap]
     exact h4
    rw [hkv] at hfin
    rw [Zjp (m:={ m with es:=m.es++[e'],last:=m.last+1 }) hfin hx,Yg]
    refine ⟨_,e',rfl,by rw [he'],hfin,?_,?_,?_,?_,?_,?_⟩
    ·show (m.es++[e']).Pairwise _
     rw [Un]
     refine ⟨hm.srt,List.pairwise_singleton _ _,fun a ha b hb=>?_⟩
     rw [XC] at hb
     have:=hm.rng a ha
     rw [hb,he']
     show a.p.id < m.last+1
     omega
    ·intro a ha
     show 1≤a.p.id∧a.p.id≤m.last+1
     rcases Xt.1 ha with ha | ha
     ·have:=hm.rng a ha
      omega
     ·rw [XC] at ha
      rw [ha,he']
      dsimp only
      omega
    ·intro a ha
     rcases Xt.1 ha with ha | ha
     ·exact hm.cor a ha
     ·rw [XC] at ha
      rw [ha,he']
      show (1+0:Nat)≠0
      decide
    ·intro a ha
     rcases Xt.1 ha with ha | ha
     ·exact hm.par a ha
     ·rw [XC] at ha
      rw [ha,he']
      show 0≤parent∧parent < m.last+1
      omega
    ·show (m.es++[e']).length≤64
     have:=hm.len
     simp
     omega
    ·show m.last+1≤1048576
     omega
  ·rw [if_neg hr] at hc;exact absurd hc (by decide)
end
section
open Go Go.AM Go.Proofs.Ytpjnmgjphfnmmaa
set_option maxRecDepth 100000
variable {rows:LL} {F:Zbq} {m:MS}
def Zbm (es:List PE) (k:Int):List PE×Int×Int×Int×Bool×Int:=
 match Zls es k with
 | none => (es, 0, 0, 0, Xc, 17)
 | some p =>
  if p.p.waiting=Xb then (es,0,0,0,Xc,4)
  else match es.find? fun e=>decide (e.p.parent=k)&&e.p.ended with
   | some c => (Zon c.p.id es, k, c.p.id, c.p.status, Xb, 0)
   | none => if (es.any fun e => decide (e.p.parent = k)) = Xb then (ZhX k (fun q => { q with waiting := Xb }) es, 0, 0, 0, Xc, 0) else (es, 0, 0, 0, Xc, 2)
theorem Zl3 (hm:m.Ok) {pre ks:List PE} {e:PE} (hs:m.es=pre++e::ks):m.find e.p.id=Xa e:=by
 unfold MS.find
 rw [Tt]
 refine ⟨by simp,pre,ks,hs,fun a ha=>?_⟩
 have hsrt:=hm.srt
 rw [hs,Un] at hsrt
 have:=hsrt.2.2 a ha e (by simp)
 simp
 omega
theorem Zgq {x:LL} (h:ZO rows (m.frag++F)) (hm:m.Ok) (hx:Zk x = .oref (m.jm+1) 0) (kk:Int) {p:PE} (hp:p∈m.es):∀ (ks pre:List PE) (k c:Nat),m.es=pre++ks→ks.length < k→c≤pre.length→
  Zor k x kk 0 0 0 (nmE (Xa p)) (c:Int) m.ids (m.es.length:Int) (pre.length:Int) rows =
   match ks.find? (fun e=>decide (e.p.parent=kk)&&e.p.ended) with
   | some e => Xa (kk, e.p.id, e.p.status, Xb, 0, Zf .mdel rows e.p.id [[.omap (m.jq + 1)]] [])
   | none => if c = 0 ∧ (ks.any fun e => decide (e.p.parent = kk)) = Xc then Xa (0, 0, 0, Xc, 2, rows) else Xa (0, 0, 0, Xc, 0, rows.set p.j (p.row.set 6 (B Xb)))
 | [], pre, k, c, hs, hk, hc => by
  obtain ⟨k',rfl⟩:∃ k',k=k'+1:=⟨k-1,by simp at hk;omega⟩
  rw [Wc] at hs
  rw [ZjP,hs,if_neg (by simp [cop])]
  simp only [List.find?_nil,List.any_nil,and_true]
  by_cases h0:c=0
  ·rw [if_pos (by simp [cop,h0]),if_pos h0]
  ·rw [if_neg (by simp [cop];omega),if_neg h0,Za (ne1 (ZF p)),Za (ne1 (ZF p)),Za (by rw [WY (Zle h hp) rfl (c:=B p.p.waiting) rfl];simp),ZaF (Zle h hp) (by simp [PE.row])]
 | e :: ks, pre, k, c, hs, hk, hc => by
  obtain ⟨k',rfl⟩:∃ k',k=k'+1:=⟨k-1,by simp at hk;omega⟩
  have he:e∈m.es:=by rw [hs];simp
  have hlen:(pre.length:Int) < (m.es.length:Int):=by rw [hs];simp;omega
  have hml:=hm.len
  have hpl:pre.length≤64:=by omega
  have hf:=Zl3 hm hs
  have hz:(m.es.map fun e=>e.p.id)[pre.length]? = Xa e.p.id:=by rw [hs];simp
  have hl1:((pre++[e]).length:Int)=((pre.length+1:Nat):Int):=by simp
  rw [ZjP,if_pos (by simp [cop];omega),WO,Vq hz,Za (ne1 (Yr hx)),Za (ne1 (Yr hx)),VF h hx,YM rfl,Za (ne1 (Zbe h rfl)),Zia h rfl,hf,Za (ne1 (ZF e)),Za (ne1 (ZF e)),VW h he (c:=I e.p.parent) rfl,Yg,Zqx (by omega)]
  by_cases hpar:e.p.parent=kk
  ·rw [if_neg (by simp [cop,hpar]),Za (ne1 (ZF e)),Za (ne1 (ZF e)),VW h he (c:=B e.p.ended) rfl,Ww]
   cases hen:e.p.ended with
   | true =>
    rw [if_pos rfl,Za (ne1 (Yr hx)),Za (ne1 (Yr hx)),YM rfl,Za (ne1 (Zbe h rfl)),Za (ne1 (ZF e)),Za (ne1 (ZF e))]
    have hr:=(Zl8 h hm hf (x:=[[.omap (m.jq+1)]]) rfl).1
    have hr2:(Zf .mdel rows e.p.id [[.omap (m.jq+1)]] [])[e.j]? = Xa e.row:=hr.get (by simp [PE.frag])
    rw [WY hr2 rfl (c:=I e.p.status) rfl,Yg]
    simp only [UT,hpar,hen,decide_true,UE]
   | false =>
    rw [if_neg (by decide),Zqx (by omega)]
    have ih:=Zgq h hm hx kk hp ks (pre++[e]) k' (c+1) (by rw [hs];simp) (by simp at hk;omega) (by simp;omega)
    rw [WO,hl1] at ih
    rw [ih]
    simp only [UT,hpar,hen,decide_true,UE,U7,Bool.true_or,Bool.true_eq_false,and_false,if_false,Nat.add_eq_zero_iff,Nat.one_ne_zero,false_and]
  ·rw [if_pos (by simp [cop,hpar])]
   have ih:=Zgq h hm hx kk hp ks (pre++[e]) k' c (by rw [hs];simp) (by simp at hk;omega) (by simp;omega)
   rw [WO,hl1] at ih
   rw [ih]
   simp only [UT,hpar,decide_false,Bool.false_and,U7,Bool.false_or]
theorem s11 {x:LL} (h:ZO rows (m.frag++F)) (hm:m.Ok) (hx:Zk x = .oref (m.jm+1) 0) (k:Int) :
  ∃ rows' F',g11 x k rows=Xa ((Zbm m.es k).2.1,(Zbm m.es k).2.2.1,(Zbm m.es k).2.2.2.1,(Zbm m.es k).2.2.2.2.1,(Zbm m.es k).2.2.2.2.2,rows')∧ZO rows' (({ m with es:=(Zbm m.es k).1 } : MS).frag++(F'++F))∧({ m with es:=(Zbm m.es k).1 } : MS).Ok:=by
 rw [Zsc,s27 h hx,XM,Za (ne1 (Zdn _)),Zny]
 unfold Zbm
 cases ho:Zls m.es k with
 | none =>
  rw [Zgc,if_pos (by decide)]
  exact ⟨rows,[],rfl,h,hm⟩
 | some p =>
  obtain ⟨hf,hen⟩:=ZcO ho
  obtain ⟨hp,hpk⟩:=JO (m:=m) hf
  subst hpk
  rw [ZF,if_neg (by decide),Za (by simp),Za (by simp),VW h hp (c:=B p.p.waiting) rfl,Ww]
  dsimp only
  cases hw:p.p.waiting with
  | true =>
   exact ⟨rows,[],rfl,h,hm⟩
  | false =>
   rw [if_neg (by decide),if_neg (by decide),s29 h hm hx,XM]
   have hp0:=(h.push [.omap (m.jq+1)])
   have hq:ZO (rows++[[.omap (m.jq+1)]]) (m.frag++([(rows.length,[.omap (m.jq+1)])]++F)):=hp0.perm (by
    rw [XP,XX]
    exact List.perm_middle.symm)
   generalize rows++[[.omap (m.jq+1)]]=rows1 at hq ⊢
   have hl2:((m.ids).length:Int)=(m.es.length:Int):=by simp [MS.ids]
   have hlp:=Zgq hq hm hx p.p.id hp m.es [] ZeD 0 rfl (by have:=hm.len;unfold ZeD;omega) (XD _)
   rw [hl2]
   have hz:((([] : List PE).length:Nat):Int)=0:=rfl
   rw [hz] at hlp
   have hz2:((0:Nat):Int)=0:=rfl
   rw [hz2] at hlp
   rw [hlp]
   cases hfc:m.es.find? (fun e=>decide (e.p.parent=p.p.id)&&e.p.ended) with
   | some c =>
    have hcm:=Tg hfc
    have hcf:m.find c.p.id=Xa c:=by
     obtain ⟨pre,post,hs⟩:=List.append_of_mem hcm
     exact Zl3 hm hs
    obtain ⟨g1,g2⟩:=Zl8 hq hm hcf (x:=[[.omap (m.jq+1)]]) rfl
    refine ⟨_,c.frag++[(rows.length,[.omap (m.jq+1)])],rfl,?_,g2⟩
    rw [Xu]
    exact g1
   | none =>
    dsimp only
    cases ha:m.es.any fun e=>decide (e.p.parent=p.p.id) with
    | false =>
     rw [if_pos ⟨rfl,rfl⟩,if_neg (by decide)]
     exact ⟨rows1,_,rfl,hq,hm⟩
    | true =>
     rw [if_neg (by simp),if_pos rfl]
     obtain ⟨g1,g2⟩:=ZmG (f:=fun q=>{ q with waiting:=Xb }) hq hm hf rfl rfl (hm.par p hp)
     refine ⟨_,[(rows.length,[.omap (m.jq+1)])],rfl,?_,g2⟩
     exact g1
end
open Go Go.AM Go.Proofs.Ytpjnmgjphfnmmaa
set_option maxRecDepth 100000
def ZjC (z:Int):Bool:=decide (97≤z∧z≤122∨65≤z∧z≤90∨z=95)
def ZmU (z:Int):Bool:=decide (48≤z∧z≤57)
def chr (s:ByteArray) (i:Nat):Int:=((s.data.toList.getD i 0).toNat:Int)
def Zq0 (s:ByteArray):Nat→Nat→Bool
 | _, 0 => Xb
 | i, n + 1 => (ZjC (chr s i) || ZmU (chr s i)) && Zq0 s (i + 1) n
def ZoA (s:ByteArray):Nat→Nat→Nat
 | i, 0 => i
 | i, n + 1 => if (ZjC (chr s i) || ZmU (chr s i)) = Xb then ZoA s (i + 1) n else i
def Zo5 (s:ByteArray):Bool:=decide (s.size≠0)&&(ZjC (chr s 0)&&(Zq0 s 0 s.size&&decide (s.size≤24)))
theorem ZoU (z:Int):(if (cop .geq z 97)=Xb then
 if (cop .leq z 122)=Xb then
 Xa (Xb)
 else
 if (cop .geq z 65)=Xb then
 if (cop .leq z 90)=Xb then
 Xa (Xb)
 else
 Xa ((cop .eql z 95))
 else
 Xa ((cop .eql z 95))
 else
 if (cop .geq z 65)=Xb then
 if (cop .leq z 90)=Xb then
 Xa (Xb)
 else
 Xa ((cop .eql z 95))
 else
 Xa ((cop .eql z 95)))=Xa (ZjC z):=by
  unfold ZjC
  simp only [cop,decide_eq_true_eq]
  by_cases h1:97≤z<;>by_cases h2:z≤122<;>by_cases h3:65≤z<;>by_cases h4:z≤90<;>by_cases h5:z=95<;>simp [h1,h2,h3,h4,h5]<;>omega
theorem ZoL (z:Int):(if (cop .geq z 48)=Xb then
 Xa ((cop .leq z 57))
 else
 Xa (Xc))=Xa (ZmU z):=by
  unfold ZmU
  simp only [cop,decide_eq_true_eq]
  by_cases h1:48≤z<;>by_cases h2:z≤57<;>simp [h1,h2]
theorem s66 (z:Int):g66 z=Xa (ZjC z):=by rw [Ztb];exact ZoU z
theorem s84 (z:Int):g84 z=Xa (ZmU z):=by rw [ZsX];exact ZoL z
theorem ZtM {i:Nat} (h:i≤1048576):iop .add .i64 (i:Int) 1=((i+1:Nat):Int):=by
 rw [ZiD (by omega) (by omega)]
 omega
theorem ZjY (s:ByteArray) (hs:s.size≤1000000):∀ (n i k:Nat),i+n=s.size→n < k→Zmt k s (i:Int)=Xa ((ZoA s i n:Nat):Int)
 | 0, i, k, hi, hk => by
  obtain ⟨k',rfl⟩:∃ k',k=k'+1:=⟨k-1,by omega⟩
  rw [ZjU,if_neg (by simp [cop];omega)]
  rfl
 | n + 1, i, k, hi, hk => by
  obtain ⟨k',rfl⟩:∃ k',k=k'+1:=⟨k-1,by omega⟩
  have ih:=ZjY s hs n (i+1) k' (by omega) (by omega)
  rw [ZjU,if_pos (by simp [cop];omega),Za (by omega),Za (by omega),s66,XM,ZtM (by omega),ih,Za (by omega),Za (by omega),s84,XM,UI]
  rw [show ZoA s i (n+1)=if (ZjC (chr s i)||ZmU (chr s i))=Xb then ZoA s (i+1) n else i from rfl]
  show (if ZjC (chr s i)=Xb then _ else if ZmU (chr s i)=Xb then _ else _)=_
  cases ZjC (chr s i)<;>cases ZmU (chr s i)<;>rfl
theorem ZnM (s:ByteArray):∀ (n i:Nat),i≤ZoA s i n∧(ZoA s i n=i+n↔Zq0 s i n=Xb)
 | 0, i => ⟨XD _, by simp [ZoA, Zq0]⟩
 | n + 1, i => by
  obtain ⟨h1,h2⟩:=ZnM s n (i+1)
  rw [show ZoA s i (n+1)=if (ZjC (chr s i)||ZmU (chr s i))=Xb then ZoA s (i+1) n else i from rfl,show Zq0 s i (n+1)=((ZjC (chr s i)||ZmU (chr s i))&&Zq0 s (i+1) n) from rfl]
  cases (ZjC (chr s i)||ZmU (chr s i)) with
  | true =>
   simp only [if_true,UE]
   exact ⟨by omega,by rw [← h2];omega⟩
  | false => simp
theorem ZlW (s:ByteArray):(ByteArray.toList s == ByteArray.toList (⟨#[]⟩:ByteArray))=decide (s.size=0):=by
 rw [ByteArray.toList_eq,ByteArray.toList_eq]
 have:s.size=s.data.toList.length:=rfl
 rw [this]
 cases s.data.toList<;>simp
theorem s28 (s:ByteArray) (hs:s.size≤1000000):g28 s=Xa (Zo5 s):=by
 have h67:g67 s=Xa ((ZoA s 0 s.size:Nat):Int):=by
  rw [Zse]
  exact ZjY s hs s.size 0 ZeD (by omega) (by unfold ZeD;omega)
 obtain ⟨h1,h2⟩:=ZnM s s.size 0
 rw [Zs3,Zsd,ZlW]
 unfold Zo5
 by_cases h0:s.size=0
 ·rw [if_neg (by simp [h0])]
  simp [h0]
 ·rw [if_pos (by simp [h0]),Za (by decide),Za (by omega),s66,XM,h67]
  show (if ZjC (chr s 0)=Xb then _ else _:Option Bool).bind _=_
  rw [decide_eq_true h0,UE]
  cases ZjC (chr s 0) with
  | false => rfl
  | true =>
   rw [if_pos rfl,XM,XM,UE]
   cases ha:Zq0 s 0 s.size with
   | true =>
    have:=h2.2 ha
    rw [if_pos (by simp [cop];omega),UE]
    congr 1
    simp [cop]
    omega
   | false =>
    rw [if_neg]
    ·rfl
    ·intro hh
     simp [cop] at hh
     rw [h2.1 (by omega)] at ha
     cases ha
section
open Go Go.AM Go.Proofs.Ytpjnmgjphfnmmaa
set_option maxRecDepth 100000
variable {rows:LL} {F:Zbq} {m:MS}
theorem ZmV {es:List PE} {p:Pr} (h:es.map PE.p = [p]):∃ j c,es = [⟨j,c,p⟩]:=by
 match es,h with
 | [e], h =>
  rw [Xg,Xz,List.cons.injEq] at h
  exact ⟨e.j,e.c,by rw [← h.1]⟩
theorem Ztx {e:PE} {p:Pr} (h:e.p=p):∃ j c,e=⟨j,c,p⟩:=⟨e.j,e.c,by rw [← h]⟩
theorem Zsv:Zo5 ⟨#[97]⟩=Xb:=by decide
theorem ZkQ:Zo5 ⟨#[99,104,105,108,100]⟩=Xb:=by decide
theorem ZgZ {γ:Type} (a:Zrf) (k:Int×Int×Int→Option γ):Jn (K8 [a]) 0 [.int .i64,.int .i64,.int .i64] k=k (a.1,a.2.1,a.2.2):=Vx (l:=K8 [a]) (sh:=[.int .i64,.int .i64,.int .i64]) (cs:=[I a.1,I a.2.1,I a.2.2]) (r:=(a.1,a.2.1,a.2.2)) k (by decide:(0:Int)≤0) rfl rfl
theorem s15 (h:ZO rows F):∃ rows',g15 rows=Xa (Xb,rows'):=by
 obtain ⟨m,r1,q1,q2,q3,q4,q5⟩:=s8 (z:=0) (by decide) h
 obtain ⟨j0,c0,hes⟩:=ZmV q4
 have hx:Zk [[.oref (m.jm+1) 0]] = .oref (m.jm+1) 0:=rfl
 have hn:g28 ⟨#[97]⟩=Xa Xb:=by rw [s28 _ (by decide),Zsv]
 obtain ⟨r2,e1,t1,t2,t3,t4⟩:=s10 q2 q3 hx (parent:=1) (core:=0) hn (by rw [hes];rfl) (by rw [q5];decide)
 rw [q5] at t1 t2
 obtain ⟨j1,c1,rfl⟩:=Ztx t2
 obtain ⟨r3,F3,u1,u2,u3⟩:=s11 t3 t4 hx 1
 have hw:Zbm ({ m with es:=m.es++[⟨j1,c1,⟨1+1,1,⟨#[97]⟩,[0],Xc,0,Xc⟩⟩],last:=m.last+1 } : MS).es 1=([⟨j0,c0,⟨1,0,Zba,[0],Xc,0,Xb⟩⟩,⟨j1,c1,⟨2,1,⟨#[97]⟩,[0],Xc,0,Xc⟩⟩],0,0,0,Xc,0):=by
  show Zbm (m.es++_) 1=_
  rw [hes]
  rfl
 rw [hw] at u1 u2 u3
 obtain ⟨r4,F4,v1,v2,v3⟩:=s13 u2 u3 hx 2 7
 have he:ZcR [⟨j0,c0,⟨1,0,Zba,[0],Xc,0,Xb⟩⟩,⟨j1,c1,⟨2,1,⟨#[97]⟩,[0],Xc,0,Xc⟩⟩] 2 7=(([⟨j0,c0,⟨1,0,Zba,[0],Xc,0,Xc⟩⟩],[(1,2,7)]),0):=rfl
 have he2:ZcR ({ m with es:=[⟨j0,c0,⟨1,0,Zba,[0],Xc,0,Xb⟩⟩,⟨j1,c1,⟨2,1,⟨#[97]⟩,[0],Xc,0,Xc⟩⟩],last:=m.last+1 } : MS).es 2 7=(([⟨j0,c0,⟨1,0,Zba,[0],Xc,0,Xc⟩⟩],[(1,2,7)]),0):=he
 rw [he2] at v1 v2 v3
 obtain ⟨r5,F5,w1,w2⟩:=s14 v2 v3 hx (fun e he=>by
  rw [XC] at he
  subst he
  show (1:Nat)≤100000
  decide)
 refine ⟨r5,?_⟩
 rw [ZsV,q1,XM]
 dsimp only
 rw [if_neg (by decide),Za (by simp [Zf,Zk,JC,okL]),if_neg (by simp [Zf,Zk,JC,okL,cop]),t1,XM]
 dsimp only
 rw [u1,XM]
 dsimp only
 rw [v1,XM]
 dsimp only
 rw [if_pos (by decide),if_pos (by decide),if_pos (by decide),if_pos (by decide),if_pos (by decide),if_pos (by decide)]
 rw [ZgZ,if_pos (by decide),w1]
 rfl
end
end Go.W
