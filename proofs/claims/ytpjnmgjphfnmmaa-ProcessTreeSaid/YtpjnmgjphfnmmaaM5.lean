import Derived.Test.YtpjnmgjphfnmmaaM4
import Derived.Test.YtpjnmgjphfnmmaaFWh
import Derived.Test.YtpjnmgjphfnmmaaFWe
open Option renaming some→Xa,none→Xe,bind_some→Xi,map_some→Xw
open Bool renaming true→Xb,false→Xc,and_eq_true→Xr,true_and→X8,false_eq_true→UA
open List renaming replicate→Xg,map_cons→Xh,mem_map→Xj,getElem?_eq_some_iff→Xk,getElem?_map→Xl,length→Xn,append_assoc→Xo,mem_cons→Xp,length_map→Xq,getElem?_eq_getElem→Xs,length_append→Xu,mem_append→Xv,getElem?_append_left→Xx,getElem?_append_right→Xy,length_cons→XA,mem_singleton→XD,all_eq_true→XE,map_nil→XG,append_nil→XJ,cons_append→XL,nil_append→XM,map_append→XN,length_take→XS,length_nil→XT,find?_some→X4,flatten_cons→X5,mem_of_find?_eq_some→Wa,getElem?_set_self→Wc,filter_cons_of_neg→Wd,nodup_cons→Wf,map_map→Wg,filter_cons_of_pos→Wh,getElem?_eq_none→Wj,mem_filter→Wl,map_congr_left→Wr,pairwise_append→Wt,ext_getElem?→Ua,perm_append_comm_assoc→Ud,sum_cons→Ue,pairwise_cons→Ui,mem_cons_of_mem→Um,length_filter_le→Un,take_of_length_le→Uo,mem_append_left→UB,flatMap_cons→UF,filter_append→UK,length_set→UN,find?_eq_none→UT,filter_eq_self→UU,any_cons→UV,find?_cons→UW,perm_middle→UX,mem_append_right→U8,pairwise_map→Ta,find?_cons_of_pos→Tb,find?_cons_of_neg→Tc,take_length→Ti,find?_eq_some_iff_append→Tl,filterMap_cons_some→Tu,nodup_iff_pairwise_ne→Tv,pairwise_singleton→Tw,set_append_right→Tx,length_eq_zero_iff→Ty,take_append_of_le_length→Tz
open Nat renaming le_refl→Xz,zero_add→XH,le_trans→XK,zero_le→X9,mul_one→Wo,sub_self→Uz,add_sub_cancel_left→UL
open Int renaming toNat_natCast→Ws
open Function renaming comp→U6
set_option linter.unusedVariables false
set_option linter.unusedSimpArgs false
set_option linter.defProp false
namespace Go.W
section
open Go Go.AM Go.Proofs.Ytpjnmgjphfnmmaa
set_option maxRecDepth 100000
structure Pr where
 id:Int
 parent:Int
 name:ByteArray
 cores:List Int
 ended : Bool
 status:Int
 waiting:Bool
structure PE where
 j:Nat
 c:Option (Nat×Nat)
 p:Pr
def PE.core (e:PE):AV:=match e.c with | none=>.osl 0 0 0 | some q=>.osl 3 (q.1+1) e.p.cores.length
def PE.row (e:PE):List AV:=[I e.p.id,I e.p.parent,.val (.string e.p.name),e.core,B e.p.ended,I e.p.status,B e.p.waiting]
def PE.arr (e:PE) (k:Nat):List AV:=e.p.cores.map (fun z=>I z)++Xg k (I 0)
def PE.frag (e:PE):Ym:=(e.j,e.row)::(match e.c with | none=>[] | some q=>[(q.1,e.arr q.2)])
def PE.ok (e:PE):Prop:=match e.c with | none=>e.p.cores = [] | some q=>e.p.cores.length+q.2≠0
structure MS where
 jm:Nat
 jq:Nat
 es:List PE
 last:Int
def PE.kv (e:PE):List AV:=[I e.p.id,.oref (e.j+1) 0]
def MS.head (m:MS):List AV:=[.omap (m.jq+1),I m.last]
def MS.map (m:MS):List AV:=ZX (m.es.map PE.kv)
def MS.frag (m:MS):Ym:=(m.jm,m.head)::(m.jq,m.map)::m.es.flatMap PE.frag
def MS.find (m:MS) (k:Int):Option PE:=m.es.find? fun e=>decide (e.p.id=k)
def nmE (o:Option PE):LL:=match o with | none=>[[.oref 0 0]] | some e=>[[.oref (e.j+1) 0]]
variable {rows:LL} {F:Ym} {m:MS}
theorem head_at (h:ZD rows (m.frag++F)):rows[m.jm]? = Xa m.head:=h.get (by simp [MS.frag])
theorem map_at (h:ZD rows (m.frag++F)):rows[m.jq]? = Xa m.map:=h.get (by simp [MS.frag])
theorem ZlO (h:ZD rows (m.frag++F)) {e:PE} (he:e∈m.es):rows[e.j]? = Xa e.row:=h.get (by
 simp only [MS.frag,XL,Xp,Xv,List.mem_flatMap]
 exact .inr (.inr (.inl ⟨e,he,by simp [PE.frag]⟩)))
theorem Zcp {x:LL} {k:Int} (h:ZD rows (m.frag++F)) (hx:Zd x = .omap (m.jq+1)):Zc .mget rows k x []=nmE (m.find k):=by
 simp only [Zc,hx,Znq,ZrO,Jh (map_at h),MS.map,ZX,Ke]
 have:(m.es.map PE.kv).find? (fun r=>ZW r == Xa k)=(m.find k).map PE.kv:=by
  unfold MS.find
  induction m.es with
  | nil => rfl
  | cons e es ih =>
   have hk:(ZW e.kv == Xa k)=decide (e.p.id=k):=by
    show (Xa e.p.id == Xa k)=_
    by_cases hd:e.p.id=k<;>simp [hd]
   simp only [Xh,UW,hk]
   cases hd:decide (e.p.id=k) with
   | true => rfl
   | false => exact ih
 rw [this]
 cases m.find k with
 | none => rfl
 | some e => rfl
theorem Vf {x:LL} (h:ZD rows (m.frag++F)) (hx:Zd x = .omap (m.jq+1)):Zc .mchk rows 0 x [] = [[]]:=by
 simp only [Zc,hx,ZuL,Jh (map_at h),MS.map,ZX,Yn,okL]
theorem Jo {k:Int} {e:PE} (h:m.find k=Xa e):e∈m.es∧e.p.id=k:=by
 unfold MS.find at h
 refine ⟨Wa h,?_⟩
 have:=X4 h
 simpa using this
def MS.run (m:MS) (k:Int):Option PE:=match m.find k with | some e=>if e.p.ended=Xb then Xe else Xa e | none=>Xe
theorem Zo {γ:Type} {c:AV} (hc:ZO c=Xb) (k:LL→Option γ):Zk [[c]] 0 [.cel] k=k [[c]]:=by
 refine YF (l:=[[c]]) (sh:=[.cel]) (cs:=[c]) (r:=([[c]] : LL)) k (by decide:(0:Int)≤0) rfl ?_
 show (if ZO c=Xb then Xa [[c]] else Xe)=Xa [[c]]
 rw [if_pos hc]
theorem JR {γ:Type} (b:Bool) (k:Bool→Option γ):Zk [[B b]] 0 [.bool] k=k b:=YF (l:=[[B b]]) (sh:=[.bool]) (cs:=[B b]) (r:=(b:Bool)) k (by decide:(0:Int)≤0) rfl rfl
theorem ZK {γ:Type} (z:Int) (k:Int→Option γ):Zk [[I z]] 0 [.int .i64] k=k z:=YF (l:=[[I z]]) (sh:=[.int .i64]) (cs:=[I z]) (r:=(z:Int)) k (by decide:(0:Int)≤0) rfl rfl
theorem ne1 {l:LL} (h:l = [[]]):l≠[]:=by rw [h];simp
theorem YU {x:LL} (h:ZD rows (m.frag++F)) (hx:Zd x = .oref (m.jm+1) 0):Zc (.get 1) rows 0 (Zc (.padd 0) x 0 E0 []) [] = [[.omap (m.jq+1)]]:=by
 rw [YK hx]
 exact JF rfl (head_at h) rfl rfl
theorem Zjk {x:LL} (h:ZD rows (m.frag++F)) (hx:Zd x = .oref (m.jm+1) 0):Zc (.get 1) rows 0 (Zc (.padd 1) x 0 E0 []) [] = [[I m.last]]:=by
 rw [YK hx]
 exact JF rfl (head_at h) rfl rfl
theorem Kf (o:Option PE):Zc .pisr (nmE o) 0 E0 [] = [[]]:=by cases o with | none=>exact Znf rfl | some e=>exact ZqW rfl
theorem K3:Zc .pnn (nmE Xe) 0 E0 [] = []:=Zrv rfl
theorem Zq (e:PE):Zc .pnn (nmE (Xa e)) 0 E0 [] = [[]]:=ZA rfl
theorem Zd3 (e:PE):Zd (nmE (Xa e)) = .oref (e.j+1) 0:=rfl
theorem Ka {e:PE} {o:Nat} {c:AV} (h:ZD rows (m.frag++F)) (he:e∈m.es) (hc:e.row[o]? = Xa c):Zc (.get 1) rows 0 (Zc (.padd o) (nmE (Xa e)) 0 E0 []) [] = [[c]]:=by
 rw [YK (Zd3 e),XH]
 exact JF rfl (ZlO h he) rfl hc
theorem s27 {x:LL} (h:ZD rows (m.frag++F)) (hx:Zd x = .oref (m.jm+1) 0) (k:Int):g27 x k rows=Xa (nmE (m.run k),rows):=by
 rw [ZuJ,Zb (ne1 (ZA hx)),Zb (ne1 (ZA hx)),YU h hx,Zo rfl,Zb (ne1 (Vf h rfl)),Zcp h rfl,Zb (ne1 (Kf _))]
 unfold MS.run
 cases hf:m.find k with
 | none =>
  rw [K3]
  rfl
 | some e =>
  rw [Zb (ne1 (Zq e)),Zb (ne1 (Zq e)),Ka h (Jo hf).1 (c:=B e.p.ended) rfl,JR,Zq]
  show _=Xa (nmE (if e.p.ended=Xb then Xe else Xa e),rows)
  cases hb:e.p.ended<;>rfl
end
section
open Go Go.AM Go.Proofs.Ytpjnmgjphfnmmaa
set_option maxRecDepth 100000
structure MS.Ok (m:MS):Prop where
 srt:m.es.Pairwise fun a b=>a.p.id < b.p.id
 rng:∀ e∈m.es,1≤e.p.id∧e.p.id≤m.last
 cor:∀ e∈m.es,e.ok
 par:∀ e∈m.es,0≤e.p.parent∧e.p.parent < e.p.id
 len:m.es.length≤64
 lst:m.last≤1048576
variable {rows:LL} {F:Ym} {m:MS}
def MS.ids (m:MS):LL:=m.es.map fun e=>[I e.p.id]
theorem Zsv (es:List PE):(es.map PE.kv).filterMap ZW=es.map fun e=>e.p.id:=by
 induction es with
 | nil => rfl
 | cons e es ih => rw [Xh, Tu (f := ZW) (a := e.kv) (b := e.p.id) rfl, ih, Xh]
theorem ZiB (h:m.es.Pairwise fun a b=>a.p.id < b.p.id):Zd8 (m.es.map PE.kv)=m.ids:=by
 unfold Zd8 MS.ids
 rw [Zsv,List.mergeSort_of_pairwise,Wg]
 ·rfl
 ·rw [Ta]
  exact h.imp fun hab=>decide_eq_true (by omega)
theorem s51 {x:LL} {rows:LL} (hx:Zd x = .omap (m.jq+1)):g51 x rows=Xa ([[.fnc 69 [rows.length+1]]],rows++[[.omap (m.jq+1)]]):=by
 have hp:Zc .pnew rows 0 E0 [] = [[.oref (rows.length+1) 0]]:=rfl
 rw [Zts,hp,Zb (by simp [Zc,Zd,ZO,okL]),Zb (ne1 (ZA rfl)),hx]
 rfl
theorem s50 (h:ZD rows (m.frag++F)) (hm:m.Ok):g50 [[.fnc 69 [rows.length+1]]] (rows++[[.omap (m.jq+1)]])=Xa (m.ids,rows++[[.omap (m.jq+1)]]):=by
 have e:g50 [[.fnc 69 [rows.length+1]]] (rows++[[.omap (m.jq+1)]])=ZcF 69 [[.fnc 69 [rows.length+1]]] (rows++[[.omap (m.jq+1)]]):=rfl
 rw [e]
 have hq:(rows++[[.omap (m.jq+1)]])[m.jq]? = Xa m.map:=by
  have:=map_at h
  rw [Xx (Xk.1 this).1]
  exact this
 have hb:Z5 (rows++[[.omap (m.jq+1)]]) (rows.length+1) = [.omap (m.jq+1)]:=Jh (by simp)
 have hr:Z5 (rows++[[.omap (m.jq+1)]]) (m.jq+1)=ZX (m.es.map PE.kv):=Jh hq
 unfold ZcF
 simp only [Zd,ZO,hb]
 rw [hr]
 have hk:Ke (ZX (m.es.map PE.kv))=m.es.map PE.kv:=rfl
 rw [hk,Zb,ZiB hm.srt]
 refine ⟨trivial,rfl,by have:=hm.len;simp;omega,XE.2 fun r hr=>?_⟩
 obtain ⟨e,he,rfl⟩:=Xj.1 hr
 have h1:=hm.rng e he
 have h2:=hm.lst
 show (decide (-9223372036854775808≤e.p.id)&&decide (e.p.id≤9223372036854775807))=Xb
 rw [decide_eq_true (by omega),decide_eq_true (by omega)]
 rfl
theorem s29 {x:LL} (h:ZD rows (m.frag++F)) (hm:m.Ok) (hx:Zd x = .oref (m.jm+1) 0):g29 x rows=Xa (m.ids,rows++[[.omap (m.jq+1)]]):=by
 rw [Zuw,Zb (ne1 (ZA hx)),Zb (ne1 (ZA hx)),YU h hx,Zo rfl,s51 (m:=m) rfl,Xi,s50 h hm]
 rfl
end
section
open Go Go.AM Go.Proofs.Ytpjnmgjphfnmmaa
set_option maxRecDepth 100000
variable {rows:LL} {F:Ym} {m:MS}
def PE.cf (e:PE):Ym:=match e.c with | none=>[] | some q=>[(q.1,e.arr q.2)]
theorem PE.frag_eq (e:PE):e.frag=(e.j,e.row)::e.cf:=rfl
def MS.put (m:MS) (pre:List PE) (e:PE) (post:List PE):MS:={ m with es:=pre++e::post }
theorem Vr (m:MS) {pre post:List PE} {e:PE} (hs:m.es=pre++e::post) :
  (m.frag++F).Perm ((e.j,e.row)::((m.jm,m.head)::(m.jq,m.map)::(pre.flatMap PE.frag++(e.cf++post.flatMap PE.frag))++F)):=by
 have:m.frag++F=((m.jm,m.head)::(m.jq,m.map)::pre.flatMap PE.frag)++((e.j,e.row)::(e.cf++post.flatMap PE.frag++F)):=by
  simp only [MS.frag,hs,List.flatMap_append,UF,PE.frag_eq,XL,Xo]
 rw [this]
 refine List.perm_middle.trans (List.Perm.cons _ ?_)
 simp only [XL,Xo]
 exact List.Perm.refl _
theorem holds_row (h:ZD rows (m.frag++F)) {pre post:List PE} {e e':PE} (hs:m.es=pre++e::post) (hj:e'.j=e.j) (hid:e'.p.id=e.p.id) (hc:e'.cf=e.cf):ZD (rows.set e.j e'.row) ((m.put pre e' post).frag++F):=by
 have h1:=(h.perm (Vr m hs)).set e'.row
 have h2:=(Vr (F:=F) (m.put pre e' post) (pre:=pre) (e:=e') (post:=post) rfl).symm
 refine ZD.perm ?_ h2
 have hm:(m.put pre e' post).map=m.map:=by
  simp only [MS.map,MS.put,hs,XN,Xh,PE.kv,hj,hid]
 have hh:(m.put pre e' post).head=m.head:=rfl
 rw [hm,hh,hj,hc]
 exact h1
theorem W9 {k:Int} {e:PE} (h:m.find k=Xa e):∃ pre post,m.es=pre++e::post∧e.p.id=k∧∀ a∈pre,a.p.id≠k:=by
 obtain ⟨h1,pre,post,h2,h3⟩:=Tl.1 (show m.es.find? (fun e=>decide (e.p.id=k))=Xa e from h)
 exact ⟨pre,post,h2,by simpa using h1,fun a ha=>by simpa using h3 a ha⟩
def MS.del (m:MS) (pre post:List PE):MS:={ m with es:=pre++post }
theorem holds_del (h:ZD rows (m.frag++F)) {pre post:List PE} {e:PE} (hs:m.es=pre++e::post):ZD (rows.set m.jq (m.del pre post).map) ((m.del pre post).frag++(e.frag++F)):=by
 have h0:(m.frag++F).Perm ((m.jq,m.map)::((m.jm,m.head)::((m.del pre post).es.flatMap PE.frag++(e.frag++F)))):=by
  simp only [MS.frag,hs,MS.del,List.flatMap_append,UF,XL,Xo]
  refine (List.Perm.swap _ _ _).trans (List.Perm.cons _ (List.Perm.cons _ (List.Perm.append_left _ ?_)))
  rw [← Xo,← Xo (post.flatMap PE.frag)]
  exact List.Perm.append_right _ List.perm_append_comm
 refine ((h.perm h0).set (m.del pre post).map).perm ?_
 have:(m.del pre post).frag++(e.frag++F)=(m.jm,m.head)::(m.jq,(m.del pre post).map)::((m.del pre post).es.flatMap PE.frag++(e.frag++F)):=rfl
 rw [this]
 exact List.Perm.swap _ _ _
theorem ZiX {pre post:List PE} {e:PE} (h:(pre++e::post).Pairwise fun a b=>a.p.id < b.p.id):Za9 ((pre++e::post).map PE.kv) e.p.id=(pre++post).map PE.kv:=by
 unfold Za9
 rw [List.filter_map]
 congr 1
 have hk:∀ a:PE,(((fun r=>!(ZW r == Xa e.p.id)) ∘ PE.kv) a) = !decide (a.p.id=e.p.id):=fun a=>by
  show (!(Xa a.p.id == Xa e.p.id))=_
  by_cases hd:a.p.id=e.p.id<;>simp [hd]
 rw [Wt,Ui] at h
 obtain ⟨_,⟨h2,_⟩,h3⟩:=h
 rw [UK,Wd (by rw [hk];simp),UU.2 fun a ha=>?_,UU.2 fun a ha=>?_]
 ·rw [hk]
  have:=h2 a ha
  simp
  omega
 ·rw [hk]
  have:=h3 a ha e (by simp)
  simp
  omega
theorem Zj7 (hm:m.Ok) {pre post:List PE} {e e':PE} (hs:m.es=pre++e::post) (hid:e'.p.id=e.p.id) (hok:e'.ok) (hpr:0≤e'.p.parent∧e'.p.parent < e'.p.id):(m.put pre e' post).Ok:=by
 have hsrt:=hm.srt
 rw [hs] at hsrt
 have hmem:∀ a∈pre++e'::post,a=e'∨a∈m.es:=fun a ha=>by
  rw [hs]
  rcases Xv.1 ha with ha | ha
  ·exact .inr (UB _ ha)
  ·rcases Xp.1 ha with rfl | ha
   ·exact .inl rfl
   ·exact .inr (U8 _ (Um _ ha))
 have he:=hm.rng e (by rw [hs];simp)
 refine ⟨?_,fun a ha=>?_,fun a ha=>?_,fun a ha=>?_,?_,hm.lst⟩
 ·show (pre++e'::post).Pairwise _
  rw [Wt,Ui] at hsrt ⊢
  obtain ⟨h1,⟨h2,h3⟩,h4⟩:=hsrt
  refine ⟨h1,⟨fun a ha=>by rw [hid];exact h2 a ha,h3⟩,fun a ha b hb=>?_⟩
  rcases Xp.1 hb with rfl | hb
  ·rw [hid];exact h4 a ha e (by simp)
  ·exact h4 a ha b (by simp [hb])
 ·rcases hmem a ha with rfl | ha
  ·rw [hid];exact he
  ·exact hm.rng a ha
 ·rcases hmem a ha with rfl | ha
  ·exact hok
  ·exact hm.cor a ha
 ·rcases hmem a ha with rfl | ha
  ·exact hpr
  ·exact hm.par a ha
 ·have:=hm.len
  rw [hs] at this
  show (pre++e'::post).length≤64
  simp at this ⊢
  omega
theorem Zud (hm:m.Ok) {pre post:List PE} {e:PE} (hs:m.es=pre++e::post):(m.del pre post).Ok:=by
 have hsrt:=hm.srt
 rw [hs] at hsrt
 have hmem:∀ a∈pre++post,a∈m.es:=fun a ha=>by
  rw [hs]
  rcases Xv.1 ha with ha | ha
  ·exact UB _ ha
  ·exact U8 _ (Um _ ha)
 refine ⟨?_,fun a ha=>hm.rng a (hmem a ha),fun a ha=>hm.cor a (hmem a ha),fun a ha=>hm.par a (hmem a ha),?_,hm.lst⟩
 ·show (pre++post).Pairwise _
  rw [Wt,Ui] at hsrt
  rw [Wt]
  exact ⟨hsrt.1,hsrt.2.1.2,fun a ha b hb=>hsrt.2.2 a ha b (Um _ hb)⟩
 ·have:=hm.len
  rw [hs] at this
  show (pre++post).length≤64
  simp at this ⊢
  omega
end
section
open Go Go.AM Go.Proofs.Ytpjnmgjphfnmmaa
set_option maxRecDepth 100000
variable {rows:LL} {F:Ym} {m:MS}
def V4 (k:Int) (f:Pr→Pr) (es:List PE):List PE:=es.map fun e=>if e.p.id=k then { e with p:=f e.p } else e
def Vg (k:Int) (es:List PE):List PE:=es.filter fun e=>!decide (e.p.id=k)
theorem Za4 {k:Int} {f:Pr→Pr} {pre post:List PE} {e:PE} (h:(pre++e::post).Pairwise fun a b=>a.p.id < b.p.id) (hk:e.p.id=k):V4 k f (pre++e::post)=pre++{ e with p:=f e.p } :: post:=by
 rw [Wt,Ui] at h
 obtain ⟨_,⟨h2,_⟩,h3⟩:=h
 unfold V4
 rw [XN,Xh,if_pos hk]
 congr 1
 ·conv=>rhs;rw [← List.map_id pre]
  refine Wr fun a ha=>?_
  have:=h3 a ha e (by simp)
  rw [if_neg (by omega)];rfl
 ·congr 1
  conv=>rhs;rw [← List.map_id post]
  refine Wr fun a ha=>?_
  have:=h2 a ha
  rw [if_neg (by omega)];rfl
theorem Zoy {k:Int} {pre post:List PE} {e:PE} (h:(pre++e::post).Pairwise fun a b=>a.p.id < b.p.id) (hk:e.p.id=k):Vg k (pre++e::post)=pre++post:=by
 rw [Wt,Ui] at h
 obtain ⟨_,⟨h2,_⟩,h3⟩:=h
 unfold Vg
 rw [UK,Wd (by simp [hk]),UU.2 fun a ha=>?_,UU.2 fun a ha=>?_]
 ·have:=h2 a ha
  simp
  omega
 ·have:=h3 a ha e (by simp)
  simp
  omega
theorem Zrf {e:PE} {o:Nat} {c:AV} (h:ZD rows (m.frag++F)) (he:e∈m.es) (ho:o < 7):Zc .set rows 0 (Zc (.padd o) (nmE (Xa e)) 0 E0 []) [c]=rows.set e.j (e.row.set o c):=by
 rw [YK (Zd3 e),XH]
 exact Zam rfl (ZlO h he) ho
theorem Zo6 {e:PE} {f:Pr→Pr} (h:ZD rows (m.frag++F)) (hm:m.Ok) (he:m.find e.p.id=Xa e) (hid:(f e.p).id=e.p.id) (hc:(f e.p).cores=e.p.cores) (hpr:0≤(f e.p).parent∧(f e.p).parent < e.p.id) :
  ZD (rows.set e.j ({ e with p:=f e.p } : PE).row) (({ m with es:=V4 e.p.id f m.es } : MS).frag++F)∧({ m with es:=V4 e.p.id f m.es } : MS).Ok:=by
 obtain ⟨pre,post,hs,_,_⟩:=W9 he
 have hsrt:=hm.srt
 rw [hs] at hsrt
 have hu:({ m with es:=V4 e.p.id f m.es } : MS)=m.put pre { e with p:=f e.p } post:=by
  simp only [MS.put,hs,Za4 hsrt rfl]
 rw [hu]
 refine ⟨holds_row h hs rfl hid ?_,Zj7 hm hs hid ?_ (by show 0≤(f e.p).parent∧(f e.p).parent < (f e.p).id;rw [hid];exact hpr)⟩
 ·simp only [PE.cf,PE.arr,hc]
 ·have:=hm.cor e (by rw [hs];simp)
  unfold PE.ok at this ⊢
  simp only [hc]
  exact this
theorem ZnZ {e:PE} (h:ZD rows (m.frag++F)) (hm:m.Ok) (he:m.find e.p.id=Xa e) {x:LL} (hx:Zd x = .omap (m.jq+1)) :
  ZD (Zc .mdel rows e.p.id x []) (({ m with es:=Vg e.p.id m.es } : MS).frag++(e.frag++F))∧({ m with es:=Vg e.p.id m.es } : MS).Ok:=by
 obtain ⟨pre,post,hs,_,_⟩:=W9 he
 have hsrt:=hm.srt
 rw [hs] at hsrt
 have hu:({ m with es:=Vg e.p.id m.es } : MS)=m.del pre post:=by
  simp only [MS.del,hs,Zoy hsrt rfl]
 rw [hu]
 refine ⟨?_,Zud hm hs⟩
 have:=holds_del h hs
 have hst:Zc .mdel rows e.p.id x []=rows.set m.jq (m.del pre post).map:=by
  simp only [Zc,hx,Zl1,Jh (map_at h)]
  show rows.set m.jq (ZX (Za9 (m.es.map PE.kv) e.p.id))=_
  rw [hs,ZiX hsrt]
  rfl
 rw [hst]
 exact this
abbrev ZiY:=Int×Int×Int
def ZU (l:List ZiY):LL:=l.map fun r=>[I r.1,I r.2.1,I r.2.2]
def J0 (es:List PE) (par:Int) (c:Pr):List PE×List ZiY:=
 match es.find? fun e=>decide (e.p.id=par) with
 | some p => if p.p.waiting = Xb then (Vg c.id (V4 par (fun q => { q with waiting := Xc }) es), [(par, c.id, c.status)]) else (es, [])
 | none => (es, [])
theorem ZcC {k k':Int} {f:Pr→Pr} {e:PE} (hid:∀ q,(f q).id=q.id) (h:m.find k'=Xa e):({ m with es:=V4 k f m.es } : MS).find k'=Xa (if e.p.id=k then { e with p:=f e.p } else e):=by
 unfold MS.find V4 at *
 dsimp only
 rw [List.find?_map]
 have:((fun e:PE=>decide (e.p.id=k')) ∘ fun e=>if e.p.id=k then { e with p:=f e.p } else e)=fun e=>decide (e.p.id=k'):=by
  funext a
  simp only [U6]
  by_cases ha:a.p.id=k
  ·simp only [if_pos ha,hid]
  ·simp only [if_neg ha]
 rw [this,h]
 rfl
theorem s52 {x:LL} (h:ZD rows (m.frag++F)) (hm:m.Ok) (hx:Zd x = .oref (m.jm+1) 0) {e:PE} (he:m.find e.p.id=Xa e) (par:Int) :
  ∃ rows' F',g52 x par (nmE (Xa e)) rows=Xa (ZU (J0 m.es par e.p).2,rows')∧ZD rows' (({ m with es:=(J0 m.es par e.p).1 } : MS).frag++(F'++F))∧({ m with es:=(J0 m.es par e.p).1 } : MS).Ok:=by
 rw [ZtW,Zb (ne1 (ZA hx)),Zb (ne1 (ZA hx)),YU h hx,Zo rfl,Zb (ne1 (Vf h rfl)),Zcp h rfl,Zb (ne1 (Kf _))]
 unfold J0
 cases hf:m.find par with
 | none =>
  have hf':m.es.find? (fun e=>decide (e.p.id=par))=Xe:=hf
  rw [hf',K3]
  exact ⟨rows,[],rfl,h,hm⟩
 | some p =>
  have hf':m.es.find? (fun e=>decide (e.p.id=par))=Xa p:=hf
  obtain ⟨hp,hpk⟩:=Jo hf
  subst hpk
  rw [hf',Zb (ne1 (Zq p)),Zb (ne1 (Zq p)),Ka h hp (c:=B p.p.waiting) rfl,JR,Zq]
  rw [if_neg (by decide)]
  dsimp only
  cases hw:p.p.waiting with
  | false =>
   simp only [UA,if_false]
   exact ⟨rows,[],rfl,h,hm⟩
  | true =>
   simp only [Bool.not_true,UA,if_false,if_true]
   obtain ⟨hu1,hu2⟩:=Zo6 (f:=fun q=>{ q with waiting:=Xc }) h hm (by rw [hf]) rfl rfl (hm.par p hp)
   have hst:Zc .set rows 0 (Zc (.padd 6) (nmE (Xa p)) 0 E0 []) [AV.val (.bool Xc)]=rows.set p.j ({ p with p:={ p.p with waiting:=Xc } } : PE).row:=by rw [Zrf h hp (by decide)];rfl
   have hfe:=ZcC (k:=p.p.id) (f:=fun q=>{ q with waiting:=Xc }) (fun _=>rfl) he
   obtain ⟨e1,he1⟩:∃ e1,e1=if e.p.id=p.p.id then { e with p:=(fun q:Pr=>{ q with waiting:=Xc }) e.p } else e:=⟨_,rfl⟩
   rw [← he1] at hfe
   have hj:e1.j=e.j:=by rw [he1];split<;>rfl
   have hi:e1.p.id=e.p.id:=by rw [he1];split<;>rfl
   have hs:e1.p.status=e.p.status:=by rw [he1];split<;>rfl
   have hn:nmE (Xa e)=nmE (Xa e1):=by simp only [nmE,hj]
   rw [← hi] at hfe
   rw [hn,hst,Zb (by simp),Zb (by simp),Zb (by simp),Zb (ne1 (ZA hx)),Zb (ne1 (ZA hx))]
   generalize rows.set p.j ({ p with p:={ p.p with waiting:=Xc } } : PE).row=rows1 at hu1 ⊢
   obtain ⟨hv1,hv2⟩:=ZnZ hu1 hu2 hfe (x:=[[.omap (m.jq+1)]]) rfl
   rw [YU hu1 hx,Zo rfl,Zb (ne1 (Zq _)),Zb (ne1 (Zq _)),Ka hu1 (Jo hfe).1 (c:=I e1.p.id) rfl,ZK,Zb (ne1 (Vf hu1 rfl)),Zb (ne1 (Zq _)),Zb (ne1 (Zq _))]
   have hr:(Zc .mdel rows1 e1.p.id [[.omap (m.jq+1)]] [])[e1.j]? = Xa e1.row:=hv1.get (by simp [PE.frag])
   rw [YK (Zd3 e1),YK (Zd3 e1),JF (c:=I e1.p.id) rfl hr rfl rfl,ZK,Zb (ne1 (Zq _)),Zb (ne1 (Zq _)),JF (c:=I e1.p.status) rfl hr rfl rfl,ZK]
   refine ⟨_,e1.frag,?_,by rw [← hi];exact hv1,by rw [← hi];exact hv2⟩
   rw [hi,hs]
   rfl
end
section
open Go Go.AM Go.Proofs.Ytpjnmgjphfnmmaa
set_option maxRecDepth 100000
variable {rows:LL} {F:Ym} {m:MS}
def JD (st:Int) (e:PE):PE:={ e with c:=Xe,p:={ e.p with ended:=Xb,status:=st,cores:=[],waiting:=Xc } }
def JP (k:Int) (f:PE→PE) (es:List PE):List PE:=es.map fun e=>if e.p.id=k then f e else e
theorem Vm {k:Int} {f:PE→PE} {pre post:List PE} {e:PE} (h:(pre++e::post).Pairwise fun a b=>a.p.id < b.p.id) (hk:e.p.id=k):JP k f (pre++e::post)=pre++f e::post:=by
 rw [Wt,Ui] at h
 obtain ⟨_,⟨h2,_⟩,h3⟩:=h
 unfold JP
 rw [XN,Xh,if_pos hk]
 congr 1
 ·conv=>rhs;rw [← List.map_id pre]
  refine Wr fun a ha=>?_
  have:=h3 a ha e (by simp)
  rw [if_neg (by omega)];rfl
 ·congr 1
  conv=>rhs;rw [← List.map_id post]
  refine Wr fun a ha=>?_
  have:=h2 a ha
  rw [if_neg (by omega)];rfl
theorem Zso {e:PE} {f:PE→PE} (h:ZD rows (m.frag++F)) (hm:m.Ok) (he:m.find e.p.id=Xa e) (hj:(f e).j=e.j) (hid:(f e).p.id=e.p.id) (hc:(f e).c=Xe) (hok:(f e).ok) (hpr:0≤(f e).p.parent∧(f e).p.parent < e.p.id) :
  ZD (rows.set e.j (f e).row) (({ m with es:=JP e.p.id f m.es } : MS).frag++(e.cf++F))∧({ m with es:=JP e.p.id f m.es } : MS).Ok:=by
 obtain ⟨pre,post,hs,_,_⟩:=W9 he
 have hsrt:=hm.srt
 rw [hs] at hsrt
 have hu:({ m with es:=JP e.p.id f m.es } : MS)=m.put pre (f e) post:=by
  simp only [MS.put,hs,Vm hsrt rfl]
 rw [hu]
 refine ⟨?_,Zj7 hm hs hid hok (by rw [hid];exact hpr)⟩
 have hcf:(f e).cf = []:=by simp only [PE.cf,hc]
 have h1:=(h.perm (Vr m hs)).set (f e).row
 have h2:=(Vr (F:=e.cf++F) (m.put pre (f e) post) (pre:=pre) (e:=f e) (post:=post) rfl).symm
 refine ZD.perm ?_ h2
 have hmm:(m.put pre (f e) post).map=m.map:=by
  simp only [MS.map,MS.put,hs,XN,Xh,PE.kv,hj,hid]
 have hh:(m.put pre (f e) post).head=m.head:=rfl
 rw [hmm,hh,hj,hcf]
 refine h1.perm (List.Perm.cons _ ?_)
 simp only [XL,XM,Xo]
 refine List.Perm.cons _ (List.Perm.cons _ (List.Perm.append_left _ ?_))
 rw [← Xo,← Xo (post.flatMap PE.frag)]
 exact List.Perm.append_right _ List.perm_append_comm
end
section
open Go Go.AM Go.Proofs.Ytpjnmgjphfnmmaa
set_option maxRecDepth 100000
variable {rows:LL} {F:Ym} {m:MS}
abbrev ints (zs:List Int):LL:=zs.map fun z=>[I z]
theorem Z1 {γ:Type} {zs:List Int} {i:Nat} {z:Int} (h:zs[i]? = Xa z) (k:Int→Option γ):Zk (ints zs) (i:Int) [.int .i64] k=k z:=
 YF (l:=ints zs) (sh:=[.int .i64]) (cs:=[I z]) (r:=(z:Int)) k (by omega) (by rw [Ws,Xl,h];rfl) rfl
theorem Y4 (m:MS):m.ids=ints (m.es.map fun e=>e.p.id):=by simp only [MS.ids,ints,Wg];rfl
def ZC (pid:Int) (es:List PE) (k:Int):List PE×List ZiY:=
 match es.find? fun e=>decide (e.p.id=k) with
 | some c =>
  if c.p.parent=pid then
   (if c.p.ended=Xb then J0 (V4 k (fun q=>{ q with parent:=1 }) es) 1 { c.p with parent:=1 } else (V4 k (fun q=>{ q with parent:=1 }) es,[]))
  else (es,[])
 | none => (es, [])
def ZI (pid:Int):List PE→List Int→List PE×List ZiY
 | es, [] => (es, [])
 | es, k :: ks => ((ZI pid (ZC pid es k).1 ks).1, (ZC pid es k).2 ++ (ZI pid (ZC pid es k).1 ks).2)
theorem Zne {es:List PE} {par:Int} {c:Pr} {k:Int} {e:PE} (hk:k≠c.id) (h:es.find? (fun e=>decide (e.p.id=k))=Xa e):∃ e',(J0 es par c).1.find? (fun e=>decide (e.p.id=k))=Xa e'∧e'.j=e.j∧e'.p.id=e.p.id∧e'.p.parent=e.p.parent∧e'.p.status=e.p.status∧e'.p.ended=e.p.ended:=by
 unfold J0
 split
 ·rename_i p hp
  split
  ·have h1:=ZcC (m:=⟨0,0,es,0⟩) (k:=par) (k':=k) (f:=fun q=>{ q with waiting:=Xc }) (fun _=>rfl) h
   refine ⟨if e.p.id=par then { e with p:=(fun q:Pr=>{ q with waiting:=Xc }) e.p } else e,?_,?_⟩
   ·show (Vg c.id (V4 par (fun q=>{ q with waiting:=Xc }) es)).find? (fun e=>decide (e.p.id=k))=Xa (if e.p.id=par then { e with p:=(fun q:Pr=>{ q with waiting:=Xc }) e.p } else e)
    unfold Vg
    rw [List.find?_filter]
    have:(fun a:PE=>decide ((!decide (a.p.id=c.id))=Xb∧decide (a.p.id=k)=Xb))=fun a=>decide (a.p.id=k):=by
     funext a
     by_cases ha:a.p.id=k
     ·simp [ha,hk]
     ·simp [ha]
    rw [this]
    exact h1
   ·split<;>exact ⟨rfl,rfl,rfl,rfl,rfl⟩
  ·exact ⟨e,h,rfl,rfl,rfl,rfl,rfl⟩
 ·exact ⟨e,h,rfl,rfl,rfl,rfl,rfl⟩
theorem Zae (es:List PE) (par:Int) (c:Pr):(J0 es par c).2.length≤1:=by
 unfold J0
 split
 ·split<;>simp
 ·simp
theorem ZfI (pid:Int) (es:List PE) (k:Int):(ZC pid es k).2.length≤1:=by
 unfold ZC
 split
 ·split
  ·split
   ·exact Zae _ _ _
   ·simp
  ·simp
 ·simp
theorem ZaQ {i:Nat} (h:i≤1048576):iop .add .i64 (i:Int) 1=((i+1:Nat):Int):=by
 rw [ZmP (by omega) (by omega)]
 omega
theorem ZfV {a b:LL} (ha:a.length≤100000) (hb:b.length≤1):Jq a b 24:=by
 unfold Jq ZB
 omega
theorem Zqd {x:LL} (h:ZD rows (m.frag++F)) (hm:m.Ok) (hx:Zd x = .oref (m.jm+1) 0) {e c:PE} (he:m.find e.p.id=Xa e) (hc:m.find c.p.id=Xa c) (hc1:e.p.id≠1) {zs:List Int} {i:Nat} (hz:zs[i]? = Xa c.p.id) (hzl:zs.length≤64) {acc:LL} (hacc:acc.length≤100000) (k:Nat) :
  ∃ rows' F',ZgL (k+1) x (nmE (Xa e)) acc (ints zs) (zs.length:Int) (i:Int) rows=ZgL k x (nmE (Xa e)) (acc++ZU (ZC e.p.id m.es c.p.id).2) (ints zs) (zs.length:Int) ((i+1:Nat):Int) rows'∧
   ZD rows' (({ m with es:=(ZC e.p.id m.es c.p.id).1 } : MS).frag++(F'++F))∧({ m with es:=(ZC e.p.id m.es c.p.id).1 } : MS).Ok:=by
 have hi:i < zs.length:=(Xk.1 hz).1
 have hem:=(Jo he).1
 have hcm:=(Jo hc).1
 have hc':m.es.find? (fun e=>decide (e.p.id=c.p.id))=Xa c:=hc
 rw [Zjv,if_pos (by simp [cop];omega),Z1 hz,Zb (ne1 (ZA hx)),Zb (ne1 (ZA hx)),YU h hx,Zo rfl,Zb (ne1 (Vf h rfl)),Zcp h rfl,hc,Zb (ne1 (Zq c)),Zb (ne1 (Zq c)),Ka h hcm (c:=I c.p.parent) rfl,ZK,
  Zb (ne1 (Zq e)),Zb (ne1 (Zq e)),Ka h hem (c:=I e.p.id) rfl,ZK,ZaQ (by omega)]
 unfold ZC
 rw [hc']
 dsimp only
 by_cases hpar:c.p.parent=e.p.id
 ·rw [if_neg (by simp [cop,hpar]),if_pos hpar,Zb (ne1 (Zq c)),Zb (ne1 (Zq c)),Zb (by simp),Zb (ne1 (Zq c)),Zb (ne1 (Zq c))]
  have hce:=hm.par c hcm
  have hee:=hm.rng e hem
  obtain ⟨hu1,hu2⟩:=Zo6 (f:=fun q=>{ q with parent:=1 }) h hm hc rfl rfl ⟨by show (0:Int)≤1;decide,by show (1:Int) < c.p.id;omega⟩
  have hst:Zc .set rows 0 (Zc (.padd 1) (nmE (Xa c)) 0 E0 []) [AV.val (.int .i64 1)]=rows.set c.j ({ c with p:={ c.p with parent:=1 } } : PE).row:=by rw [Zrf h hcm (by decide)];rfl
  have hfe:=ZcC (k:=c.p.id) (f:=fun q=>{ q with parent:=1 }) (fun _=>rfl) hc
  rw [if_pos rfl] at hfe
  rw [hst]
  generalize rows.set c.j ({ c with p:={ c.p with parent:=1 } } : PE).row=rows1 at hu1 ⊢
  obtain ⟨c1,hc1'⟩:∃ c1,c1=({ c with p:={ c.p with parent:=1 } } : PE):=⟨_,rfl⟩
  have hfe1:({ m with es:=V4 c.p.id (fun q=>{ q with parent:=1 }) m.es } : MS).find c1.p.id=Xa c1:=by rw [hc1'];exact hfe
  have hn:nmE (Xa c)=nmE (Xa c1):=by rw [hc1'];rfl
  have hcp:c1.p = { c.p with parent:=1 }:=by rw [hc1']
  rw [hn,Ka hu1 (Jo hfe1).1 (c:=B c1.p.ended) rfl,JR,hcp]
  dsimp only
  cases hen:c.p.ended with
  | true =>
   obtain ⟨rows2,F',q1,q2,q3⟩:=s52 hu1 hu2 hx hfe1 1
   rw [hcp] at q1 q2 q3
   simp only [if_true]
   rw [q1,Xi,Zb (ZfV hacc (by have:=Zae (V4 c.p.id (fun q=>{ q with parent:=1 }) m.es) 1 { c.p with parent:=1 }; simp only [ZU,Xq];exact this))]
   exact ⟨rows2,F',rfl,q2,q3⟩
  | false =>
   simp only [UA,if_false]
   exact ⟨rows1,[],by simp [ZU],hu1,hu2⟩
 ·rw [if_pos (by simp [cop,hpar]),if_neg hpar]
  exact ⟨rows,[],by simp [ZU],h,hm⟩
theorem KK {es:List PE} {pid z k:Int} {e:PE} (hk:k≠z) (h:es.find? (fun e=>decide (e.p.id=k))=Xa e):∃ e',(ZC pid es z).1.find? (fun e=>decide (e.p.id=k))=Xa e'∧e'.j=e.j∧e'.p.id=e.p.id∧e'.p.parent=e.p.parent∧e'.p.status=e.p.status:=by
 unfold ZC
 split
 ·rename_i c hc
  have hcz:c.p.id=z:=by have:=X4 hc;simpa using this
  split
  ·have h1:=ZcC (m:=⟨0,0,es,0⟩) (k:=z) (k':=k) (f:=fun q=>{ q with parent:=1 }) (fun _=>rfl) h
   have hek:e.p.id=k:=by have:=X4 h;simpa using this
   rw [if_neg (by rw [hek];exact hk)] at h1
   split
   ·obtain ⟨e',g1,g2,g3,g4,g5,_⟩:=Zne (es:=V4 z (fun q=>{ q with parent:=1 }) es) (par:=1) (c:={ c.p with parent:=1 }) (k:=k) (e:=e) (by show k≠c.p.id;rw [hcz];exact hk) h1
    exact ⟨e',g1,g2,g3,g4,g5⟩
   ·exact ⟨e,h1,rfl,rfl,rfl,rfl⟩
  ·exact ⟨e,h,rfl,rfl,rfl,rfl⟩
 ·exact ⟨e,h,rfl,rfl,rfl,rfl⟩
theorem ZoF {e:PE} (hm:m.Ok) (he:m.find e.p.id=Xa e):ZC e.p.id m.es e.p.id=(m.es,[]):=by
 have he':m.es.find? (fun a=>decide (a.p.id=e.p.id))=Xa e:=he
 unfold ZC
 rw [he']
 have:=hm.par e (Jo he).1
 exact if_neg (by omega)
theorem ZjE {x:LL} {zs:List Int} (hzl:zs.length≤64) {pid:Int} (hp1:pid≠1):∀ (ks pre:List Int) (rows:LL) (F:Ym) (m:MS) (e:PE) (acc:LL) (k:Nat),zs=pre++ks→ks.length < k→ks.Nodup→(∀ z∈ks,∃ c,m.find z=Xa c)→ZD rows (m.frag++F)→m.Ok→Zd x = .oref (m.jm+1) 0→
  m.find pid=Xa e→acc.length+ks.length≤100000→
  ∃ rows' F' k' e',ZgL k x (nmE (Xa e)) acc (ints zs) (zs.length:Int) (pre.length:Int) rows=ZgL (k'+1) x (nmE (Xa e)) (acc++ZU (ZI pid m.es ks).2) (ints zs) (zs.length:Int) (zs.length:Int) rows'∧
   ZD rows' (({ m with es:=(ZI pid m.es ks).1 } : MS).frag++(F'++F))∧({ m with es:=(ZI pid m.es ks).1 } : MS).Ok∧({ m with es:=(ZI pid m.es ks).1 } : MS).find pid=Xa e'∧e'.j=e.j∧e'.p.parent=e.p.parent∧e'.p.status=e.p.status
 | [], pre, rows, F, m, e, acc, k, hz, hk, _, _, h, hm, _, he, _ => by
  obtain ⟨k',rfl⟩:∃ k',k=k'+1:=⟨k-1,by simp at hk;omega⟩
  have hl:zs.length=pre.length:=by rw [hz,XJ]
  exact ⟨rows,[],k',e,by rw [hl];simp [ZI,ZU],h,hm,he,rfl,rfl,rfl⟩
 | z :: ks, pre, rows, F, m, e, acc, k, hz, hk, hn, hin, h, hm, hx, he, hacc => by
  obtain ⟨k',rfl⟩:∃ k',k=k'+1:=⟨k-1,by simp at hk;omega⟩
  obtain ⟨c,hc⟩:=hin z (by simp)
  have hcz:=(Jo hc).2
  have hep:=(Jo he).2
  subst hcz
  subst hep
  obtain ⟨rows1,F1,q1,q2,q3⟩:=Zqd h hm hx he hc hp1 (zs:=zs) (i:=pre.length) (by rw [hz];simp) hzl (acc:=acc) (by omega) k'
  rw [Wf] at hn
  have hfe:∃ e1,({ m with es:=(ZC e.p.id m.es c.p.id).1 } : MS).find e.p.id=Xa e1∧e1.j=e.j∧e1.p.parent=e.p.parent∧e1.p.status=e.p.status:=by
   by_cases hce:e.p.id=c.p.id
   ·rw [← hce,ZoF hm he]
    exact ⟨e,he,rfl,rfl,rfl⟩
   ·obtain ⟨e1,g1,g2,_,g4,g5⟩:=KK (pid:=e.p.id) hce he
    exact ⟨e1,g1,g2,g4,g5⟩
  obtain ⟨e1,g1,g2,g4,g5⟩:=hfe
  obtain ⟨rows2,F2,k2,e2,r1,r2,r3,r4,r5,r6,r7⟩:=ZjE hzl hp1 ks (pre++[c.p.id]) rows1 (F1++F) _ e1 (acc++ZU (ZC e.p.id m.es c.p.id).2) k' (by rw [hz];simp) (by simp at hk;omega) hn.2
   (fun z hzk=>by
    obtain ⟨c',hc'⟩:=hin z (by simp [hzk])
    obtain ⟨c1,t1,_⟩:=KK (pid:=e.p.id) (z:=c.p.id) (fun hh=>hn.1 (by rw [← hh];exact hzk)) hc'
    exact ⟨c1,t1⟩) q2 q3 hx g1 (by have:=ZfI e.p.id m.es c.p.id;simp only [Xu,ZU,Xq,XA] at hacc ⊢; omega)
  have hnm:nmE (Xa e1)=nmE (Xa e):=by simp only [nmE,g2]
  refine ⟨rows2,F2++F1,k2,e2,?_,by rw [Xo];exact r2,r3,r4,r5.trans g2,r6.trans g4,r7.trans g5⟩
  rw [q1]
  rw [hnm] at r1
  have hlen:((pre++[c.p.id]).length:Int)=((pre.length+1:Nat):Int):=by simp
  rw [hlen] at r1
  rw [r1]
  simp only [ZI,ZU,XN,Xo]
end
section
open Go Go.AM Go.Proofs.Ytpjnmgjphfnmmaa
set_option maxRecDepth 100000
variable {rows:LL} {F:Ym} {m:MS}
def Y1 (es:List PE) (pid st:Int):List PE×List ZiY:=
 match es.find? fun e=>decide (e.p.id=pid) with
 | some e =>
  if pid=1 then (JP pid (JD st) es,[])
  else
   ((J0 (ZI pid (JP pid (JD st) es) (es.map fun e=>e.p.id)).1 e.p.parent (JD st e).p).1,
    (ZI pid (JP pid (JD st) es) (es.map fun e=>e.p.id)).2++(J0 (ZI pid (JP pid (JD st) es) (es.map fun e=>e.p.id)).1 e.p.parent (JD st e).p).2)
 | none => (es, [])
theorem Zbx {k k':Int} {f:PE→PE} {es:List PE} {e:PE} (hid:∀ q,(f q).p.id=q.p.id) (h:es.find? (fun e=>decide (e.p.id=k'))=Xa e):(JP k f es).find? (fun e=>decide (e.p.id=k'))=Xa (if e.p.id=k then f e else e):=by
 unfold JP
 rw [List.find?_map]
 have:((fun e:PE=>decide (e.p.id=k')) ∘ fun e=>if e.p.id=k then f e else e)=fun e=>decide (e.p.id=k'):=by
  funext a
  simp only [U6]
  by_cases ha:a.p.id=k
  ·simp only [if_pos ha,hid]
  ·simp only [if_neg ha]
 rw [this,h]
 rfl
theorem ZcX {k:Int} {f:PE→PE} {es:List PE} (hid:∀ q,(f q).p.id=q.p.id):(JP k f es).map (fun e=>e.p.id)=es.map fun e=>e.p.id:=by
 unfold JP
 rw [Wg]
 refine Wr fun a _=>?_
 simp only [U6]
 split
 ·exact hid a
 ·rfl
theorem VO {e:PE} {rows1:LL} {row:List AV} {o:Nat} {c:AV} (hr:rows1[e.j]? = Xa row) (ho:o < row.length):Zc .set rows1 0 (Zc (.padd o) (nmE (Xa e)) 0 E0 []) [c]=rows1.set e.j (row.set o c):=by
 rw [YK (Zd3 e),XH]
 exact Zam rfl hr ho
theorem Y2 {e:PE} {rows1:LL} {row:List AV} {o:Nat} {c:AV} (hr:rows1[e.j]? = Xa row) (h0:Z0 row=Xb) (hc:row[o]? = Xa c):Zc (.get 1) rows1 0 (Zc (.padd o) (nmE (Xa e)) 0 E0 []) [] = [[c]]:=by
 rw [YK (Zd3 e),XH]
 exact JF rfl hr h0 hc
theorem ZeV {es:List PE} {par:Int} {c c':Pr} (h1:c.id=c'.id) (h2:c.status=c'.status):J0 es par c=J0 es par c':=by
 unfold J0
 rw [h1,h2]
theorem ZcO (pid:Int):∀ (ks:List Int) (es:List PE),(ZI pid es ks).2.length≤ks.length
 | [], _ => Xz _
 | k :: ks, es => by
  have h1:=ZfI pid es k
  have h2:=ZcO pid ks (ZC pid es k).1
  simp only [ZI,Xu,XA]
  omega
theorem s30 {x:LL} (h:ZD rows (m.frag++F)) (hm:m.Ok) (hx:Zd x = .oref (m.jm+1) 0) {e:PE} (he:m.find e.p.id=Xa e) (st:Int) :
  ∃ rows' F',g30 x (nmE (Xa e)) st rows=Xa (ZU (Y1 m.es e.p.id st).2,rows')∧ZD rows' (({ m with es:=(Y1 m.es e.p.id st).1 } : MS).frag++(F'++F))∧({ m with es:=(Y1 m.es e.p.id st).1 } : MS).Ok:=by
 have hem:=(Jo he).1
 have hr:=ZlO h hem
 have hlt:e.j < rows.length:=(Xk.1 hr).1
 have hs4:Zc .set rows 0 (Zc (.padd 4) (nmE (Xa e)) 0 E0 []) [AV.val (.bool Xb)]=rows.set e.j (e.row.set 4 (B Xb)):=VO hr (by simp [PE.row])
 have hr4:(rows.set e.j (e.row.set 4 (B Xb)))[e.j]? = Xa (e.row.set 4 (B Xb)):=Wc hlt
 have hs5:Zc .set (rows.set e.j (e.row.set 4 (B Xb))) 0 (Zc (.padd 5) (nmE (Xa e)) 0 E0 []) [I st]=rows.set e.j ((e.row.set 4 (B Xb)).set 5 (I st)):=by rw [VO hr4 (by simp [PE.row]),List.set_set]
 have hr5:(rows.set e.j ((e.row.set 4 (B Xb)).set 5 (I st)))[e.j]? = Xa ((e.row.set 4 (B Xb)).set 5 (I st)):=Wc hlt
 have hs3:Zc .set (rows.set e.j ((e.row.set 4 (B Xb)).set 5 (I st))) 0 (Zc (.padd 3) (nmE (Xa e)) 0 E0 []) [Zd (Zc (.pnil 1) E0 0 E0 [])]=rows.set e.j (((e.row.set 4 (B Xb)).set 5 (I st)).set 3 (.osl 0 0 0)):=by rw [VO hr5 (by simp [PE.row]),List.set_set];rfl
 have hr3:(rows.set e.j (((e.row.set 4 (B Xb)).set 5 (I st)).set 3 (.osl 0 0 0)))[e.j]? = Xa (((e.row.set 4 (B Xb)).set 5 (I st)).set 3 (.osl 0 0 0)):=Wc hlt
 have hs6:Zc .set (rows.set e.j (((e.row.set 4 (B Xb)).set 5 (I st)).set 3 (.osl 0 0 0))) 0 (Zc (.padd 6) (nmE (Xa e)) 0 E0 []) [AV.val (.bool Xc)]=rows.set e.j (JD st e).row:=by rw [VO hr3 (by simp [PE.row]),List.set_set];rfl
 rw [Zum,Zb (ne1 (Zq e)),Zb (ne1 (Zq e)),Zb (by rw [Y2 hr rfl (c:=B e.p.ended) rfl];simp),Zb (ne1 (Zq e)),Zb (ne1 (Zq e)),hs4,Zb (by rw [Y2 hr4 rfl (c:=I e.p.status) rfl];simp),
  Zb (ne1 (Zq e)),Zb (ne1 (Zq e)),hs5,Zb (by rw [Y2 hr5 rfl (c:=e.core) rfl];simp),Zb (ne1 (Zq e)),Zb (ne1 (Zq e)),hs3,Zb (by rw [Y2 hr3 rfl (c:=B e.p.waiting) rfl];simp),
  Zb (ne1 (Zq e)),Zb (ne1 (Zq e)),hs6]
 have he':m.es.find? (fun a=>decide (a.p.id=e.p.id))=Xa e:=he
 obtain ⟨hu1,hu2⟩:=Zso (f:=JD st) h hm he rfl rfl rfl (by show ([] : List Int) = [];rfl) (hm.par e hem)
 have hfe:=Zbx (k:=e.p.id) (f:=JD st) (fun _=>rfl) he'
 rw [if_pos rfl] at hfe
 have hfe1:({ m with es:=JP e.p.id (JD st) m.es } : MS).find e.p.id=Xa (JD st e):=hfe
 generalize rows.set e.j (JD st e).row=rows1 at hu1 ⊢
 rw [show nmE (Xa e)=nmE (Xa (JD st e)) from rfl,Ka hu1 (Jo hfe1).1 (c:=I e.p.id) rfl,ZK]
 unfold Y1
 rw [he']
 dsimp only
 by_cases h1:e.p.id=1
 ·rw [if_pos (by simp [cop,h1]),if_pos h1]
  exact ⟨rows1,e.cf,rfl,hu1,hu2⟩
 ·have hids:({ m with es:=JP e.p.id (JD st) m.es } : MS).ids=ints (m.es.map fun e=>e.p.id):=by rw [Y4];exact congrArg ints (ZcX fun _=>rfl)
  rw [if_neg (by simp [cop,h1]),if_neg h1,s29 hu1 hu2 hx,Xi,hids]
  dsimp only
  have hp:=(hu1.push [.omap (m.jq+1)]).tail
  have hl2:(m.es.map fun e=>e.p.id).length≤64:=by rw [Xq];exact hm.len
  have hnod:(m.es.map fun e=>e.p.id).Nodup:=by
   rw [Tv,Ta]
   exact hm.srt.imp fun hab hh=>by omega
  have hin:∀ z∈m.es.map fun e=>e.p.id,∃ c,({ m with es:=JP e.p.id (JD st) m.es } : MS).find z=Xa c:=fun z hz=>by
   obtain ⟨a,ha,rfl⟩:=Xj.1 hz
   cases hq:({ m with es:=JP e.p.id (JD st) m.es } : MS).find a.p.id with
   | some c => exact ⟨c, rfl⟩
   | none =>
    exfalso
    have hz2:a.p.id∈(JP e.p.id (JD st) m.es).map fun e=>e.p.id:=by rw [ZcX (f:=JD st) fun _=>rfl];exact hz
    obtain ⟨b,hb,hbb⟩:=Xj.1 hz2
    have:=UT.1 hq b hb
    simp [hbb] at this
  have hlen:((ints (m.es.map fun e=>e.p.id)).length:Int)=((m.es.map fun e=>e.p.id).length:Int):=by simp
  rw [hlen]
  obtain ⟨rows2,F2,k2,e2,r1,r2,r3,r4,r5,r6,r7⟩:=ZjE hl2 h1 (m.es.map fun e=>e.p.id) [] _ _ _ (JD st e) E0 Jr rfl (by unfold Jr;omega) hnod hin hp hu2 hx hfe1 (by simp at hl2 ⊢; omega)
  ·have hz:((([] : List Int).length:Nat):Int)=0:=rfl
   rw [hz] at r1
   have hid2:e2.p.id=e.p.id:=(Jo r4).2
   have hnm:nmE (Xa (JD st e))=nmE (Xa e2):=by simp only [nmE,r5]
   have hf2:({ m with es:=(ZI e.p.id (JP e.p.id (JD st) m.es) (m.es.map fun e=>e.p.id)).1 } : MS).find e2.p.id=Xa e2:=by rw [hid2];exact r4
   rw [r1,hnm,Zjv,if_neg (by simp [cop]),Zb (ne1 (Zq e2)),Zb (ne1 (Zq e2)),Ka r2 (Jo r4).1 (c:=I e2.p.parent) rfl,ZK]
   obtain ⟨rows3,F3,t1,t2,t3⟩:=s52 r2 r3 hx hf2 e2.p.parent
   have hpar:e2.p.parent=e.p.parent:=r6
   have htc:∀ es,J0 es e2.p.parent e2.p=J0 es e.p.parent (JD st e).p:=fun es=>by rw [hpar];exact ZeV hid2 r7
   rw [htc] at t1 t2 t3
   rw [t1,Xi,Zb (ZfV ?_ ?_)]
   ·refine ⟨rows3,F3++(F2++e.cf),?_,?_,t3⟩
    ·simp only [ZU,XN,XM]
    ·simp only [Xo]
     simp only [Xo] at t2
     exact t2
   ·have:=ZcO e.p.id (m.es.map fun e=>e.p.id) (JP e.p.id (JD st) m.es)
    simp only [XM,ZU,Xq] at this hl2 ⊢
    omega
   ·have:=Zae (ZI e.p.id (JP e.p.id (JD st) m.es) (m.es.map fun e=>e.p.id)).1 e.p.parent (JD st e).p
    simp only [ZU,Xq]
    exact this
end
section
open Go Go.AM Go.Proofs.Ytpjnmgjphfnmmaa
set_option maxRecDepth 100000
variable {rows:LL} {F:Ym} {m:MS}
theorem ZgM {a b:LL} (ha:a.length≤100000) (hb:b.length≤100000):Jq a b 24:=by
 unfold Jq ZB
 omega
theorem ZbT (es:List PE) (pid st:Int):(Y1 es pid st).2.length≤es.length+1:=by
 unfold Y1
 split
 ·split
  ·simp
  ·have h1:=ZcO pid (es.map fun e=>e.p.id) (JP pid (JD st) es)
   rename_i e _ _
   have h2:=Zae (ZI pid (JP pid (JD st) es) (es.map fun e=>e.p.id)).1 e.p.parent (JD st e).p
   simp only [Xu,Xq] at h1 ⊢
   omega
 ·simp
def J1 (es:List PE) (z:Int):Option PE:=match es.find? fun e=>decide (e.p.id=z) with | some e=>if e.p.ended=Xb then Xe else Xa e | none=>Xe
theorem ZbA (z:Int):m.run z=J1 m.es z:=rfl
def Zi (st:Int):List PE→List Int→List PE×List ZiY
 | es, [] => (es, [])
 | es, z :: zs =>
  match J1 es z with
  | some _ => ((Zi st (Y1 es z st).1 zs).1, (Y1 es z st).2 ++ (Zi st (Y1 es z st).1 zs).2)
  | none => Zi st es zs
theorem Z2 {es:List PE} {z:Int} {e:PE} (h:J1 es z=Xa e):es.find? (fun e=>decide (e.p.id=z))=Xa e∧e.p.ended=Xc:=by
 unfold J1 at h
 split at h
 ·split at h
  ·cases h
  ·rename_i e' h1 h2
   cases h
   exact ⟨h1,by simpa using h2⟩
 ·cases h
theorem ZfR {x:LL} {zs:List Int} (hzl:zs.length≤1000) (st:Int):∀ (ks pre:List Int) (rows:LL) (F:Ym) (m:MS) (acc:LL) (k:Nat),zs=pre++ks→ks.length < k→ZD rows (m.frag++F)→m.Ok→Zd x = .oref (m.jm+1) 0→acc.length+65*ks.length≤100000→
  ∃ rows' F',Zjt k x st acc (ints zs) (zs.length:Int) (pre.length:Int) rows=Xa (acc++ZU (Zi st m.es ks).2,rows')∧ZD rows' (({ m with es:=(Zi st m.es ks).1 } : MS).frag++(F'++F))∧({ m with es:=(Zi st m.es ks).1 } : MS).Ok
 | [], pre, rows, F, m, acc, k, hz, hk, h, hm, _, _ => by
  obtain ⟨k',rfl⟩:∃ k',k=k'+1:=⟨k-1,by simp at hk;omega⟩
  have hl:zs.length=pre.length:=by rw [hz,XJ]
  rw [Zk5,hl,if_neg (by simp [cop])]
  exact ⟨rows,[],by simp [Zi,ZU],h,hm⟩
 | z :: ks, pre, rows, F, m, acc, k, hz, hk, h, hm, hx, hacc => by
  obtain ⟨k',rfl⟩:∃ k',k=k'+1:=⟨k-1,by simp at hk;omega⟩
  have hz1:zs[pre.length]? = Xa z:=by rw [hz];simp
  have hi:pre.length < zs.length:=(Xk.1 hz1).1
  have hlen:((pre++[z]).length:Int)=((pre.length+1:Nat):Int):=by simp
  rw [Zk5,if_pos (by simp [cop];omega),Z1 hz1,s27 h hx,Xi,Zb (ne1 (Kf _)),ZaQ (by omega),ZbA]
  have key:∀ (o:Option PE),J1 m.es z=o→∃ rows' F',(if (cop .neq (Xn (Zc .pnn (nmE o) 0 E0 []):Int) 0)=Xb then (g30 x (nmE o) st rows).bind fun (r10:LL×LL)=>Zf (Jq acc r10.1 24)<|Zjt k' x st (acc++r10.1) (ints zs) (zs.length:Int) ((pre.length+1:Nat):Int) r10.2 else Zjt k' x st acc (ints zs) (zs.length:Int) ((pre.length+1:Nat):Int) rows)=Xa (acc++ZU (Zi st m.es (z::ks)).2,rows')∧ZD rows' (({ m with es:=(Zi st m.es (z::ks)).1 } : MS).frag++(F'++F))∧({ m with es:=(Zi st m.es (z::ks)).1 } : MS).Ok:=by
   intro o ho
   cases o with
   | none =>
    rw [K3,if_neg (by decide)]
    obtain ⟨rows',F',q1,q2,q3⟩:=ZfR hzl st ks (pre++[z]) rows F m acc k' (by rw [hz];simp) (by simp at hk;omega) h hm hx (by simp at hacc;omega)
    rw [hlen] at q1
    have he:Zi st m.es (z::ks)=Zi st m.es ks:=by simp only [Zi,ho]
    rw [he]
    exact ⟨rows',F',q1,q2,q3⟩
   | some e =>
    obtain ⟨hf,hen⟩:=Z2 ho
    have hez:e.p.id=z:=(Jo hf).2
    subst hez
    rw [Zq,if_pos (by decide)]
    obtain ⟨rows1,F1,q1,q2,q3⟩:=s30 h hm hx hf st
    have hl:=ZbT m.es e.p.id st
    have hml:=hm.len
    have hra:(ZU (Y1 m.es e.p.id st).2).length≤65:=by simp only [ZU,Xq];omega
    rw [q1,Xi,Zb (ZgM (by omega) (show (ZU (Y1 m.es e.p.id st).2).length≤100000 by omega))]
    obtain ⟨rows2,F2,r1,r2,r3⟩:=ZfR hzl st ks (pre++[e.p.id]) rows1 (F1++F) _ (acc++ZU (Y1 m.es e.p.id st).2) k' (by rw [hz];simp) (by simp at hk;omega) q2 q3 hx (by simp only [Xu,XA] at hacc ⊢; omega)
    rw [hlen] at r1
    have he:Zi st m.es (e.p.id::ks)=((Zi st (Y1 m.es e.p.id st).1 ks).1,(Y1 m.es e.p.id st).2++(Zi st (Y1 m.es e.p.id st).1 ks).2):=by simp only [Zi,ho]
    rw [he]
    refine ⟨rows2,F2++F1,?_,by rw [Xo];exact r2,r3⟩
    rw [r1]
    simp only [ZU,XN,Xo]
  exact key _ rfl
end
section
open Go Go.AM Go.Proofs.Ytpjnmgjphfnmmaa
set_option maxRecDepth 100000
variable {rows:LL} {F:Ym} {m:MS}
theorem s45 {x:LL} {zs:List Int} (hzl:zs.length≤1000) (st:Int) (h:ZD rows (m.frag++F)) (hm:m.Ok) (hx:Zd x = .oref (m.jm+1) 0) :
  ∃ rows' F',g45 x (ints zs) st rows=Xa (ZU (Zi st m.es zs).2,rows')∧ZD rows' (({ m with es:=(Zi st m.es zs).1 } : MS).frag++(F'++F))∧({ m with es:=(Zi st m.es zs).1 } : MS).Ok:=by
 obtain ⟨rows',F',q1,q2,q3⟩:=ZfR hzl st zs [] rows F m [] Jr rfl (by unfold Jr;omega) h hm hx (by simp;omega)
 refine ⟨rows',F',?_,q2,q3⟩
 rw [Ztr]
 have hl:((ints zs).length:Int)=(zs.length:Int):=by simp
 rw [hl]
 have hz:((([] : List Int).length:Nat):Int)=0:=rfl
 rw [hz] at q1
 rw [q1,XM]
def K2 (es:List PE) (k st:Int):(List PE×List ZiY)×Int:=
 match J1 es k with
 | none => ((es, []), 17)
 | some _ => if st < 0 then ((es, []), 1) else if 255 < st then ((es, []), 1) else (Y1 es k st, 0)
theorem s13 {x:LL} (h:ZD rows (m.frag++F)) (hm:m.Ok) (hx:Zd x = .oref (m.jm+1) 0) (k st:Int) :
  ∃ rows' F',g13 x k st rows=Xa (ZU (K2 m.es k st).1.2,(K2 m.es k st).2,rows')∧ZD rows' (({ m with es:=(K2 m.es k st).1.1 } : MS).frag++(F'++F))∧({ m with es:=(K2 m.es k st).1.1 } : MS).Ok:=by
 rw [ZtV,s27 h hx,Xi,Zb (ne1 (Kf _)),ZbA]
 unfold K2
 cases ho:J1 m.es k with
 | none =>
  rw [K3,if_pos (by decide)]
  exact ⟨rows,[],rfl,h,hm⟩
 | some e =>
  obtain ⟨hf,hen⟩:=Z2 ho
  have hez:e.p.id=k:=(Jo hf).2
  subst hez
  rw [Zq,if_neg (by decide)]
  dsimp only
  by_cases h1:st < 0
  ·rw [if_pos (by simp [cop,h1]),if_pos h1]
   exact ⟨rows,[],rfl,h,hm⟩
  ·rw [if_neg (by simp [cop];omega),if_neg h1]
   by_cases h2:255 < st
   ·rw [if_pos (by simp [cop,h2]),if_pos h2]
    exact ⟨rows,[],rfl,h,hm⟩
   ·rw [if_neg (by simp [cop];omega),if_neg h2]
    obtain ⟨rows1,F1,q1,q2,q3⟩:=s30 h hm hx hf st
    rw [q1]
    exact ⟨rows1,F1,rfl,q2,q3⟩
theorem s26 (z:Int):g26 z=Xa (decide (0≤z∧z < 32)):=by
 rw [ZuD]
 by_cases h1:0≤z
 ·rw [if_pos (by simp [cop,h1])]
  by_cases h2:z < 32<;>simp [cop,h1,h2]
 ·rw [if_neg (by simp [cop];omega)]
  simp [h1]
theorem Ze4 (zs:List Int) (rest:List AV):Yw 1 (zs.map (fun z=>I z)++rest) zs.length=ints zs:=by
 unfold Yw
 apply Ua
 intro i
 simp only [Xl]
 by_cases hi:i < zs.length
 ·rw [List.getElem?_range hi,Xs hi]
  simp only [Xw,Wo]
  congr 1
  apply Ua
  intro k
  rw [List.getElem?_take]
  cases k with
  | zero =>
   simp only [Nat.lt_one_iff,if_true,List.getElem?_drop,Nat.add_zero]
   rw [Xx (by simpa using hi),Xl,Xs hi]
   rfl
  | succ k => simp
 ·rw [Wj (by simpa using Nat.le_of_not_lt hi),Wj (Nat.le_of_not_lt hi)]
  rfl
theorem ZoZ (h:ZD rows (m.frag++F)) {e:PE} (he:e∈m.es) {q:Nat×Nat} (hq:e.c=Xa q):rows[q.1]? = Xa (e.arr q.2):=h.get (by
 simp only [MS.frag,XL,Xp,Xv,List.mem_flatMap]
 exact .inr (.inr (.inl ⟨e,he,by simp [PE.frag,hq]⟩)))
theorem Zsq (e:PE) (k:Nat):(e.arr k).length=e.p.cores.length+k:=by simp [PE.arr]
theorem Zps (e:PE) {k:Nat} (h:e.p.cores.length+k≠0):Z0 (e.arr k)=Xb:=by
 unfold PE.arr
 cases hc:e.p.cores with
 | cons z zs => rfl
 | nil =>
  rw [hc] at h
  cases k with
  | zero => simp at h
  | succ k => rfl
theorem J9 (e:PE):ZO e.core=Xb:=by
 unfold PE.core
 split<;>rfl
theorem Zom {x:LL} {e:PE} (hx:Zd x=e.core):Zc .pisl x 0 E0 [] = [[]]:=by
 have:∃ a b c,e.core = .osl a b c:=by
  unfold PE.core
  split<;>exact ⟨_,_,_,rfl⟩
 obtain ⟨a,b,c,he⟩:=this
 simp only [Zc,hx,he,okL]
theorem Znj (hm:m.Ok) {x:LL} {e:PE} (he:e∈m.es) (hx:Zd x=e.core):Zc .plen x 0 E0 []=Xg e.p.cores.length []:=by
 have hok:=hm.cor e he
 unfold PE.ok at hok
 unfold PE.core at hx
 cases hc:e.c with
 | none =>
  rw [hc] at hx hok
  simp only [Zc,hx,hok]
  rfl
 | some q =>
  rw [hc] at hx
  simp only [Zc,hx]
theorem ZgU (h:ZD rows (m.frag++F)) (hm:m.Ok) {x:LL} {e:PE} (he:e∈m.es) (hx:Zd x=e.core):Zc (.vchk 3 1) rows 0 x [] = [[]]:=by
 have hok:=hm.cor e he
 unfold PE.ok at hok
 unfold PE.core at hx
 cases hc:e.c with
 | none =>
  rw [hc] at hx hok
  simp only [Zc,hx,Zdh,okL]
 | some q =>
  rw [hc] at hx hok
  have hr:=ZoZ h he hc
  simp only [Zc,hx,Zdh,Jh hr,Zps e hok,decide_true,X8,Zsq]
  rw [decide_eq_true (by omega)]
  rfl
theorem ZoV (h:ZD rows (m.frag++F)) (hm:m.Ok) {x:LL} {e:PE} (he:e∈m.es) (hx:Zd x=e.core):Zc (.view 1) rows 0 x []=ints e.p.cores:=by
 have hok:=hm.cor e he
 unfold PE.ok at hok
 unfold PE.core at hx
 cases hc:e.c with
 | none =>
  rw [hc] at hx hok
  simp only [Zc,hx,Za7,pJ,pO,hok]
  rfl
 | some q =>
  rw [hc] at hx hok
  have hr:=ZoZ h he hc
  simp only [Zc,hx,Za7,pJ,pO,Jh hr]
  exact Ze4 _ _
theorem s53 (h:ZD rows (m.frag++F)) (hm:m.Ok) {x:LL} {e:PE} (he:e∈m.es) (hx:Zd x=e.core) (hl:e.p.cores.length≤100000):g53 x rows=Xa (ints e.p.cores,rows):=by
 rw [ZtN,Zb (ne1 (Zom hx)),Znj hm he hx]
 refine Zst (fun hn=>?_) ?_
 ·have:e.p.cores = []:=by
   cases hc:e.p.cores with
   | nil => rfl
   | cons z zs => rw [hc] at hn; simp at hn
  rw [if_pos rfl,this]
  rfl
 ·rw [if_neg (by decide),Zb (ne1 (ZgU h hm he hx)),ZoV h hm he hx,Zb (by unfold Jq ZB;simp only [XT,Xq];omega)]
  rfl
theorem ZoL {γ:Type} {e:PE} (k:Int×Int×ByteArray×LL×Bool×Int×Bool→Option γ):Zk [e.row] 0 [.int .i64,.int .i64,.str,.cel,.bool,.int .i64,.bool] k=k (e.p.id,e.p.parent,e.p.name,[[e.core]],e.p.ended,e.p.status,e.p.waiting):=by
 refine YF (l:=[e.row]) (sh:=[.int .i64,.int .i64,.str,.cel,.bool,.int .i64,.bool]) (cs:=e.row) (r:=(e.p.id,e.p.parent,e.p.name,[[e.core]],e.p.ended,e.p.status,e.p.waiting)) k (by decide) rfl ?_
 unfold PE.row PE.core
 split<;>rfl
def KO (p:Pr):List AV:=[I p.id,I p.parent,.val (.string p.name),.slice Xc 1 (ints p.cores),B p.ended,I p.status,B p.waiting]
theorem s31 (h:ZD rows (m.frag++F)) (hm:m.Ok) {e:PE} (he:e∈m.es) (hl:e.p.cores.length≤100000):g31 (nmE (Xa e)) rows=Xa (e.p.id,e.p.parent,e.p.name,ints e.p.cores,e.p.ended,e.p.status,e.p.waiting,rows):=by
 rw [Zty,Zb (ne1 (Zq e)),Ztq (n:=7) (Zd3 e) (ZlO h he) rfl rfl,ZoL,Zb (ne1 (Zq e)),Zb (ne1 (Zq e)),Ka h he (c:=e.core) rfl,Zo (J9 e),s53 h hm he (Zpb (J9 e)) hl]
 rfl
theorem Zjy {x:LL} (h:ZD rows (m.frag++F)) (hm:m.Ok) (hx:Zd x = .oref (m.jm+1) 0) (hl:∀ e∈m.es,e.p.cores.length≤100000):∀ (ks pre:List PE) (k:Nat),m.es=pre++ks→ks.length < k→
  ZpY k x ((pre.map PE.p).map KO) m.ids (m.es.length:Int) (pre.length:Int) rows=Xa ((m.es.map PE.p).map KO,rows)
 | [], pre, k, hs, hk => by
  obtain ⟨k',rfl⟩:∃ k',k=k'+1:=⟨k-1,by simp at hk;omega⟩
  rw [XJ] at hs
  rw [ZkQ,hs,if_neg (by simp [cop])]
 | e :: ks, pre, k, hs, hk => by
  obtain ⟨k',rfl⟩:∃ k',k=k'+1:=⟨k-1,by simp at hk;omega⟩
  have he:e∈m.es:=by rw [hs];simp
  have hlen:(pre.length:Int) < (m.es.length:Int):=by rw [hs];simp;omega
  have hml:=hm.len
  have hpl:pre.length≤64:=by omega
  have hf:m.find e.p.id=Xa e:=by
   unfold MS.find
   rw [Tl]
   refine ⟨by simp,pre,ks,hs,fun a ha=>?_⟩
   have hsrt:=hm.srt
   rw [hs,Wt] at hsrt
   have:=hsrt.2.2 a ha e (by simp)
   simp;omega
  have hz:(m.es.map fun e=>e.p.id)[pre.length]? = Xa e.p.id:=by rw [hs];simp
  rw [ZkQ,if_pos (by simp [cop];omega),Y4,Z1 hz,Zb (ne1 (ZA hx)),Zb (ne1 (ZA hx)),YU h hx,Zo rfl,Zb (ne1 (Vf h rfl)),Zcp h rfl,hf,s31 h hm he (hl e he),Xi,
   Zb (by unfold Jq ZB;simp;omega),ZaQ (by omega)]
  have:=Zjy h hm hx hl ks (pre++[e]) k' (by rw [hs];simp) (by simp at hk;omega)
  rw [Y4] at this
  simp only [Xu,XA,XT,XN,Xh,XG] at this
  exact this
theorem s14 {x:LL} (h:ZD rows (m.frag++F)) (hm:m.Ok) (hx:Zd x = .oref (m.jm+1) 0) (hl:∀ e∈m.es,e.p.cores.length≤100000) :
  ∃ rows' F',g14 x rows=Xa ((m.es.map PE.p).map KO,rows')∧ZD rows' (m.frag++(F'++F)):=by
 have hp:=(h.push [.omap (m.jq+1)])
 have hq:ZD (rows++[[.omap (m.jq+1)]]) (m.frag++([(rows.length,[.omap (m.jq+1)])]++F)):=hp.perm (by
  rw [XL,XM]
  exact List.perm_middle.symm)
 refine ⟨rows++[[.omap (m.jq+1)]],[(rows.length,[.omap (m.jq+1)])],?_,hq⟩
 rw [ZtJ,s29 h hm hx,Xi]
 have hl2:((m.ids).length:Int)=(m.es.length:Int):=by simp [MS.ids]
 rw [hl2]
 exact Zjy hq hm hx hl m.es [] Jr rfl (by have:=hm.len;unfold Jr;omega)
end
section
open Go Go.AM Go.Proofs.Ytpjnmgjphfnmmaa
set_option maxRecDepth 100000
variable {rows:LL} {F:Ym} {m:MS}
theorem Zo2 (l:LL) (x:List AV):Z5 (l++[x]) (l.length+1)=x:=Jh (by simp)
theorem Zq5 {x:LL} {j:Nat} {k:Int} {c:AV} {kvs:LL} (hx:Zd x = .omap (j+1)) (hr:rows[j]? = Xa (ZX kvs)):Zc .mput rows k x [c]=rows.set j (ZX (Y8 kvs k c)):=by
 simp only [Zc,hx,Zl1,Jh hr]
 rfl
theorem Zkd (l:LL) (a b:List AV):(l++[a]).set l.length b=l++[b]:=by simp
def ZaY:ByteArray:=⟨#[105,110,105,116]⟩
def Wq (z:Int):Pr:=⟨1,0,ZaY,[z],Xc,0,Xc⟩
theorem s8 {z:Int} (hz:0≤z∧z < 32) (h:ZD rows F):∃ m:MS,∃ rows',g8 z rows=Xa ([[.oref (m.jm+1) 0]],0,rows')∧ZD rows' (m.frag++F)∧m.Ok∧m.es.map PE.p = [Wq z]∧m.last=1:=by
 have h1:=h.push [I z]
 have h2:=h1.push [I 1,I 0,.val (.string ZaY),.osl 3 (rows.length+1) 1,B Xc,I 0,B Xc]
 have h3:=h2.push (ZX [[I 1,.oref (rows.length+1+1) 0]])
 have h4:=h3.push [.omap (rows.length+1+1+1),I 1]
 refine ⟨⟨rows.length+3,rows.length+2,[⟨rows.length+1,Xa (rows.length,0),Wq z⟩],1⟩,rows++[[I z]]++[[I 1,I 0,.val (.string ZaY),.osl 3 (rows.length+1) 1,B Xc,I 0,B Xc]]++[ZX [[I 1,.oref (rows.length+1+1) 0]]]++[[.omap (rows.length+1+1+1),I 1]],?_,?_,⟨?_,?_,?_,?_,?_,?_⟩,rfl,rfl⟩
 ·rw [Zvg,s26,Xi,decide_eq_true hz]
  have hn:∀ l:LL,Zc .newm l 0 E0 []=l++[ZX []]:=fun _=>rfl
  have hp:∀ l:LL,Zc .pmap l 0 E0 [] = [[.omap (l.length+1)]]:=fun _=>rfl
  have hw:∀ l:LL,Zc .pnew l 0 E0 [] = [[.oref (l.length+1) 0]]:=fun _=>rfl
  have ha:∀ l:LL,Zc (.parr 3) l 1 E0 [] = [[.osl 3 (l.length+1) 1]]:=fun _=>rfl
  rw [if_neg (by decide),hn,hp,ha,Zb (by simp only [Zc,Zd,ZO,ZuL,Zo2];rw [show Yn (ZX [])=Xb from rfl];simp [okL]),hw,Zb (by simp [Zc,Zd,ZO,okL])]
  rw [Zq5 (j:=(rows++[[I z]]++[[I 1,I 0,.val (.string ZaY),.osl 3 (rows.length+1) 1,B Xc,I 0,B Xc]]).length) (kvs:=[]) rfl (by
   have:=List.getElem?_concat_length (l:=rows++[[I z]]++[[I 1,I 0,.val (.string ZaY),.osl 3 (rows.length+1) 1,B Xc,I 0,B Xc]]) (a:=ZX [])
   exact this)]
  have hs:∀ (l:LL) (a b:List AV),(l++[a]).set l.length b=l++[b]:=Zkd
  have e1:∀ l:LL,l=rows++[[I z]]++[[I 1,I 0,.val (.string ZaY),Zd [[.osl 3 (rows.length+1) 1]],B Xc,I 0,B Xc]]→l.length=rows.length+2:=fun l hl=>by rw [hl];simp
  show Xa _=Xa _
  congr 1
  have hl1:(rows++[[I z]]).length=rows.length+1:=by simp
  simp only [Zd,ZO,ZaY,hw,UN,Xu,XA,XT,hl1]
  refine Prod.ext ?_ (Prod.ext rfl ?_)
  ·simp
  ·simp only [Prod.snd]
   congr 1
   have:=Zkd (rows++[[I z]]++[[I 1,I 0,.val (.string ZaY),.osl 3 (rows.length+1) 1,B Xc,I 0,B Xc]]) (ZX []) (ZX [[I 1,.oref (rows.length+1+1) 0]])
   have hl2:(rows++[[I z]]++[[I 1,I 0,.val (.string ZaY),.osl 3 (rows.length+1) 1,B Xc,I 0,B Xc]]).length=rows.length+1+1:=by simp
   rw [hl2] at this
   exact this
 ·simp only [Xu,XA,XT,XH] at h4
  simp only [MS.frag,MS.head,MS.map,PE.kv,PE.frag,PE.row,PE.core,PE.arr,Wq,Xh,XG,UF,List.flatMap_nil,List.replicate_zero,XJ,XA,XT,XH,XL,XM]
  exact h4
 ·exact Tw _ _
 ·intro e he
  rw [XD] at he
  subst he
  exact ⟨Int.le_refl _,Int.le_refl _⟩
 ·intro e he
  rw [XD] at he
  subst he
  show (1+0:Nat)≠0
  decide
 ·intro e he
  rw [XD] at he
  subst he
  exact ⟨Int.le_refl _,by show (0:Int) < 1;decide⟩
 ·show (1:Nat)≤64
  decide
 ·show (1:Int)≤1048576
  decide
def YL (es:List PE) (parent core:Int) (nm:Bool):Int:=
 match J1 es parent with
 | none => 17
 | some _ => if nm = Xb then (if 0 ≤ core ∧ core < 32 then (if es.length = 64 then 15 else 0) else 1) else 63
theorem put_new {es:List PE} {k:Int} {c:AV} (h:∀ e∈es,e.p.id < k):Y8 (es.map PE.kv) k c=es.map PE.kv++[[I k,c]]:=by
 unfold Y8
 rw [if_neg]
 intro hh
 obtain ⟨r,hr,hk⟩:=List.any_eq_true.1 hh
 obtain ⟨e,he,rfl⟩:=Xj.1 hr
 have:=h e he
 have hk':(Xa e.p.id == Xa k)=Xb:=hk
 simp at hk'
 omega
theorem Zup {x:LL} (h:ZD rows (m.frag++F)) (hx:Zd x = .oref (m.jm+1) 0) {parent core:Int} {name:ByteArray} {nm:Bool} (hn:g28 name=Xa nm) (hc:YL m.es parent core nm≠0) :
  g10 x parent name core rows=Xa (0,YL m.es parent core nm,rows):=by
 rw [Zq7,s27 h hx,Xi,Zb (ne1 (Kf _)),ZbA]
 unfold YL at hc ⊢
 cases ho:J1 m.es parent with
 | none =>
  rw [K3,if_pos (by decide)]
 | some e =>
  rw [ho] at hc
  dsimp only at hc ⊢
  rw [Zq,if_neg (by decide),hn,Xi]
  cases nm with
  | false => rfl
  | true =>
   simp only [if_true] at hc ⊢
   rw [if_neg (by decide),s26,Xi]
   by_cases hr:0≤core∧core < 32
   ·rw [if_pos hr] at hc ⊢
    rw [decide_eq_true hr,if_neg (by decide),Zb (ne1 (ZA hx)),Zb (ne1 (ZA hx)),YU h hx,Zo rfl,Zb (ne1 (Vf h rfl))]
    have hrows:Zc .mrows rows 0 [[.omap (m.jq+1)]] []=m.es.map PE.kv:=by
     simp only [Zc,Zd,ZO,ZrO,Jh (map_at h),MS.map,ZX,Ke]
    by_cases hl:m.es.length=64
    ·rw [if_pos hl] at hc ⊢
     rw [hrows,if_pos (by simp [cop,hl])]
    ·rw [if_neg hl] at hc
     exact absurd rfl hc
   ·rw [if_neg hr]
    rw [decide_eq_false hr]
    rfl
theorem s10 {x:LL} (h:ZD rows (m.frag++F)) (hm:m.Ok) (hx:Zd x = .oref (m.jm+1) 0) {parent core:Int} {name:ByteArray} {nm:Bool} (hn:g28 name=Xa nm) (hc:YL m.es parent core nm=0) (hlast:m.last < 1048576) :
  ∃ rows',∃ e':PE,g10 x parent name core rows=Xa (m.last+1,0,rows')∧e'.p=⟨m.last+1,parent,name,[core],Xc,0,Xc⟩∧ZD rows' (({ m with es:=m.es++[e'],last:=m.last+1 } : MS).frag++F)∧({ m with es:=m.es++[e'],last:=m.last+1 } : MS).Ok:=by
 rw [Zq7,s27 h hx,Xi,Zb (ne1 (Kf _)),ZbA]
 unfold YL at hc
 cases ho:J1 m.es parent with
 | none => rw [ho] at hc; exact absurd hc (by show ¬ ((17 : Int) = 0); decide)
 | some e =>
  rw [ho] at hc
  dsimp only at hc
  cases nm with
  | false => rw [if_neg (by decide)] at hc; exact absurd hc (by decide)
  | true =>
  rw [if_pos rfl] at hc
  by_cases hr:0≤core∧core < 32
  ·rw [if_pos hr] at hc
   by_cases hl:m.es.length=64
   ·rw [if_pos hl] at hc;exact absurd hc (by decide)
   ·have hrows:Zc .mrows rows 0 [[.omap (m.jq+1)]] []=m.es.map PE.kv:=by
     simp only [Zc,Zd,ZO,ZrO,Jh (map_at h),MS.map,ZX,Ke]
    obtain ⟨hf,_⟩:=Z2 ho
    have hem:=Jo (m:=m) hf
    have hrg:=hm.rng e hem.1
    have hlst:=hm.lst
    rw [Zq,if_neg (by decide),hn,Xi,if_neg (by decide),s26,Xi,decide_eq_true hr,if_neg (by decide),Zb (ne1 (ZA hx)),Zb (ne1 (ZA hx)),YU h hx,Zo rfl,Zb (ne1 (Vf h rfl)),hrows,if_neg (by simp [cop];omega),
     Zb (ne1 (ZA hx)),Zb (ne1 (ZA hx)),Zjk h hx,ZK,Zb (ne1 (ZA hx)),Zb (ne1 (ZA hx)),Zb (by simp),Zb (ne1 (ZA hx)),Zb (ne1 (ZA hx))]
    have hadd:iop .add .i64 m.last 1=m.last+1:=ZmP (by omega) (by omega)
    rw [hadd]
    have hs1:Zc .set rows 0 (Zc (.padd 1) x 0 E0 []) [AV.val (.int .i64 (m.last+1))]=rows.set m.jm [.omap (m.jq+1),I (m.last+1)]:=by
     rw [YK hx]
     rw [Zam rfl (head_at h) (by simp [MS.head])]
     rfl
    rw [hs1]
    have h1:ZD (rows.set m.jm [.omap (m.jq+1),I (m.last+1)]) (({ m with last:=m.last+1 } : MS).frag++F):=ZD.set h [.omap (m.jq+1),I (m.last+1)]
    generalize rows.set m.jm [.omap (m.jq+1),I (m.last+1)]=r1 at h1 ⊢
    have h2:=h1.push [I core]
    have h3:=h2.push [I (m.last+1),I parent,.val (.string name),.osl 3 (r1.length+1) 1,B Xc,I 0,B Xc]
    have hw:∀ l:LL,Zc .pnew l 0 E0 [] = [[.oref (l.length+1) 0]]:=fun _=>rfl
    have ha:Zc (.parr 3) r1 1 E0 [] = [[.osl 3 (r1.length+1) 1]]:=rfl
    have hc3:Zd [[AV.osl 3 (r1.length+1) 1]] = .osl 3 (r1.length+1) 1:=rfl
    have hc4:Zd [[AV.oref ((r1++[[AV.val (.int .i64 core)]]).length+1) 0]] = .oref ((r1++[[AV.val (.int .i64 core)]]).length+1) 0:=rfl
    rw [YU (m:={ m with last:=m.last+1 }) h1 hx,Zo rfl,Zb (ne1 (ZA hx)),Zb (ne1 (ZA hx)),Zjk (m:={ m with last:=m.last+1 }) h1 hx,ZK,Zb (ne1 (ZA hx)),Zb (ne1 (ZA hx)),ZK,ha,hc3]
    dsimp only
    generalize hr3:r1++[[AV.val (.int .i64 core)]]++[[AV.val (.int .i64 (m.last+1)),AV.val (.int .i64 parent),AV.val (.string name),AV.osl 3 (r1.length+1) 1,AV.val (.bool Xc),AV.val (.int .i64 0),AV.val (.bool Xc)]]=r3
    have hr3':r1++[[I core]]++[[I (m.last+1),I parent,.val (.string name),.osl 3 (r1.length+1) 1,B Xc,I 0,B Xc]]=r3:=hr3
    rw [hr3'] at h3
    have h3m:=h3.tail.tail
    rw [Zb (ne1 (Vf (m:={ m with last:=m.last+1 }) h3m rfl)),hw,hc4,Zb (by simp [Zc,Zd,ZO,okL]),Zb (ne1 (ZA hx)),Zb (ne1 (ZA hx))]
    rw [Zq5 (j:=m.jq) (kvs:=m.es.map PE.kv) rfl (map_at (m:={ m with last:=m.last+1 }) h3m),put_new (fun a ha=>by have:=hm.rng a ha;omega)]
    have hlen:(r1++[[AV.val (.int .i64 core)]]).length=r1.length+1:=by simp
    have hlen':(r1++[[I core]]).length=r1.length+1:=by simp
    rw [hlen]
    rw [hlen'] at h3
    obtain ⟨e',he'⟩:∃ e':PE,e'=⟨r1.length+1,Xa (r1.length,0),⟨m.last+1,parent,name,[core],Xc,0,Xc⟩⟩:=⟨_,rfl⟩
    have hfr:e'.frag = [(r1.length+1,[I (m.last+1),I parent,.val (.string name),.osl 3 (r1.length+1) 1,B Xc,I 0,B Xc]),(r1.length,[I core])]:=by rw [he'];rfl
    have hkv:e'.kv = [I (m.last+1),.oref (r1.length+1+1) 0]:=by rw [he'];rfl
    have hp1:((r1.length+1,[I (m.last+1),I parent,.val (.string name),.osl 3 (r1.length+1) 1,B Xc,I 0,B Xc])::(r1.length,[I core])::(({ m with last:=m.last+1 } : MS).frag++F)).Perm ((m.jq,m.map)::((m.jm,[.omap (m.jq+1),I (m.last+1)])::((m.es++[e']).flatMap PE.frag++F))):=by
     have:(m.es++[e']).flatMap PE.frag++F=m.es.flatMap PE.frag++(e'.frag++F):=by simp [List.flatMap_append]
     rw [this]
     have h0:(r1.length+1,[I (m.last+1),I parent,.val (.string name),.osl 3 (r1.length+1) 1,B Xc,I 0,B Xc])::(r1.length,[I core])::(({ m with last:=m.last+1 } : MS).frag++F)=e'.frag++(({ m with last:=m.last+1 } : MS).frag++F):=by rw [hfr];rfl
     rw [h0]
     refine (Ud _ _ _).trans ?_
     exact (List.Perm.swap _ _ _)
    have h4:=((h3.perm hp1).set (ZX (m.es.map PE.kv++[e'.kv]))).perm (List.Perm.swap _ _ _)
    have hfin:ZD (r3.set m.jq (ZX (m.es.map PE.kv++[e'.kv]))) (({ m with es:=m.es++[e'],last:=m.last+1 } : MS).frag++F):=by
     have hmap:({ m with es:=m.es++[e'],last:=m.last+1 } : MS).map=ZX (m.es.map PE.kv++[e'.kv]):=by simp [MS.map]
     unfold MS.frag
     rw [hmap]
     exact h4
    rw [hkv] at hfin
    rw [Zjk (m:={ m with es:=m.es++[e'],last:=m.last+1 }) hfin hx,ZK]
    refine ⟨_,e',rfl,by rw [he'],hfin,?_,?_,?_,?_,?_,?_⟩
    ·show (m.es++[e']).Pairwise _
     rw [Wt]
     refine ⟨hm.srt,Tw _ _,fun a ha b hb=>?_⟩
     rw [XD] at hb
     have:=hm.rng a ha
     rw [hb,he']
     show a.p.id < m.last+1
     omega
    ·intro a ha
     show 1≤a.p.id∧a.p.id≤m.last+1
     rcases Xv.1 ha with ha | ha
     ·have:=hm.rng a ha
      omega
     ·rw [XD] at ha
      rw [ha,he']
      dsimp only
      omega
    ·intro a ha
     rcases Xv.1 ha with ha | ha
     ·exact hm.cor a ha
     ·rw [XD] at ha
      rw [ha,he']
      show (1+0:Nat)≠0
      decide
    ·intro a ha
     rcases Xv.1 ha with ha | ha
     ·exact hm.par a ha
     ·rw [XD] at ha
      rw [ha,he']
      show 0≤parent∧parent < m.last+1
      omega
    ·show (m.es++[e']).length≤64
     have:=hm.len
     simp
     omega
    ·show m.last+1≤1048576
     omega
  ·rw [if_neg hr] at hc;exact absurd hc (by decide)
end
section
open Go Go.AM Go.Proofs.Ytpjnmgjphfnmmaa
set_option maxRecDepth 100000
variable {rows:LL} {F:Ym} {m:MS}
def YC (es:List PE) (k:Int):List PE×Int×Int×Int×Bool×Int:=
 match J1 es k with
 | none => (es, 0, 0, 0, Xc, 17)
 | some p =>
  if p.p.waiting=Xb then (es,0,0,0,Xc,4)
  else match es.find? fun e=>decide (e.p.parent=k)&&e.p.ended with
   | some c => (Vg c.p.id es, k, c.p.id, c.p.status, Xb, 0)
   | none => if (es.any fun e => decide (e.p.parent = k)) = Xb then (V4 k (fun q => { q with waiting := Xb }) es, 0, 0, 0, Xc, 0) else (es, 0, 0, 0, Xc, 2)
theorem ZgI (hm:m.Ok) {pre ks:List PE} {e:PE} (hs:m.es=pre++e::ks):m.find e.p.id=Xa e:=by
 unfold MS.find
 rw [Tl]
 refine ⟨by simp,pre,ks,hs,fun a ha=>?_⟩
 have hsrt:=hm.srt
 rw [hs,Wt] at hsrt
 have:=hsrt.2.2 a ha e (by simp)
 simp
 omega
theorem ZgD {x:LL} (h:ZD rows (m.frag++F)) (hm:m.Ok) (hx:Zd x = .oref (m.jm+1) 0) (kk:Int) {p:PE} (hp:p∈m.es):∀ (ks pre:List PE) (k c:Nat),m.es=pre++ks→ks.length < k→c≤pre.length→
  ZmW k x kk 0 0 0 (nmE (Xa p)) (c:Int) m.ids (m.es.length:Int) (pre.length:Int) rows =
   match ks.find? (fun e=>decide (e.p.parent=kk)&&e.p.ended) with
   | some e => Xa (kk, e.p.id, e.p.status, Xb, 0, Zc .mdel rows e.p.id [[.omap (m.jq + 1)]] [])
   | none => if c = 0 ∧ (ks.any fun e => decide (e.p.parent = kk)) = Xc then Xa (0, 0, 0, Xc, 2, rows) else Xa (0, 0, 0, Xc, 0, rows.set p.j (p.row.set 6 (B Xb)))
 | [], pre, k, c, hs, hk, hc => by
  obtain ⟨k',rfl⟩:∃ k',k=k'+1:=⟨k-1,by simp at hk;omega⟩
  rw [XJ] at hs
  rw [Zko,hs,if_neg (by simp [cop])]
  simp only [List.find?_nil,List.any_nil,and_true]
  by_cases h0:c=0
  ·rw [if_pos (by simp [cop,h0]),if_pos h0]
  ·rw [if_neg (by simp [cop];omega),if_neg h0,Zb (ne1 (Zq p)),Zb (ne1 (Zq p)),Zb (by rw [Y2 (ZlO h hp) rfl (c:=B p.p.waiting) rfl];simp),VO (ZlO h hp) (by simp [PE.row])]
 | e :: ks, pre, k, c, hs, hk, hc => by
  obtain ⟨k',rfl⟩:∃ k',k=k'+1:=⟨k-1,by simp at hk;omega⟩
  have he:e∈m.es:=by rw [hs];simp
  have hlen:(pre.length:Int) < (m.es.length:Int):=by rw [hs];simp;omega
  have hml:=hm.len
  have hpl:pre.length≤64:=by omega
  have hf:=ZgI hm hs
  have hz:(m.es.map fun e=>e.p.id)[pre.length]? = Xa e.p.id:=by rw [hs];simp
  have hl1:((pre++[e]).length:Int)=((pre.length+1:Nat):Int):=by simp
  rw [Zko,if_pos (by simp [cop];omega),Y4,Z1 hz,Zb (ne1 (ZA hx)),Zb (ne1 (ZA hx)),YU h hx,Zo rfl,Zb (ne1 (Vf h rfl)),Zcp h rfl,hf,Zb (ne1 (Zq e)),Zb (ne1 (Zq e)),Ka h he (c:=I e.p.parent) rfl,ZK,ZaQ (by omega)]
  by_cases hpar:e.p.parent=kk
  ·rw [if_neg (by simp [cop,hpar]),Zb (ne1 (Zq e)),Zb (ne1 (Zq e)),Ka h he (c:=B e.p.ended) rfl,JR]
   cases hen:e.p.ended with
   | true =>
    rw [if_pos rfl,Zb (ne1 (ZA hx)),Zb (ne1 (ZA hx)),Zo rfl,Zb (ne1 (Vf h rfl)),Zb (ne1 (Zq e)),Zb (ne1 (Zq e))]
    have hr:=(ZnZ h hm hf (x:=[[.omap (m.jq+1)]]) rfl).1
    have hr2:(Zc .mdel rows e.p.id [[.omap (m.jq+1)]] [])[e.j]? = Xa e.row:=hr.get (by simp [PE.frag])
    rw [Y2 hr2 rfl (c:=I e.p.status) rfl,ZK]
    simp only [UW,hpar,hen,decide_true,X8]
   | false =>
    rw [if_neg (by decide),ZaQ (by omega)]
    have ih:=ZgD h hm hx kk hp ks (pre++[e]) k' (c+1) (by rw [hs];simp) (by simp at hk;omega) (by simp;omega)
    rw [Y4,hl1] at ih
    rw [ih]
    simp only [UW,hpar,hen,decide_true,X8,UV,Bool.true_or,Bool.true_eq_false,and_false,if_false,Nat.add_eq_zero_iff,Nat.one_ne_zero,false_and]
  ·rw [if_pos (by simp [cop,hpar])]
   have ih:=ZgD h hm hx kk hp ks (pre++[e]) k' c (by rw [hs];simp) (by simp at hk;omega) (by simp;omega)
   rw [Y4,hl1] at ih
   rw [ih]
   simp only [UW,hpar,decide_false,Bool.false_and,UV,Bool.false_or]
theorem s11 {x:LL} (h:ZD rows (m.frag++F)) (hm:m.Ok) (hx:Zd x = .oref (m.jm+1) 0) (k:Int) :
  ∃ rows' F',g11 x k rows=Xa ((YC m.es k).2.1,(YC m.es k).2.2.1,(YC m.es k).2.2.2.1,(YC m.es k).2.2.2.2.1,(YC m.es k).2.2.2.2.2,rows')∧ZD rows' (({ m with es:=(YC m.es k).1 } : MS).frag++(F'++F))∧({ m with es:=(YC m.es k).1 } : MS).Ok:=by
 rw [ZuF,s27 h hx,Xi,Zb (ne1 (Kf _)),ZbA]
 unfold YC
 cases ho:J1 m.es k with
 | none =>
  rw [K3,if_pos (by decide)]
  exact ⟨rows,[],rfl,h,hm⟩
 | some p =>
  obtain ⟨hf,hen⟩:=Z2 ho
  obtain ⟨hp,hpk⟩:=Jo (m:=m) hf
  subst hpk
  rw [Zq,if_neg (by decide),Zb (by simp),Zb (by simp),Ka h hp (c:=B p.p.waiting) rfl,JR]
  dsimp only
  cases hw:p.p.waiting with
  | true =>
   exact ⟨rows,[],rfl,h,hm⟩
  | false =>
   rw [if_neg (by decide),if_neg (by decide),s29 h hm hx,Xi]
   have hp0:=(h.push [.omap (m.jq+1)])
   have hq:ZD (rows++[[.omap (m.jq+1)]]) (m.frag++([(rows.length,[.omap (m.jq+1)])]++F)):=hp0.perm (by
    rw [XL,XM]
    exact List.perm_middle.symm)
   generalize rows++[[.omap (m.jq+1)]]=rows1 at hq ⊢
   have hl2:((m.ids).length:Int)=(m.es.length:Int):=by simp [MS.ids]
   have hlp:=ZgD hq hm hx p.p.id hp m.es [] Jr 0 rfl (by have:=hm.len;unfold Jr;omega) (Xz _)
   rw [hl2]
   have hz:((([] : List PE).length:Nat):Int)=0:=rfl
   rw [hz] at hlp
   have hz2:((0:Nat):Int)=0:=rfl
   rw [hz2] at hlp
   rw [hlp]
   cases hfc:m.es.find? (fun e=>decide (e.p.parent=p.p.id)&&e.p.ended) with
   | some c =>
    have hcm:=Wa hfc
    have hcf:m.find c.p.id=Xa c:=by
     obtain ⟨pre,post,hs⟩:=List.append_of_mem hcm
     exact ZgI hm hs
    obtain ⟨g1,g2⟩:=ZnZ hq hm hcf (x:=[[.omap (m.jq+1)]]) rfl
    refine ⟨_,c.frag++[(rows.length,[.omap (m.jq+1)])],rfl,?_,g2⟩
    rw [Xo]
    exact g1
   | none =>
    dsimp only
    cases ha:m.es.any fun e=>decide (e.p.parent=p.p.id) with
    | false =>
     rw [if_pos ⟨rfl,rfl⟩,if_neg (by decide)]
     exact ⟨rows1,_,rfl,hq,hm⟩
    | true =>
     rw [if_neg (by simp),if_pos rfl]
     obtain ⟨g1,g2⟩:=Zo6 (f:=fun q=>{ q with waiting:=Xb }) hq hm hf rfl rfl (hm.par p hp)
     refine ⟨_,[(rows.length,[.omap (m.jq+1)])],rfl,?_,g2⟩
     exact g1
end
section
open Go Go.AM Go.Proofs.Ytpjnmgjphfnmmaa
set_option maxRecDepth 100000
variable {rows:LL} {F:Ym} {m:MS}
def Ju (zs:List Int):List AV:=zs.map fun z=>I z
def IsI (rows:LL) (c:AV) (zs:List Int):Prop:=(c = .osl 0 0 0∧zs = [])∨∃ j rest,c = .osl 3 (j+1) zs.length∧rows[j]? = Xa (Ju zs++rest)∧Ju zs++rest≠[]
theorem Zek {zs:List Int} {k:Nat} (h:Ju zs++Xg k (I 0)≠[]):Z0 (Ju zs++Xg k (I 0))=Xb:=by
 cases zs with
 | cons z zs => rfl
 | nil =>
  cases k with
  | zero => exact absurd rfl h
  | succ k => rfl
theorem ZgB (h:ZD rows (m.frag++F)) (hm:m.Ok) {e:PE} (he:e∈m.es):IsI rows e.core e.p.cores:=by
 have hok:=hm.cor e he
 unfold PE.ok at hok
 unfold PE.core
 cases hc:e.c with
 | none =>
  rw [hc] at hok
  exact .inl ⟨rfl,hok⟩
 | some q =>
  rw [hc] at hok
  refine .inr ⟨q.1,Xg q.2 (I 0),rfl,ZoZ h he hc,fun hn=>?_⟩
  have:=congrArg Xn hn
  simp [Ju] at this
  exact hok (by simp [this.1,this.2])
theorem W5 {c:AV} {zs:List Int} (h:IsI rows c zs) {x:LL} (hx:Zd x=c):Zc .pisl x 0 E0 [] = [[]]:=by
 rcases h with ⟨rfl,_⟩ | ⟨j,rest,rfl,_⟩ <;> simp only [Zc,hx,okL]
theorem Kn {c:AV} {zs:List Int} (h:IsI rows c zs) {x:LL} (hx:Zd x=c):((Zc .plen x 0 E0 []).length:Int)=(zs.length:Int):=by
 rcases h with ⟨rfl,rfl⟩ | ⟨j,rest,rfl,_⟩ <;> simp only [Zc,hx]<;>simp
theorem ZqX {zs:List Int} {rest:List AV} {i:Nat} {z:Int} (h:zs[i]? = Xa z):(Ju zs++rest)[i]? = Xa (I z):=by
 have hi:=(Xk.1 h).1
 rw [Xx (by simpa [Ju] using hi)]
 simp only [Ju,Xl,h,Xw]
theorem Zlx {zs:List Int} {rest:List AV} {i:Nat} {z:Int} (h:zs[i]? = Xa z):Z0 (Ju zs++rest)=Xb:=by
 cases zs with
 | nil => simp at h
 | cons z zs => rfl
theorem Ziq {c:AV} {zs:List Int} (h:IsI rows c zs) {x:LL} (hx:Zd x=c) {i:Nat} {z:Int} (hz:zs[i]? = Xa z):Zc (.get 1) rows 0 (Zc (.pidx 1) x (i:Int) [] []) [] = [[I z]]:=by
 rcases h with ⟨rfl,rfl⟩ | ⟨j,rest,rfl,hr,_⟩
 ·simp at hz
 ·have hp:Zc (.pidx 1) x (i:Int) [] [] = [[.oref (j+1) i]]:=by simp only [Zc,hx,pJ,Ws,Wo]
  rw [hp]
  exact JF rfl hr (Zlx hz) (ZqX hz)
theorem ZjG {c:AV} {zs:List Int} (h:IsI rows c zs) {x:LL} (hx:Zd x=c) (hl:zs.length≤100000) (k:Int):∀ (ks pre:List Int) (q:Nat),zs=pre++ks→ks.length < q→
  ∃ r:Int,ZqH q x k (zs.length:Int) (pre.length:Int) rows=Xa (r,rows)∧(0≤r↔k∈ks)
 | [], pre, q, hs, hq => by
  obtain ⟨q',rfl⟩:∃ q',q=q'+1:=⟨q-1,by simp at hq;omega⟩
  rw [XJ] at hs
  rw [ZjN,hs,if_neg (by simp [cop])]
  exact ⟨-1,rfl,by simp⟩
 | z :: ks, pre, q, hs, hq => by
  obtain ⟨q',rfl⟩:∃ q',q=q'+1:=⟨q-1,by simp at hq;omega⟩
  have hz:zs[pre.length]? = Xa z:=by rw [hs];simp
  have hi:pre.length < zs.length:=(Xk.1 hz).1
  have hl1:((pre++[z]).length:Int)=((pre.length+1:Nat):Int):=by simp
  rw [ZjN,if_pos (by simp [cop];omega),Zb (by omega),Kn h hx,Zb (by omega),Ziq h hx hz,ZK,ZaQ (by omega)]
  by_cases hk:k=z
  ·rw [if_pos (by simp [cop,hk])]
   exact ⟨_,rfl,by simp [hk]⟩
  ·rw [if_neg (by simp [cop,hk])]
   obtain ⟨r,h1,h2⟩:=ZjG h hx hl k ks (pre++[z]) q' (by rw [hs];simp) (by simp at hq;omega)
   rw [hl1] at h1
   exact ⟨r,h1,by rw [h2];simp [hk]⟩
theorem s44 {c:AV} {zs:List Int} (h:IsI rows c zs) {x:LL} (hx:Zd x=c) (hl:zs.length≤100000) (k:Int):g44 x k rows=Xa (decide (k∈zs),rows):=by
 obtain ⟨r,h1,h2⟩:=ZjG h hx hl k zs [] Jr rfl (by unfold Jr;omega)
 have hz:((([] : List Int).length:Nat):Int)=0:=rfl
 rw [hz] at h1
 rw [Ztm,Zua,Zb (ne1 (W5 h hx)),Kn h hx,h1,Xi]
 simp only [cop,ge_iff_le]
 congr 2
 exact decide_eq_decide.2 h2
def srt (zs:List Int):List Int:=zs.mergeSort fun a b=>decide (a≤b)
theorem ZrP (zs:List Int):(Ju zs).filterMap (fun c=>ZW [c])=zs:=by
 unfold Ju
 induction zs with
 | nil => rfl
 | cons z zs ih => rw [Xh, Tu (f := fun c => ZW [c]) (a := I z) (b := z) rfl, ih]
theorem ZgG (zs:List Int):KA (Ju zs)=Ju (srt zs):=by
 unfold KA srt
 rw [ZrP]
 rfl
theorem ZaE (zs:List Int):(srt zs).length=zs.length:=List.length_mergeSort _
theorem modify_set {rows:LL} {j:Nat} {row:List AV} (hr:rows[j]? = Xa row) (f:List AV→List AV):rows.modify j f=rows.set j (f row):=by
 have hlt:=(Xk.1 hr).1
 apply Ua
 intro i
 rw [List.getElem?_modify,List.getElem?_set]
 by_cases hij:j=i
 ·subst hij
  rw [if_pos rfl,if_pos hlt,hr]
  simp
 ·rw [if_neg hij]
  simp [hij]
theorem s43 {x:LL} {j:Nat} {zs:List Int} (hx:Zd x = .osl 3 (j+1) zs.length) (hr:rows[j]? = Xa (Ju zs)) (h0:zs≠[]) (hl:zs.length≤100000) :
  g43 x rows=Xa (rows.set j (Ju (srt zs))):=by
 have e:g43 x rows=ZkW x rows:=rfl
 rw [e]
 unfold ZkW
 rw [hx]
 dsimp only
 rw [Jh hr,Zb]
 ·congr 1
  simp only [Zc,Ziu,hx]
  have hlen:(Ju zs).length=zs.length:=by simp [Ju]
  rw [modify_set hr,Uo (by omega),List.drop_eq_nil_of_le (by omega),ZgG,XJ]
 ·have hlen:(Ju zs).length=zs.length:=by simp [Ju]
  have hc:Z0 (Ju zs)=Xb:=by
   cases zs with
   | nil => exact absurd rfl h0
   | cons z zs => rfl
  rw [hc,hlen,decide_eq_true rfl,decide_eq_true (show zs.length≤1048576 by omega),decide_eq_true rfl]
  simp only [X8]
  refine XE.2 fun c hc=>?_
  obtain ⟨z,hz,rfl⟩:=Xj.1 hc
  rfl
theorem Zus {c:AV} {zs:List Int} (h:IsI rows c zs) {x:LL} (hx:Zd x=c) (k:Int) :
  (Zc (.papp 3) rows 0 x [AV.slice Xc 1 (E0++[[AV.val (.int .i64 k)]])] = [[.osl 3 (rows.length+1) (zs.length+1)]])∧
  ∃ rows1,Zc (.app 1) rows 0 x [AV.slice Xc 1 (E0++[[AV.val (.int .i64 k)]])]=rows1++[Ju (zs++[k])]∧((c = .osl 0 0 0∧rows1=rows)∨∃ j n,c = .osl 3 (j+1) n∧rows1=rows.set j []):=by
 rcases h with ⟨rfl,rfl⟩ | ⟨j,rest,rfl,hr,_⟩
 ·refine ⟨?_,rows,?_,.inl ⟨rfl,rfl⟩⟩
  ·simp only [Zc,hx,pO,Zru];rfl
  ·simp only [Zc,hx,ZhK,Zru];rfl
 ·refine ⟨?_,rows.set j [],?_,.inr ⟨j,_,rfl,rfl⟩⟩
  ·simp only [Zc,hx,pO,Zru];rfl
  ·simp only [Zc,hx,ZhK,Zru,Jh hr]
   congr 2
   have hl:(Ju zs).length=zs.length:=by simp [Ju]
   rw [Wo,List.take_left' hl]
   simp [Ju]
def Vv (es:List PE) (k core:Int):Int:=
 match J1 es k with
 | none => 17
 | some e => if 0 ≤ core ∧ core < 32 then (if core ∈ e.p.cores then 56 else 0) else 1
end
section
open Go Go.AM Go.Proofs.Ytpjnmgjphfnmmaa
set_option maxRecDepth 100000
variable {rows:LL} {F:Ym} {m:MS}
def MS.base (m:MS) (pre post:List PE):Ym:=(m.jm,m.head)::(m.jq,m.map)::(pre.flatMap PE.frag++post.flatMap PE.frag)
theorem ZgA {G:Ym} {pre post:List PE} {e e':PE} (hs:m.es=pre++e::post) (hj:e'.j=e.j) (hid:e'.p.id=e.p.id):((e.j,e'.row)::(e'.cf++(m.base pre post++G))).Perm ((m.put pre e' post).frag++G):=by
 have h2:=(Vr (F:=G) (m.put pre e' post) (pre:=pre) (e:=e') (post:=post) rfl).symm
 have hm:(m.put pre e' post).map=m.map:=by
  simp only [MS.map,MS.put,hs,XN,Xh,PE.kv,hj,hid]
 have hh:(m.put pre e' post).head=m.head:=rfl
 rw [hm,hh,hj] at h2
 refine List.Perm.trans (List.Perm.cons _ ?_) h2
 have e1:(m.base pre post++G)=((m.jm,m.head)::(m.jq,m.map)::pre.flatMap PE.frag)++(post.flatMap PE.frag++G):=by simp [MS.base]
 have e2:((m.put pre e' post).jm,m.head)::((m.put pre e' post).jq,m.map)::(pre.flatMap PE.frag++(e'.cf++post.flatMap PE.frag))++G=((m.jm,m.head)::(m.jq,m.map)::pre.flatMap PE.frag)++(e'.cf++(post.flatMap PE.frag++G)):=by simp [MS.put]
 rw [e1,e2]
 exact Ud _ _ _
theorem ZqA {pre post:List PE} {e:PE} (hs:m.es=pre++e::post):m.put pre e post=m:=by
 unfold MS.put
 rw [← hs]
theorem ZjI (h:ZD rows (m.frag++F)) {pre post:List PE} {e:PE} (hs:m.es=pre++e::post):ZD rows ((e.j,e.row)::(e.cf++(m.base pre post++F))):=by
 refine h.perm ?_
 have:=(ZgA (m:=m) (G:=F) (e:=e) (e':=e) hs rfl rfl).symm
 rw [ZqA hs] at this
 exact this
def Zap (L:Nat) (core:Int) (e:PE):PE:={ e with c:=Xa (L,0),p:={ e.p with cores:=srt (e.p.cores++[core]) } }
theorem Zub {x:LL} (h:ZD rows (m.frag++F)) (hm:m.Ok) (hx:Zd x = .oref (m.jm+1) 0) {k core:Int} (hcl:∀ e∈m.es,e.p.cores.length≤100) (hc:Vv m.es k core≠0):g35 x k core rows=Xa (Vv m.es k core,rows):=by
 rw [ZqN,s27 h hx,Xi,Zb (ne1 (Kf _)),ZbA]
 unfold Vv at hc ⊢
 cases ho:J1 m.es k with
 | none =>
  rw [K3,if_pos (by decide)]
 | some e =>
  obtain ⟨hf,_⟩:=Z2 ho
  have he:=(Jo (m:=m) hf).1
  rw [ho] at hc
  dsimp only at hc ⊢
  rw [Zq,if_neg (by decide),s26,Xi]
  by_cases hr:0≤core∧core < 32
  ·rw [if_pos hr] at hc ⊢
   rw [decide_eq_true hr,if_neg (by decide),Zb (by simp),Zb (by simp),Ka h he (c:=e.core) rfl,Zo (J9 e),s44 (ZgB h hm he) (Zpb (J9 e)) (by have:=hcl e he;omega),Xi]
   by_cases hi:core∈e.p.cores
   ·rw [if_pos hi]
    dsimp only
    rw [decide_eq_true hi,if_pos rfl]
   ·rw [if_neg hi] at hc
    exact absurd rfl hc
  ·rw [if_neg hr,decide_eq_false hr]
   rfl
theorem s35 {x:LL} (h:ZD rows (m.frag++F)) (hm:m.Ok) (hx:Zd x = .oref (m.jm+1) 0) {k core:Int} (hcl:∀ e∈m.es,e.p.cores.length≤100) (hc:Vv m.es k core=0) :
  ∃ rows' F' L,g35 x k core rows=Xa (0,rows')∧ZD rows' (({ m with es:=JP k (Zap L core) m.es } : MS).frag++(F'++F))∧({ m with es:=JP k (Zap L core) m.es } : MS).Ok:=by
 rw [ZqN,s27 h hx,Xi,Zb (ne1 (Kf _)),ZbA]
 unfold Vv at hc
 cases ho:J1 m.es k with
 | none => rw [ho] at hc; exact absurd hc (by show ¬ ((17 : Int) = 0); decide)
 | some e =>
  obtain ⟨hf,_⟩:=Z2 ho
  obtain ⟨he,hek⟩:=Jo (m:=m) hf
  subst hek
  rw [ho] at hc
  dsimp only at hc
  by_cases hr:0≤core∧core < 32
  ·rw [if_pos hr] at hc
   by_cases hi:core∈e.p.cores
   ·rw [if_pos hi] at hc;exact absurd hc (by decide)
   ·have hcle:=hcl e he
    have hcI:=ZgB h hm he
    have hcc:=Zpb (J9 e)
    rw [Zq,if_neg (by decide),s26,Xi,decide_eq_true hr,if_neg (by decide),Zb (by simp),Zb (by simp),Ka h he (c:=e.core) rfl,Zo (J9 e),s44 hcI hcc (by omega),Xi]
    dsimp only
    have hpl:(Zc .plen [[e.core]] 0 E0 []).length=e.p.cores.length:=by
     have:=Kn hcI hcc
     omega
    rw [decide_eq_false hi,if_neg (by decide),Zb (by simp),Zb (by simp),Ka h he (c:=e.core) rfl,Zo (J9 e),Zb (by simp),Zb (ne1 (ZgU h hm he hcc)),Zb (by unfold Jq ZB;rw [hpl];simp;omega),Zb (by simp),Zb (by simp)]
    obtain ⟨pre,post,hs,_,_⟩:=W9 (m:=m) hf
    obtain ⟨hpa,rows1,hap,hr1⟩:=Zus hcI hcc core
    have hfr:=ZjI h hs
    -- the old array is gone
    obtain ⟨gar,hg⟩:∃ gar:Ym,ZD rows1 ((e.j,e.row)::(gar++(m.base pre post++F)))∧rows1.length=rows.length:=by
     rcases hr1 with ⟨_,rfl⟩ | ⟨j,n,hcj,rfl⟩
     ·exact ⟨e.cf,hfr,rfl⟩
     ·unfold PE.core at hcj
      cases hec:e.c with
      | none => rw [hec] at hcj; simp at hcj
      | some q =>
       rw [hec] at hcj
       have hjq:j=q.1:=by
        simp only [AV.osl.injEq] at hcj
        omega
       subst hjq
       have hcf:e.cf = [(q.1,e.arr q.2)]:=by simp only [PE.cf,hec]
       rw [hcf] at hfr
       refine ⟨[(q.1,[])],?_,by simp⟩
       exact ((hfr.perm (List.Perm.swap _ _ _)).set []).perm (List.Perm.swap _ _ _)
    obtain ⟨hg1,hgl⟩:=hg
    have hg2:=hg1.push (Ju (e.p.cores++[core]))
    rw [hgl] at hg2
    rw [hap,hpa]
    have hce:Zd [[AV.osl 3 (rows.length+1) (e.p.cores.length+1)]] = .osl 3 (rows.length+1) (e.p.cores.length+1):=rfl
    rw [hce]
    have hg3:=hg2.perm (List.Perm.swap _ _ _)
    have hrj:(rows1++[Ju (e.p.cores++[core])])[e.j]? = Xa e.row:=hg3.get (by simp)
    obtain ⟨e',he'⟩:∃ e':PE,e'=Zap rows.length core e:=⟨_,rfl⟩
    have hsl:(srt (e.p.cores++[core])).length=e.p.cores.length+1:=by rw [ZaE];simp
    have hrow:e.row.set 3 (.osl 3 (rows.length+1) (e.p.cores.length+1))=e'.row:=by
     rw [he']
     simp only [PE.row,PE.core,Zap,hsl]
     rfl
    have hst:Zc .set (rows1++[Ju (e.p.cores++[core])]) 0 (Zc (.padd 3) (nmE (Xa e)) 0 E0 []) [AV.osl 3 (rows.length+1) (e.p.cores.length+1)]=(rows1++[Ju (e.p.cores++[core])]).set e.j e'.row:=by
     rw [VO hrj (by simp [PE.row]),hrow]
    rw [Zb (by rw [Y2 hrj rfl (c:=e.core) rfl];simp),Zb (by simp),Zb (by simp),hst]
    have hg4:=hg3.set e'.row
    have hrj4:((rows1++[Ju (e.p.cores++[core])]).set e.j e'.row)[e.j]? = Xa e'.row:=hg4.get (by simp)
    have hrl4:((rows1++[Ju (e.p.cores++[core])]).set e.j e'.row)[rows.length]? = Xa (Ju (e.p.cores++[core])):=hg4.get (by simp)
    have hec':e'.core = .osl 3 (rows.length+1) (e.p.cores++[core]).length:=by
     rw [he']
     simp only [PE.core,Zap,hsl,Xu,XA,XT]
    rw [Y2 hrj4 rfl (c:=e'.core) rfl,Zo (J9 e'),s43 (zs:=e.p.cores++[core]) (by rw [Zpb (J9 e')];exact hec') hrl4 (by simp) (by simp;omega),Xi]
    have hg5:=((hg4.perm (List.Perm.swap _ _ _)).set (Ju (srt (e.p.cores++[core])))).perm (List.Perm.swap _ _ _)
    refine ⟨_,gar,rows.length,rfl,?_,?_⟩
    ·have hup:({ m with es:=JP e.p.id (Zap rows.length core) m.es } : MS)=m.put pre e' post:=by
      have hsrt:=hm.srt
      rw [hs] at hsrt
      simp only [MS.put,hs,Vm (f:=Zap rows.length core) hsrt rfl,he']
     rw [hup]
     have hp:=ZgA (m:=m) (G:=gar++F) (e:=e) (e':=e') hs (by rw [he'];rfl) (by rw [he'];rfl)
     refine hg5.perm (List.Perm.trans ?_ hp)
     have hcf:e'.cf = [(rows.length,Ju (srt (e.p.cores++[core])))]:=by
      rw [he']
      simp [PE.cf,Zap,PE.arr,Ju]
     rw [hcf]
     refine List.Perm.cons _ (List.Perm.cons _ ?_)
     exact Ud _ _ _
    ·have hsrt:=hm.srt
     rw [hs] at hsrt
     have hup:({ m with es:=JP e.p.id (Zap rows.length core) m.es } : MS)=m.put pre e' post:=by
      simp only [MS.put,hs,Vm (f:=Zap rows.length core) hsrt rfl,he']
     rw [hup]
     refine Zj7 hm hs (by rw [he'];rfl) ?_ ?_
     ·rw [he']
      show (srt (e.p.cores++[core])).length+0≠0
      rw [hsl]
      omega
     ·rw [he']
      exact hm.par e he
  ·rw [if_neg hr] at hc;exact absurd hc (by decide)
end
section
open Go Go.AM Go.Proofs.Ytpjnmgjphfnmmaa
set_option maxRecDepth 100000
variable {rows:LL} {F:Ym} {m:MS}
def wo (core:Int) (zs:List Int):List Int:=zs.filter fun z=>!decide (z=core)
theorem Zrg (core:Int) (zs:List Int):(wo core zs).length≤zs.length:=Un _ _
theorem s47 {b:Nat} {core z:Int} {x:LL} (hx:Zd x = .oref (b+1) 0) (hb:rows[b]? = Xa [I core]):g47 z x rows=Xa (decide (z=core),rows):=by
 rw [ZuY,JF hx hb rfl (c:=I core) rfl,ZK]
 rfl
theorem Zoh (b:Nat):Zc (.pisf 47 1) [[.fnc 47 [b+1]]] 0 E0 [] = [[]]:=by simp [Zc,Zd,ZO,okL]
theorem ZmI (b:Nat):Zd (Zc (.pcap 0) [[.fnc 47 [b+1]]] 0 E0 []) = .oref (b+1) 0:=rfl
theorem Zk1 {c:AV} {zs:List Int} (h:IsI rows c zs) {x:LL} (hx:Zd x=c) (hl:zs.length≤100000) {b:Nat} {core:Int} (hb:rows[b]? = Xa [I core]):∀ (ks pre:List Int) (q:Nat),zs=pre++ks→ks.length < q→core∉pre→
  ∃ r:Int,Zp0 q x [[.fnc 47 [b+1]]] (zs.length:Int) (pre.length:Int) rows=Xa (r,rows)∧((r = -1∧core∉zs)∨∃ p s,r=(Xn p:Int)∧zs=p++core::s∧core∉p)
 | [], pre, q, hs, hq, hn => by
  obtain ⟨q',rfl⟩:∃ q',q=q'+1:=⟨q-1,by simp at hq;omega⟩
  rw [XJ] at hs
  rw [ZjU,hs,if_neg (by simp [cop])]
  exact ⟨-1,rfl,.inl ⟨rfl,hn⟩⟩
 | z :: ks, pre, q, hs, hq, hn => by
  obtain ⟨q',rfl⟩:∃ q',q=q'+1:=⟨q-1,by simp at hq;omega⟩
  have hz:zs[pre.length]? = Xa z:=by rw [hs];simp
  have hi:pre.length < zs.length:=(Xk.1 hz).1
  have hl1:((pre++[z]).length:Int)=((pre.length+1:Nat):Int):=by simp
  rw [ZjU,if_pos (by simp [cop];omega),Zb (by omega),Kn h hx,Zb (by omega),Ziq h hx hz,ZK,Zb (ne1 (Zoh b)),s47 (ZmI b) hb,Xi,ZaQ (by omega)]
  dsimp only
  by_cases hk:z=core
  ·rw [decide_eq_true hk,if_pos rfl]
   exact ⟨_,rfl,.inr ⟨pre,ks,rfl,by rw [hs,hk],hn⟩⟩
  ·rw [decide_eq_false hk,if_neg (by decide)]
   obtain ⟨r,h1,h2⟩:=Zk1 h hx hl hb ks (pre++[z]) q' (by rw [hs];simp) (by simp at hq;omega) (by simp [hn,Ne.symm hk])
   rw [hl1] at h1
   exact ⟨r,h1,h2⟩
theorem Zfx {x:LL} {qj n b:Nat} {core:Int} {H:Ym} {k:Nat} (hx:Zd x = .osl 3 (qj+1) n) (hn:n≤1000):∀ (ks kept junk:List Int) (rows:LL) (f:Nat),kept.length+junk.length+ks.length=n→junk≠[]→ks.length < f→
  ZD rows ((qj,Ju (kept++(junk++ks))++Xg k (I 0))::(b,[I core])::H)→
  ∃ rows',ZoQ f x [[.fnc 47 [b+1]]] (kept.length:Int) ((kept.length+junk.length:Nat):Int) rows=Xa ([[.osl 3 (qj+1) (kept++wo core ks).length]],rows')∧
   ZD rows' ((qj,Ju (kept++wo core ks)++Xg (k+(n-(kept++wo core ks).length)) (I 0))::(b,[I core])::H)
 | [], kept, junk, rows, f, hs, hj, hf, h => by
  obtain ⟨f',rfl⟩:∃ f',f=f'+1:=⟨f-1,by simp at hf;omega⟩
  have hI:IsI rows (.osl 3 (qj+1) n) (kept++(junk++[])):=.inr ⟨qj,_,by simp at hs ⊢; omega,h.get (.head _),by simp [Ju];exact fun _ hh=>absurd hh hj⟩
  have hr:=h.get (j:=qj) (.head _)
  have hlen:(kept++(junk++[])).length=n:=by simp at hs ⊢; omega
  rw [Zlc,Zb (ne1 (W5 hI hx)),Kn hI hx,hlen,if_neg (by simp [cop];simp at hs;omega)]
  have hv:Zc (.vchk 3 1) rows 0 x [] = [[]]:=by
   have hc:Z0 (Ju (kept++(junk++[]))++Xg k (I 0))=Xb:=Zek (by simp [Ju];exact fun _ hh=>absurd hh hj)
   simp only [Zc,hx,Zdh,Jh hr,hc,decide_true,X8,Xu,List.length_replicate]
   rw [decide_eq_true (by simp [Ju] at hlen ⊢; omega)]
   rfl
  rw [Zb (ne1 hv),Zb (by omega),Zb (by omega),Zb (ne1 (W5 hI hx)),Zb (by omega),Zb (by omega)]
  have hcut:Zc .pcut x (kept.length:Int) [] [] = [[.osl 3 (qj+1) kept.length]]:=by simp only [Zc,hx,pE,pJ,Ws]
  have hclr:Zc (.clr 1) rows (kept.length:Int) x [AV.val (.int .i64 0)]=rows.set qj (Ju kept++Xg (k+(n-kept.length)) (I 0)):=by
   simp only [Zc,hx,Zry]
   rw [modify_set hr]
   congr 1
   have hkl:(Ju kept).length=kept.length:=by simp [Ju]
   have hal:(Ju (kept++(junk++[]))).length=n:=by rw [← hlen];simp [Ju]
   have e1:Ju (kept++(junk++[]))=Ju kept++Ju (junk++[]):=by simp [Ju]
   rw [Wo,Wo,Ws]
   rw [show (Ju (kept++(junk++[]))++Xg k (I 0)).drop n=Xg k (I 0) from List.drop_left' hal]
   rw [e1,Xo (Ju kept) (Ju (junk++[])),List.take_left' hkl]
   have hfl:∀ q:Nat,(Xg q [AV.val (.int .i64 0)]).flatten=Xg q (I 0):=fun q=>by
    induction q with
    | zero => rfl
    | succ q ih => rw [List.replicate_succ, X5, ih]; rfl
   rw [hfl,Xo,List.replicate_append_replicate,Nat.add_comm]
  rw [hcut,hclr]
  have hw:kept++wo core []=kept:=by simp [wo]
  rw [hw]
  exact ⟨_,rfl,h.set _⟩
 | z :: ks, kept, junk, rows, f, hs, hj, hf, h => by
  obtain ⟨f',rfl⟩:∃ f',f=f'+1:=⟨f-1,by simp at hf;omega⟩
  have hne:Ju (kept++(junk++z::ks))++Xg k (I 0)≠[]:=by simp [Ju]
  have hI:IsI rows (.osl 3 (qj+1) n) (kept++(junk++z::ks)):=.inr ⟨qj,_,by simp at hs ⊢; omega,h.get (.head _),hne⟩
  have hr:=h.get (j:=qj) (.head _)
  have hb:=h.get (j:=b) (row:=[I core]) (by simp)
  have hlen:(kept++(junk++z::ks)).length=n:=by simp at hs ⊢; omega
  have hz:(kept++(junk++z::ks))[kept.length+junk.length]? = Xa z:=by rw [← Xo,← Xu];simp
  obtain ⟨j0,junk',rfl⟩:∃ j0 junk',junk=j0::junk':=by
   cases junk with
   | nil => exact absurd rfl hj
   | cons a b => exact ⟨a, b, rfl⟩
  have hjl:kept.length+(j0::junk').length+(z::ks).length=n:=hs
  have hkl:(z::ks).length=ks.length+1:=rfl
  have ha1:iop .add .i64 ((kept.length+(j0::junk').length:Nat):Int) 1=((kept.length+(j0::junk').length+1:Nat):Int):=ZaQ (by omega)
  have ha2:iop .add .i64 (kept.length:Int) 1=((kept.length+1:Nat):Int):=ZaQ (by omega)
  rw [Zlc,Zb (ne1 (W5 hI hx)),Kn hI hx,hlen,if_pos (by simp only [cop,decide_eq_true_eq];omega),Zb (by omega),Zb (by omega),Ziq hI hx hz,ZK,Zb (ne1 (Zoh b)),s47 (ZmI b) hb,Xi,ha1,ha2]
  dsimp only
  have hwz:wo core (z::ks)=if z=core then wo core ks else z::wo core ks:=by
   unfold wo
   by_cases hk:z=core
   ·rw [if_pos hk,Wd (by simp [hk])]
   ·rw [if_neg hk,Wh (by simp [hk])]
  by_cases hk:z=core
  ·rw [decide_eq_true hk,if_neg (by decide)]
   obtain ⟨rows',h1,h2⟩:=Zfx hx hn ks kept ((j0::junk')++[z]) rows f' (by simp at hs ⊢; omega) (by simp) (by simp at hf;omega) (by simpa using h)
   rw [hwz,if_pos hk]
   have e1:((kept.length+((j0::junk')++[z]).length:Nat):Int)=((kept.length+(j0::junk').length+1:Nat):Int):=by simp;omega
   rw [e1] at h1
   exact ⟨rows',h1,h2⟩
  ·rw [decide_eq_false hk,if_pos (by decide),Zb (by omega),Zb (by omega)]
   have hp:Zc (.pidx 1) x (kept.length:Int) [] [] = [[.oref (qj+1) kept.length]]:=by simp only [Zc,hx,pJ,Ws,Wo]
   have hlt:kept.length < (Ju (kept++(j0::junk'++z::ks))++Xg k (I 0)).length:=by simp [Ju]
   have hc0:(Ju (kept++(j0::junk'++z::ks))++Xg k (I 0))[kept.length]? = Xa (I j0):=ZqX (by simp)
   have hce:Z0 (Ju (kept++(j0::junk'++z::ks))++Xg k (I 0))=Xb:=Zek hne
   have hst:Zc .set rows 0 (Zc (.pidx 1) x (kept.length:Int) [] []) [AV.val (.int .i64 z)]=rows.set qj ((Ju (kept++(j0::junk'++z::ks))++Xg k (I 0)).set kept.length (I z)):=by
    rw [hp]
    exact Zam rfl hr hlt
   have hset:(Ju (kept++(j0::junk'++z::ks))++Xg k (I 0)).set kept.length (I z)=Ju ((kept++[z])++((junk'++[z])++ks))++Xg k (I 0):=by
    have e1:Ju (kept++(j0::junk'++z::ks))=Ju kept++(I j0::Ju (junk'++z::ks)):=by simp [Ju]
    have e2:Ju ((kept++[z])++((junk'++[z])++ks))=Ju kept++(I z::Ju (junk'++z::ks)):=by simp [Ju]
    have hkl:kept.length=(Ju kept).length:=by simp [Ju]
    rw [e1,e2,Xo,hkl,Tx _ _ (Xz _),Uz]
    simp
   rw [Zb (by rw [hp,JF rfl hr hce hc0];simp),hst,hset]
   have h':=h.set (Ju ((kept++[z])++((junk'++[z])++ks))++Xg k (I 0))
   obtain ⟨rows',h1,h2⟩:=Zfx hx hn ks (kept++[z]) (junk'++[z]) _ f' (by simp at hs ⊢; omega) (by simp) (by simp at hf;omega) h'
   rw [hwz,if_neg hk]
   have e1:(((kept++[z]).length+(junk'++[z]).length:Nat):Int)=((kept.length+(j0::junk').length+1:Nat):Int):=by simp;omega
   have e2:((kept++[z]).length:Int)=((kept.length+1:Nat):Int):=by simp
   rw [e1,e2] at h1
   have e3:kept++[z]++wo core ks=kept++z::wo core ks:=by simp
   rw [e3] at h1 h2
   exact ⟨rows',h1,h2⟩
def Yh (core:Int) (e:PE):PE:={ e with c:=e.c.map fun q=>(q.1,q.2+(e.p.cores.length-(wo core e.p.cores).length)),p:={ e.p with cores:=wo core e.p.cores } }
theorem Zn1 {core:Int} {zs:List Int} (h:core∉zs):wo core zs=zs:=UU.2 fun z hz=>by
 have:z≠core:=fun hh=>h (by rw [← hh];exact hz)
 simp [this]
theorem Zmi {core:Int} {e:PE} (h:core∉e.p.cores):Yh core e=e:=by
 obtain ⟨j,c,p⟩:=e
 unfold Yh
 rw [Zn1 h]
 cases c<;>simp
theorem s46 {e:PE} {b:Nat} {core:Int} {H:Ym} (h:ZD rows (e.cf++((b,[I core])::H))) (hok:e.ok) (hl:e.p.cores.length≤100) :
  ∃ rows' y,g46 [[e.core]] [[.fnc 47 [b+1]]] rows=Xa (y,rows')∧Zd y=(Yh core e).core∧ZD rows' ((Yh core e).cf++((b,[I core])::H)):=by
 have hcc:=Zpb (J9 e)
 have hb:=h.get (j:=b) (row:=[I core]) (by simp)
 have hI:IsI rows e.core e.p.cores:=by
  unfold PE.ok at hok
  unfold PE.core
  cases hc:e.c with
  | none =>
   rw [hc] at hok
   exact .inl ⟨rfl,hok⟩
  | some q =>
   rw [hc] at hok
   refine .inr ⟨q.1,Xg q.2 (I 0),rfl,h.get (by simp [PE.cf,hc];exact .inl rfl),fun hn=>?_⟩
   have:=congrArg Xn hn
   simp [Ju] at this
   exact hok (by simp [this.1,this.2])
 obtain ⟨r,h1,h2⟩:=Zk1 hI hcc (by omega) hb e.p.cores [] Jr rfl (by unfold Jr;omega) (by simp)
 have hz:((([] : List Int).length:Nat):Int)=0:=rfl
 rw [hz] at h1
 rw [Zue,ZuH,Zb (ne1 (W5 hI hcc)),Kn hI hcc,h1,Xi]
 dsimp only
 rcases h2 with ⟨rfl,hn⟩ | ⟨p,s,rfl,hs,hp⟩
 ·rw [if_pos (by decide),Zmi hn]
  exact ⟨rows,_,rfl,hcc,h⟩
 ·rw [if_neg (by simp [cop])]
  obtain ⟨q,hq⟩:∃ q,e.c=Xa q:=by
   cases hc:e.c with
   | some q => exact ⟨q, rfl⟩
   | none =>
    unfold PE.ok at hok
    rw [hc] at hok
    rw [hok] at hs
    simp at hs
  have hcf:e.cf = [(q.1,e.arr q.2)]:=by simp only [PE.cf,hq]
  rw [hcf] at h
  have hx:Zd [[e.core]] = .osl 3 (q.1+1) e.p.cores.length:=by
   rw [hcc]
   simp only [PE.core,hq]
  have hpl:p.length≤100:=by rw [hs] at hl;simp at hl;omega
  have harr:e.arr q.2=Ju (p++([core]++s))++Xg q.2 (I 0):=by
   unfold PE.arr
   rw [hs]
   rfl
  rw [harr] at h
  obtain ⟨rows',t1,t2⟩:=Zfx hx (by omega) s p [core] rows Jr (by rw [hs];simp;omega) (by simp) (by rw [hs] at hl;simp at hl;unfold Jr;omega) h
  have hwo:wo core e.p.cores=p++wo core s:=by
   rw [hs]
   unfold wo
   rw [UK,Wd (by simp)]
   congr 1
   exact Zn1 hp
  have e1:iop .add .i64 (p.length:Int) 1=((p.length + [core].length:Nat):Int):=ZaQ (by omega)
  rw [e1,t1]
  refine ⟨rows',_,rfl,?_,?_⟩
  ·simp only [PE.core,Yh,hq,Xw,hwo]
   rfl
  ·have:(Yh core e).cf = [(q.1,Ju (p++wo core s)++Xg (q.2+(e.p.cores.length-(p++wo core s).length)) (I 0))]:=by
    simp only [PE.cf,Yh,hq,Xw,PE.arr,hwo]
    rfl
   rw [this]
   exact t2
theorem ZsW {core:Int} {e:PE} (h:e.ok):(Yh core e).ok:=by
 unfold PE.ok at h ⊢
 unfold Yh
 have:=Zrg core e.p.cores
 cases hc:e.c with
 | none =>
  rw [hc] at h
  dsimp only at h
  simp [h,wo]
 | some q =>
  rw [hc] at h
  dsimp only [Xw] at h ⊢
  omega
def Zdd (core:Int) (es:List PE):List Int:=(es.filter fun e=>decide (wo core e.p.cores = [])).map fun e=>e.p.id
theorem Zk3 {x:LL} {b:Nat} {core:Int} (hi:List Int) (hil:hi.length≤64):∀ (ks pre:List PE) (rows:LL) (F:Ym) (m:MS) (acc:List Int) (k:Nat),m.es=pre++ks→hi=m.es.map (fun e=>e.p.id)→ks.length < k→(∀ e∈ks,e.p.cores.length≤100)→acc.length+ks.length≤1000→ZD rows (m.frag++((b,[I core])::F))→m.Ok→Zd x = .oref (m.jm+1) 0→
  ∃ rows',Zlk k x [[.oref (b+1) 0]] (ints acc) (ints hi) (hi.length:Int) (pre.length:Int) rows=(g45 x (ints (acc++Zdd core ks)) (-2) rows').bind (fun r=>Xa (r.1,0,r.2))∧
   ZD rows' (({ m with es:=pre++ks.map (Yh core) } : MS).frag++((b,[I core])::F))∧({ m with es:=pre++ks.map (Yh core) } : MS).Ok
 | [], pre, rows, F, m, acc, k, hs, hh, hk, _, _, h, hm, hx => by
  obtain ⟨k',rfl⟩:∃ k',k=k'+1:=⟨k-1,by simp at hk;omega⟩
  have hl:hi.length=pre.length:=by rw [hh,hs];simp
  rw [Zkc,hl,if_neg (by simp [cop])]
  have:({ m with es:=pre++([] : List PE).map (Yh core) } : MS)=m:=by
   obtain ⟨a,b,c,d⟩:=m
   simp only [XG] at hs ⊢
   rw [hs]
  rw [this]
  refine ⟨rows,?_,h,hm⟩
  simp [Zdd]
 | e :: ks, pre, rows, F, m, acc, k, hs, hh, hk, hcl, hacc, h, hm, hx => by
  obtain ⟨k',rfl⟩:∃ k',k=k'+1:=⟨k-1,by simp at hk;omega⟩
  have he:e∈m.es:=by rw [hs];simp
  have hf:=ZgI hm hs
  have hz:hi[pre.length]? = Xa e.p.id:=by rw [hh,hs];simp
  have hlt:pre.length < hi.length:=(Xk.1 hz).1
  have hpi:Zc .pis0 [[.oref (b+1) 0]] 0 E0 [] = [[]]:=by simp [Zc,Zd,ZO,okL]
  have hpn:Zc .pnn [[.oref (b+1) 0]] 0 E0 [] = [[]]:=by simp [Zc,Zd,ZO,okL]
  have hfn:Zc (.pfnc 47) E0 0 [] [Zd [[.oref (b+1) 0]]] = [[.fnc 47 [b+1]]]:=rfl
  rw [Zkc,if_pos (by simp [cop];omega),Z1 hz,Zb (ne1 (ZA hx)),Zb (ne1 (ZA hx)),YU h hx,Zo rfl,Zb (ne1 (Vf h rfl)),Zcp h rfl,hf,Zb (ne1 (Zq e)),Zb (ne1 (Zq e)),Ka h he (c:=e.core) rfl,Zo (J9 e),Zb (ne1 hpi),Zb (ne1 hpn),hfn]
  have hfr:=ZjI h hs
  have hp1:((e.j,e.row)::(e.cf++(m.base pre ks++((b,[I core])::F)))).Perm (e.cf++((b,[I core])::((e.j,e.row)::(m.base pre ks++F)))):=by
   refine List.perm_middle.symm.trans (List.Perm.append_left _ ?_)
   refine (List.Perm.cons _ UX).trans (List.Perm.swap _ _ _)
  obtain ⟨rows1,y,t1,t2,t3⟩:=s46 (core:=core) (hfr.perm hp1) (hm.cor e he) (hcl e (by simp))
  have hp2:((Yh core e).cf++((b,[I core])::((e.j,e.row)::(m.base pre ks++F)))).Perm ((e.j,e.row)::((Yh core e).cf++(m.base pre ks++((b,[I core])::F)))):=by
   refine List.Perm.trans (List.Perm.append_left _ ?_) UX
   exact (List.Perm.swap _ _ _).trans (List.Perm.cons _ List.perm_middle.symm)
  have hg:=t3.perm hp2
  have hrj:rows1[e.j]? = Xa e.row:=hg.get (by simp)
  have hg2:=hg.set (Yh core e).row
  have hrow:e.row.set 3 (Yh core e).core=(Yh core e).row:=rfl
  have hst:Zc .set rows1 0 (Zc (.padd 3) (nmE (Xa e)) 0 E0 []) [Zd y]=rows1.set e.j (Yh core e).row:=by rw [VO hrj (by simp [PE.row]),t2,hrow]
  have hrj2:(rows1.set e.j (Yh core e).row)[e.j]? = Xa (Yh core e).row:=hg2.get (by simp)
  have hg3:=hg2.perm (ZgA (m:=m) (G:=(b,[I core])::F) (e:=e) (e':=Yh core e) hs rfl rfl)
  have hmok:(m.put pre (Yh core e) ks).Ok:=Zj7 hm hs rfl (ZsW (hm.cor e he)) (hm.par e he)
  have hin2:Yh core e∈(m.put pre (Yh core e) ks).es:=by simp [MS.put]
  have hI2:=ZgB hg3 hmok hin2
  have hc2:=Zpb (J9 (Yh core e))
  rw [t1,Xi]
  dsimp only
  rw [Zb (ne1 (Zq e)),Zb (ne1 (Zq e)),Zb (by rw [Y2 hrj rfl (c:=e.core) rfl];simp),Zb (ne1 (Zq e)),Zb (ne1 (Zq e)),hst,Y2 hrj2 rfl (c:=(Yh core e).core) rfl,Zo (J9 _),Zb (ne1 (W5 hI2 hc2)),Kn hI2 hc2,ZaQ (by omega)]
  have hih:∀ acc':List Int,acc'.length+ks.length≤1000→∃ rows',Zlk k' x [[.oref (b+1) 0]] (ints acc') (ints hi) (hi.length:Int) ((pre.length+1:Nat):Int) (rows1.set e.j (Yh core e).row)=(g45 x (ints (acc'++Zdd core ks)) (-2) rows').bind (fun r=>Xa (r.1,0,r.2))∧
   ZD rows' (({ m with es:=pre++(e::ks).map (Yh core) } : MS).frag++((b,[I core])::F))∧({ m with es:=pre++(e::ks).map (Yh core) } : MS).Ok:=fun acc' ha=>by
   obtain ⟨rows',u1,u2,u3⟩:=Zk3 (x:=x) (b:=b) (core:=core) hi hil ks (pre++[Yh core e]) _ F (m.put pre (Yh core e) ks) acc' k' (by simp [MS.put]) (by rw [hh,hs];simp [MS.put,Yh]) (by simp at hk;omega) (fun a ha=>hcl a (by simp [ha])) ha hg3 hmok hx
   have e1:((pre++[Yh core e]).length:Int)=((pre.length+1:Nat):Int):=by simp
   rw [e1] at u1
   have e2:({ m.put pre (Yh core e) ks with es:=(pre++[Yh core e])++ks.map (Yh core) } : MS) = { m with es:=pre++(e::ks).map (Yh core) }:=by simp [MS.put]
   rw [e2] at u2 u3
   exact ⟨rows',u1,u2,u3⟩
  by_cases hb0:wo core e.p.cores = []
  ·rw [if_pos (by show cop .eql ((wo core e.p.cores).length:Int) 0=Xb;rw [hb0];rfl),Zb (by unfold Jq ZB;simp at hacc ⊢; omega)]
   have e3:ints acc++(E0++[[AV.val (.int .i64 e.p.id)]])=ints (acc++[e.p.id]):=by simp [ints]
   have e4:acc++Zdd core (e::ks)=(acc++[e.p.id])++Zdd core ks:=by
    unfold Zdd
    rw [Wh (by simp [hb0])]
    simp
   rw [e3,e4]
   exact hih (acc++[e.p.id]) (by simp at hacc ⊢; omega)
  ·rw [if_neg (by show ¬ (cop .eql ((wo core e.p.cores).length:Int) 0=Xb);simp [cop,hb0])]
   have e4:acc++Zdd core (e::ks)=acc++Zdd core ks:=by
    unfold Zdd
    rw [Wd (by simp [hb0])]
   rw [e4]
   exact hih acc (by simp at hacc ⊢; omega)
def YG (es:List PE) (core:Int):(List PE×List ZiY)×Int:=
 if 0≤core∧core < 32 then (Zi (-2) (es.map (Yh core)) (Zdd core es),0) else ((es,[]),1)
theorem s23 {x:LL} (h:ZD rows (m.frag++F)) (hm:m.Ok) (hx:Zd x = .oref (m.jm+1) 0) {core:Int} (hcl:∀ e∈m.es,e.p.cores.length≤100) :
  ∃ rows' F',g23 x core rows=Xa (ZU (YG m.es core).1.2,(YG m.es core).2,rows')∧ZD rows' (({ m with es:=(YG m.es core).1.1 } : MS).frag++(F'++F))∧({ m with es:=(YG m.es core).1.1 } : MS).Ok:=by
 have hp0:=(h.push [I core])
 have hq:ZD (rows++[[I core]]) (m.frag++((rows.length,[I core])::F)):=hp0.perm List.perm_middle.symm
 have hpn:Zc .pnew rows 0 E0 [] = [[.oref (rows.length+1) 0]]:=rfl
 have hrl:(rows++[[I core]])[rows.length]? = Xa [I core]:=by simp
 rw [ZuW,hpn,JF rfl hrl rfl (c:=I core) rfl,ZK,s26,Xi]
 unfold YG
 by_cases hr:0≤core∧core < 32
 ·rw [decide_eq_true hr,if_neg (by decide),if_pos hr]
  have hg:=s29 hq hm hx
  rw [hg,Xi]
  dsimp only
  have hq2:=(hq.push [.omap (m.jq+1)])
  have hq3:ZD (rows++[[I core]]++[[.omap (m.jq+1)]]) (m.frag++((rows.length,[I core])::(((rows++[[I core]]).length,[.omap (m.jq+1)])::F))):=hq2.perm (by
   refine List.perm_middle.symm.trans (List.Perm.append_left _ ?_)
   exact List.Perm.swap _ _ _)
  have hml:=hm.len
  have hl2:((m.ids).length:Int)=((m.es.map fun e=>e.p.id).length:Int):=by simp [MS.ids]
  obtain ⟨rows',u1,u2,u3⟩:=Zk3 (x:=x) (b:=rows.length) (core:=core) (m.es.map fun e=>e.p.id) (by simpa using hml) m.es [] _ _ m [] Jr rfl rfl (by unfold Jr;omega) hcl (by simp;omega) hq3 hm hx
  have hz:((([] : List PE).length:Nat):Int)=0:=rfl
  rw [hz] at u1
  rw [hl2,Y4]
  have hi0:(ints ([] : List Int))=E0:=rfl
  rw [hi0] at u1
  rw [u1]
  have hbl:(Zdd core m.es).length≤1000:=by
   unfold Zdd
   rw [Xq]
   have:=Un (fun e:PE=>decide (wo core e.p.cores = [])) m.es
   omega
  rw [XM] at u2 u3 ⊢
  obtain ⟨rows2,F2,v1,v2,v3⟩:=s45 hbl (-2) u2 u3 hx
  rw [v1]
  refine ⟨rows2,F2++[(rows.length,[I core]),((rows++[[I core]]).length,[.omap (m.jq+1)])],rfl,?_,v3⟩
  rw [Xo]
  exact v2
 ·rw [decide_eq_false hr,if_pos (by decide),if_neg hr]
  exact ⟨_,[(rows.length,[I core])],rfl,hq,hm⟩
end
section
open Go Go.AM Go.Proofs.Ytpjnmgjphfnmmaa
set_option maxRecDepth 100000
variable {rows:LL} {F:Ym} {m:MS}
def Jx (es:List PE) (id:Int):List Int:=(es.filter fun e=>decide (e.p.parent=id)).map fun e=>e.p.id
def JZ:Nat→List PE→Int→List Int
 | 0, _, _ => []
 | n + 1, es, id => (Jx es id).flatMap fun c => c :: JZ n es c
def ZiO (es:List PE) (id:Int):Nat:=(es.filter fun e=>decide (id < e.p.id)).length
theorem Zkj {c:AV} {zs:List Int} {k:Nat} (h:(c = .osl 0 0 0∧zs = [])∨∃ j,c = .osl 3 (j+1) zs.length∧rows[j]? = Xa (Ju zs++Xg k (I 0))∧Ju zs++Xg k (I 0)≠[]) {x:LL} (hx:Zd x=c):Zc (.vchk 3 1) rows 0 x [] = [[]]:=by
 rcases h with ⟨rfl,_⟩ | ⟨j,rfl,hr,hn⟩
 ·simp only [Zc,hx,Zdh,okL]
 ·simp only [Zc,hx,Zdh,Jh hr,Zek hn,decide_true,X8]
  rw [decide_eq_true (by simp [Ju])]
  rfl
theorem Zqe {c:AV} {zs:List Int} (h:IsI rows c zs) {x:LL} (hx:Zd x=c):Zc (.view 1) rows 0 x []=ints zs:=by
 rcases h with ⟨rfl,rfl⟩ | ⟨j,rest,rfl,hr,_⟩
 ·simp only [Zc,hx,Za7,pJ,pO];rfl
 ·simp only [Zc,hx,Za7,pJ,pO,Jh hr]
  exact Ze4 _ _
def JI (o:Option Nat) (zs:List Int):AV:=match o with | none=>.osl 0 0 0 | some j=>.osl 3 (j+1) zs.length
def Zgz (o:Option Nat) (zs:List Int):Ym:=match o with | none=>[] | some j=>[(j,Ju zs)]
def ook (o:Option Nat) (zs:List Int):Prop:=match o with | none=>zs = [] | some _=>zs≠[]
theorem Y7 (o:Option Nat) (zs:List Int):ZO (JI o zs)=Xb:=by cases o<;>rfl
def KN (m:MS) (b:Nat) (o:Option Nat) (zs:List Int) (F:Ym):Ym:=(b+1,[JI o zs])::(b,[.oref (m.jm+1) 0])::(b+2,[.fnc 42 [b+1,b+1+1,b+2+1]])::(Zgz o zs++(m.frag++F))
theorem Zux {b:Nat} {o:Option Nat} {zs:List Int} (h:ZD rows (KN m b o zs F)) (ho:ook o zs):(JI o zs = .osl 0 0 0∧zs = [])∨∃ j,JI o zs = .osl 3 (j+1) zs.length∧rows[j]? = Xa (Ju zs++Xg 0 (I 0))∧Ju zs++Xg 0 (I 0)≠[]:=by
 cases o with
 | none => exact .inl ⟨rfl, ho⟩
 | some j =>
  refine .inr ⟨j,rfl,?_,fun hn=>?_⟩
  ·have:=h.get (j:=j) (row:=Ju zs) (by simp [KN,Zgz])
   simpa using this
  ·simp [Ju] at hn
   exact ho hn
theorem Zro {c:AV} {zs:List Int} {k:Nat} (h:(c = .osl 0 0 0∧zs = [])∨∃ j,c = .osl 3 (j+1) zs.length∧rows[j]? = Xa (Ju zs++Xg k (I 0))∧Ju zs++Xg k (I 0)≠[]):IsI rows c zs:=by
 rcases h with h | ⟨j,h1,h2,h3⟩
 ·exact .inl h
 ·exact .inr ⟨j,_,h1,h2,h3⟩
theorem w_m {b:Nat} {o:Option Nat} {zs:List Int} (h:ZD rows (KN m b o zs F)):ZD rows (m.frag++F):=(ZD.right (A:=Zgz o zs) h.tail.tail.tail)
theorem Zvi {b:Nat} {o:Option Nat} {zs:List Int} (h:ZD rows (KN m b o zs F)) (ho:ook o zs) (k:Int) {x y:LL} (hx:Zd x=JI o zs) (hy:Zd y = .oref (b+1+1) 0) :
  ∃ F',ZD (Zc .set (Zc (.app 1) rows 0 x [AV.slice Xc 1 (E0++[[AV.val (.int .i64 k)]])]) 0 y [Zd (Zc (.papp 3) rows 0 x [AV.slice Xc 1 (E0++[[AV.val (.int .i64 k)]])])]) (KN m b (Xa rows.length) (zs++[k]) (F'++F))∧Zc (.get 1) (Zc (.app 1) rows 0 x [AV.slice Xc 1 (E0++[[AV.val (.int .i64 k)]])]) 0 y []≠[]:=by
 obtain ⟨hpa,rows1,hap,hr1⟩:=Zus (Zro (Zux h ho)) hx k
 rw [hap,hpa]
 obtain ⟨gar,hg,hgl⟩:∃ gar:Ym,ZD rows1 ((b+1,[JI o zs])::(b,[.oref (m.jm+1) 0])::(b+2,[.fnc 42 [b+1,b+1+1,b+2+1]])::(m.frag++(gar++F)))∧rows1.length=rows.length:=by
  rcases hr1 with ⟨hc,rfl⟩ | ⟨j,n,hcj,rfl⟩
  ·cases o with
   | none => exact ⟨[], h, rfl⟩
   | some j => simp [JI] at hc
  ·cases o with
   | none => simp [JI] at hcj
   | some j' =>
    have hjj:j=j':=by
     simp only [JI,AV.osl.injEq] at hcj
     omega
    subst hjj
    refine ⟨[(j,[])],?_,by simp⟩
    have hp:(KN m b (Xa j) zs F).Perm ((j,Ju zs)::((b+1,[JI (Xa j) zs])::(b,[.oref (m.jm+1) 0])::(b+2,[.fnc 42 [b+1,b+1+1,b+2+1]])::(m.frag++F))):=by
     unfold KN Zgz
     exact UX (l₁:=[(b+1,[JI (Xa j) zs]),(b,[.oref (m.jm+1) 0]),(b+2,[.fnc 42 [b+1,b+1+1,b+2+1]])])
    have h2:=(h.perm hp).set []
    refine h2.perm ?_
    refine List.Perm.symm ?_
    exact UX (l₁:=[(b+1,[JI (Xa j) zs]),(b,[.oref (m.jm+1) 0]),(b+2,[.fnc 42 [b+1,b+1+1,b+2+1]])]++m.frag) (l₂:=F)
 have h2:=hg.push (Ju (zs++[k]))
 rw [hgl] at h2
 have h3:=h2.perm (List.Perm.swap _ _ _)
 have hrb:(rows1++[Ju (zs++[k])])[b+1]? = Xa [JI o zs]:=h3.get (.head _)
 have hcn:Zd [[AV.osl 3 (rows.length+1) (zs.length+1)]] = .osl 3 (rows.length+1) (zs.length+1):=rfl
 have hc0:Z0 [JI o zs]=Xb:=J6 (Y7 o zs)
 refine ⟨gar,?_,by rw [JF hy hrb hc0 (c:=JI o zs) rfl];simp⟩
 rw [hcn,Zam hy hrb (by simp)]
 have h4:=h3.set [.osl 3 (rows.length+1) (zs.length+1)]
 have e1:JI (Xa rows.length) (zs++[k]) = .osl 3 (rows.length+1) (zs.length+1):=by simp [JI]
 unfold KN
 rw [e1]
 refine h4.perm (List.Perm.cons _ ?_)
 exact (UX (l₁:=([(b,[.oref (m.jm+1) 0]),(b+2,[.fnc 42 [b+1,b+1+1,b+2+1]])] : Ym))).symm
theorem Kc (e:PE) (es:List PE) (id:Int):Jx (e::es) id=if e.p.parent=id then e.p.id::Jx es id else Jx es id:=by
 unfold Jx
 by_cases h:e.p.parent=id
 ·rw [if_pos h,Wh (by simp [h]),Xh]
 ·rw [if_neg h,Wd (by simp [h])]
theorem Zk9 {es:List PE} {id:Int} {e:PE} (he:e∈es) (h:id < e.p.id):ZiO es e.p.id < ZiO es id:=by
 unfold ZiO
 induction es with
 | nil => cases he
 | cons a es ih =>
  have mono:(es.filter fun a=>decide (e.p.id < a.p.id)).length≤(es.filter fun a=>decide (id < a.p.id)).length:=by
   clear ih he
   induction es with
   | nil => exact Xz _
   | cons b es ih =>
    by_cases h1:e.p.id < b.p.id
    ·rw [Wh (by simp [h1]),Wh (by simp;omega)]
     simp;exact ih
    ·rw [Wd (by simp [h1])]
     by_cases h2:id < b.p.id
     ·rw [Wh (by simp [h2])]
      simp;omega
     ·rw [Wd (by simp [h2])]
      exact ih
  rcases Xp.1 he with rfl | he
  ·rw [Wd (by simp),Wh (by simp [h])]
   simp;omega
  ·have:=ih he
   by_cases h1:e.p.id < a.p.id
   ·rw [Wh (by simp [h1]),Wh (by simp;omega)]
    simp;exact this
   ·rw [Wd (by simp [h1])]
    by_cases h2:id < a.p.id
    ·rw [Wh (by simp [h2])]
     simp;omega
    ·rw [Wd (by simp [h2])]
     exact this
theorem s42 (m:MS) (hm:m.Ok) (b:Nat):∀ (k:Nat) (id:Int) (o:Option Nat) (zs:List Int) (rows:LL) (F:Ym),ZiO m.es id < k→zs.length+(JZ k m.es id).length≤100000→ZD rows (KN m b o zs F)→ook o zs→
  ∃ rows' F' o',g42 (G42 k) id [[.oref (b+1) 0]] [[.oref (b+1+1) 0]] [[.oref (b+2+1) 0]] rows=Xa rows'∧ZD rows' (KN m b o' (zs++JZ k m.es id) (F'++F))∧ook o' (zs++JZ k m.es id):=by
 intro k
 induction k with
 | zero => intro id o zs rows F h; omega
 | succ k ih =>
  intro id o zs rows F hab hlen h ho
  have loop:∀ (ks pre:List PE) (q:Nat) (o:Option Nat) (zs:List Int) (rows:LL) (F:Ym),m.es=pre++ks→ks.length < q→zs.length+((Jx ks id).flatMap fun c=>c::JZ k m.es c).length≤100000→ZD rows (KN m b o zs F)→ook o zs→
    ∃ rows' F' o',ZoJ (G42 k) q id [[.oref (b+1) 0]] [[.oref (b+1+1) 0]] [[.oref (b+2+1) 0]] m.ids (m.es.length:Int) (pre.length:Int) rows=Xa rows'∧ZD rows' (KN m b o' (zs++(Jx ks id).flatMap fun c=>c::JZ k m.es c) (F'++F))∧ook o' (zs++(Jx ks id).flatMap fun c=>c::JZ k m.es c):=by
   intro ks
   induction ks with
   | nil =>
    intro pre q o zs rows F hs hq hl h ho
    obtain ⟨q',rfl⟩:∃ q',q=q'+1:=⟨q-1,by simp at hq;omega⟩
    rw [XJ] at hs
    rw [Zle,hs,if_neg (by simp [cop])]
    refine ⟨rows,[],o,rfl,?_,?_⟩
    ·simpa [Jx] using h
    ·simpa [Jx] using ho
   | cons e ks ihk =>
    intro pre q o zs rows F hs hq hl h ho
    obtain ⟨q',rfl⟩:∃ q',q=q'+1:=⟨q-1,by simp at hq;omega⟩
    have hmF:=w_m h
    have he:e∈m.es:=by rw [hs];simp
    have hlt:(pre.length:Int) < (m.es.length:Int):=by rw [hs];simp;omega
    have hml:=hm.len
    have hf:=ZgI hm hs
    have hz:(m.es.map fun e=>e.p.id)[pre.length]? = Xa e.p.id:=by rw [hs];simp
    have hl1:((pre++[e]).length:Int)=((pre.length+1:Nat):Int):=by simp
    have hrx:rows[b]? = Xa [.oref (m.jm+1) 0]:=h.get (.tail _ (.head _))
    have hx:Zd [[AV.oref (m.jm+1) 0]] = .oref (m.jm+1) 0:=rfl
    rw [Zle,if_pos (by simp [cop];omega),Y4,Z1 hz,JF (j:=b) (o:=0) rfl hrx rfl (c:=.oref (m.jm+1) 0) rfl,Zo rfl,Zb (ne1 (ZA hx)),Zb (ne1 (ZA hx)),YU hmF hx,Zo rfl,Zb (ne1 (Vf hmF rfl)),Zcp hmF rfl,hf,Zb (ne1 (Zq e)),Zb (ne1 (Zq e)),Ka hmF he (c:=I e.p.parent) rfl,ZK,ZaQ (by omega)]
    rw [Kc] at hl ⊢
    by_cases hp:e.p.parent=id
    ·rw [if_pos hp] at hl ⊢
     rw [if_pos (by simp [cop,hp])]
     have hro:rows[b+1]? = Xa [JI o zs]:=h.get (.head _)
     have hco:Z0 [JI o zs]=Xb:=J6 (Y7 o zs)
     have hI:=Zux h ho
     have hcx:Zd [[JI o zs]]=JI o zs:=Zpb (Y7 o zs)
     have hpl:(Zc .plen [[JI o zs]] 0 E0 []).length=zs.length:=by
      have:=Kn (Zro hI) hcx
      omega
     simp only [UF,XL,XA,Xu] at hl
     obtain ⟨F1,ha1,ha2⟩:=Zvi h ho e.p.id (x:=[[JI o zs]]) (y:=[[.oref (b+1+1) 0]]) hcx rfl
     rw [JF (j:=b+1) (o:=0) rfl hro hco (c:=JI o zs) rfl,Zo (Y7 o zs),Zb (by simp),Zb (ne1 (Zkj hI hcx)),Zb (by unfold Jq ZB;rw [hpl];simp;omega),Zb ha2]
     have hrw:=ha1.get (j:=b+2) (row:=[.fnc 42 [b+1,b+1+1,b+2+1]]) (.tail _ (.tail _ (.head _)))
     rw [JF (j:=b+2) (o:=0) rfl hrw rfl (c:=.fnc 42 [b+1,b+1+1,b+2+1]) rfl,Zo rfl,Zb (by simp [Zc,Zd,ZO,okL])]
     have hc0:Zc (.pcap 0) [[AV.fnc 42 [b+1,b+1+1,b+2+1]]] 0 E0 [] = [[.oref (b+1) 0]]:=rfl
     have hc1:Zc (.pcap 1) [[AV.fnc 42 [b+1,b+1+1,b+2+1]]] 0 E0 [] = [[.oref (b+1+1) 0]]:=rfl
     have hc2:Zc (.pcap 2) [[AV.fnc 42 [b+1,b+1+1,b+2+1]]] 0 E0 [] = [[.oref (b+2+1) 0]]:=rfl
     rw [hc0,hc1,hc2]
     have hep:=hm.par e he
     have hab2:=Zk9 he (show id < e.p.id by omega)
     obtain ⟨rows2,F2,o2,t1,t2,t3⟩:=ih e.p.id (Xa rows.length) (zs++[e.p.id]) _ (F1++F) (by omega) (by simp;omega) ha1 (by simp [ook])
     rw [t1,Xi]
     obtain ⟨rows3,F3,o3,u1,u2,u3⟩:=ihk (pre++[e]) q' o2 (zs++[e.p.id]++JZ k m.es e.p.id) rows2 (F2++(F1++F)) (by rw [hs];simp) (by simp at hq;omega) (by simp at hl ⊢; omega) t2 t3
     rw [Y4,hl1] at u1
     have e1:zs++(e.p.id::Jx ks id).flatMap (fun c=>c::JZ k m.es c)=zs++[e.p.id]++JZ k m.es e.p.id++(Jx ks id).flatMap fun c=>c::JZ k m.es c:=by simp
     rw [e1]
     refine ⟨rows3,F3++(F2++F1),o3,u1,?_,u3⟩
     simp only [Xo] at u2 ⊢
     exact u2
    ·rw [if_neg hp] at hl ⊢
     rw [if_neg (by simp [cop,hp])]
     obtain ⟨rows3,F3,o3,u1,u2,u3⟩:=ihk (pre++[e]) q' o zs rows F (by rw [hs];simp) (by simp at hq;omega) hl h ho
     rw [Y4,hl1] at u1
     exact ⟨rows3,F3,o3,u1,u2,u3⟩
  have hmF:=w_m h
  have hrx:rows[b]? = Xa [.oref (m.jm+1) 0]:=h.get (.tail _ (.head _))
  have hp0:=(h.push [.omap (m.jq+1)])
  have hq:ZD (rows++[[.omap (m.jq+1)]]) (KN m b o zs ([(rows.length,[.omap (m.jq+1)])]++F)):=hp0.perm (by
   have:KN m b o zs ([(rows.length,[.omap (m.jq+1)])]++F)=([(b+1,[JI o zs]),(b,[.oref (m.jm+1) 0]),(b+2,[.fnc 42 [b+1,b+1+1,b+2+1]])]++Zgz o zs++m.frag)++(rows.length,[.omap (m.jq+1)])::F:=by simp [KN]
   rw [this]
   have h2:KN m b o zs F=([(b+1,[JI o zs]),(b,[.oref (m.jm+1) 0]),(b+2,[.fnc 42 [b+1,b+1+1,b+2+1]])]++Zgz o zs++m.frag)++F:=by simp [KN]
   rw [h2]
   exact List.perm_middle.symm)
  have hx:Zd [[AV.oref (m.jm+1) 0]] = .oref (m.jm+1) 0:=rfl
  have hgo:g42 (G42 (k+1)) id [[.oref (b+1) 0]] [[.oref (b+1+1) 0]] [[.oref (b+2+1) 0]] rows=g42 (F42 (G42 k)).S.g id [[.oref (b+1) 0]] [[.oref (b+1+1) 0]] [[.oref (b+2+1) 0]] rows:=rfl
  rw [hgo,ZuU,JF (j:=b) (o:=0) rfl hrx rfl (c:=.oref (m.jm+1) 0) rfl,Zo rfl,s29 hmF hm hx,Xi]
  have hl2:((m.ids).length:Int)=(m.es.length:Int):=by simp [MS.ids]
  obtain ⟨rows3,F3,o3,u1,u2,u3⟩:=loop m.es [] Jr o zs _ _ rfl (by have:=hm.len;unfold Jr;omega) hlen hq ho
  rw [hl2]
  refine ⟨rows3,F3++[(rows.length,[.omap (m.jq+1)])],o3,u1,?_,u3⟩
  rw [Xo]
  exact u2
end
section
open Go Go.AM Go.Proofs.Ytpjnmgjphfnmmaa
set_option maxRecDepth 100000
variable {rows:LL} {F:Ym} {m:MS}
def up (es:List PE):Nat→Int→Int→Nat
 | 0, _, _ => 0
 | n + 1, k, id => match es.find? (fun e => decide (e.p.id = k)) with | none => 0 | some e => (if e.p.parent = id then 1 else 0) + up es n e.p.parent id
theorem ZkE {α β:Type} (f:α→β→Nat) (l2:List β):∀ l1:List α,(l1.map fun a=>(l2.map fun b=>f a b).sum).sum=(l2.map fun b=>(l1.map fun a=>f a b).sum).sum
 | [] => by
  induction l2 with
  | nil => rfl
  | cons b l2 ih => simpa using ih
 | a :: l1 => by
  rw [Xh,Ue,ZkE f l2 l1]
  induction l2 with
  | nil => rfl
  | cons b l2 ih =>
   simp only [Xh,Ue] at ih ⊢
   omega
theorem Zjq {α:Type} (f g:α→Nat):∀ l:List α,(l.map fun a=>f a+g a).sum=(l.map f).sum+(l.map g).sum
 | [] => rfl
 | a :: l => by
  simp only [Xh,Ue,Zjq f g l]
  omega
theorem Zm2 {α:Type} (f:α→Nat):∀ l:List α,(∀ a∈l,f a≤1)→(l.map f).sum≤l.length
 | [], _ => Xz _
 | a :: l, h => by
  have h1:=h a (by simp)
  have h2:=Zm2 f l fun b hb=>h b (by simp [hb])
  simp only [Xh,Ue,XA]
  omega
theorem WR {α:Type} (f g:α→Nat):∀ l:List α,(∀ a∈l,f a=g a)→(l.map f).sum=(l.map g).sum
 | [], _ => rfl
 | a :: l, h => by
  have h2:=WR f g l fun b hb=>h b (by simp [hb])
  simp only [Xh,Ue,h2,h a (by simp)]
theorem Zl7 {es:List PE} (hs:es.Pairwise fun a b=>a.p.id < b.p.id) (q id:Int):((Jx es id).map fun c=>if q=c then 1 else 0).sum=match es.find? (fun e=>decide (e.p.id=q)) with | none=>0 | some e=>if e.p.parent=id then 1 else 0:=by
 induction es with
 | nil => rfl
 | cons a es ih =>
  rw [Ui] at hs
  rw [Kc]
  by_cases haq:a.p.id=q
  ·have h0:((Jx es id).map fun c=>if q=c then 1 else 0).sum=0:=by
    rw [ih hs.2,UT.2 fun e he=>?_]
    have:=hs.1 e he
    simp
    omega
   rw [Tb (by simp [haq])]
   by_cases hp:a.p.parent=id
   ·rw [if_pos hp,Xh,Ue,h0,if_pos haq.symm]
    simp [hp]
   ·rw [if_neg hp,h0]
    simp [hp]
  ·rw [Tc (by simp [haq])]
   by_cases hp:a.p.parent=id
   ·rw [if_pos hp,Xh,Ue,if_neg (fun h=>haq h.symm),XH]
    exact ih hs.2
   ·rw [if_neg hp]
    exact ih hs.2
theorem Zm0 {es:List PE} (hs:es.Pairwise fun a b=>a.p.id < b.p.id) (id:Int):∀ (n:Nat) (k:Int),((Jx es id).map fun c=>up es n k c).sum=match es.find? (fun e=>decide (e.p.id=k)) with | none=>0 | some e=>up es n e.p.parent id
 | 0, k => by
  have h0:((Jx es id).map fun c=>up es 0 k c).sum=0:=by
   induction Jx es id with
   | nil => rfl
   | cons c l ih => rw [Xh, Ue, ih]; rfl
  rw [h0]
  split<;>rfl
 | n + 1, k => by
  cases hf:es.find? (fun e=>decide (e.p.id=k)) with
  | none =>
   have h0:∀ c,up es (n+1) k c=0:=fun c=>by simp only [up,hf]
   dsimp only
   rw [WR _ (fun _=>0) _ fun c _=>h0 c]
   induction Jx es id with
   | nil => rfl
   | cons c l ih => rw [Xh, Ue, ih]
  | some e =>
   have h0:∀ c,up es (n+1) k c=(if e.p.parent=c then 1 else 0)+up es n e.p.parent c:=fun c=>by simp only [up,hf]
   dsimp only
   rw [WR _ (fun c=>(if e.p.parent=c then 1 else 0)+up es n e.p.parent c) _ fun c _=>h0 c,Zjq,Zl7 hs,Zm0 hs id n e.p.parent]
   rw [up]
   cases es.find? (fun a=>decide (a.p.id=e.p.parent)) with
   | none => rfl
   | some e' => rfl
theorem Z7 {es:List PE} (hs:es.Pairwise fun a b=>a.p.id < b.p.id) {e:PE} (he:e∈es):es.find? (fun a=>decide (a.p.id=e.p.id))=Xa e:=by
 obtain ⟨pre,post,rfl⟩:=List.append_of_mem he
 rw [Tl]
 refine ⟨by simp,pre,post,rfl,fun a ha=>?_⟩
 rw [Wt] at hs
 have:=hs.2.2 a ha e (by simp)
 simp
 omega
theorem Zpp (es:List PE) (id:Int):(Jx es id).length=(es.map fun e=>if e.p.parent=id then 1 else 0).sum:=by
 induction es with
 | nil => rfl
 | cons a es ih =>
  rw [Kc,Xh,Ue,← ih]
  by_cases hp:a.p.parent=id
  ·rw [if_pos hp,if_pos hp,XA];omega
  ·rw [if_neg hp,if_neg hp];omega
theorem ZkF (f:Int→List Int):∀ l:List Int,(l.flatMap fun c=>c::f c).length=l.length+(l.map fun c=>(f c).length).sum
 | [] => rfl
 | c :: l => by
  rw [UF,Xu,XA,ZkF f l,XA,Xh,Ue]
  omega
theorem Zgs {es:List PE} (hs:es.Pairwise fun a b=>a.p.id < b.p.id):∀ (n:Nat) (id:Int),(JZ n es id).length=(es.map fun e=>up es n e.p.id id).sum
 | 0, id => by
  show 0=_
  have:∀ l:List PE,(l.map fun e=>up es 0 e.p.id id).sum=0:=fun l=>by
   induction l with
   | nil => rfl
   | cons c l ih => rw [Xh, Ue, ih]; rfl
  rw [this]
 | n + 1, id => by
  rw [JZ,ZkF,WR _ (fun c=>(es.map fun e=>up es n e.p.id c).sum) _ fun c _=>Zgs hs n c,ZkE,Zpp,← Zjq]
  refine WR _ _ _ fun e he=>?_
  rw [Zm0 hs,up,Z7 hs he]
theorem ZrE {es:List PE} (hp:∀ e∈es,e.p.parent < e.p.id):∀ (n:Nat) (k id:Int),up es n k id≤if id < k then 1 else 0
 | 0, k, id => X9 _
 | n + 1, k, id => by
  rw [up]
  cases hf:es.find? (fun e=>decide (e.p.id=k)) with
  | none => exact X9 _
  | some e =>
   have h1:=hp e (Wa hf)
   have h2:e.p.id=k:=by have:=X4 hf;simpa using this
   have h3:=ZrE hp n e.p.parent id
   dsimp only
   by_cases hpi:e.p.parent=id
   ·rw [if_pos hpi,if_pos (by omega)]
    rw [if_neg (by omega)] at h3
    omega
   ·rw [if_neg hpi]
    by_cases h4:id < e.p.parent
    ·rw [if_pos h4] at h3
     rw [if_pos (by omega)]
     omega
    ·rw [if_neg h4] at h3
     omega
theorem ZoM (hm:m.Ok) (n:Nat) (id:Int):(JZ n m.es id).length≤64:=by
 rw [Zgs hm.srt]
 refine XK (Zm2 _ _ fun e _=>?_) hm.len
 have:=ZrE (es:=m.es) (fun a ha=>(hm.par a ha).2) n e.p.id id
 split at this<;>omega
theorem Zqs (hm:m.Ok) (id:Int):ZiO m.es id≤64:=XK (Un _ _) hm.len
def KI (es:List PE) (id:Int):List Int:=match es.find? (fun e=>decide (e.p.id=id)) with | none=>[] | some _=>srt (JZ 128 es id)
theorem s19 {x:LL} (h:ZD rows (m.frag++F)) (hm:m.Ok) (hx:Zd x = .oref (m.jm+1) 0) (id:Int) :
  ∃ rows' F' c,g19 x id rows=Xa ([[c]],rows')∧ZO c=Xb∧IsI rows' c (KI m.es id)∧((c = .osl 0 0 0)∨∃ j,c = .osl 3 (j+1) (KI m.es id).length∧rows'[j]? = Xa (Ju (KI m.es id))∧KI m.es id≠[]∧(j,Ju (KI m.es id))∈F')∧ZD rows' (m.frag++(F'++F)):=by
 have hw:∀ l:LL,Zc .pnew l 0 E0 [] = [[.oref (l.length+1) 0]]:=fun _=>rfl
 have hn1:Zd (Zc (.pnil 1) E0 0 E0 []) = .osl 0 0 0:=rfl
 have hn3:Zd (Zc (.pnil 3) E0 0 E0 []) = .fnc 0 []:=rfl
 have hlb1:(rows++[[AV.oref (m.jm+1) 0]]).length=rows.length+1:=by simp
 have hlb2:(rows++[[AV.oref (m.jm+1) 0]]++[[AV.osl 0 0 0]]).length=rows.length+2:=by simp
 have hfc:Zd (Zc (.pfnc 42) E0 0 [] [Zd [[AV.oref (rows.length+1) 0]],Zd [[AV.oref (rows.length+1+1) 0]],Zd [[AV.oref (rows.length+2+1) 0]]]) = .fnc 42 [rows.length+1,rows.length+1+1,rows.length+2+1]:=rfl
 have hp1:=h.push [.oref (m.jm+1) 0]
 have hp2:=hp1.push [.osl 0 0 0]
 have hp3:=hp2.push [.fnc 0 []]
 rw [hlb1] at hp3 hp2
 rw [hlb2] at hp3
 have hp4:=hp3.set [.fnc 42 [rows.length+1,rows.length+1+1,rows.length+2+1]]
 have hrw:(rows++[[AV.oref (m.jm+1) 0]]++[[AV.osl 0 0 0]]++[[AV.fnc 0 []]])[rows.length+2]? = Xa [AV.fnc 0 []]:=hp3.get (.head _)
 have hst:Zc .set (rows++[[AV.oref (m.jm+1) 0]]++[[AV.osl 0 0 0]]++[[AV.fnc 0 []]]) 0 [[AV.oref (rows.length+2+1) 0]] [.fnc 42 [rows.length+1,rows.length+1+1,rows.length+2+1]]=(rows++[[AV.oref (m.jm+1) 0]]++[[AV.osl 0 0 0]]++[[AV.fnc 0 []]]).set (rows.length+2) [.fnc 42 [rows.length+1,rows.length+1+1,rows.length+2+1]]:=by
  rw [Zam (o:=0) rfl hrw (by simp)]
  rfl
 rw [ZtH,hx,hn1,hn3,hw,hw,hw,hlb1,hlb2,hfc,hst]
 rw [Zb (by simp [Zc,Zd,ZO,okL]),Zb (by simp [Zc,Zd,ZO,okL]),Zb (by simp [Zc,Zd,ZO,okL]),Zb (by simp [Zc,Zd,ZO,okL]),Zb (by simp [Zc,Zd,ZO,okL]),Zb (by simp [Zc,Zd,ZO,okL]),
  Zb (by rw [JF (j:=rows.length+2) (o:=0) rfl hrw rfl (c:=.fnc 0 []) rfl];simp)]
 generalize (rows++[[AV.oref (m.jm+1) 0]]++[[AV.osl 0 0 0]]++[[AV.fnc 0 []]]).set (rows.length+2) [.fnc 42 [rows.length+1,rows.length+1+1,rows.length+2+1]]=r4 at hp4 ⊢
 have hwf:ZD r4 (KN m rows.length Xe [] F):=hp4.perm (by
  unfold KN Zgz JI
  rw [XM]
  exact (List.Perm.swap _ _ _).trans (List.Perm.cons _ (List.Perm.swap _ _ _)))
 have hmF:=w_m hwf
 have hrx:r4[rows.length]? = Xa [.oref (m.jm+1) 0]:=hwf.get (.tail _ (.head _))
 have hx':Zd [[AV.oref (m.jm+1) 0]] = .oref (m.jm+1) 0:=rfl
 rw [JF (j:=rows.length) (o:=0) rfl hrx rfl (c:=.oref (m.jm+1) 0) rfl,Zo rfl,Zb (ne1 (ZA hx')),Zb (ne1 (ZA hx')),YU hmF hx',Zo rfl,Zb (ne1 (Vf hmF rfl)),Zcp hmF rfl,Zb (ne1 (Kf _))]
 have hfd:m.es.find? (fun e=>decide (e.p.id=id))=m.find id:=rfl
 unfold KI
 rw [hfd]
 cases hf:m.find id with
 | none =>
  have hro:r4[rows.length+1]? = Xa [.osl 0 0 0]:=hwf.get (.head _)
  rw [K3,if_neg (by decide),JF (j:=rows.length+1) (o:=0) rfl hro rfl (c:=.osl 0 0 0) rfl,Zo rfl]
  have hs:g43 [[.osl 0 0 0]] r4=Xa r4:=rfl
  rw [hs,Xi,JF (j:=rows.length+1) (o:=0) rfl hro rfl (c:=.osl 0 0 0) rfl,Zo rfl]
  refine ⟨r4,[(rows.length+2,[.fnc 42 [rows.length+1,rows.length+1+1,rows.length+2+1]]),(rows.length+1,[.osl 0 0 0]),(rows.length,[.oref (m.jm+1) 0])],_,rfl,rfl,.inl ⟨rfl,rfl⟩,.inl rfl,?_⟩
  exact hp4.perm ((Ud [(rows.length+2,[AV.fnc 42 [rows.length+1,rows.length+1+1,rows.length+2+1]]),(rows.length+1,[AV.osl 0 0 0]),(rows.length,[AV.oref (m.jm+1) 0])] m.frag F))
 | some e =>
  have hrw4:=hwf.get (j:=rows.length+2) (row:=[.fnc 42 [rows.length+1,rows.length+1+1,rows.length+2+1]]) (.tail _ (.tail _ (.head _)))
  rw [Zq,if_pos (by decide),JF (j:=rows.length+2) (o:=0) rfl hrw4 rfl (c:=.fnc 42 [rows.length+1,rows.length+1+1,rows.length+2+1]) rfl,Zo rfl,Zb (by simp [Zc,Zd,ZO,okL])]
  have hc0:Zc (.pcap 0) [[AV.fnc 42 [rows.length+1,rows.length+1+1,rows.length+2+1]]] 0 E0 [] = [[.oref (rows.length+1) 0]]:=rfl
  have hc1:Zc (.pcap 1) [[AV.fnc 42 [rows.length+1,rows.length+1+1,rows.length+2+1]]] 0 E0 [] = [[.oref (rows.length+1+1) 0]]:=rfl
  have hc2:Zc (.pcap 2) [[AV.fnc 42 [rows.length+1,rows.length+1+1,rows.length+2+1]]] 0 E0 [] = [[.oref (rows.length+2+1) 0]]:=rfl
  have hab:=Zqs hm id
  have hdl:=ZoM hm 128 id
  obtain ⟨r5,F5,o5,t1,t2,t3⟩:=s42 m hm rows.length 128 id Xe [] r4 F (by omega) (by simp;omega) hwf rfl
  rw [XM] at t2 t3
  rw [hc0,hc1,hc2,t1,Xi]
  have hro:r5[rows.length+1]? = Xa [JI o5 (JZ 128 m.es id)]:=t2.get (.head _)
  have hco:Z0 [JI o5 (JZ 128 m.es id)]=Xb:=J6 (Y7 o5 _)
  rw [JF (j:=rows.length+1) (o:=0) rfl hro hco (c:=JI o5 (JZ 128 m.es id)) rfl,Zo (Y7 o5 _)]
  have hcx:Zd [[JI o5 (JZ 128 m.es id)]]=JI o5 (JZ 128 m.es id):=Zpb (Y7 o5 _)
  cases o5 with
  | none =>
   have hd0:JZ 128 m.es id = []:=t3
   have hs:g43 [[JI Xe (JZ 128 m.es id)]] r5=Xa r5:=rfl
   rw [hs,Xi,JF (j:=rows.length+1) (o:=0) rfl hro hco (c:=JI Xe (JZ 128 m.es id)) rfl,Zo rfl]
   have hsr:srt (JZ 128 m.es id) = []:=by rw [hd0];simp [srt]
   dsimp only
   refine ⟨r5,[(rows.length+1,[AV.osl 0 0 0]),(rows.length,[AV.oref (m.jm+1) 0]),(rows.length+2,[AV.fnc 42 [rows.length+1,rows.length+1+1,rows.length+2+1]])]++F5,_,rfl,rfl,.inl ⟨rfl,hsr⟩,.inl rfl,?_⟩
   rw [Xo]
   exact t2.perm (Ud [(rows.length+1,[AV.osl 0 0 0]),(rows.length,[AV.oref (m.jm+1) 0]),(rows.length+2,[AV.fnc 42 [rows.length+1,rows.length+1+1,rows.length+2+1]])] m.frag (F5++F))
  | some j =>
   have hd0:JZ 128 m.es id≠[]:=t3
   have hrj:r5[j]? = Xa (Ju (JZ 128 m.es id)):=t2.get (by simp [KN,Zgz])
   rw [s43 (j:=j) (zs:=JZ 128 m.es id) hcx hrj hd0 (by omega),Xi]
   have hp:(KN m rows.length (Xa j) (JZ 128 m.es id) (F5++F)).Perm ((j,Ju (JZ 128 m.es id))::((rows.length+1,[JI (Xa j) (JZ 128 m.es id)])::(rows.length,[.oref (m.jm+1) 0])::(rows.length+2,[.fnc 42 [rows.length+1,rows.length+1+1,rows.length+2+1]])::(m.frag++(F5++F)))):=by
    unfold KN Zgz
    exact UX (l₁:=[(rows.length+1,[JI (Xa j) (JZ 128 m.es id)]),(rows.length,[.oref (m.jm+1) 0]),(rows.length+2,[.fnc 42 [rows.length+1,rows.length+1+1,rows.length+2+1]])])
   have h6:=(t2.perm hp).set (Ju (srt (JZ 128 m.es id)))
   have hro6:=h6.get (j:=rows.length+1) (row:=[JI (Xa j) (JZ 128 m.es id)]) (.tail _ (.head _))
   rw [JF (j:=rows.length+1) (o:=0) rfl hro6 hco (c:=JI (Xa j) (JZ 128 m.es id)) rfl,Zo (Y7 _ _)]
   have hsl:=ZaE (JZ 128 m.es id)
   have hsn:srt (JZ 128 m.es id)≠[]:=fun hh=>by
    rw [hh] at hsl
    exact hd0 (Ty.1 hsl.symm)
   have hoc:JI (Xa j) (JZ 128 m.es id) = .osl 3 (j+1) (srt (JZ 128 m.es id)).length:=by rw [hsl];rfl
   dsimp only
   refine ⟨_,(j,Ju (srt (JZ 128 m.es id)))::(rows.length+1,[JI (Xa j) (JZ 128 m.es id)])::(rows.length,[.oref (m.jm+1) 0])::(rows.length+2,[.fnc 42 [rows.length+1,rows.length+1+1,rows.length+2+1]])::F5,_,rfl,rfl,.inr ⟨j,[],hoc,?_,?_⟩,.inr ⟨j,hoc,?_,hsn,.head _⟩,?_⟩
   ·rw [XJ]
    exact h6.get (.head _)
   ·rw [XJ]
    intro hh
    exact hsn (List.map_eq_nil_iff.1 hh)
   ·exact h6.get (.head _)
   ·exact h6.perm (Ud [(j,Ju (srt (JZ 128 m.es id))),(rows.length+1,[JI (Xa j) (JZ 128 m.es id)]),(rows.length,[.oref (m.jm+1) 0]),(rows.length+2,[.fnc 42 [rows.length+1,rows.length+1+1,rows.length+2+1]])] m.frag (F5++F))
theorem ZgC (hm:m.Ok) (id:Int):(KI m.es id).length≤64:=by
 unfold KI
 split
 ·exact X9 _
 ·rw [ZaE]
  exact ZoM hm 128 id
def VD (es:List PE) (id target:Int):(List PE×List ZiY)×Int:=
 match J1 es id with
 | none => ((es, []), 17)
 | some _ =>
  match J1 es target with
  | none => ((es, []), 17)
  | some _ => if target = id ∨ target ∈ KI es id then (Zi (-1) es (target :: KI es target), 0) else ((es, []), 8)
theorem s21 {x:LL} (h:ZD rows (m.frag++F)) (hm:m.Ok) (hx:Zd x = .oref (m.jm+1) 0) (id target:Int) :
  ∃ rows' F',g21 x id target rows=Xa (ZU (VD m.es id target).1.2,(VD m.es id target).2,rows')∧ZD rows' (({ m with es:=(VD m.es id target).1.1 } : MS).frag++(F'++F))∧({ m with es:=(VD m.es id target).1.1 } : MS).Ok:=by
 rw [Zt3,s27 h hx,Xi,Zb (ne1 (Kf _)),ZbA]
 unfold VD
 cases ho:J1 m.es id with
 | none =>
  rw [K3,if_pos (by decide)]
  exact ⟨rows,[],rfl,h,hm⟩
 | some e =>
  rw [Zq,if_neg (by decide)]
  dsimp only
  rw [s27 h hx,Xi,Zb (ne1 (Kf _)),ZbA]
  cases ht:J1 m.es target with
  | none =>
   rw [K3,if_pos (by decide)]
   exact ⟨rows,[],rfl,h,hm⟩
  | some t =>
   rw [Zq,if_neg (by decide)]
   dsimp only
   -- the end of it
   have fin:∀ (r1:LL) (F1:Ym),ZD r1 (m.frag++(F1++F))→∃ rows' F',((g19 x target r1).bind fun (r12:LL×LL)=>
     Zf ((Zc (.vchk 3 1) r12.2 0 r12.1 [])≠[])<|
     Zf (Jq (E0++[[AV.val (.int .i64 target)]]) (Zc (.view 1) r12.2 0 r12.1 []) 8)<|
     (g45 x ((E0++[[AV.val (.int .i64 target)]])++(Zc (.view 1) r12.2 0 r12.1 [])) (-1) r12.2).bind fun (r14:LL×LL)=>
     Xa (r14.1,(0:Int),r14.2))=Xa (ZU (Zi (-1) m.es (target::KI m.es target)).2,0,rows')∧ZD rows' (({ m with es:=(Zi (-1) m.es (target::KI m.es target)).1 } : MS).frag++(F'++F))∧({ m with es:=(Zi (-1) m.es (target::KI m.es target)).1 } : MS).Ok:=fun r1 F1 h1=>by
    obtain ⟨r2,F2,c,q1,q2,q3,q4,q5⟩:=s19 h1 hm hx target
    have hdl:=ZgC hm target
    rw [q1,Xi]
    dsimp only
    have hcx:Zd [[c]]=c:=Zpb q2
    have hv:Zc (.vchk 3 1) r2 0 [[c]] [] = [[]]:=by
     rcases q4 with rfl | ⟨j,rfl,hr,hn⟩
     ·simp [Zc,Zd,ZO,Zdh,okL]
     ·refine Zkj (k:=0) (zs:=KI m.es target) (.inr ⟨j,rfl,by simpa using hr,fun hh=>?_⟩) rfl
      simp [Ju] at hh
      exact hn.1 hh
    have hint:(E0++[[AV.val (.int .i64 target)]])++ints (KI m.es target)=ints (target::KI m.es target):=rfl
    rw [Zb (ne1 hv),Zqe q3 hcx,Zb (by unfold Jq ZB;simp;omega),hint]
    obtain ⟨r3,F3,t1,t2,t3⟩:=s45 (zs:=target::KI m.es target) (by simp;omega) (-1) q5 hm hx
    rw [t1]
    refine ⟨r3,F3++(F2++F1),rfl,?_,t3⟩
    simp only [Xo] at t2 ⊢
    exact t2
   by_cases hti:target=id
   ·rw [if_neg (by simp [cop,hti]),if_pos (.inl hti)]
    exact fin rows [] h
   ·rw [if_pos (by simp [cop,hti])]
    obtain ⟨r2,F2,c,q1,q2,q3,q4,q5⟩:=s19 h hm hx id
    have hdl:=ZgC hm id
    have hcx:Zd [[c]]=c:=Zpb q2
    rw [q1,Xi]
    dsimp only
    rw [s44 q3 hcx (by omega) target,Xi]
    dsimp only
    by_cases hin:target∈KI m.es id
    ·rw [decide_eq_true hin,if_neg (by decide),if_pos (.inr hin)]
     exact fin r2 F2 q5
    ·rw [decide_eq_false hin,if_pos (by decide),if_neg (fun hh=>hh.elim hti hin)]
     exact ⟨r2,F2,rfl,q5,hm⟩
end
open Go Go.AM Go.Proofs.Ytpjnmgjphfnmmaa
set_option maxRecDepth 100000
def Zen (z:Int):Bool:=decide (97≤z∧z≤122∨65≤z∧z≤90∨z=95)
def Zik (z:Int):Bool:=decide (48≤z∧z≤57)
def chr (s:ByteArray) (i:Nat):Int:=((s.data.toList.getD i 0).toNat:Int)
def Zis (s:ByteArray):Nat→Nat→Bool
 | _, 0 => Xb
 | i, n + 1 => (Zen (chr s i) || Zik (chr s i)) && Zis s (i + 1) n
def Zo7 (s:ByteArray):Nat→Nat→Nat
 | i, 0 => i
 | i, n + 1 => if (Zen (chr s i) || Zik (chr s i)) = Xb then Zo7 s (i + 1) n else i
def Zgh (s:ByteArray):Bool:=decide (s.size≠0)&&(Zen (chr s 0)&&(Zis s 0 s.size&&decide (s.size≤24)))
theorem Zj8 (z:Int):(if (cop .geq z 97)=Xb then
 if (cop .leq z 122)=Xb then
 Xa (Xb)
 else
 if (cop .geq z 65)=Xb then
 if (cop .leq z 90)=Xb then
 Xa (Xb)
 else
 Xa ((cop .eql z 95))
 else
 Xa ((cop .eql z 95))
 else
 if (cop .geq z 65)=Xb then
 if (cop .leq z 90)=Xb then
 Xa (Xb)
 else
 Xa ((cop .eql z 95))
 else
 Xa ((cop .eql z 95)))=Xa (Zen z):=by
  unfold Zen
  simp only [cop,decide_eq_true_eq]
  by_cases h1:97≤z<;>by_cases h2:z≤122<;>by_cases h3:65≤z<;>by_cases h4:z≤90<;>by_cases h5:z=95<;>simp [h1,h2,h3,h4,h5]<;>omega
theorem ZjL (z:Int):(if (cop .geq z 48)=Xb then
 Xa ((cop .leq z 57))
 else
 Xa (Xc))=Xa (Zik z):=by
  unfold Zik
  simp only [cop,decide_eq_true_eq]
  by_cases h1:48≤z<;>by_cases h2:z≤57<;>simp [h1,h2]
theorem s66 (z:Int):g66 z=Xa (Zen z):=by rw [ZtT];exact Zj8 z
theorem s86 (z:Int):g86 z=Xa (Zen z):=by rw [ZtU];exact Zj8 z
theorem s84 (z:Int):g84 z=Xa (Zik z):=by rw [Zuh];exact ZjL z
theorem s87 (z:Int):g87 z=Xa (Zik z):=by rw [ZtQ];exact ZjL z
theorem Zuv {i:Nat} (h:i≤1048576):iop .add .i64 (i:Int) 1=((i+1:Nat):Int):=by
 rw [ZmP (by omega) (by omega)]
 omega
theorem ZjB (s:ByteArray) (hs:s.size≤1000000):∀ (n i k:Nat),i+n=s.size→n < k→Zm9 k s (i:Int)=Xa ((Zo7 s i n:Nat):Int)
 | 0, i, k, hi, hk => by
  obtain ⟨k',rfl⟩:∃ k',k=k'+1:=⟨k-1,by omega⟩
  rw [ZkX,if_neg (by simp [cop];omega)]
  rfl
 | n + 1, i, k, hi, hk => by
  obtain ⟨k',rfl⟩:∃ k',k=k'+1:=⟨k-1,by omega⟩
  have ih:=ZjB s hs n (i+1) k' (by omega) (by omega)
  rw [ZkX,if_pos (by simp [cop];omega),Zb (by omega),Zb (by omega),s66,Xi,Zuv (by omega),ih,Zb (by omega),Zb (by omega),s84,Xi,Ws]
  rw [show Zo7 s i (n+1)=if (Zen (chr s i)||Zik (chr s i))=Xb then Zo7 s (i+1) n else i from rfl]
  show (if Zen (chr s i)=Xb then _ else if Zik (chr s i)=Xb then _ else _)=_
  cases Zen (chr s i)<;>cases Zik (chr s i)<;>rfl
theorem ZkZ (s:ByteArray) (hs:s.size≤1000000):∀ (n i k:Nat),i+n=s.size→n < k→Zlv k s (i:Int)=Xa (Zis s i n)
 | 0, i, k, hi, hk => by
  obtain ⟨k',rfl⟩:∃ k',k=k'+1:=⟨k-1,by omega⟩
  rw [Zla,if_neg (by simp [cop];omega)]
  rfl
 | n + 1, i, k, hi, hk => by
  obtain ⟨k',rfl⟩:∃ k',k=k'+1:=⟨k-1,by omega⟩
  have ih:=ZkZ s hs n (i+1) k' (by omega) (by omega)
  rw [Zla,if_pos (by simp [cop];omega),Zb (by omega),Zb (by omega),s86,Xi,Zuv (by omega),ih,Zb (by omega),Zb (by omega),s87,Xi,Ws]
  rw [show Zis s i (n+1)=((Zen (chr s i)||Zik (chr s i))&&Zis s (i+1) n) from rfl]
  show (if (!Zen (chr s i))=Xb then (if (!Zik (chr s i))=Xb then _ else _) else _)=_
  cases Zen (chr s i)<;>cases Zik (chr s i)<;>rfl
theorem Znb (s:ByteArray):∀ (n i:Nat),i≤Zo7 s i n∧(Zo7 s i n=i+n↔Zis s i n=Xb)
 | 0, i => ⟨Xz _, by simp [Zo7, Zis]⟩
 | n + 1, i => by
  obtain ⟨h1,h2⟩:=Znb s n (i+1)
  rw [show Zo7 s i (n+1)=if (Zen (chr s i)||Zik (chr s i))=Xb then Zo7 s (i+1) n else i from rfl,show Zis s i (n+1)=((Zen (chr s i)||Zik (chr s i))&&Zis s (i+1) n) from rfl]
  cases (Zen (chr s i)||Zik (chr s i)) with
  | true =>
   simp only [if_true,X8]
   exact ⟨by omega,by rw [← h2];omega⟩
  | false => simp
theorem Zif (s:ByteArray):(ByteArray.toList s == ByteArray.toList (⟨#[]⟩:ByteArray))=decide (s.size=0):=by
 rw [ByteArray.toList_eq,ByteArray.toList_eq]
 have:s.size=s.data.toList.length:=rfl
 rw [this]
 cases s.data.toList<;>simp
theorem s28 (s:ByteArray) (hs:s.size≤1000000):g28 s=Xa (Zgh s):=by
 have h67:g67 s=Xa ((Zo7 s 0 s.size:Nat):Int):=by
  rw [Zut]
  exact ZjB s hs s.size 0 Jr (by omega) (by unfold Jr;omega)
 obtain ⟨h1,h2⟩:=Znb s s.size 0
 rw [Zul,Zt5,Zif]
 unfold Zgh
 by_cases h0:s.size=0
 ·rw [if_neg (by simp [h0])]
  simp [h0]
 ·rw [if_pos (by simp [h0]),Zb (by decide),Zb (by omega),s66,Xi,h67]
  show (if Zen (chr s 0)=Xb then _ else _:Option Bool).bind _=_
  rw [decide_eq_true h0,X8]
  cases Zen (chr s 0) with
  | false => rfl
  | true =>
   rw [if_pos rfl,Xi,Xi,X8]
   cases ha:Zis s 0 s.size with
   | true =>
    have:=h2.2 ha
    rw [if_pos (by simp [cop];omega),X8]
    congr 1
    simp [cop]
    omega
   | false =>
    rw [if_neg]
    ·rfl
    ·intro hh
     simp [cop] at hh
     rw [h2.1 (by omega)] at ha
     cases ha
theorem s56 (s:ByteArray) (hs:s.size≤1000000):g56 s=Xa (Zgh s):=by
 rw [Zt4,ZtP,Zif]
 unfold Zgh
 by_cases h0:s.size=0
 ·rw [if_pos (by simp [h0])]
  simp [h0]
 ·have h70:Zlv Jr s 1=Xa (Zis s 1 (s.size-1)):=ZkZ s hs (s.size-1) 1 Jr (by omega) (by unfold Jr;omega)
  rw [if_neg (by simp [h0]),Zb (by decide),Zb (by omega),s86,Xi,h70]
  show (if (!Zen (chr s 0))=Xb then _ else _:Option Bool).bind _=_
  rw [decide_eq_true h0,X8]
  have ha:Zen (chr s 0)=Xb→Zis s 0 s.size=Zis s 1 (s.size-1):=fun hl=>by
   obtain ⟨n,hn⟩:∃ n,s.size=n+1:=⟨s.size-1,by omega⟩
   rw [hn]
   show ((Zen (chr s 0)||Zik (chr s 0))&&Zis s 1 n)=_
   rw [hl]
   simp
  cases hl:Zen (chr s 0) with
  | false => rfl
  | true =>
   rw [if_neg (by decide),Xi,X8,ha hl]
   cases Zis s 1 (s.size-1) with
   | true =>
    rw [if_pos rfl,X8]
    congr 1
    simp [cop]
    omega
   | false => rfl
section
open Go Go.AM Go.Proofs.Ytpjnmgjphfnmmaa
set_option maxRecDepth 100000
variable {rows:LL} {F:Ym}
def VB (e:PE):List AV:=[I e.p.id,I e.p.parent,.val (.string e.p.name),.slice Xc 1 (ints e.p.cores),B e.p.ended,I e.p.status,B e.p.waiting]
structure RS where
 jr:Nat
 ja:Nat
 es:List PE
 last:Int
variable {r:RS}
def RS.head (r:RS):List AV:=[.osl 57 (r.ja+1) r.es.length,I r.last]
def RS.arr (r:RS):List AV:=(r.es.map VB).flatten
def RS.frag (r:RS):Ym:=[(r.jr,r.head),(r.ja,r.arr)]
structure LOk (es:List PE) (last:Int):Prop where
 srt:es.Pairwise fun a b=>a.p.id < b.p.id
 rng:∀ e∈es,1≤e.p.id∧e.p.id≤last
 par:∀ e∈es,0≤e.p.parent∧e.p.parent < e.p.id
 len:es.length≤64
 lst:last≤1048576
 one:∃ e∈es,e.p.id=1
theorem ZfS (e:PE):(VB e).length=7:=rfl
theorem KB (es:List PE):(es.map VB).flatten.length=es.length*7:=by
 induction es with
 | nil => rfl
 | cons e es ih => rw [Xh, X5, Xu, ih, ZfS, XA]; omega
theorem Zbp (es:List PE) {pre post:List PE} {e:PE} (hs:es=pre++e::post):(es.map VB).flatten=(pre.map VB).flatten++(VB e++(post.map VB).flatten):=by
 rw [hs,XN,Xh,List.flatten_append,X5]
theorem ZaD {es:List PE} (h:es≠[]):Z0 (es.map VB).flatten=Xb:=by
 cases es with
 | nil => exact absurd rfl h
 | cons e es => rfl
theorem ZoI (h:ZD rows (r.frag++F)):rows[r.jr]? = Xa r.head:=h.get (by simp [RS.frag])
theorem ZmE (h:ZD rows (r.frag++F)):rows[r.ja]? = Xa r.arr:=h.get (by simp [RS.frag])
theorem KD {x:LL} (h:ZD rows (r.frag++F)) (hx:Zd x = .oref (r.jr+1) 0):Zc (.get 1) rows 0 (Zc (.padd 0) x 0 E0 []) [] = [[.osl 57 (r.ja+1) r.es.length]]:=by
 rw [YK hx]
 exact JF rfl (ZoI h) rfl rfl
theorem ZnA {x:LL} (h:ZD rows (r.frag++F)) (hx:Zd x = .oref (r.jr+1) 0):Zc (.get 1) rows 0 (Zc (.padd 1) x 0 E0 []) [] = [[I r.last]]:=by
 rw [YK hx]
 exact JF rfl (ZoI h) rfl rfl
theorem Zai (a n:Nat):Zc .pisl [[.osl 57 (a+1) n]] 0 E0 [] = [[]]:=by simp [Zc,Zd,ZO,okL]
theorem YA (a n:Nat):((Zc .plen [[.osl 57 (a+1) n]] 0 E0 []).length:Int)=(n:Int):=by simp [Zc,Zd,ZO]
theorem Zhe (a n i:Nat):Zc (.pidx 7) [[.osl 57 (a+1) n]] (i:Int) [] [] = [[.oref (a+1) (i*7)]]:=by simp [Zc,Zd,ZO,pJ]
abbrev rn (r:RS) (i:Nat):LL:=[[.oref (r.ja+1) (i*7)]]
theorem ZN (r:RS) (i:Nat):Zc .pnn (rn r i) 0 E0 [] = [[]]:=ZA rfl
theorem YP (r:RS) (i:Nat):Zc .pisr (rn r i) 0 E0 [] = [[]]:=ZqW rfl
theorem Km:Zc .pisr [[.oref 0 0]] 0 E0 [] = [[]]:=Znf rfl
theorem VN:Zc .pnn [[.oref 0 0]] 0 E0 [] = []:=Zrv rfl
theorem Zsk {es pre post:List PE} {e:PE} (hs:es=pre++e::post) {o:Nat} {c:AV} (hc:(VB e)[o]? = Xa c):((es.map VB).flatten)[pre.length*7+o]? = Xa c:=by
 rw [Zbp es hs]
 have hl:=KB pre
 have ho:o < (VB e).length:=(Xk.1 hc).1
 rw [Xy (by omega),hl,UL,Xx ho,hc]
theorem YY (h:ZD rows (r.frag++F)) {pre post:List PE} {e:PE} (hs:r.es=pre++e::post) {o:Nat} {c:AV} (hc:(VB e)[o]? = Xa c):Zc (.get 1) rows 0 (Zc (.padd o) (rn r pre.length) 0 E0 []) [] = [[c]]:=by
 rw [YK (j:=r.ja+1) (o:=pre.length*7) rfl]
 exact JF rfl (ZmE h) (ZaD (by rw [hs];simp)) (Zsk hs hc)
theorem Zuj (h:ZD rows (r.frag++F)) {pre post:List PE} {e:PE} (hs:r.es=pre++e::post):Zc (.get 7) rows 0 (rn r pre.length) [] = [VB e]:=by
 have hl:=KB pre
 have hc:Z0 r.arr=Xb:=ZaD (by rw [hs];simp)
 have hrl:r.arr.length=r.es.length*7:=KB r.es
 have hel:r.es.length=pre.length+post.length+1:=by rw [hs];simp;omega
 simp only [Zc,Zd,ZO,ZnX,Jh (ZmE h),hc,X8]
 rw [decide_eq_true (by omega)]
 dsimp only
 have:(r.arr.drop (pre.length*7)).take 7=VB e:=by
  unfold RS.arr
  rw [Zbp r.es hs,List.drop_left' hl,List.take_left' (ZfS e)]
 rw [this]
theorem Zet (h:ZD rows (r.frag++F)) {pre post:List PE} {e e':PE} (hs:r.es=pre++e::post) {o:Nat} {c:AV} (ho:o < 7) (he:(VB e).set o c=VB e') :
  ZD (Zc .set rows 0 (Zc (.padd o) (rn r pre.length) 0 E0 []) [c]) (({ r with es:=pre++e'::post } : RS).frag++F):=by
 rw [YK (j:=r.ja+1) (o:=pre.length*7) rfl]
 have hl:=KB pre
 have hrl:r.arr.length=r.es.length*7:=KB r.es
 have hel:r.es.length=pre.length+post.length+1:=by rw [hs];simp;omega
 rw [Zam rfl (ZmE h) (by omega)]
 have hset:r.arr.set (pre.length*7+o) c=({ r with es:=pre++e'::post } : RS).arr:=by
  unfold RS.arr
  rw [Zbp r.es hs,Zbp (pre++e'::post) rfl,Tx _ _ (by omega),hl,UL,List.set_append_left _ _ (by rw [ZfS];exact ho),he]
 rw [hset]
 have hh:({ r with es:=pre++e'::post } : RS).head=r.head:=by
  unfold RS.head
  rw [hs]
  simp
 have h2:=(h.perm (List.Perm.swap _ _ _)).set ({ r with es:=pre++e'::post } : RS).arr
 refine (h2.perm (List.Perm.swap _ _ _)).perm ?_
 have:({ r with es:=pre++e'::post } : RS).frag++F=(r.jr,({ r with es:=pre++e'::post } : RS).head)::(r.ja,({ r with es:=pre++e'::post } : RS).arr)::F:=rfl
 rw [this,hh]
 exact List.Perm.refl _
theorem ZfE {x:LL} (h:ZD rows (r.frag++F)) (hl:r.es.length≤100) (hx:Zd x = .oref (r.jr+1) 0) (k:Int):∀ (ks pre:List PE) (q:Nat),r.es=pre++ks→ks.length < q→
  (∀ p e s,ks=p++e::s→e.p.id=k→(∀ a∈p,a.p.id≠k)→Zoo q x k (pre.length:Int) rows=Xa (rn r (pre++p).length,rows))∧((∀ a∈ks,a.p.id≠k)→Zoo q x k (pre.length:Int) rows=Xa ([[.oref 0 0]],rows))
 | [], pre, q, hs, hq => by
  obtain ⟨q',rfl⟩:∃ q',q=q'+1:=⟨q-1,by simp at hq;omega⟩
  rw [XJ] at hs
  refine ⟨fun p e s hh=>by simp at hh,fun _=>?_⟩
  rw [Zkp,Zb (ne1 (ZA hx)),Zb (ne1 (ZA hx)),KD h hx,Zo rfl,Zb (ne1 (Zai _ _)),YA,hs,if_neg (by simp [cop])]
  rfl
 | a :: ks, pre, q, hs, hq => by
  obtain ⟨q',rfl⟩:∃ q',q=q'+1:=⟨q-1,by simp at hq;omega⟩
  have hel:r.es.length=pre.length+ks.length+1:=by rw [hs];simp;omega
  have hl1:((pre++[a]).length:Int)=((pre.length+1:Nat):Int):=by simp
  obtain ⟨ih1,ih2⟩:=ZfE h hl hx k ks (pre++[a]) q' (by rw [hs];simp) (by simp at hq;omega)
  rw [hl1] at ih1 ih2
  rw [Zkp,Zb (ne1 (ZA hx)),Zb (ne1 (ZA hx)),KD h hx,Zo rfl,Zb (ne1 (Zai _ _)),YA,if_pos (by simp [cop];omega),Zb (ne1 (ZA hx)),Zb (ne1 (ZA hx)),Zo rfl,Zb (by omega),YA,Zb (by omega),Zhe,Zb (ne1 (ZN r _)),YY h hs (c:=I a.p.id) rfl,ZK,ZaQ (by omega)]
  by_cases hk:a.p.id=k
  ·rw [if_pos (by simp [cop,hk]),Zb (ne1 (ZA hx)),Zb (ne1 (ZA hx)),Zo rfl,Zb (by omega),YA,Zb (by omega),Zhe]
   refine ⟨fun p e s hh hek hp=>?_,fun hh=>absurd hk (hh a (by simp))⟩
   cases p with
   | nil => simp
   | cons b p =>
    rw [XL,List.cons.injEq] at hh
    exact absurd (hh.1 ▸ hk) (hp b (by simp))
  ·rw [if_neg (by simp [cop,hk])]
   refine ⟨fun p e s hh hek hp=>?_,fun hh=>ih2 fun b hb=>hh b (by simp [hb])⟩
   cases p with
   | nil =>
    rw [XM,List.cons.injEq] at hh
    exact absurd hek (hh.1 ▸ hk)
   | cons b p =>
    rw [XL,List.cons.injEq] at hh
    have:=ih1 p e s hh.2 hek fun c hc=>hp c (by simp [hc])
    rw [hh.1] at this
    rw [this]
    simp
theorem ZkD {x:LL} (h:ZD rows (r.frag++F)) (hl:r.es.length≤100) (hx:Zd x = .oref (r.jr+1) 0) {k:Int} (hf:r.es.find? (fun e=>decide (e.p.id=k))=Xe):g60 x k rows=Xa ([[.oref 0 0]],rows):=by
 rw [Zrm]
 exact (ZfE h hl hx k r.es [] Jr rfl (by unfold Jr;omega)).2 fun a ha=>by simpa using UT.1 hf a ha
theorem VI {x:LL} (h:ZD rows (r.frag++F)) (hl:r.es.length≤100) (hx:Zd x = .oref (r.jr+1) 0) {pre post:List PE} {e:PE} (hs:r.es=pre++e::post) (hp:∀ a∈pre,a.p.id≠e.p.id):g60 x e.p.id rows=Xa (rn r pre.length,rows):=by
 rw [Zrm]
 have:=(ZfE h hl hx e.p.id r.es [] Jr rfl (by unfold Jr;omega)).1 pre e post hs rfl hp
 simpa using this
theorem JX {es:List PE} {k:Int} {e:PE} (h:es.find? (fun e=>decide (e.p.id=k))=Xa e):∃ pre post,es=pre++e::post∧e.p.id=k∧∀ a∈pre,a.p.id≠e.p.id:=by
 obtain ⟨h1,pre,post,h2,h3⟩:=Tl.1 h
 have h1':e.p.id=k:=by simpa using h1
 exact ⟨pre,post,h2,h1',fun a ha=>by have:=h3 a ha;rw [h1'];simpa using this⟩
theorem VG {x:LL} (h:ZD rows (r.frag++F)) (hl:r.es.length≤100) (hx:Zd x = .oref (r.jr+1) 0) {k:Int} (hf:J1 r.es k=Xe):g55 x k rows=Xa ([[.oref 0 0]],rows):=by
 unfold J1 at hf
 rw [Zrb]
 cases hq:r.es.find? (fun e=>decide (e.p.id=k)) with
 | none =>
  rw [ZkD h hl hx hq,Xi]
  dsimp only
  rw [Zb (ne1 Km),VN]
  rfl
 | some e =>
  obtain ⟨pre,post,hs,rfl,hp⟩:=JX hq
  rw [hq] at hf
  dsimp only at hf
  have hen:e.p.ended=Xb:=by
   cases he:e.p.ended with
   | true => rfl
   | false => rw [he] at hf; simp at hf
  rw [VI h hl hx hs hp,Xi]
  dsimp only
  rw [Zb (ne1 (YP r _)),ZN,if_pos (by decide),Zb (by simp),Zb (by simp),YY h hs (c:=B e.p.ended) rfl,JR,hen]
  rfl
theorem KR {x:LL} (h:ZD rows (r.frag++F)) (hl:r.es.length≤100) (hx:Zd x = .oref (r.jr+1) 0) {pre post:List PE} {e:PE} (hs:r.es=pre++e::post) (hp:∀ a∈pre,a.p.id≠e.p.id) (hen:e.p.ended=Xc):g55 x e.p.id rows=Xa (rn r pre.length,rows):=by
 rw [Zrb,VI h hl hx hs hp,Xi]
 dsimp only
 rw [Zb (ne1 (YP r _)),ZN,if_pos (by decide),Zb (by simp),Zb (by simp),YY h hs (c:=B e.p.ended) rfl,JR,hen]
 rfl
theorem s54 (z:Int):g54 z=Xa (decide (0≤z∧z < 32)):=by
 rw [Zuk]
 by_cases h1:0≤z
 ·rw [if_pos (by simp [cop,h1])]
  by_cases h2:z < 32<;>simp [cop,h1,h2]
 ·rw [if_neg (by simp [cop];omega)]
  simp [h1]
theorem s32 {z:Int} (hz:0≤z∧z < 32) (h:ZD rows F):∃ r:RS,∃ rows',g32 z rows=Xa ([[.oref (r.jr+1) 0]],0,rows')∧ZD rows' (r.frag++F)∧r.es = [⟨0,Xe,Wq z⟩]∧r.last=1:=by
 have h1:=h.push (VB ⟨0,Xe,Wq z⟩)
 have h2:=h1.push [.osl 57 (rows.length+1) 1,I 1]
 refine ⟨⟨rows.length+1,rows.length,[⟨0,Xe,Wq z⟩],1⟩,rows++[VB ⟨0,Xe,Wq z⟩]++[[.osl 57 (rows.length+1) 1,I 1]],?_,?_,rfl,rfl⟩
 ·rw [ZuK,s54,Xi,decide_eq_true hz,if_neg (by decide)]
  have hl:(rows++[VB ⟨0,Xe,Wq z⟩]).length=rows.length+1:=by simp
  have hw:Zc .pnew (rows++[VB ⟨0,Xe,Wq z⟩]) 0 E0 [] = [[.oref (rows.length+1+1) 0]]:=by
   show [[AV.oref ((rows++[VB ⟨0,Xe,Wq z⟩]).length+1) 0]]=_
   rw [hl]
  show Xa (Zc .pnew (rows++[VB ⟨0,Xe,Wq z⟩]) 0 E0 [],_)=_
  rw [hw]
  rfl
 ·have hl:(rows++[VB ⟨0,Xe,Wq z⟩]).length=rows.length+1:=by simp
  rw [hl] at h2
  have e1:(⟨rows.length+1,rows.length,[⟨0,Xe,Wq z⟩],1⟩:RS).frag++F=(rows.length+1,[.osl 57 (rows.length+1) 1,I 1])::(rows.length,VB ⟨0,Xe,Wq z⟩)::F:=by
   simp [RS.frag,RS.head,RS.arr]
  rw [e1]
  exact h2
end
section
open Go Go.AM Go.Proofs.Ytpjnmgjphfnmmaa
set_option maxRecDepth 100000
variable {rows:LL} {F:Ym} {r:RS}
theorem ZuS {x:LL} (h:ZD rows (r.frag++F)) (hl:r.es.length≤64) (hx:Zd x = .oref (r.jr+1) 0) {parent core:Int} {name:ByteArray} {nm:Bool} (hn:g56 name=Xa nm) (hc:YL r.es parent core nm≠0) :
  g34 x parent name core rows=Xa (0,YL r.es parent core nm,rows):=by
 rw [Zq1]
 unfold YL at hc ⊢
 cases ho:J1 r.es parent with
 | none =>
  rw [VG h (by omega) hx ho,Xi]
  dsimp only
  rw [Zb (ne1 Km),VN,if_pos (by decide)]
 | some e =>
  obtain ⟨hf,hen⟩:=Z2 ho
  obtain ⟨pre,post,hs,rfl,hp⟩:=JX hf
  rw [ho] at hc
  dsimp only at hc ⊢
  rw [KR h (by omega) hx hs hp hen,Xi]
  dsimp only
  rw [Zb (ne1 (YP r _)),ZN,if_neg (by decide),hn,Xi]
  cases nm with
  | false => rfl
  | true =>
   simp only [if_true] at hc ⊢
   rw [if_neg (by decide),s54,Xi]
   by_cases hr:0≤core∧core < 32
   ·rw [if_pos hr] at hc ⊢
    rw [decide_eq_true hr,if_neg (by decide),Zb (ne1 (ZA hx)),Zb (ne1 (ZA hx)),KD h hx,Zo rfl,Zb (ne1 (Zai _ _)),YA]
    by_cases hl:r.es.length=64
    ·rw [if_pos hl] at hc ⊢
     rw [if_pos (by simp [cop,hl])]
    ·rw [if_neg hl] at hc
     exact absurd rfl hc
   ·rw [if_neg hr]
    rw [decide_eq_false hr]
    rfl
theorem Ztx (h:ZD rows (r.frag++F)) (hne:r.es≠[]):Zc (.vchk 57 7) rows 0 [[.osl 57 (r.ja+1) r.es.length]] [] = [[]]:=by
 have hc:Z0 r.arr=Xb:=ZaD hne
 have hrl:r.arr.length=r.es.length*7:=KB r.es
 simp only [Zc,Zd,ZO,Zdh,Jh (ZmE h),hc,decide_true,X8]
 rw [decide_eq_true (by omega)]
 rfl
theorem Zwm {α:Type} (a b c:α) (l:List α):(a::b::c::l).Perm (c::a::b::l):=UX (l₁:=[a,b])
theorem s34 {x:LL} (h:ZD rows (r.frag++F)) (hne:r.es≠[]) (hl:r.es.length≤64) (hx:Zd x = .oref (r.jr+1) 0) {parent core:Int} {name:ByteArray} {nm:Bool} (hn:g56 name=Xa nm) (hc:YL r.es parent core nm=0) (hlast : -1000≤r.last∧r.last < 1048576) :
  ∃ rows' ja' G,g34 x parent name core rows=Xa (r.last+1,0,rows')∧ZD rows' (({ r with ja:=ja',es:=r.es++[⟨0,Xe,⟨r.last+1,parent,name,[core],Xc,0,Xc⟩⟩],last:=r.last+1 } : RS).frag++(G++F)):=by
 rw [Zq1]
 unfold YL at hc
 cases ho:J1 r.es parent with
 | none => rw [ho] at hc; exact absurd hc (by show ¬ ((17 : Int) = 0); decide)
 | some e =>
  obtain ⟨hf,hen⟩:=Z2 ho
  obtain ⟨pre,post,hs,rfl,hp⟩:=JX hf
  rw [ho] at hc
  dsimp only at hc
  cases nm with
  | false => rw [if_neg (by decide)] at hc; exact absurd hc (by decide)
  | true =>
  rw [if_pos rfl] at hc
  by_cases hr:0≤core∧core < 32
  ·rw [if_pos hr] at hc
   by_cases hl64:r.es.length=64
   ·rw [if_pos hl64] at hc;exact absurd hc (by decide)
   ·rw [KR h (by omega) hx hs hp hen,Xi]
    dsimp only
    rw [Zb (ne1 (YP r _)),ZN,if_neg (by decide),hn,Xi,if_neg (by decide),s54,Xi,decide_eq_true hr,if_neg (by decide),Zb (ne1 (ZA hx)),Zb (ne1 (ZA hx)),KD h hx,Zo rfl,Zb (ne1 (Zai _ _)),YA,if_neg (by simp [cop];omega),
     Zb (ne1 (ZA hx)),Zb (ne1 (ZA hx)),ZnA h hx,ZK,Zb (ne1 (ZA hx)),Zb (ne1 (ZA hx)),Zb (by simp),Zb (ne1 (ZA hx)),Zb (ne1 (ZA hx))]
    have hadd:iop .add .i64 r.last 1=r.last+1:=ZmP (by omega) (by omega)
    rw [hadd]
    have hs1:Zc .set rows 0 (Zc (.padd 1) x 0 E0 []) [AV.val (.int .i64 (r.last+1))]=rows.set r.jr [.osl 57 (r.ja+1) r.es.length,I (r.last+1)]:=by
     rw [YK hx]
     rw [Zam rfl (ZoI h) (by simp [RS.head])]
     rfl
    rw [hs1]
    have h1:ZD (rows.set r.jr [.osl 57 (r.ja+1) r.es.length,I (r.last+1)]) (({ r with last:=r.last+1 } : RS).frag++F):=ZD.set h [.osl 57 (r.ja+1) r.es.length,I (r.last+1)]
    generalize rows.set r.jr [.osl 57 (r.ja+1) r.es.length,I (r.last+1)]=r1 at h1 ⊢
    have hh0:=KD (r:={ r with last:=r.last+1 }) h1 hx
    have hh1:=ZnA (r:={ r with last:=r.last+1 }) h1 hx
    dsimp only at hh0 hh1
    rw [hh0,Zo rfl,Zb (ne1 (ZA hx)),Zb (ne1 (ZA hx)),hh1,ZK,Zb (by simp),Zb (ne1 (Ztx (r:={ r with last:=r.last+1 }) h1 hne))]
    have hpl:=YA r.ja r.es.length
    rw [Zb (by unfold Jq ZB;simp only [Xu,XA,XT];omega),Zb (ne1 (ZA hx)),Zb (ne1 (ZA hx))]
    have hrl:r.arr.length=r.es.length*7:=KB r.es
    have happ:∀ row:List AV,Zc (.app 7) r1 0 [[.osl 57 (r.ja+1) r.es.length]] [AV.slice Xc 7 (E0++[row])]=r1.set r.ja []++[r.arr++row]:=fun row=>by
     have hra:=ZmE (r:={ r with last:=r.last+1 }) h1
     have hra':r1[r.ja]? = Xa r.arr:=hra
     simp only [Zc,Zd,ZO,ZhK,Zru,Jh hra']
     rw [Uo (by omega)]
     simp
    have hpap:∀ row:List AV,Zc (.papp 57) r1 0 [[.osl 57 (r.ja+1) r.es.length]] [AV.slice Xc 7 (E0++[row])] = [[.osl 57 (r1.length+1) (r.es.length+1)]]:=fun row=>by
     simp only [Zc,Zd,ZO,pO,Zru];rfl
    rw [happ,hpap]
    have hcn:Zd [[AV.osl 57 (r1.length+1) (r.es.length+1)]] = .osl 57 (r1.length+1) (r.es.length+1):=rfl
    rw [hcn]
    have hp1:=((h1.perm (List.Perm.swap _ _ _)).set []).push (r.arr++VB ⟨0,Xe,⟨r.last+1,e.p.id,name,[core],Xc,0,Xc⟩⟩)
    have hlen:(r1.set r.ja []).length=r1.length:=by simp
    have hp2:=hp1.perm (Zwm _ _ _ _)
    have hrow:r1.set r.ja []++[r.arr++[AV.val (.int .i64 (r.last+1)),AV.val (.int .i64 e.p.id),AV.val (.string name),AV.slice Xc 1 (E0++[[AV.val (.int .i64 core)]]),AV.val (.bool Xc),AV.val (.int .i64 0),AV.val (.bool Xc)]]=r1.set r.ja []++[r.arr++VB ⟨0,Xe,⟨r.last+1,e.p.id,name,[core],Xc,0,Xc⟩⟩]:=rfl
    rw [hrow]
    generalize r1.set r.ja []++[r.arr++VB ⟨0,Xe,⟨r.last+1,e.p.id,name,[core],Xc,0,Xc⟩⟩]=r3 at hp2 ⊢
    have hrj:r3[r.jr]? = Xa [.osl 57 (r.ja+1) r.es.length,I (r.last+1)]:=hp2.get (.head _)
    have hst:Zc .set r3 0 (Zc (.padd 0) x 0 E0 []) [AV.osl 57 (r1.length+1) (r.es.length+1)]=r3.set r.jr [.osl 57 (r1.length+1) (r.es.length+1),I (r.last+1)]:=by
     rw [YK hx,Zam rfl hrj (by simp)]
     rfl
    have hg0:Zc (.get 1) r3 0 (Zc (.padd 0) x 0 E0 []) [] = [[.osl 57 (r.ja+1) r.es.length]]:=by
     rw [YK hx]
     exact JF rfl hrj rfl rfl
    have hp3:=hp2.set [.osl 57 (r1.length+1) (r.es.length+1),I (r.last+1)]
    have hrj3:(r3.set r.jr [.osl 57 (r1.length+1) (r.es.length+1),I (r.last+1)])[r.jr]? = Xa [.osl 57 (r1.length+1) (r.es.length+1),I (r.last+1)]:=hp3.get (.head _)
    have hg1:Zc (.get 1) (r3.set r.jr [.osl 57 (r1.length+1) (r.es.length+1),I (r.last+1)]) 0 (Zc (.padd 1) x 0 E0 []) [] = [[I (r.last+1)]]:=by
     rw [YK hx]
     exact JF rfl hrj3 rfl rfl
    rw [Zb (by rw [hg0];simp),Zb (ne1 (ZA hx)),Zb (ne1 (ZA hx)),hst,hg1,ZK]
    refine ⟨_,r1.length,[(r.ja,[])],rfl,?_⟩
    have e1:(({ r with ja:=r1.length,es:=r.es++[⟨0,Xe,⟨r.last+1,e.p.id,name,[core],Xc,0,Xc⟩⟩],last:=r.last+1 } : RS).frag++([(r.ja,[])]++F))=(r.jr,[.osl 57 (r1.length+1) (r.es.length+1),I (r.last+1)])::(r1.length,r.arr++VB ⟨0,Xe,⟨r.last+1,e.p.id,name,[core],Xc,0,Xc⟩⟩)::(r.ja,[])::F:=by
     simp [RS.frag,RS.head,RS.arr]
    rw [e1]
    rw [hlen] at hp3
    exact hp3
  ·rw [if_neg hr] at hc;exact absurd hc (by decide)
theorem WM {γ:Type} (l:LL) (k:LL→Option γ):Zk [[.slice Xc 1 l]] 0 [.slice 1] k=k l:=by
 refine YF (l:=[[.slice Xc 1 l]]) (sh:=[.slice 1]) (cs:=[.slice Xc 1 l]) (r:=(l:LL)) k (by decide:(0:Int)≤0) rfl ?_
 rfl
def ZoY (core:Int) (e:PE):PE:={ e with p:={ e.p with cores:=e.p.cores++[core] } }
theorem Zj6 {e:PE} {pre post:List PE} (h:ZD rows (r.frag++F)) (hs:r.es=pre++e::post) (core:Int) (hl:e.p.cores.length≤1000):∀ (ks ps:List Int) (q:Nat),e.p.cores=ps++ks→ks.length < q→core∉ps→
  Zp9 q core (rn r pre.length) (ps.length:Int) rows=if core∈ks then Xa (56,rows) else Xa (0,Zc .set rows 0 (Zc (.padd 3) (rn r pre.length) 0 E0 []) [.slice Xc 1 (ints (e.p.cores++[core]))])
 | [], ps, q, hc, hq, hn => by
  obtain ⟨q',rfl⟩:∃ q',q=q'+1:=⟨q-1,by simp at hq;omega⟩
  rw [XJ] at hc
  have hlen:((ints e.p.cores).length:Int)=(e.p.cores.length:Int):=by simp
  have hln:(ints e.p.cores).length=e.p.cores.length:=by simp
  rw [Zki,Zb (ne1 (ZN r _)),Zb (ne1 (ZN r _)),YY h hs (c:=.slice Xc 1 (ints e.p.cores)) rfl,WM,hlen,← hc,if_neg (by simp [cop]),Zb (ne1 (ZN r _)),Zb (ne1 (ZN r _)),WM,Zb (by unfold Jq ZB;rw [hln];simp;omega),Zb (by unfold Jq ZB;rw [hln];simp;omega),Zb (ne1 (ZN r _)),Zb (ne1 (ZN r _)),Zb (by simp),if_neg (by simp)]
  have:ints e.p.cores++(E0++[[AV.val (.int .i64 core)]])=ints (e.p.cores++[core]):=by simp [ints]
  rw [this]
 | z :: ks, ps, q, hc, hq, hn => by
  obtain ⟨q',rfl⟩:∃ q',q=q'+1:=⟨q-1,by simp at hq;omega⟩
  have hz:e.p.cores[ps.length]? = Xa z:=by rw [hc];simp
  have hi:=(Xk.1 hz).1
  have hlen:((ints e.p.cores).length:Int)=(e.p.cores.length:Int):=by simp
  have hl1:((ps++[z]).length:Int)=((ps.length+1:Nat):Int):=by simp
  rw [Zki,Zb (ne1 (ZN r _)),Zb (ne1 (ZN r _)),YY h hs (c:=.slice Xc 1 (ints e.p.cores)) rfl,WM,hlen,if_pos (by simp [cop];omega),Zb (ne1 (ZN r _)),Zb (ne1 (ZN r _)),WM,Z1 hz,ZaQ (by omega)]
  by_cases hk:z=core
  ·rw [if_pos (by simp [cop,hk]),if_pos (by simp [hk])]
  ·rw [if_neg (by simp [cop,hk])]
   have ih:=Zj6 h hs core hl ks (ps++[z]) q' (by rw [hc];simp) (by simp at hq;omega) (by simp [hn,Ne.symm hk])
   rw [hl1] at ih
   rw [ih]
   simp [Ne.symm hk]
theorem s36 {x:LL} (h:ZD rows (r.frag++F)) (hsrt:r.es.Pairwise fun a b=>a.p.id < b.p.id) (hl:r.es.length≤64) (hx:Zd x = .oref (r.jr+1) 0) {k core:Int} (hcl:∀ e∈r.es,e.p.cores.length≤100) :
  ∃ rows' es',g36 x k core rows=Xa (Vv r.es k core,rows')∧ZD rows' (({ r with es:=es' } : RS).frag++F)∧(Vv r.es k core=0→es'=JP k (ZoY core) r.es)∧(Vv r.es k core≠0→es'=r.es):=by
 rw [Ztu]
 cases ho:J1 r.es k with
 | none =>
  have hsp:Vv r.es k core=17:=by unfold Vv;rw [ho]
  rw [hsp,VG h (by omega) hx ho,Xi]
  dsimp only
  rw [Zb (ne1 Km),VN,if_pos (by decide)]
  exact ⟨rows,r.es,rfl,h,fun hh=>(by cases hh),fun _=>rfl⟩
 | some e =>
  obtain ⟨hf,hen⟩:=Z2 ho
  obtain ⟨pre,post,hs,rfl,hp⟩:=JX hf
  have hce:=hcl e (by rw [hs];simp)
  have hsp:Vv r.es e.p.id core=if 0≤core∧core < 32 then (if core∈e.p.cores then 56 else 0) else 1:=by unfold Vv;rw [ho]
  rw [hsp,KR h (by omega) hx hs hp hen,Xi]
  dsimp only
  rw [Zb (ne1 (YP r _)),ZN,if_neg (by decide),s54,Xi]
  by_cases hr:0≤core∧core < 32
  ·simp only [if_pos hr]
   rw [decide_eq_true hr,if_neg (by decide)]
   have:=Zj6 h hs core (by omega) e.p.cores [] Jr rfl (by unfold Jr;omega) (by simp)
   have hz:((([] : List Int).length:Nat):Int)=0:=rfl
   rw [hz] at this
   rw [this]
   by_cases hi:core∈e.p.cores
   ·simp only [if_pos hi]
    exact ⟨rows,r.es,rfl,h,fun hh=>(by cases hh),fun _=>rfl⟩
   ·simp only [if_neg hi]
    have hset:=Zet (r:=r) (e':=ZoY core e) h hs (o:=3) (c:=.slice Xc 1 (ints (e.p.cores++[core]))) (by decide) rfl
    refine ⟨_,_,rfl,hset,fun _=>?_,fun hh=>absurd rfl hh⟩
    rw [hs] at hsrt
    rw [hs,Vm (f:=ZoY core) hsrt rfl]
  ·simp only [if_neg hr]
   rw [decide_eq_false hr]
   exact ⟨rows,r.es,rfl,h,fun hh=>(by cases hh),fun _=>rfl⟩
end
section
open Go Go.AM Go.Proofs.Ytpjnmgjphfnmmaa
set_option maxRecDepth 100000
variable {rows:LL} {F:Ym} {r:RS} {es:List PE} {last:Int}
theorem Ziz (h:LOk es last) {f:PE→PE} (hid:∀ e,(f e).p.id=e.p.id) (hp:∀ e∈es,0≤(f e).p.parent∧(f e).p.parent < e.p.id):LOk (es.map f) last:=by
 refine ⟨?_,fun e he=>?_,fun e he=>?_,by rw [Xq];exact h.len,h.lst,?_⟩
 ·rw [Ta]
  exact h.srt.imp fun hab=>by rw [hid,hid];exact hab
 ·obtain ⟨a,ha,rfl⟩:=Xj.1 he
  rw [hid]
  exact h.rng a ha
 ·obtain ⟨a,ha,rfl⟩:=Xj.1 he
  rw [hid]
  exact hp a ha
 ·obtain ⟨a,ha,h1⟩:=h.one
  exact ⟨f a,Xj.2 ⟨a,ha,rfl⟩,by rw [hid];exact h1⟩
theorem ZbU (h:LOk es last) {k:Int} {f:Pr→Pr} (hid:∀ q,(f q).id=q.id) (hp:∀ e∈es,e.p.id=k→0≤(f e.p).parent∧(f e.p).parent < e.p.id):LOk (V4 k f es) last:=by
 refine Ziz h (fun e=>?_) fun e he=>?_
 ·split
  ·exact hid e.p
  ·rfl
 ·split
  ·exact hp e he ‹_›
  ·exact h.par e he
theorem Za8 (h:LOk es last) {k:Int} {f:PE→PE} (hid:∀ q,(f q).p.id=q.p.id) (hp:∀ e,(f e).p.parent=e.p.parent):LOk (JP k f es) last:=by
 refine Ziz h (fun e=>?_) fun e he=>?_
 ·split
  ·exact hid e
  ·rfl
 ·split
  ·rw [hp];exact h.par e he
  ·exact h.par e he
theorem ZiG (h:LOk es last) {k:Int} (hk:k≠1):LOk (Vg k es) last:=by
 refine ⟨h.srt.filter _,fun e he=>h.rng e (Wl.1 he).1,fun e he=>h.par e (Wl.1 he).1,XK (Un _ _) h.len,h.lst,?_⟩
 obtain ⟨a,ha,h1⟩:=h.one
 exact ⟨a,Wl.2 ⟨ha,by simp [h1,Ne.symm hk]⟩,h1⟩
theorem Zkl (h:LOk es last) {par:Int} {c:Pr} (hc:c.id≠1):LOk (J0 es par c).1 last:=by
 unfold J0
 split
 ·split
  ·exact ZiG (ZbU (f:=fun q=>{ q with waiting:=Xc }) h (fun _=>rfl) fun e he _=>h.par e he) hc
  ·exact h
 ·exact h
theorem ZfD (h:LOk es last) {pid k:Int} (hp:1≤pid):LOk (ZC pid es k).1 last:=by
 unfold ZC
 split
 ·rename_i c hc
  have hcm:=Wa hc
  have hck:c.p.id=k:=by have:=X4 hc;simpa using this
  split
  ·rename_i hpar
   have hpc:=h.par c hcm
   have hu:LOk (V4 k (fun q=>{ q with parent:=1 }) es) last:=ZbU h (fun _=>rfl) fun e he hek=>⟨by show (0:Int)≤1;decide,by show (1:Int) < e.p.id;omega⟩
   split
   ·exact Zkl hu (by show c.p.id≠1;omega)
   ·exact hu
  ·exact h
 ·exact h
theorem ZcL {pid:Int} (hp:1≤pid):∀ (ks:List Int) (es:List PE),LOk es last→LOk (ZI pid es ks).1 last
 | [], _, h => h
 | _ :: ks, _, h => ZcL hp ks _ (ZfD h hp)
theorem Kx (h:LOk es last) {pid st:Int} : LOk (Y1 es pid st).1 last:=by
 unfold Y1
 split
 ·rename_i e he
  have hem:=Wa he
  have hid:e.p.id=pid:=by have:=X4 he;simpa using this
  have hr:=h.rng e hem
  have hu:LOk (JP pid (JD st) es) last:=Za8 h (fun _=>rfl) fun _=>rfl
  split
  ·exact hu
  ·exact Zkl (ZcL (by omega) _ _ hu) (by show e.p.id≠1;omega)
 ·exact h
theorem Vj {st:Int} : ∀ (zs:List Int) (es:List PE),LOk es last→LOk (Zi st es zs).1 last
 | [], _, h => h
 | z :: zs, es, h => by
  unfold Zi
  split
  ·exact Vj zs _ (Kx h)
  ·exact Vj zs _ h
theorem Zrs (h:LOk es last) {k:Int} (hk:k≠1):Vg k es≠[]:=by
 obtain ⟨a,ha,_⟩:=(ZiG h hk).one
 intro hh
 rw [hh] at ha
 cases ha
theorem Zo5 {γ:Type} {e:PE} (k:Int×Int×ByteArray×LL×Bool×Int×Bool→Option γ):Zk [VB e] 0 [.int .i64,.int .i64,.str,.slice 1,.bool,.int .i64,.bool] k=k (e.p.id,e.p.parent,e.p.name,ints e.p.cores,e.p.ended,e.p.status,e.p.waiting):=by
 refine YF (l:=[VB e]) (sh:=[.int .i64,.int .i64,.str,.slice 1,.bool,.int .i64,.bool]) (cs:=VB e) (r:=(e.p.id,e.p.parent,e.p.name,ints e.p.cores,e.p.ended,e.p.status,e.p.waiting)) k (by decide) rfl ?_
 rfl
theorem ZjQ {x:LL} (h:ZD rows (r.frag++F)) (hl:r.es.length≤64) (hx:Zd x = .oref (r.jr+1) 0) (k:Int):∀ (ks pre:List PE) (q:Nat),r.es=pre++ks→ks.length < q→Vg k r.es≠[]→
  ZnS q x k ((Vg k pre).map VB) (pre.length:Int) rows=Xa (Zc .set (Zc .push rows 0 ((Vg k r.es).map VB) []) 0 (Zc (.padd 0) x 0 E0 []) [.osl 57 (rows.length+1) (Vg k r.es).length])
 | [], pre, q, hs, hq, hne => by
  obtain ⟨q',rfl⟩:∃ q',q=q'+1:=⟨q-1,by simp at hq;omega⟩
  rw [XJ] at hs
  have hn:Zd (Zc (.parr 57) rows (((Vg k r.es).map VB).length:Int) [] []) = .osl 57 (rows.length+1) (Vg k r.es).length:=by simp [Zc,Zd,ZO]
  rw [Zkm,Zb (ne1 (ZA hx)),Zb (ne1 (ZA hx)),KD h hx,Zo rfl,Zb (ne1 (Zai _ _)),YA,← hs,if_neg (by simp [cop]),Zb (ne1 (ZA hx)),Zb (ne1 (ZA hx)),Zb (by intro hh;exact hne (List.map_eq_nil_iff.1 hh)),Zb (by simp),hn]
 | e :: ks, pre, q, hs, hq, hne => by
  obtain ⟨q',rfl⟩:∃ q',q=q'+1:=⟨q-1,by simp at hq;omega⟩
  have hel:r.es.length=pre.length+ks.length+1:=by rw [hs];simp;omega
  have hl1:((pre++[e]).length:Int)=((pre.length+1:Nat):Int):=by simp
  have ih:=ZjQ h hl hx k ks (pre++[e]) q' (by rw [hs];simp) (by simp at hq;omega) hne
  rw [hl1] at ih
  have hpl:(Vg k pre).length≤pre.length:=Un _ _
  rw [Zkm,Zb (ne1 (ZA hx)),Zb (ne1 (ZA hx)),KD h hx,Zo rfl,Zb (ne1 (Zai _ _)),YA,if_pos (by simp [cop];omega),Zb (ne1 (ZA hx)),Zb (ne1 (ZA hx)),Zo rfl,Zb (by omega),YA,Zb (by omega),Zhe,Zb (ne1 (ZN r _)),YY h hs (c:=I e.p.id) rfl,ZK,ZaQ (by omega)]
  by_cases hk:e.p.id=k
  ·rw [if_neg (by simp [cop,hk])]
   have e1:Vg k (pre++[e])=Vg k pre:=by
    unfold Vg
    rw [UK,Wd (by simp [hk])]
    simp
   rw [e1] at ih
   exact ih
  ·rw [if_pos (by simp [cop,hk]),Zb (ne1 (ZA hx)),Zb (ne1 (ZA hx)),Zo rfl,Zb (by omega),YA,Zb (by omega),Zhe,Zuj h hs,Zo5,Zb (by unfold Jq ZB;simp;omega)]
   have e1:Vg k (pre++[e])=Vg k pre++[e]:=by
    unfold Vg
    rw [UK,Wh (by simp [hk])]
    simp
   rw [e1,XN] at ih
   exact ih
theorem s61 {x:LL} (h:ZD rows (r.frag++F)) (hl:r.es.length≤64) (hx:Zd x = .oref (r.jr+1) 0) {k:Int} (hne:Vg k r.es≠[]) :
  ∃ rows' ja',g61 x k rows=Xa rows'∧ZD rows' (({ r with ja:=ja',es:=Vg k r.es } : RS).frag++([(r.ja,r.arr)]++F)):=by
 have hlp:=ZjQ h hl hx k r.es [] Jr rfl (by unfold Jr;omega) hne
 have hz:((([] : List PE).length:Nat):Int)=0:=rfl
 have hz2:(Vg k []).map VB = []:=rfl
 rw [hz,hz2] at hlp
 rw [ZuM,hlp]
 have hpush:Zc .push rows 0 ((Vg k r.es).map VB) []=rows++[((Vg k r.es).map VB).flatten]:=rfl
 have hp1:=h.push ((Vg k r.es).map VB).flatten
 have hp2:=hp1.perm (List.Perm.swap _ _ _)
 have hrj:(rows++[((Vg k r.es).map VB).flatten])[r.jr]? = Xa r.head:=hp2.get (.head _)
 rw [hpush,YK hx,Zam rfl hrj (by simp [RS.head])]
 refine ⟨_,rows.length,rfl,?_⟩
 exact hp2.set (r.head.set (0+0) (.osl 57 (rows.length+1) (Vg k r.es).length))
theorem s71 {x:LL} (h:ZD rows (r.frag++F)) (ho:LOk r.es r.last) (hx:Zd x = .oref (r.jr+1) 0) {c:PE} (hc:r.es.find? (fun e=>decide (e.p.id=c.p.id))=Xa c) (hc1:c.p.id≠1) :
  ∃ rows' ja' G,g71 x c.p.id rows=Xa (ZU (J0 r.es c.p.parent c.p).2,rows')∧ZD rows' (({ r with ja:=ja',es:=(J0 r.es c.p.parent c.p).1 } : RS).frag++(G++F)):=by
 obtain ⟨pre,post,hs,_,hp⟩:=JX hc
 have hl:=ho.len
 rw [ZtL,VI h (by omega) hx hs hp,Xi]
 dsimp only
 rw [Zb (ne1 (YP r _)),ZN,if_neg (by decide),if_neg (by simp [cop,hc1]),Zb (by simp),Zb (by simp),YY h hs (c:=I c.p.parent) rfl,ZK,Zb (by simp),Zb (by simp),YY h hs (c:=I c.p.status) rfl,ZK,Zb (by simp),Zb (by simp),ZK]
 unfold J0
 cases hpf:r.es.find? (fun e=>decide (e.p.id=c.p.parent)) with
 | none =>
  rw [ZkD h (by omega) hx hpf,Xi]
  dsimp only
  rw [Zb (ne1 Km),VN,if_pos (by decide)]
  exact ⟨rows,r.ja,[],rfl,h⟩
 | some p =>
  obtain ⟨pre2,post2,hs2,hpk,hp2⟩:=JX hpf
  have h60:=VI h (by omega) hx hs2 hp2
  rw [hpk] at h60
  rw [h60,Xi]
  dsimp only
  rw [Zb (ne1 (YP r _)),ZN,if_neg (by decide),Zb (by simp),Zb (by simp),YY h hs2 (c:=B p.p.waiting) rfl,JR]
  cases hw:p.p.waiting with
  | false =>
   rw [if_pos (by decide),if_neg (by decide)]
   exact ⟨rows,r.ja,[],rfl,h⟩
  | true =>
   rw [if_neg (by decide),if_pos rfl,Zb (by simp),Zb (by simp),Zb (by simp)]
   have hset:=Zet (r:=r) (e':={ p with p:={ p.p with waiting:=Xc } }) h hs2 (o:=6) (c:=B Xc) (by decide) rfl
   have hsrt:=ho.srt
   rw [hs2] at hsrt
   have hup:=Za4 (f:=fun q=>{ q with waiting:=Xc }) hsrt hpk
   rw [← hs2] at hup
   rw [← hup] at hset
   have hu:LOk (V4 c.p.parent (fun q=>{ q with waiting:=Xc }) r.es) r.last:=ZbU ho (fun _=>rfl) fun e he _=>ho.par e he
   obtain ⟨rows2,ja2,q1,q2⟩:=s61 (x:=x) (k:=c.p.id) hset hu.len hx (Zrs hu hc1)
   rw [q1]
   exact ⟨rows2,ja2,_,rfl,q2⟩
theorem ZcG (a b:List PE) (id:Int):Jx (a++b) id=Jx a id++Jx b id:=by
 unfold Jx
 rw [UK,XN]
theorem Zj0 {x:LL} (h:ZD rows (r.frag++F)) (ho:LOk r.es r.last) (hx:Zd x = .oref (r.jr+1) 0) {id:Int} (hid:1≤id):∀ (ks pre:List PE) (q:Nat),r.es=pre++ks→ks.length < q→
  ZlX q x id (ints (Jx pre id)) (pre.length:Int) rows=Xa (ints (Jx r.es id),rows)
 | [], pre, q, hs, hq => by
  obtain ⟨q',rfl⟩:∃ q',q=q'+1:=⟨q-1,by simp at hq;omega⟩
  rw [XJ] at hs
  rw [ZkA,Zb (ne1 (ZA hx)),Zb (ne1 (ZA hx)),KD h hx,Zo rfl,Zb (ne1 (Zai _ _)),YA,← hs,if_neg (by simp [cop])]
 | e :: ks, pre, q, hs, hq => by
  obtain ⟨q',rfl⟩:∃ q',q=q'+1:=⟨q-1,by simp at hq;omega⟩
  have hl:=ho.len
  have hel:r.es.length=pre.length+ks.length+1:=by rw [hs];simp;omega
  have hl1:((pre++[e]).length:Int)=((pre.length+1:Nat):Int):=by simp
  have ih:=Zj0 h ho hx hid ks (pre++[e]) q' (by rw [hs];simp) (by simp at hq;omega)
  rw [hl1,ZcG,Kc] at ih
  have hkl:(Jx pre id).length≤pre.length:=by
   unfold Jx
   rw [Xq]
   exact Un _ _
  rw [ZkA,Zb (ne1 (ZA hx)),Zb (ne1 (ZA hx)),KD h hx,Zo rfl,Zb (ne1 (Zai _ _)),YA,if_pos (by simp [cop];omega),Zb (ne1 (ZA hx)),Zb (ne1 (ZA hx)),Zo rfl,Zb (by omega),YA,Zb (by omega),Zhe,Zb (ne1 (ZN r _)),YY h hs (c:=I e.p.parent) rfl,ZK,ZaQ (by omega)]
  by_cases hp:e.p.parent=id
  ·have hpe:=ho.par e (by rw [hs];simp)
   rw [if_pos hp] at ih
   rw [if_pos (by simp [cop,hp]),Zb (ne1 (ZA hx)),Zb (ne1 (ZA hx)),Zo rfl,Zb (by omega),YA,Zb (by omega),Zhe,Zb (ne1 (ZN r _)),YY h hs (c:=I e.p.id) rfl,ZK,if_pos (by simp [cop];omega),Zb (ne1 (ZA hx)),Zb (ne1 (ZA hx)),Zo rfl,Zb (by omega),YA,Zb (by omega),Zhe,Zb (ne1 (ZN r _)),YY h hs (c:=I e.p.id) rfl,ZK,Zb (by unfold Jq ZB;simp;omega)]
   have e1:ints (Jx pre id)++(E0++[[AV.val (.int .i64 e.p.id)]])=ints (Jx pre id++e.p.id::Jx [] id):=by simp [ints,Jx]
   rw [e1]
   exact ih
  ·rw [if_neg hp] at ih
   rw [if_neg (by simp [cop,hp])]
   have e1:Jx pre id++Jx [] id=Jx pre id:=by simp [Jx]
   rw [e1] at ih
   exact ih
theorem s59 {x:LL} (h:ZD rows (r.frag++F)) (ho:LOk r.es r.last) (hx:Zd x = .oref (r.jr+1) 0) {id:Int} (hid:1≤id):g59 x id rows=Xa (ints (Jx r.es id),rows):=by
 rw [ZtE]
 exact Zj0 h ho hx hid r.es [] Jr rfl (by have:=ho.len;unfold Jr;omega)
end
section
open Go Go.AM Go.Proofs.Ytpjnmgjphfnmmaa
set_option maxRecDepth 100000
variable {rows:LL} {F:Ym} {r:RS} {es:List PE} {last:Int}
def pz (pid:Int) (es:List PE) (z:Int):Bool:=match es.find? (fun e=>decide (e.p.id=z)) with | none=>Xc | some c=>decide (c.p.parent=pid)
theorem Zdg {pid:Int} : ∀ (ks:List Int) (es:List PE),ks.Nodup→(∀ z∈ks,∃ c,es.find? (fun e=>decide (e.p.id=z))=Xa c)→ZI pid es ks=ZI pid es (ks.filter (pz pid es))
 | [], _, _, _ => rfl
 | z :: ks, es, hn, hin => by
  rw [Wf] at hn
  obtain ⟨c,hc⟩:=hin z (by simp)
  by_cases hz:pz pid es z=Xb
  ·rw [Wh hz]
   have ih:=Zdg (pid:=pid) ks (ZC pid es z).1 hn.2 fun y hy=>by
    obtain ⟨c',hc'⟩:=hin y (by simp [hy])
    obtain ⟨c1,t1,_⟩:=KK (pid:=pid) (z:=z) (k:=y) (fun hh=>hn.1 (hh ▸ hy)) hc'
    exact ⟨c1,t1⟩
   have hcg:ks.filter (pz pid (ZC pid es z).1)=ks.filter (pz pid es):=by
    refine List.filter_congr fun y hy=>?_
    obtain ⟨c',hc'⟩:=hin y (by simp [hy])
    obtain ⟨c1,t1,_,_,t4,_⟩:=KK (pid:=pid) (z:=z) (k:=y) (fun hh=>hn.1 (hh ▸ hy)) hc'
    unfold pz
    rw [t1,hc']
    dsimp only
    rw [t4]
   rw [hcg] at ih
   simp only [ZI,ih]
  ·rw [Wd hz]
   have hst:ZC pid es z=(es,[]):=by
    unfold pz at hz
    rw [hc] at hz
    unfold ZC
    rw [hc]
    dsimp only at hz ⊢
    rw [if_neg (by simpa using hz)]
   have ih:=Zdg (pid:=pid) ks es hn.2 fun y hy=>hin y (by simp [hy])
   simp only [ZI,hst,XM]
   rw [ih]
theorem Zhb (hs:es.Pairwise fun a b=>a.p.id < b.p.id):(es.map fun e=>e.p.id).Nodup:=by
 rw [Tv,Ta]
 exact hs.imp fun hab hh=>by omega
theorem Zms (hs:es.Pairwise fun a b=>a.p.id < b.p.id) {z:Int} (hz:z∈es.map fun e=>e.p.id):∃ c,es.find? (fun e=>decide (e.p.id=z))=Xa c:=by
 obtain ⟨e,he,rfl⟩:=Xj.1 hz
 exact ⟨e,Z7 hs he⟩
theorem Zld (hs:es.Pairwise fun a b=>a.p.id < b.p.id) (pid:Int):(es.map fun e=>e.p.id).filter (pz pid es)=Jx es pid:=by
 rw [List.filter_map]
 unfold Jx
 congr 1
 refine List.filter_congr fun e he=>?_
 simp only [U6,pz,Z7 hs he]
theorem ZgV (hs:es.Pairwise fun a b=>a.p.id < b.p.id) (pid:Int):ZI pid es (es.map fun e=>e.p.id)=ZI pid es (Jx es pid):=by
 rw [Zdg _ _ (Zhb hs) fun z hz=>Zms hs hz,Zld hs]
theorem Zj1 {x:LL} {zs:List Int} (hzl:zs.length≤64) {pid:Int} (hp1:1≤pid):∀ (ks pre:List Int) (rows:LL) (F:Ym) (r:RS) (e:PE) (acc:LL) (q:Nat),zs=pre++ks→ks.length < q→ks.Nodup→pid∉ks→(∀ z∈ks,∃ c,r.es.find? (fun e=>decide (e.p.id=z))=Xa c∧c.p.parent=pid)→ZD rows (r.frag++F)→LOk r.es r.last→Zd x = .oref (r.jr+1) 0→
  r.es.find? (fun e=>decide (e.p.id=pid))=Xa e→acc.length+ks.length≤100000→
  ∃ rows' ja' G q' e',ZhP q x pid acc (ints zs) (pre.length:Int) rows=ZhP (q'+1) x pid (acc++ZU (ZI pid r.es ks).2) (ints zs) (zs.length:Int) rows'∧
   ZD rows' (({ r with ja:=ja',es:=(ZI pid r.es ks).1 } : RS).frag++(G++F))∧(ZI pid r.es ks).1.find? (fun e=>decide (e.p.id=pid))=Xa e'∧e'.p.id=e.p.id∧e'.p.parent=e.p.parent∧e'.p.status=e.p.status
 | [], pre, rows, F, r, e, acc, q, hz, hq, _, _, _, h, _, _, he, _ => by
  obtain ⟨q',rfl⟩:∃ q',q=q'+1:=⟨q-1,by simp at hq;omega⟩
  have hl:zs.length=pre.length:=by rw [hz,XJ]
  exact ⟨rows,r.ja,[],q',e,by rw [hl];simp [ZI,ZU],h,he,rfl,rfl,rfl⟩
 | z :: ks, pre, rows, F, r, e, acc, q, hz, hq, hn, hpn, hin, h, ho, hx, he, hacc => by
  obtain ⟨q',rfl⟩:∃ q',q=q'+1:=⟨q-1,by simp at hq;omega⟩
  rw [Wf] at hn
  obtain ⟨c,hc,hcp⟩:=hin z (by simp)
  obtain ⟨cpre,cpost,hs,rfl,hp⟩:=JX hc
  have hz1:zs[pre.length]? = Xa c.p.id:=by rw [hz];simp
  have hlt:=(Xk.1 hz1).1
  have hl:=ho.len
  have hlen:((ints zs).length:Int)=(zs.length:Int):=by simp
  have hl1:((pre++[c.p.id]).length:Int)=((pre.length+1:Nat):Int):=by simp
  have hcm:c∈r.es:=by rw [hs];simp
  have hcpar:=ho.par c hcm
  obtain ⟨c1,hc1'⟩:∃ c1,c1=({ c with p:={ c.p with parent:=1 } } : PE):=⟨_,rfl⟩
  have hset:=Zet (r:=r) (e':=c1) h hs (o:=1) (c:=I 1) (by decide) (by rw [hc1'];rfl)
  have hsrt:=ho.srt
  have hup:V4 c.p.id (fun q=>{ q with parent:=1 }) r.es=cpre++c1::cpost:=by
   rw [hs] at hsrt
   rw [hs,Za4 (f:=fun q=>{ q with parent:=1 }) hsrt rfl,hc1']
  have hu:LOk (cpre++c1::cpost) r.last:=by
   rw [← hup]
   exact ZbU ho (fun _=>rfl) fun a ha hac=>⟨by show (0:Int)≤1;decide,by show (1:Int) < a.p.id;omega⟩
  have hpne:pid≠c.p.id:=fun hh=>hpn (by simp [hh])
  have hfe:∃ e1,(ZC pid r.es c.p.id).1.find? (fun a=>decide (a.p.id=pid))=Xa e1∧e1.p.id=e.p.id∧e1.p.parent=e.p.parent∧e1.p.status=e.p.status:=by
   obtain ⟨e1,g1,_,g3,g4,g5⟩:=KK (pid:=pid) hpne he
   exact ⟨e1,g1,g3,g4,g5⟩
  obtain ⟨e1,g1,g3,g4,g5⟩:=hfe
  have hin':∀ y∈ks,∃ c',(ZC pid r.es c.p.id).1.find? (fun e=>decide (e.p.id=y))=Xa c'∧c'.p.parent=pid:=fun y hy=>by
   obtain ⟨c',hc',hcp'⟩:=hin y (by simp [hy])
   obtain ⟨c2,t1,_,_,t4,_⟩:=KK (pid:=pid) (z:=c.p.id) (k:=y) (fun hh=>hn.1 (hh ▸ hy)) hc'
   exact ⟨c2,t1,t4.trans hcp'⟩
  -- one turn
  have key:∃ rows1 ja1 G1,ZhP (q'+1) x pid acc (ints zs) (pre.length:Int) rows=ZhP q' x pid (acc++ZU (ZC pid r.es c.p.id).2) (ints zs) ((pre.length+1:Nat):Int) rows1∧ZD rows1 (({ r with ja:=ja1,es:=(ZC pid r.es c.p.id).1 } : RS).frag++(G1++F)):=by
   rw [ZjK,hlen,if_pos (by simp [cop];omega),Z1 hz1,VI h (by omega) hx hs hp,Xi]
   dsimp only
   rw [Zb (ne1 (ZN r _)),Zb (ne1 (ZN r _)),Zb (by rw [YY h hs (c:=I c.p.parent) rfl];simp),Zb (ne1 (ZN r _)),Zb (ne1 (ZN r _))]
   have hge:=YY (r:={ r with es:=cpre++c1::cpost }) hset (pre:=cpre) (post:=cpost) (e:=c1) rfl (o:=4) (c:=B c1.p.ended) rfl
   have hrn:rn ({ r with es:=cpre++c1::cpost } : RS) cpre.length=rn r cpre.length:=rfl
   rw [hrn] at hge
   rw [hge,JR,ZaQ (by omega)]
   have hcen:c1.p.ended=c.p.ended:=by rw [hc1']
   rw [hcen]
   have hstep:ZC pid r.es c.p.id=if c.p.ended=Xb then J0 (cpre++c1::cpost) 1 c1.p else (cpre++c1::cpost,[]):=by
    unfold ZC
    rw [hc]
    dsimp only
    rw [if_pos hcp,hup,show c1.p = { c.p with parent:=1 } from by rw [hc1']]
   rw [hstep]
   cases hen:c.p.ended with
   | true =>
    rw [if_pos rfl,if_pos rfl,Z1 hz1]
    have hfc1:({ r with es:=cpre++c1::cpost } : RS).es.find? (fun e=>decide (e.p.id=c1.p.id))=Xa c1:=Z7 hu.srt (by simp)
    have hci:c1.p.id=c.p.id:=by rw [hc1']
    have hcp1:c1.p.parent=1:=by rw [hc1']
    obtain ⟨rows2,ja2,G2,t1,t2⟩:=s71 (r:={ r with es:=cpre++c1::cpost }) hset hu hx hfc1 (by omega)
    rw [hcp1] at t1 t2
    rw [hci] at t1
    dsimp only at t1 t2
    rw [t1,Xi,Zb (ZfV (by omega) (by simp only [ZU,Xq];exact Zae _ _ _))]
    exact ⟨rows2,ja2,G2,rfl,t2⟩
   | false =>
    rw [if_neg (by decide),if_neg (by decide)]
    exact ⟨_,r.ja,[],by simp [ZU],hset⟩
  obtain ⟨rows1,ja1,G1,k1,k2⟩:=key
  have hst:LOk (ZC pid r.es c.p.id).1 r.last:=ZfD ho hp1
  obtain ⟨rows2,ja2,G2,q2,e2,r1,r2,r4,r5,r6,r7⟩:=Zj1 hzl hp1 ks (pre++[c.p.id]) rows1 (G1++F) { r with ja:=ja1,es:=(ZC pid r.es c.p.id).1 } e1 (acc++ZU (ZC pid r.es c.p.id).2) q' (by rw [hz];simp) (by simp at hq;omega) hn.2 (fun hh=>hpn (by simp [hh])) hin' k2 hst hx g1 (by have:=ZfI pid r.es c.p.id;simp only [Xu,ZU,Xq,XA] at hacc ⊢; omega)
  refine ⟨rows2,ja2,G2++G1,q2,e2,?_,by rw [Xo];exact r2,r4,r5.trans g3,r6.trans g4,r7.trans g5⟩
  rw [k1]
  rw [hl1] at r1
  rw [r1]
  simp only [ZI,ZU,XN,Xo]
theorem Zrx {x:LL} (h:ZD rows (r.frag++F)) (hl:r.es.length≤64) (hx:Zd x = .oref (r.jr+1) 0) {k st:Int} (hf:J1 r.es k=Xe):g57 x k st rows=Xa ([],rows):=by
 rw [ZqT,VG h (by omega) hx hf,Xi]
 dsimp only
 rw [Zb (ne1 Km),VN,if_pos (by decide)]
theorem s57 {x:LL} (h:ZD rows (r.frag++F)) (ho:LOk r.es r.last) (hx:Zd x = .oref (r.jr+1) 0) {e:PE} {k:Int} (hf:J1 r.es k=Xa e) (st:Int) :
  ∃ rows' ja' G,g57 x k st rows=Xa (ZU (Y1 r.es k st).2,rows')∧ZD rows' (({ r with ja:=ja',es:=(Y1 r.es k st).1 } : RS).frag++(G++F)):=by
 obtain ⟨hfe,hen⟩:=Z2 hf
 obtain ⟨pre,post,hs,rfl,hp⟩:=JX hfe
 have hl:=ho.len
 rw [ZqT,KR h (by omega) hx hs hp hen,Xi]
 dsimp only
 obtain ⟨e1,he1⟩:∃ e1,e1=({ e with p:={ e.p with ended:=Xb } } : PE):=⟨_,rfl⟩
 obtain ⟨e2,he2⟩:∃ e2,e2=({ e with p:={ e.p with ended:=Xb,cores:=[] } } : PE):=⟨_,rfl⟩
 obtain ⟨e3,he3⟩:∃ e3,e3=({ e with p:={ e.p with ended:=Xb,cores:=[],waiting:=Xc } } : PE):=⟨_,rfl⟩
 have h1:=Zet (r:=r) (e':=e1) h hs (o:=4) (c:=B Xb) (by decide) (by rw [he1];rfl)
 have h2:=Zet (r:={ r with es:=pre++e1::post }) (e':=e2) h1 (pre:=pre) (post:=post) (e:=e1) rfl (o:=3) (c:=.slice Xc 1 []) (by decide) (by rw [he1,he2];rfl)
 have h3:=Zet (r:={ r with es:=pre++e2::post }) (e':=e3) h2 (pre:=pre) (post:=post) (e:=e2) rfl (o:=6) (c:=B Xc) (by decide) (by rw [he2,he3];rfl)
 have h4:=Zet (r:={ r with es:=pre++e3::post }) (e':=JD st e) h3 (pre:=pre) (post:=post) (e:=e3) rfl (o:=5) (c:=I st) (by decide) (by rw [he3];rfl)
 have g1:=YY (r:={ r with es:=pre++e1::post }) h1 (pre:=pre) (post:=post) (e:=e1) rfl (o:=3) (c:=.slice Xc 1 (ints e1.p.cores)) rfl
 have g2:=YY (r:={ r with es:=pre++e2::post }) h2 (pre:=pre) (post:=post) (e:=e2) rfl (o:=6) (c:=B e2.p.waiting) rfl
 have g3:=YY (r:={ r with es:=pre++e3::post }) h3 (pre:=pre) (post:=post) (e:=e3) rfl (o:=5) (c:=I e3.p.status) rfl
 have hn1:rn ({ r with es:=pre++e1::post } : RS) pre.length=rn r pre.length:=rfl
 have hn2:rn ({ r with es:=pre++e2::post } : RS) pre.length=rn r pre.length:=rfl
 have hn3:rn ({ r with es:=pre++e3::post } : RS) pre.length=rn r pre.length:=rfl
 rw [hn1] at g1 h2
 rw [hn2] at g2 h3
 rw [hn3] at g3 h4
 rw [Zb (ne1 (YP r _)),ZN,if_neg (by decide),Zb (by simp),Zb (by simp),Zb (by rw [YY h hs (c:=B e.p.ended) rfl];simp),Zb (by simp),Zb (by simp),Zb (by rw [g1];simp),Zb (by simp),Zb (by simp),Zb (by rw [g2];simp),Zb (by simp),Zb (by simp),Zb (by rw [g3];simp)]
 have hsrt:=ho.srt
 have hup:JP e.p.id (JD st) r.es=pre++JD st e::post:=by
  rw [hs] at hsrt
  rw [hs,Vm (f:=JD st) hsrt rfl]
 unfold Y1
 rw [hfe]
 dsimp only at h4 ⊢
 rw [← hup] at h4
 have hu:LOk (JP e.p.id (JD st) r.es) r.last:=Za8 ho (fun _=>rfl) fun _=>rfl
 by_cases hid:e.p.id=1
 ·rw [if_pos (by simp [cop,hid]),if_pos hid]
  exact ⟨_,r.ja,[],rfl,h4⟩
 ·have hem:e∈r.es:=by rw [hs];simp
  have hrg:=ho.rng e hem
  rw [if_neg (by simp [cop,hid]),if_neg hid,s59 (r:={ r with es:=JP e.p.id (JD st) r.es }) h4 hu hx hrg.1,Xi]
  dsimp only
  have hids:(r.es.map fun e=>e.p.id)=(JP e.p.id (JD st) r.es).map fun e=>e.p.id:=(ZcX (f:=JD st) fun _=>rfl).symm
  rw [hids,ZgV hu.srt]
  have hkm:∀ z∈Jx (JP e.p.id (JD st) r.es) e.p.id,∃ c,(JP e.p.id (JD st) r.es).find? (fun e=>decide (e.p.id=z))=Xa c∧c.p.parent=e.p.id:=fun z hz=>by
   obtain ⟨c,hc,rfl⟩:=Xj.1 hz
   rw [Wl] at hc
   exact ⟨c,Z7 hu.srt hc.1,by simpa using hc.2⟩
  have hkl:(Jx (JP e.p.id (JD st) r.es) e.p.id).length≤64:=by
   unfold Jx
   rw [Xq]
   exact XK (Un _ _) hu.len
  have hkn:(Jx (JP e.p.id (JD st) r.es) e.p.id).Nodup:=by
   rw [← Zld hu.srt]
   exact (Zhb hu.srt).filter _
  have hkp:e.p.id∉Jx (JP e.p.id (JD st) r.es) e.p.id:=fun hh=>by
   obtain ⟨c,hc,hcp⟩:=hkm _ hh
   have hcm:=Wa hc
   have hci:c.p.id=e.p.id:=by have:=X4 hc;simpa using this
   have:=hu.par c hcm
   omega
  have hfe2:=Zbx (k:=e.p.id) (f:=JD st) (fun _=>rfl) hfe
  rw [if_pos rfl] at hfe2
  obtain ⟨rows2,ja2,G2,q2,e5,r1,r2,r4,r5,r6,r7⟩:=Zj1 hkl hrg.1 (Jx (JP e.p.id (JD st) r.es) e.p.id) [] _ F { r with es:=JP e.p.id (JD st) r.es } (JD st e) [] Jr rfl (by unfold Jr;omega) hkn hkp hkm h4 hu hx hfe2 (by simp;omega)
  have hz:((([] : List Int).length:Nat):Int)=0:=rfl
  rw [hz] at r1
  dsimp only at r1 r2 r4
  have hlen:((ints (Jx (JP e.p.id (JD st) r.es) e.p.id)).length:Int)=((Jx (JP e.p.id (JD st) r.es) e.p.id).length:Int):=by simp
  have hlk:LOk (ZI e.p.id (JP e.p.id (JD st) r.es) (Jx (JP e.p.id (JD st) r.es) e.p.id)).1 r.last:=ZcL hrg.1 _ _ hu
  have h5id:e5.p.id=e.p.id:=r5
  have r4':(ZI e.p.id (JP e.p.id (JD st) r.es) (Jx (JP e.p.id (JD st) r.es) e.p.id)).1.find? (fun a=>decide (a.p.id=e5.p.id))=Xa e5:=by rw [h5id];exact r4
  obtain ⟨rows3,ja3,G3,t1,t2⟩:=s71 (r:={ r with ja:=ja2,es:=(ZI e.p.id (JP e.p.id (JD st) r.es) (Jx (JP e.p.id (JD st) r.es) e.p.id)).1 }) r2 hlk hx (c:=e5) r4' (by omega)
  dsimp only at t1 t2
  have htc:∀ es,J0 es e5.p.parent e5.p=J0 es e.p.parent (JD st e).p:=fun es=>by
   rw [show e5.p.parent=e.p.parent from r6]
   exact ZeV h5id r7
  rw [htc] at t1 t2
  rw [h5id] at t1
  rw [r1,ZjK,hlen,if_neg (by simp [cop]),t1,Xi,Zb (ZfV ?_ ?_)]
  ·refine ⟨rows3,ja3,G3++G2,?_,by rw [Xo];exact t2⟩
   simp only [ZU,XN,XM]
  ·have:=ZcO e.p.id (Jx (JP e.p.id (JD st) r.es) e.p.id) (JP e.p.id (JD st) r.es)
   simp only [XM,ZU,Xq] at this ⊢
   omega
  ·simp only [ZU,Xq]
   exact Zae _ _ _
theorem s37 {x:LL} (h:ZD rows (r.frag++F)) (ho:LOk r.es r.last) (hx:Zd x = .oref (r.jr+1) 0) (k st:Int) :
  ∃ rows' ja' G,g37 x k st rows=Xa (ZU (K2 r.es k st).1.2,(K2 r.es k st).2,rows')∧ZD rows' (({ r with ja:=ja',es:=(K2 r.es k st).1.1 } : RS).frag++(G++F)):=by
 have hl:=ho.len
 rw [ZuV]
 unfold K2
 cases hf:J1 r.es k with
 | none =>
  rw [VG h (by omega) hx hf,Xi]
  dsimp only
  rw [Zb (ne1 Km),VN,if_pos (by decide)]
  exact ⟨rows,r.ja,[],rfl,h⟩
 | some e =>
  obtain ⟨hfe,hen⟩:=Z2 hf
  obtain ⟨pre,post,hs,rfl,hp⟩:=JX hfe
  rw [KR h (by omega) hx hs hp hen,Xi]
  dsimp only
  rw [Zb (ne1 (YP r _)),ZN,if_neg (by decide)]
  by_cases h1:st < 0
  ·rw [if_pos (by simp [cop,h1]),if_pos h1]
   exact ⟨rows,r.ja,[],rfl,h⟩
  ·rw [if_neg (by simp [cop];omega),if_neg h1]
   by_cases h2:255 < st
   ·rw [if_pos (by simp [cop,h2]),if_pos h2]
    exact ⟨rows,r.ja,[],rfl,h⟩
   ·rw [if_neg (by simp [cop];omega),if_neg h2]
    obtain ⟨rows1,ja1,G1,q1,q2⟩:=s57 h ho hx hf st
    rw [q1]
    exact ⟨rows1,ja1,G1,rfl,q2⟩
end
section
open Go Go.AM Go.Proofs.Ytpjnmgjphfnmmaa
set_option maxRecDepth 100000
variable {rows:LL} {F:Ym} {r:RS} {es:List PE} {last:Int}
theorem ZgO {x:LL} (h:ZD rows (r.frag++F)) (ho:LOk r.es r.last) (hx:Zd x = .oref (r.jr+1) 0) (id:Int) {pp pq:List PE} {p:PE} (hpp:r.es=pp++p::pq):∀ (ks pre:List PE) (q:Nat),r.es=pre++ks→ks.length < q→
  Zpl q x id 0 0 0 (rn r pp.length) (ints (Jx r.es id)) ((Jx pre id).length:Int) rows =
   match ks.find? (fun e=>decide (e.p.parent=id)&&e.p.ended) with
   | some c => (g61 x c.p.id rows).bind fun r16 => Xa (id, c.p.id, c.p.status, Xb, 0, r16)
   | none => Xa (0, 0, 0, Xc, 0, Zc .set rows 0 (Zc (.padd 6) (rn r pp.length) 0 E0 []) [B Xb])
 | [], pre, q, hs, hq => by
  obtain ⟨q',rfl⟩:∃ q',q=q'+1:=⟨q-1,by simp at hq;omega⟩
  rw [XJ] at hs
  have hlen:((ints (Jx r.es id)).length:Int)=((Jx r.es id).length:Int):=by simp
  rw [ZkC,hlen,← hs,if_neg (by simp [cop]),Zb (ne1 (ZN r _)),Zb (ne1 (ZN r _)),Zb (by rw [YY h hpp (c:=B p.p.waiting) rfl];simp)]
  rfl
 | e :: ks, pre, q, hs, hq => by
  have hl:=ho.len
  by_cases hp:e.p.parent=id
  ·obtain ⟨q',rfl⟩:∃ q',q=q'+1:=⟨q-1,by simp at hq;omega⟩
   have hlen:((ints (Jx r.es id)).length:Int)=((Jx r.es id).length:Int):=by simp
   have hke:Jx r.es id=Jx pre id++e.p.id::Jx ks id:=by rw [hs,ZcG,Kc,if_pos hp]
   have hz:(Jx r.es id)[(Jx pre id).length]? = Xa e.p.id:=by rw [hke];simp
   have hlt:=(Xk.1 hz).1
   have hkl:(Jx r.es id).length≤64:=by
    unfold Jx
    rw [Xq]
    exact XK (Un _ _) hl
   have hem:e∈r.es:=by rw [hs];simp
   obtain ⟨pre2,post2,hs2,_,hp2⟩:=JX (Z7 ho.srt hem)
   rw [ZkC,hlen,if_pos (by simp [cop];omega),Z1 hz,VI h (by omega) hx hs2 hp2,Xi]
   dsimp only
   rw [Zb (ne1 (ZN r _)),Zb (ne1 (ZN r _)),YY h hs2 (c:=B e.p.ended) rfl,JR]
   cases hen:e.p.ended with
   | true =>
    rw [if_pos rfl,Zb (ne1 (ZN r _)),Zb (ne1 (ZN r _)),YY h hs2 (c:=I e.p.id) rfl,ZK,Zb (ne1 (ZN r _)),Zb (ne1 (ZN r _)),YY h hs2 (c:=I e.p.status) rfl,ZK,Zb (ne1 (ZN r _)),Zb (ne1 (ZN r _)),ZK]
    simp only [UW,hp,hen,decide_true,X8]
   | false =>
    have ih:=ZgO h ho hx id hpp ks (pre++[e]) q' (by rw [hs];simp) (by simp at hq;omega)
    have hk1:((Jx (pre++[e]) id).length:Int)=(((Jx pre id).length+1:Nat):Int):=by rw [ZcG,Kc,if_pos hp];simp [Jx]
    rw [hk1] at ih
    rw [if_neg (by decide),ZaQ (by omega),ih]
    simp only [UW,hp,hen,decide_true,X8]
  ·have ih:=ZgO h ho hx id hpp ks (pre++[e]) q (by rw [hs];simp) (by simp at hq;omega)
   have hk1:Jx (pre++[e]) id=Jx pre id:=by rw [ZcG,Kc,if_neg hp];simp [Jx]
   rw [hk1] at ih
   rw [ih]
   simp only [UW,hp,decide_false,Bool.false_and]
theorem Zk0 (es:List PE) (id:Int):(es.any fun e=>decide (e.p.parent=id))=Xb↔Jx es id≠[]:=by
 induction es with
 | nil => simp [Jx]
 | cons e es ih =>
  rw [UV,Kc]
  by_cases hp:e.p.parent=id
  ·simp [hp]
  ·rw [if_neg hp,← ih]
   simp [hp]
theorem s40 {x:LL} (h:ZD rows (r.frag++F)) (ho:LOk r.es r.last) (hx:Zd x = .oref (r.jr+1) 0) (k:Int) :
  ∃ rows' ja' G,g40 x k rows=Xa ((YC r.es k).2.1,(YC r.es k).2.2.1,(YC r.es k).2.2.2.1,(YC r.es k).2.2.2.2.1,(YC r.es k).2.2.2.2.2,rows')∧ZD rows' (({ r with ja:=ja',es:=(YC r.es k).1 } : RS).frag++(G++F)):=by
 have hl:=ho.len
 rw [Ztg]
 unfold YC
 cases hf:J1 r.es k with
 | none =>
  rw [VG h (by omega) hx hf,Xi]
  dsimp only
  rw [Zb (ne1 Km),VN,if_pos (by decide)]
  exact ⟨rows,r.ja,[],rfl,h⟩
 | some p =>
  obtain ⟨hfe,hen⟩:=Z2 hf
  obtain ⟨pre,post,hs,rfl,hp⟩:=JX hfe
  have hpm:p∈r.es:=by rw [hs];simp
  have hrg:=ho.rng p hpm
  rw [KR h (by omega) hx hs hp hen,Xi]
  dsimp only
  rw [Zb (ne1 (YP r _)),ZN,if_neg (by decide),Zb (by simp),Zb (by simp),YY h hs (c:=B p.p.waiting) rfl,JR]
  cases hw:p.p.waiting with
  | true => exact ⟨rows, r.ja, [], rfl, h⟩
  | false =>
   rw [if_neg (by decide),if_neg (by decide),s59 h ho hx hrg.1,Xi]
   dsimp only
   by_cases hk:Jx r.es p.p.id = []
   ·have hany:(r.es.any fun e=>decide (e.p.parent=p.p.id))=Xc:=by
     have:=Zk0 r.es p.p.id
     rw [hk] at this
     simpa using this
    have hfn:r.es.find? (fun e=>decide (e.p.parent=p.p.id)&&e.p.ended)=Xe:=by
     rw [UT]
     intro a ha
     have:=List.any_eq_false.1 hany a ha
     simp at this ⊢
     intro hh
     exact absurd hh this
    rw [hk,if_pos (by decide),hfn]
    dsimp only
    rw [if_neg (by rw [hany];decide)]
    exact ⟨rows,r.ja,[],rfl,h⟩
   ·have hany:(r.es.any fun e=>decide (e.p.parent=p.p.id))=Xb:=(Zk0 r.es p.p.id).2 hk
    have hlen:((ints (Jx r.es p.p.id)).length:Int)=((Jx r.es p.p.id).length:Int):=by simp
    have hlp:=ZgO h ho hx p.p.id hs r.es [] Jr rfl (by unfold Jr;omega)
    have hz:(((Jx [] p.p.id).length:Nat):Int)=0:=rfl
    rw [hz] at hlp
    rw [hlen,if_neg (by simp [cop,hk]),hlp]
    cases hfc:r.es.find? (fun e=>decide (e.p.parent=p.p.id)&&e.p.ended) with
    | some c =>
     have hcm:=Wa hfc
     have hcp:c.p.parent=p.p.id:=by
      have:=X4 hfc
      rw [Xr] at this
      simpa using this.1
     have hcpar:=ho.par c hcm
     obtain ⟨rows2,ja2,q1,q2⟩:=s61 (x:=x) (k:=c.p.id) h hl hx (Zrs ho (by omega))
     dsimp only
     rw [q1]
     exact ⟨rows2,ja2,_,rfl,q2⟩
    | none =>
     dsimp only
     rw [if_pos hany]
     have hset:=Zet (r:=r) (e':={ p with p:={ p.p with waiting:=Xb } }) h hs (o:=6) (c:=B Xb) (by decide) rfl
     have hsrt:=ho.srt
     rw [hs] at hsrt
     have hup:=Za4 (f:=fun q=>{ q with waiting:=Xb }) hsrt rfl
     rw [← hs] at hup
     rw [← hup] at hset
     exact ⟨_,r.ja,[],rfl,hset⟩
theorem Zb4:∀ (a b:List Int),a.Pairwise (fun x y=>x≤y)→b.Pairwise (fun x y=>x≤y)→a.Perm b→a=b
 | [], b, _, _, h => (List.nil_perm.1 h).symm
 | x :: a, b, ha, hb, h => by
  cases b with
  | nil => exact (List.perm_nil.1 h)
  | cons y b =>
   have ha':=Ui.1 ha
   have hb':=Ui.1 hb
   have h1:x∈y::b:=h.mem_iff.1 (by simp)
   have h2:y∈x::a:=h.mem_iff.2 (by simp)
   have h3:y≤x:=by
    rcases Xp.1 h1 with rfl | h1
    ·omega
    ·exact hb'.1 _ h1
   have h4:x≤y:=by
    rcases Xp.1 h2 with rfl | h2
    ·omega
    ·exact ha'.1 _ h2
   have:x=y:=by omega
   subst this
   rw [Zb4 a b ha'.2 hb'.2 (List.perm_cons x |>.1 h)]
theorem KW (l:List Int):(srt l).Perm l:=List.mergeSort_perm l _
theorem W0 (l:List Int):(srt l).Pairwise (fun x y=>x≤y):=by
 have:=List.pairwise_mergeSort (le:=fun a b:Int=>decide (a≤b)) (fun a b c h1 h2=>by simp at *; omega) (fun a b=>by simp;omega) l
 exact this.imp fun h=>by simpa using h
theorem ZnY {a b:List Int} (h:a.Perm b):srt a=srt b:=Zb4 _ _ (W0 a) (W0 b) ((KW a).trans (h.trans (KW b).symm))
theorem ZjZ (l:List Int) (w:Nat) (hw:w < l.length) (z:Int):Je (ints l) w 0 [AV.val (.int .i64 z)]=ints (l.set w z):=by
 have:(ints l)[w]? = Xa [I l[w]]:=by unfold ints;rw [Xl,Xs hw];rfl
 have hm:=modify_set this (fun x=>setCells x 0 [AV.val (.int .i64 z)])
 rw [show Je (ints l) w 0 [AV.val (.int .i64 z)]=(ints l).modify w (fun x=>setCells x 0 [AV.val (.int .i64 z)]) from rfl,hm]
 unfold ints
 rw [List.map_set]
 rfl
theorem Zs0 (rec0:List V→Option LL) (i:Nat) (hi:i < 50000):∀ (j fuel:Nat) (A:List Int) (x:Int) (Bs D:List Int),j < fuel→A.length=j→(A++Bs).Pairwise (fun x y=>x≤y)→(∀ b∈Bs,x≤b)→A.length+Bs.length=i→
  ∃ X:List Int,X.Perm (A++x::(Bs++D))∧(X.take (i+1)).Pairwise (fun x y=>x≤y)∧Zp3 rec0 fuel (ints (A++x::(Bs++D))) (i:Int) (j:Int)=rec0 [.l (ints X),.i ((i+1:Nat):Int)]:=by
 intro j
 induction j with
 | zero =>
  intro fuel A x Bs D hf hA hs hx hl
  obtain ⟨f,rfl⟩:∃ f,fuel=f+1:=⟨fuel-1,by omega⟩
  obtain rfl:=Ty.1 hA
  refine ⟨_,List.Perm.refl _,?_,?_⟩
  ·have hBi:Bs.length=i:=by simpa using hl
   have:List.take (i+1) ([]++x::(Bs++D))=x::Bs:=by
    rw [XM,List.take_succ_cons,Tz (by omega),← hBi,Ti]
   rw [this]
   exact Ui.2 ⟨hx,hs⟩
  ·rw [Zkh,if_neg (by simp [cop]),ZaQ (by omega)]
 | succ j ih =>
  intro fuel A x Bs D hf hA hs hx hl
  obtain ⟨f,rfl⟩:∃ f,fuel=f+1:=⟨fuel-1,by omega⟩
  obtain ⟨A',a,rfl⟩:∃ A' a,A=A'++[a]:=⟨A.dropLast,A.getLast (fun h=>by rw [h] at hA;simp at hA),(List.dropLast_concat_getLast _).symm⟩
  have hA':A'.length=j:=by simpa using hA
  have hform:(A'++[a])++x::(Bs++D)=A'++a::x::(Bs++D):=by simp
  have hli:A'.length+1+Bs.length=i:=by simpa using hl
  rw [hform]
  have hsub:iop .sub .i64 ((j+1:Nat):Int) 1=(j:Int):=by rw [Zun (by omega) (by omega)];omega
  have e1:(A'++a::x::(Bs++D))[j+1]? = Xa x:=by rw [Xy (by omega),hA'];simp
  have e0:(A'++a::x::(Bs++D))[j]? = Xa a:=by rw [Xy (by omega),hA'];simp
  have hXl:(A'++a::x::(Bs++D)).length=j+2+Bs.length+D.length:=by simp;omega
  have hlen:∀ l:List Int,((ints l).length:Int)=(l.length:Int):=fun l=>by simp
  rw [Zkh,if_pos (by simp [cop]),hsub,Zb (by omega),hlen,Zb (by omega),Z1 e1,Zb (by omega),Zb (by omega),Z1 e0]
  by_cases hlt:x < a
  ·rw [if_pos (by simp [cop,hlt]),Zb (by omega),Zb (by omega),Z1 e1,Zb (by omega),Zb (by omega),Z1 e0,Zb (by omega),Zb (by omega),Zb (by omega),Zb (by omega),Ws,Ws,ZjZ _ _ (by omega),hlen,UN,Zb (by omega),Zb (by omega),Zb (by omega),Zb (by omega),ZjZ _ _ (by rw [UN];omega)]
   have hsw:((A'++a::x::(Bs++D)).set (j+1) a).set j x=A'++x::((a::Bs)++D):=by
    rw [Tx _ _ (by omega),Tx _ _ (by omega),hA',Uz,show j+1-j=1 by omega]
    rfl
   rw [hsw]
   obtain ⟨X,h1,h2,h3⟩:=ih f A' x (a::Bs) D (by omega) hA' (by
     have:A'++a::Bs=(A'++[a])++Bs:=by simp
     rw [this];exact hs) (fun b hb=>by
     rcases Xp.1 hb with rfl | hb
     ·omega
     ·exact hx b hb) (by rw [XA];omega)
   exact ⟨X,h1.trans (List.Perm.append_left _ (List.Perm.swap a x (Bs++D))),h2,h3⟩
  ·rw [if_neg (by simp [cop];omega),ZaQ (by omega)]
   refine ⟨_,List.Perm.refl _,?_,rfl⟩
   have:List.take (i+1) (A'++a::x::(Bs++D))=(A'++[a])++x::Bs:=by
    have h2:A'++a::x::(Bs++D)=((A'++[a])++x::Bs)++D:=by simp
    have h3:((A'++[a])++x::Bs).length=i+1:=by simp;omega
    rw [h2,Tz (by omega),← h3,Ti]
   rw [this]
   obtain ⟨h1,h2,h3⟩:=Wt.1 hs
   obtain ⟨h4,_,h5⟩:=Wt.1 h1
   refine Wt.2 ⟨h1,Ui.2 ⟨hx,h2⟩,fun y hy b hb=>?_⟩
   have hya:y≤a:=by
    rcases Xv.1 hy with hy | hy
    ·exact h5 y hy a (by simp)
    ·rw [XD] at hy;omega
   rcases Xp.1 hb with rfl | hb
   ·omega
   ·have:=hx b hb;omega
theorem Zlg:∀ (d i k:Nat) (X:List Int),i+d=X.length→1≤i→d < k→X.length < 50000→(X.take i).Pairwise (fun x y=>x≤y)→∃ Y:List Int,Y.Perm X∧Y.Pairwise (fun x y=>x≤y)∧ZrM k (ints X) (i:Int)=Xa (ints Y)
 | 0, i, k, X, hd, h1, hk, hl, hs => by
  obtain ⟨k',rfl⟩:∃ k',k=k'+1:=⟨k-1,by omega⟩
  have hlen:((ints X).length:Int)=(X.length:Int):=by simp
  rw [ZfM,hlen,if_neg (by simp [cop];omega)]
  have:X.take i=X:=Uo (by omega)
  rw [this] at hs
  exact ⟨X,List.Perm.refl _,hs,rfl⟩
 | d + 1, i, k, X, hd, h1, hk, hl, hs => by
  obtain ⟨k',rfl⟩:∃ k',k=k'+1:=⟨k-1,by omega⟩
  have hlen:((ints X).length:Int)=(X.length:Int):=by simp
  have hi:i < X.length:=by omega
  have hform:X=X.take i++X[i]::([]++X.drop (i+1)):=by
   rw [XM,List.getElem_cons_drop,List.take_append_drop]
  obtain ⟨Y,p1,p2,p3⟩:=Zs0 (F72.lp [2] 0 r0 k') i (by omega) i Jr (X.take i) X[i] [] (X.drop (i+1)) (by unfold Jr;omega) (by rw [XS];omega) (by rw [XJ];exact hs) (fun b hb=>by cases hb) (by rw [XS];simp;omega)
  rw [← hform] at p1 p3
  have hYl:Y.length=X.length:=p1.length_eq
  obtain ⟨Z,q1,q2,q3⟩:=Zlg d (i+1) k' Y (by omega) (by omega) (by omega) (by omega) p2
  rw [ZfM,hlen,if_pos (by simp [cop];omega),p3]
  exact ⟨Z,q1.trans p1,q2,q3⟩
theorem s72 (zs:List Int) (hl:zs.length < 50000):g72 (ints zs)=Xa (ints (srt zs)):=by
 rw [Ztl,Zb (by unfold Jq ZB;simp;omega)]
 have fin:∀ Y:List Int,Y.Perm zs→Y.Pairwise (fun x y=>x≤y)→Y=srt zs:=fun Y h1 h2=>Zb4 _ _ h2 (W0 zs) (h1.trans (KW zs).symm)
 cases zs with
 | nil =>
  have h0:srt [] = []:=by simp [srt]
  rw [show Jr=1208925819614629174706175+1 from rfl,ZfM,if_neg (by decide),h0]
 | cons z zs =>
  obtain ⟨Y,h1,h2,h3⟩:=Zlg zs.length 1 Jr (z::zs) (by simp;omega) (by omega) (by simp at hl;unfold Jr;omega) hl (by simp)
  have h1c:((1:Nat):Int)=1:=rfl
  rw [h1c] at h3
  rw [h3,fin Y h1 h2]
end
section
open Go Go.AM Go.Proofs.Ytpjnmgjphfnmmaa
set_option maxRecDepth 100000
variable {rows:LL} {F:Ym} {r:RS} {es:List PE} {last:Int}
theorem Zf5 (ho:LOk es last) (n:Nat) (id:Int):(JZ n es id).length≤64:=by
 rw [Zgs ho.srt]
 refine XK (Zm2 _ _ fun e _=>?_) ho.len
 have:=ZrE (es:=es) (fun a ha=>(ho.par a ha).2) n e.p.id id
 split at this<;>omega
theorem ZdR {f g:Int→List Int} (h:∀ c,(f c).Perm (g c)):∀ l:List Int,(l.flatMap fun c=>c::f c).Perm (l.flatMap fun c=>c::g c)
 | [] => List.Perm.refl _
 | c :: l => by
  rw [UF,UF]
  exact List.Perm.append (List.Perm.cons _ (h c)) (ZdR h l)
theorem s58 {x:LL} (h:ZD rows (r.frag++F)) (ho:LOk r.es r.last) (hx:Zd x = .oref (r.jr+1) 0):∀ (k:Nat) (e:PE),e∈r.es→ZiO r.es e.p.id < k→g58 (G58 k) x e.p.id rows=Xa (ints (srt (JZ k r.es e.p.id)),rows):=by
 intro k
 induction k with
 | zero => intro e he hab; omega
 | succ k ih =>
  intro e he hab
  have hl:=ho.len
  have hrg:=ho.rng e he
  obtain ⟨pre,post,hs,_,hp⟩:=JX (Z7 ho.srt he)
  have hgo:g58 (G58 (k+1)) x e.p.id rows=g58 (F58 (G58 k)).S.g x e.p.id rows:=rfl
  rw [hgo,Zui,VI h (by omega) hx hs hp,Xi]
  dsimp only
  rw [Zb (ne1 (YP r _)),ZN,if_neg (by decide),s59 h ho hx hrg.1,Xi]
  dsimp only
  have hdl:=Zf5 ho (k+1) e.p.id
  have hpl:=(ZdR (fun c=>KW (JZ k r.es c)) (Jx r.es e.p.id)).length_eq
  have hkl:(Jx r.es e.p.id).length≤64:=by
   unfold Jx
   rw [Xq]
   exact XK (Un _ _) hl
  have loop:∀ (ks pre acc:List Int) (q:Nat),Jx r.es e.p.id=pre++ks→ks.length < q→acc.length+(ks.flatMap fun c=>c::srt (JZ k r.es c)).length≤64→
    Zqv (G58 k) q x (ints acc) (ints (Jx r.es e.p.id)) (pre.length:Int) rows=Xa (ints (srt (acc++ks.flatMap fun c=>c::srt (JZ k r.es c))),rows):=by
   intro ks
   induction ks with
   | nil =>
    intro pre acc q hk hq ha
    obtain ⟨q',rfl⟩:∃ q',q=q'+1:=⟨q-1,by simp at hq;omega⟩
    rw [XJ] at hk
    have hlen:((ints (Jx r.es e.p.id)).length:Int)=(pre.length:Int):=by simp [hk]
    have hal:acc.length≤64:=by simp at ha;omega
    rw [Zjz,hlen,if_neg (by simp [cop]),s72 acc (by omega)]
    simp
   | cons c ks ihk =>
    intro pre acc q hk hq ha
    obtain ⟨q',rfl⟩:∃ q',q=q'+1:=⟨q-1,by simp at hq;omega⟩
    have hlen:((ints (Jx r.es e.p.id)).length:Int)=((Jx r.es e.p.id).length:Int):=by simp
    have hz:(Jx r.es e.p.id)[pre.length]? = Xa c:=by rw [hk];simp
    have hlt:=(Xk.1 hz).1
    have hcm:c∈Jx r.es e.p.id:=by rw [hk];simp
    obtain ⟨a,ha2,rfl⟩:=Xj.1 hcm
    rw [Wl] at ha2
    have hap:a.p.parent=e.p.id:=by simpa using ha2.2
    have hpar:=ho.par a ha2.1
    have hab2:=Zk9 ha2.1 (show e.p.id < a.p.id by omega)
    have hl1:((pre++[a.p.id]).length:Int)=((pre.length+1:Nat):Int):=by simp
    simp only [UF,XL,XA,Xu] at ha
    have hsl:=ZaE (JZ k r.es a.p.id)
    rw [Zjz,hlen,if_pos (by simp [cop];omega),Z1 hz,Zb (by unfold Jq ZB;simp;omega),Z1 hz,ih a ha2.1 (by omega),Xi]
    dsimp only
    rw [Zb (by unfold Jq ZB;simp;omega),ZaQ (by omega)]
    have e1:(ints acc++(E0++[[AV.val (.int .i64 a.p.id)]]))++ints (srt (JZ k r.es a.p.id))=ints (acc++a.p.id::srt (JZ k r.es a.p.id)):=by simp [ints]
    have:=ihk (pre++[a.p.id]) (acc++a.p.id::srt (JZ k r.es a.p.id)) q' (by rw [hk];simp) (by simp at hq;omega) (by simp only [Xu,XA];omega)
    rw [hl1] at this
    rw [e1,this]
    simp
  have hlp:=loop (Jx r.es e.p.id) [] [] Jr rfl (by unfold Jr;omega) (by
   have:(JZ (k+1) r.es e.p.id).length=((Jx r.es e.p.id).flatMap fun c=>c::JZ k r.es c).length:=rfl
   simp only [XT]
   omega)
  have hz:((([] : List Int).length:Nat):Int)=0:=rfl
  rw [hz] at hlp
  have hi0:(ints ([] : List Int))=E0:=rfl
  rw [hi0] at hlp
  rw [hlp,XM]
  rw [ZnY (ZdR (fun c=>KW (JZ k r.es c)) (Jx r.es e.p.id))]
  rfl
theorem Zja {x:LL} (hx':∀ r:RS,Zd x = .oref (r.jr+1) 0→True) {zs:List Int} (hzl:zs.length≤1000):∀ (ks pre:List Int) (rows:LL) (F:Ym) (r:RS) (acc:LL) (q:Nat),zs=pre++ks→ks.length < q→ZD rows (r.frag++F)→LOk r.es r.last→Zd x = .oref (r.jr+1) 0→acc.length+65*ks.length≤100000→
  ∃ rows' ja' G,ZpT q x (ints zs) acc (pre.length:Int) rows=Xa (acc++ZU (Zi (-1) r.es ks).2,0,rows')∧ZD rows' (({ r with ja:=ja',es:=(Zi (-1) r.es ks).1 } : RS).frag++(G++F))
 | [], pre, rows, F, r, acc, q, hz, hq, h, ho, hx, _ => by
  obtain ⟨q',rfl⟩:∃ q',q=q'+1:=⟨q-1,by simp at hq;omega⟩
  have hl:zs.length=pre.length:=by rw [hz,XJ]
  have hlen:((ints zs).length:Int)=(zs.length:Int):=by simp
  rw [ZjA,hlen,hl,if_neg (by simp [cop])]
  exact ⟨rows,r.ja,[],by simp [Zi,ZU],h⟩
 | z :: ks, pre, rows, F, r, acc, q, hz, hq, h, ho, hx, hacc => by
  obtain ⟨q',rfl⟩:∃ q',q=q'+1:=⟨q-1,by simp at hq;omega⟩
  have hz1:zs[pre.length]? = Xa z:=by rw [hz];simp
  have hi:=(Xk.1 hz1).1
  have hlen:((ints zs).length:Int)=(zs.length:Int):=by simp
  have hl1:((pre++[z]).length:Int)=((pre.length+1:Nat):Int):=by simp
  have hrl:=ho.len
  rw [ZjA,hlen,if_pos (by simp [cop];omega),Zb (by omega),Zb (by omega),Z1 hz1,ZaQ (by omega)]
  cases hr:J1 r.es z with
  | none =>
   rw [Zrx h hrl hx hr,Xi,Zb (by unfold Jq ZB;simp only [XT];omega)]
   obtain ⟨rows2,ja2,G2,q1,q2⟩:=Zja hx' hzl ks (pre++[z]) rows F r acc q' (by rw [hz];simp) (by simp at hq;omega) h ho hx (by simp at hacc;omega)
   rw [hl1] at q1
   have he:Zi (-1) r.es (z::ks)=Zi (-1) r.es ks:=by simp only [Zi,hr]
   rw [he]
   dsimp only
   rw [XJ]
   exact ⟨rows2,ja2,G2,q1,q2⟩
  | some e =>
   obtain ⟨rows1,ja1,G1,t1,t2⟩:=s57 h ho hx hr (-1)
   have hel:=ZbT r.es z (-1)
   have hra:(ZU (Y1 r.es z (-1)).2).length≤65:=by simp only [ZU,Xq];omega
   rw [t1,Xi,Zb (ZgM (by omega) (show (ZU (Y1 r.es z (-1)).2).length≤100000 by omega))]
   obtain ⟨rows2,ja2,G2,q1,q2⟩:=Zja hx' hzl ks (pre++[z]) rows1 (G1++F) { r with ja:=ja1,es:=(Y1 r.es z (-1)).1 } (acc++ZU (Y1 r.es z (-1)).2) q' (by rw [hz];simp) (by simp at hq;omega) t2 (Kx ho) hx (by simp only [Xu,XA] at hacc ⊢; omega)
   rw [hl1] at q1
   have he:Zi (-1) r.es (z::ks)=((Zi (-1) (Y1 r.es z (-1)).1 ks).1,(Y1 r.es z (-1)).2++(Zi (-1) (Y1 r.es z (-1)).1 ks).2):=by simp only [Zi,hr]
   rw [he]
   refine ⟨rows2,ja2,G2++G1,?_,by rw [Xo];exact q2⟩
   rw [q1]
   simp only [ZU,XN,Xo]
theorem Zim {x:LL} (target:Int) {zs:List Int} (hzl:zs.length≤1000) (rows:LL):∀ (ks pre:List Int) (b:Bool) (q:Nat),zs=pre++ks→ks.length < q→
  ∃ q',Zma q x target b (ints zs) (pre.length:Int) rows=Zma (q'+1) x target (b||decide (target∈ks)) (ints zs) (zs.length:Int) rows
 | [], pre, b, q, hz, hq => by
  obtain ⟨q',rfl⟩:∃ q',q=q'+1:=⟨q-1,by simp at hq;omega⟩
  have hl:zs.length=pre.length:=by rw [hz,XJ]
  exact ⟨q',by rw [hl];simp⟩
 | z :: ks, pre, b, q, hz, hq => by
  obtain ⟨q',rfl⟩:∃ q',q=q'+1:=⟨q-1,by simp at hq;omega⟩
  have hz1:zs[pre.length]? = Xa z:=by rw [hz];simp
  have hi:=(Xk.1 hz1).1
  have hlen:((ints zs).length:Int)=(zs.length:Int):=by simp
  have hl1:((pre++[z]).length:Int)=((pre.length+1:Nat):Int):=by simp
  rw [Zlh,hlen,if_pos (by simp [cop];omega),ZaQ (by omega)]
  cases b with
  | true =>
   rw [if_pos rfl]
   obtain ⟨q2,h2⟩:=Zim (x:=x) target hzl rows ks (pre++[z]) Xb q' (by rw [hz];simp) (by simp at hq;omega)
   rw [hl1] at h2
   exact ⟨q2,by rw [h2];simp⟩
  | false =>
   rw [if_neg (by decide),Zb (by omega),Zb (by omega),Z1 hz1]
   obtain ⟨q2,h2⟩:=Zim (x:=x) target hzl rows ks (pre++[z]) (cop .eql z target) q' (by rw [hz];simp) (by simp at hq;omega)
   rw [hl1] at h2
   refine ⟨q2,?_⟩
   rw [h2]
   congr 1
   by_cases hzt:z=target
   ·simp [cop,hzt]
   ·simp [cop,hzt,Ne.symm hzt]
theorem Zhy (ho:LOk es last) (id:Int):ZiO es id≤64:=XK (Un _ _) ho.len
theorem ZjM {e:PE} (hs:es.Pairwise fun a b=>a.p.id < b.p.id) (he:e∈es):KI es e.p.id=srt (JZ 128 es e.p.id):=by
 unfold KI
 rw [Z7 hs he]
theorem s39 {x:LL} (h:ZD rows (r.frag++F)) (ho:LOk r.es r.last) (hx:Zd x = .oref (r.jr+1) 0) (id target:Int) :
  ∃ rows' ja' G,g39 x id target rows=Xa (ZU (VD r.es id target).1.2,(VD r.es id target).2,rows')∧ZD rows' (({ r with ja:=ja',es:=(VD r.es id target).1.1 } : RS).frag++(G++F)):=by
 have hl:=ho.len
 rw [Zuq]
 unfold VD
 cases hf:J1 r.es id with
 | none =>
  rw [VG h (by omega) hx hf,Xi]
  dsimp only
  rw [Zb (ne1 Km),VN,if_pos (by decide)]
  exact ⟨rows,r.ja,[],rfl,h⟩
 | some e =>
  obtain ⟨hfe,hen⟩:=Z2 hf
  obtain ⟨pre,post,hs,rfl,hp⟩:=JX hfe
  have hem:e∈r.es:=by rw [hs];simp
  rw [KR h (by omega) hx hs hp hen,Xi]
  dsimp only
  rw [Zb (ne1 (YP r _)),ZN,if_neg (by decide)]
  cases ht:J1 r.es target with
  | none =>
   rw [VG h (by omega) hx ht,Xi]
   dsimp only
   rw [Zb (ne1 Km),VN,if_pos (by decide)]
   exact ⟨rows,r.ja,[],rfl,h⟩
  | some t =>
   obtain ⟨htf,hten⟩:=Z2 ht
   obtain ⟨pre2,post2,hs2,rfl,hp2⟩:=JX htf
   have htm:t∈r.es:=by rw [hs2];simp
   have ha1:=Zhy ho e.p.id
   have ha2:=Zhy ho t.p.id
   rw [KR h (by omega) hx hs2 hp2 hten,Xi]
   dsimp only
   rw [Zb (ne1 (YP r _)),ZN,if_neg (by decide),s58 h ho hx 128 e hem (by omega),Xi]
   dsimp only
   have hd1:=Zf5 ho 128 e.p.id
   have hd2:=Zf5 ho 128 t.p.id
   have hs1l:=ZaE (JZ 128 r.es e.p.id)
   have hs2l:=ZaE (JZ 128 r.es t.p.id)
   obtain ⟨q',hq'⟩:=Zim (x:=x) t.p.id (zs:=srt (JZ 128 r.es e.p.id)) (by omega) rows (srt (JZ 128 r.es e.p.id)) [] (cop .eql e.p.id t.p.id) Jr rfl (by unfold Jr;omega)
   have hz:((([] : List Int).length:Nat):Int)=0:=rfl
   rw [hz] at hq'
   have hlen:((ints (srt (JZ 128 r.es e.p.id))).length:Int)=((srt (JZ 128 r.es e.p.id)).length:Int):=by simp
   rw [hq',Zlh,hlen,if_neg (by simp [cop]),ZjM ho.srt hem,ZjM ho.srt htm]
   by_cases hmay:t.p.id=e.p.id∨t.p.id∈srt (JZ 128 r.es e.p.id)
   ·have hb:(cop .eql e.p.id t.p.id||decide (t.p.id∈srt (JZ 128 r.es e.p.id)))=Xb:=by
     rcases hmay with h1 | h1
     ·simp [cop,h1]
     ·simp [h1]
    rw [hb,if_neg (by decide),if_pos hmay,s58 h ho hx 128 t htm (by omega),Xi]
    dsimp only
    obtain ⟨rows1,ja1,G1,t1,t2⟩:=s57 h ho hx ht (-1)
    have hel:=ZbT r.es t.p.id (-1)
    have hra:(ZU (Y1 r.es t.p.id (-1)).2).length≤65:=by simp only [ZU,Xq];omega
    rw [t1,Xi]
    dsimp only
    obtain ⟨rows2,ja2,G2,q1,q2⟩:=Zja (x:=x) (fun _ _=>trivial) (zs:=srt (JZ 128 r.es t.p.id)) (by omega) (srt (JZ 128 r.es t.p.id)) [] rows1 (G1++F) { r with ja:=ja1,es:=(Y1 r.es t.p.id (-1)).1 } (ZU (Y1 r.es t.p.id (-1)).2) Jr rfl (by unfold Jr;omega) t2 (Kx ho) hx (by omega)
    rw [hz] at q1
    have he:Zi (-1) r.es (t.p.id::srt (JZ 128 r.es t.p.id))=((Zi (-1) (Y1 r.es t.p.id (-1)).1 (srt (JZ 128 r.es t.p.id))).1,(Y1 r.es t.p.id (-1)).2++(Zi (-1) (Y1 r.es t.p.id (-1)).1 (srt (JZ 128 r.es t.p.id))).2):=by simp only [Zi,ht]
    rw [he]
    refine ⟨rows2,ja2,G2++G1,?_,by rw [Xo];exact q2⟩
    rw [q1]
    simp only [ZU,XN]
   ·have hb:(cop .eql e.p.id t.p.id||decide (t.p.id∈srt (JZ 128 r.es e.p.id)))=Xc:=by
     have h1:¬ (e.p.id=t.p.id):=fun hh=>hmay (.inl hh.symm)
     have h2:t.p.id∉srt (JZ 128 r.es e.p.id):=fun hh=>hmay (.inr hh)
     simp [cop,h1,h2]
    rw [hb,if_pos (by decide),if_neg hmay]
    exact ⟨rows,r.ja,[],rfl,h⟩
end
section
open Go Go.AM Go.Proofs.Ytpjnmgjphfnmmaa
set_option maxRecDepth 100000
variable {rows:LL} {F:Ym} {r:RS} {es:List PE} {last:Int}
theorem Zjs {x:LL} {zs:List Int} (hzl:zs.length≤1000):∀ (ks pre:List Int) (rows:LL) (F:Ym) (r:RS) (acc:LL) (q:Nat),zs=pre++ks→ks.length < q→ZD rows (r.frag++F)→LOk r.es r.last→Zd x = .oref (r.jr+1) 0→acc.length+65*ks.length≤100000→
  ∃ rows' ja' G,ZmA q x (ints zs) acc (pre.length:Int) rows=Xa (acc++ZU (Zi (-2) r.es ks).2,0,rows')∧ZD rows' (({ r with ja:=ja',es:=(Zi (-2) r.es ks).1 } : RS).frag++(G++F))
 | [], pre, rows, F, r, acc, q, hz, hq, h, ho, hx, _ => by
  obtain ⟨q',rfl⟩:∃ q',q=q'+1:=⟨q-1,by simp at hq;omega⟩
  have hl:zs.length=pre.length:=by rw [hz,XJ]
  have hlen:((ints zs).length:Int)=(zs.length:Int):=by simp
  rw [Zkv,hlen,hl,if_neg (by simp [cop])]
  exact ⟨rows,r.ja,[],by simp [Zi,ZU],h⟩
 | z :: ks, pre, rows, F, r, acc, q, hz, hq, h, ho, hx, hacc => by
  obtain ⟨q',rfl⟩:∃ q',q=q'+1:=⟨q-1,by simp at hq;omega⟩
  have hz1:zs[pre.length]? = Xa z:=by rw [hz];simp
  have hi:=(Xk.1 hz1).1
  have hlen:((ints zs).length:Int)=(zs.length:Int):=by simp
  have hl1:((pre++[z]).length:Int)=((pre.length+1:Nat):Int):=by simp
  have hrl:=ho.len
  rw [Zkv,hlen,if_pos (by simp [cop];omega),Zb (by omega),Zb (by omega),Z1 hz1,ZaQ (by omega)]
  cases hr:J1 r.es z with
  | none =>
   rw [Zrx h hrl hx hr,Xi,Zb (by unfold Jq ZB;simp only [XT];omega)]
   obtain ⟨rows2,ja2,G2,q1,q2⟩:=Zjs hzl ks (pre++[z]) rows F r acc q' (by rw [hz];simp) (by simp at hq;omega) h ho hx (by simp at hacc;omega)
   rw [hl1] at q1
   have he:Zi (-2) r.es (z::ks)=Zi (-2) r.es ks:=by simp only [Zi,hr]
   rw [he]
   dsimp only
   rw [XJ]
   exact ⟨rows2,ja2,G2,q1,q2⟩
  | some e =>
   obtain ⟨rows1,ja1,G1,t1,t2⟩:=s57 h ho hx hr (-2)
   have hel:=ZbT r.es z (-2)
   have hra:(ZU (Y1 r.es z (-2)).2).length≤65:=by simp only [ZU,Xq];omega
   rw [t1,Xi,Zb (ZgM (by omega) (show (ZU (Y1 r.es z (-2)).2).length≤100000 by omega))]
   obtain ⟨rows2,ja2,G2,q1,q2⟩:=Zjs hzl ks (pre++[z]) rows1 (G1++F) { r with ja:=ja1,es:=(Y1 r.es z (-2)).1 } (acc++ZU (Y1 r.es z (-2)).2) q' (by rw [hz];simp) (by simp at hq;omega) t2 (Kx ho) hx (by simp only [Xu,XA] at hacc ⊢; omega)
   rw [hl1] at q1
   have he:Zi (-2) r.es (z::ks)=((Zi (-2) (Y1 r.es z (-2)).1 ks).1,(Y1 r.es z (-2)).2++(Zi (-2) (Y1 r.es z (-2)).1 ks).2):=by simp only [Zi,hr]
   rw [he]
   refine ⟨rows2,ja2,G2++G1,?_,by rw [Xo];exact q2⟩
   rw [q1]
   simp only [ZU,XN,Xo]
def ZbR (core:Int) (es:List PE):List Int:=(es.filter fun e=>!e.p.ended&&decide (wo core e.p.cores = [])).map fun e=>e.p.id
theorem Zrq (rec0:List V→Option (LL×Int×LL)) {x:LL} {e:PE} {pre post:List PE} (h:ZD rows (r.frag++F)) (hs:r.es=pre++e::post) (core:Int) (hl:e.p.cores.length≤100) (acc:List Int) (ha:acc.length≤100) (i:Nat) (hi:i≤100):∀ (ks ps:List Int) (q:Nat),e.p.cores=ps++ks→ks.length < q→
  Zou rec0 q x core (ints acc) (i:Int) (rn r pre.length) (ints (wo core ps)) (ps.length:Int) rows =
   rec0 [.l x,.i core,.l (ints (if e.p.ended=Xc∧wo core e.p.cores = [] then acc++[e.p.id] else acc)),.i ((i+1:Nat):Int),.l (Zc .set rows 0 (Zc (.padd 3) (rn r pre.length) 0 E0 []) [.slice Xc 1 (ints (wo core e.p.cores))])]
 | [], ps, q, hc, hq => by
  obtain ⟨q',rfl⟩:∃ q',q=q'+1:=⟨q-1,by simp at hq;omega⟩
  rw [XJ] at hc
  have hlen:((ints e.p.cores).length:Int)=(e.p.cores.length:Int):=by simp
  have hset:=Zet (r:=r) (e':=Yh core e) h hs (o:=3) (c:=.slice Xc 1 (ints (wo core e.p.cores))) (by decide) rfl
  have hge:=YY (r:={ r with es:=pre++Yh core e::post }) hset (pre:=pre) (post:=post) (e:=Yh core e) rfl (o:=4) (c:=B e.p.ended) rfl
  have hgi:=YY (r:={ r with es:=pre++Yh core e::post }) hset (pre:=pre) (post:=post) (e:=Yh core e) rfl (o:=0) (c:=I e.p.id) rfl
  have hrn:rn ({ r with es:=pre++Yh core e::post } : RS) pre.length=rn r pre.length:=rfl
  rw [hrn] at hge hgi
  have hwl:((ints (wo core e.p.cores)).length:Int)=((wo core e.p.cores).length:Int):=by simp
  rw [ZjJ,Zb (ne1 (ZN r _)),Zb (ne1 (ZN r _)),YY h hs (c:=.slice Xc 1 (ints e.p.cores)) rfl,WM,hlen,← hc,if_neg (by simp [cop]),Zb (ne1 (ZN r _)),Zb (ne1 (ZN r _)),Zb (by simp),Zb (ne1 (ZN r _)),Zb (ne1 (ZN r _)),hge,JR,ZaQ (by omega)]
  cases hen:e.p.ended with
  | true =>
   rw [if_neg (by decide),if_neg (by simp)]
  | false =>
   rw [if_pos (by decide),hwl]
   by_cases hw:wo core e.p.cores = []
   ·rw [if_pos (by rw [hw];rfl),Zb (ne1 (ZN r _)),Zb (ne1 (ZN r _)),hgi,ZK,Zb (by unfold Jq ZB;simp;omega),if_pos ⟨rfl,hw⟩]
    have:ints acc++(E0++[[AV.val (.int .i64 e.p.id)]])=ints (acc++[e.p.id]):=by simp [ints]
    rw [this]
   ·rw [if_neg (by simp [cop,hw]),if_neg (by simp [hw])]
 | z :: ks, ps, q, hc, hq => by
  obtain ⟨q',rfl⟩:∃ q',q=q'+1:=⟨q-1,by simp at hq;omega⟩
  have hz:e.p.cores[ps.length]? = Xa z:=by rw [hc];simp
  have hi2:=(Xk.1 hz).1
  have hlen:((ints e.p.cores).length:Int)=(e.p.cores.length:Int):=by simp
  have hl1:((ps++[z]).length:Int)=((ps.length+1:Nat):Int):=by simp
  have ih:=Zrq rec0 (x:=x) h hs core hl acc ha i hi ks (ps++[z]) q' (by rw [hc];simp) (by simp at hq;omega)
  rw [hl1] at ih
  have hwp:=Zrg core ps
  rw [ZjJ,Zb (ne1 (ZN r _)),Zb (ne1 (ZN r _)),YY h hs (c:=.slice Xc 1 (ints e.p.cores)) rfl,WM,hlen,if_pos (by simp [cop];omega),Zb (ne1 (ZN r _)),Zb (ne1 (ZN r _)),WM,Z1 hz,ZaQ (by omega)]
  by_cases hk:z=core
  ·have e1:wo core (ps++[z])=wo core ps:=by
    unfold wo
    rw [UK,Wd (by simp [hk])]
    simp
   rw [e1] at ih
   rw [if_neg (by simp [cop,hk]),ih]
  ·have e1:wo core (ps++[z])=wo core ps++[z]:=by
    unfold wo
    rw [UK,Wh (by simp [hk])]
    simp
   rw [e1] at ih
   have e2:ints (wo core ps)++(E0++[[AV.val (.int .i64 z)]])=ints (wo core ps++[z]):=by simp [ints]
   rw [if_pos (by simp [cop,hk]),Zb (ne1 (ZN r _)),Zb (ne1 (ZN r _)),WM,Z1 hz,Zb (by unfold Jq ZB;simp;omega),e2,ih]
theorem ZmV {x:LL} (core:Int):∀ (ks pre:List PE) (rows:LL) (r:RS) (acc:List Int) (q:Nat),r.es=pre++ks→ks.length < q→r.es.length≤64→(∀ e∈ks,e.p.cores.length≤100)→acc.length+ks.length≤64→ZD rows (r.frag++F)→Zd x = .oref (r.jr+1) 0→
  ∃ rows',ZpL q x core (ints acc) (pre.length:Int) rows=ZmA Jr x (ints (acc++ZbR core ks)) [] 0 rows'∧ZD rows' (({ r with es:=pre++ks.map (Yh core) } : RS).frag++F)
 | [], pre, rows, r, acc, q, hs, hq, hl, _, _, h, hx => by
  obtain ⟨q',rfl⟩:∃ q',q=q'+1:=⟨q-1,by simp at hq;omega⟩
  have hs':=hs
  rw [XJ] at hs
  rw [Zkb,Zb (ne1 (ZA hx)),Zb (ne1 (ZA hx)),KD h hx,Zo rfl,Zb (ne1 (Zai _ _)),YA,hs,if_neg (by simp [cop])]
  refine ⟨rows,by simp [ZbR],?_⟩
  have:({ r with es:=pre++([] : List PE).map (Yh core) } : RS)=r:=by
   obtain ⟨a,b,c,d⟩:=r
   simp only [XG] at hs' ⊢
   rw [hs']
  rw [this]
  exact h
 | e :: ks, pre, rows, r, acc, q, hs, hq, hl, hcl, ha, h, hx => by
  obtain ⟨q',rfl⟩:∃ q',q=q'+1:=⟨q-1,by simp at hq;omega⟩
  have hel:r.es.length=pre.length+ks.length+1:=by rw [hs];simp;omega
  have hce:=hcl e (by simp)
  have hal:acc.length+ks.length+1≤64:=by simp at ha;omega
  have hin:=Zrq (F41.lp [0,1,0] 0 r0 q') (x:=x) h hs core hce acc (by omega) pre.length (by omega) e.p.cores [] Jr rfl (by unfold Jr;omega)
  have hz:((([] : List Int).length:Nat):Int)=0:=rfl
  have hw0:ints (wo core [])=E0:=rfl
  rw [hz,hw0] at hin
  have hset:=Zet (r:=r) (e':=Yh core e) h hs (o:=3) (c:=.slice Xc 1 (ints (wo core e.p.cores))) (by decide) rfl
  rw [Zkb,Zb (ne1 (ZA hx)),Zb (ne1 (ZA hx)),KD h hx,Zo rfl,Zb (ne1 (Zai _ _)),YA,if_pos (by simp [cop];omega),Zb (ne1 (ZA hx)),Zb (ne1 (ZA hx)),Zo rfl,Zb (by omega),YA,Zb (by omega),Zhe,hin]
  have hl1:((pre++[Yh core e]).length:Int)=((pre.length+1:Nat):Int):=by simp
  obtain ⟨rows',t1,t2⟩:=ZmV (x:=x) core ks (pre++[Yh core e]) _ { r with es:=pre++Yh core e::ks } (if e.p.ended=Xc∧wo core e.p.cores = [] then acc++[e.p.id] else acc) q' (by simp) (by simp at hq;omega) (by show (pre++Yh core e::ks).length≤64;rw [Xu,XA];omega) (fun a ha=>hcl a (by simp [ha])) (by split<;>(try simp only [Xu,XA,XT])<;>omega) hset hx
  rw [hl1] at t1
  refine ⟨rows',?_,?_⟩
  ·show ZpL q' x core _ _ _=_
   rw [t1]
   congr 2
   unfold ZbR
   by_cases hb:e.p.ended=Xc∧wo core e.p.cores = []
   ·rw [if_pos hb,Wh (by simp [hb.1,hb.2])]
    simp
   ·rw [if_neg hb,Wd (by
     intro hh
     rw [Xr] at hh
     exact hb ⟨by simpa using hh.1,by simpa using hh.2⟩)]
  ·have:({ ({ r with es:=pre++Yh core e::ks } : RS) with es:=(pre++[Yh core e])++ks.map (Yh core) } : RS) = { r with es:=pre++(e::ks).map (Yh core) }:=by simp
   rw [this] at t2
   exact t2
theorem Zaw (ho:LOk es last) (core:Int):LOk (es.map (Yh core)) last:=Ziz ho (fun _=>rfl) fun e he=>ho.par e he
def VP (es:List PE) (core:Int):(List PE×List ZiY)×Int:=
 if 0≤core∧core < 32 then (Zi (-2) (es.map (Yh core)) (ZbR core es),0) else ((es,[]),1)
theorem s41 {x:LL} (h:ZD rows (r.frag++F)) (ho:LOk r.es r.last) (hx:Zd x = .oref (r.jr+1) 0) {core:Int} (hcl:∀ e∈r.es,e.p.cores.length≤100) :
  ∃ rows' ja' G,g41 x core rows=Xa (ZU (VP r.es core).1.2,(VP r.es core).2,rows')∧ZD rows' (({ r with ja:=ja',es:=(VP r.es core).1.1 } : RS).frag++(G++F)):=by
 have hl:=ho.len
 rw [ZuQ,s54,Xi]
 unfold VP
 by_cases hr:0≤core∧core < 32
 ·rw [decide_eq_true hr,if_neg (by decide),if_pos hr]
  obtain ⟨rows1,t1,t2⟩:=ZmV (F:=F) (x:=x) core r.es [] rows r [] Jr rfl (by unfold Jr;omega) hl hcl (by simp;omega) h hx
  have hz:((([] : List PE).length:Nat):Int)=0:=rfl
  have hi0:(ints ([] : List Int))=E0:=rfl
  rw [hz,hi0] at t1
  rw [t1]
  rw [XM] at t2 ⊢
  have hbl:(ZbR core r.es).length≤64:=by
   unfold ZbR
   rw [Xq]
   exact XK (Un _ _) hl
  obtain ⟨rows2,ja2,G2,q1,q2⟩:=Zjs (x:=x) (zs:=ZbR core r.es) (by omega) (ZbR core r.es) [] rows1 F { r with es:=r.es.map (Yh core) } [] Jr rfl (by unfold Jr;omega) t2 (Zaw ho core) hx (by simp;omega)
  rw [show ((([] : List Int).length:Nat):Int)=0 from rfl] at q1
  rw [q1]
  exact ⟨rows2,ja2,G2,rfl,q2⟩
 ·rw [decide_eq_false hr,if_pos (by decide),if_neg hr]
  exact ⟨rows,r.ja,[],rfl,h⟩
end
open Go Go.AM Go.Proofs.Ytpjnmgjphfnmmaa
set_option maxRecDepth 100000
structure Rl (a b:PE):Prop where
 id:a.p.id=b.p.id
 parent:a.p.parent=b.p.parent
 ended : a.p.ended = b.p.ended
 status:a.p.status=b.p.status
 waiting:a.p.waiting=b.p.waiting
 cores:a.p.cores.Perm b.p.cores
inductive Sm:List PE→List PE→Prop
 | nil : Sm [] []
 | cons {a b : PE} {l l' : List PE} : Rl a b → Sm l l' → Sm (a :: l) (b :: l')
theorem Zei {es es':List PE} (h:Sm es es') (k:Int):(es.find? (fun e=>decide (e.p.id=k))=Xe∧es'.find? (fun e=>decide (e.p.id=k))=Xe)∨∃ a b,es.find? (fun e=>decide (e.p.id=k))=Xa a∧es'.find? (fun e=>decide (e.p.id=k))=Xa b∧Rl a b:=by
 induction h with
 | nil => exact .inl ⟨rfl, rfl⟩
 | @cons a b l l' hr _ ih =>
  by_cases hk:a.p.id=k
  ·rw [Tb (by simp [hk]),Tb (by rw [← hr.id];simp [hk])]
   exact .inr ⟨a,b,rfl,rfl,hr⟩
  ·rw [Tc (by simp [hk]),Tc (by rw [← hr.id];simp [hk])]
   exact ih
theorem ZoB {es es':List PE} {f g:PE→PE} (h:Sm es es') (hf:∀ a b,Rl a b→Rl (f a) (g b)):Sm (es.map f) (es'.map g):=by
 induction h with
 | nil => exact .nil
 | cons hr _ ih => exact .cons (hf _ _ hr) ih
theorem Zd5 {es es':List PE} {p q:PE→Bool} (h:Sm es es') (hp:∀ a b,Rl a b→p a=q b):Sm (es.filter p) (es'.filter q):=by
 induction h with
 | nil => exact .nil
 | @cons a b l l' hr _ ih =>
  by_cases ha:p a=Xb
  ·rw [Wh ha,Wh (by rw [← hp a b hr];exact ha)]
   exact .cons hr ih
  ·rw [Wd ha,Wd (by rw [← hp a b hr];exact ha)]
   exact ih
theorem Zh9 {es es':List PE} (h:Sm es es'):(es.map fun e=>e.p.id)=es'.map fun e=>e.p.id:=by
 induction h with
 | nil => rfl
 | cons hr _ ih => rw [Xh, Xh, hr.id, ih]
theorem ZqU {es es':List PE} (h:Sm es es'):es.length=es'.length:=by
 have:=congrArg Xn (Zh9 h)
 simpa using this
theorem Zu0 {es es' fs fs':List PE} (h:Sm es es') (h2:Sm fs fs'):Sm (es++fs) (es'++fs'):=by
 induction h with
 | nil => exact h2
 | cons hr _ ih => exact .cons hr ih
theorem ZoP {es es':List PE} (h:Sm es es') {b:PE} (hb:b∈es'):∃ a∈es,Rl a b:=by
 induction h with
 | nil => cases hb
 | @cons a b' l l' hr _ ih =>
  rcases Xp.1 hb with rfl | hb
  ·exact ⟨a,by simp,hr⟩
  ·obtain ⟨c,hc,h1⟩:=ih hb
   exact ⟨c,by simp [hc],h1⟩
theorem ZtR {es es':List PE} {p:PE→Bool} (h:Sm es es') (hp:∀ a b,Rl a b→p a=p b):es.any p=es'.any p:=by
 induction h with
 | nil => rfl
 | cons hr _ ih => rw [UV, UV, hp _ _ hr, ih]
theorem ZqC {es es':List PE} {p:PE→Bool} (h:Sm es es') (hp:∀ a b,Rl a b→p a=p b):(es.find? p=Xe∧es'.find? p=Xe)∨∃ a b,es.find? p=Xa a∧es'.find? p=Xa b∧Rl a b:=by
 induction h with
 | nil => exact .inl ⟨rfl, rfl⟩
 | @cons a b l l' hr _ ih =>
  by_cases hk:p a=Xb
  ·rw [Tb hk,Tb (by rw [← hp a b hr];exact hk)]
   exact .inr ⟨a,b,rfl,rfl,hr⟩
  ·rw [Tc hk,Tc (by rw [← hp a b hr];exact hk)]
   exact ih
theorem ZsR {es es':List PE} (h:Sm es es') (id:Int):Jx es id=Jx es' id:=by
 unfold Jx
 exact Zh9 (Zd5 h fun a b hr=>by rw [hr.parent])
theorem ZnK {es es':List PE} (h:Sm es es'):∀ (n:Nat) (id:Int),JZ n es id=JZ n es' id
 | 0, _ => rfl
 | n + 1, id => by
  rw [JZ,JZ,ZsR h]
  congr 1
  funext c
  rw [ZnK h n c]
theorem ZkY {es es':List PE} (h:Sm es es') (id:Int):KI es id=KI es' id:=by
 unfold KI
 rcases Zei h id with ⟨h1,h2⟩ | ⟨a,b,h1,h2,_⟩
 ·rw [h1,h2]
 ·rw [h1,h2,ZnK h]
theorem ZdT {es es':List PE} (h:Sm es es') (k:Int):(J1 es k=Xe∧J1 es' k=Xe)∨∃ a b,J1 es k=Xa a∧J1 es' k=Xa b∧Rl a b:=by
 unfold J1
 rcases Zei h k with ⟨h1,h2⟩ | ⟨a,b,h1,h2,hr⟩
 ·rw [h1,h2]
  exact .inl ⟨rfl,rfl⟩
 ·rw [h1,h2]
  dsimp only
  rw [← hr.ended]
  split
  ·exact .inl ⟨rfl,rfl⟩
  ·exact .inr ⟨a,b,rfl,rfl,hr⟩
def Eqv {α:Type} (x y:List PE×α):Prop:=Sm x.1 y.1∧x.2=y.2
theorem ZnI {es es':List PE} (h:Sm es es') (k:Int) {f:Pr→Pr} (hf:∀ a b:PE,Rl a b→Rl { a with p:=f a.p } { b with p:=f b.p }):Sm (V4 k f es) (V4 k f es'):=by
 refine ZoB h fun a b hr=>?_
 by_cases hk:a.p.id=k
 ·rw [if_pos hk,if_pos (hr.id ▸ hk)]
  exact hf a b hr
 ·rw [if_neg hk,if_neg (hr.id ▸ hk)]
  exact hr
theorem Zn9 {es es':List PE} (h:Sm es es') (k:Int) {f g:PE→PE} (hf:∀ a b:PE,Rl a b→Rl (f a) (g b)):Sm (JP k f es) (JP k g es'):=by
 refine ZoB h fun a b hr=>?_
 by_cases hk:a.p.id=k
 ·rw [if_pos hk,if_pos (hr.id ▸ hk)]
  exact hf a b hr
 ·rw [if_neg hk,if_neg (hr.id ▸ hk)]
  exact hr
theorem Zq4 {es es':List PE} (h:Sm es es') (k:Int):Sm (Vg k es) (Vg k es'):=Zd5 h fun a b hr=>by rw [hr.id]
theorem Znh {es es':List PE} (h:Sm es es') (par:Int) {c c':Pr} (h1:c.id=c'.id) (h2:c.status=c'.status):Eqv (J0 es par c) (J0 es' par c'):=by
 unfold J0
 rcases Zei h par with ⟨q1,q2⟩ | ⟨a,b,q1,q2,hr⟩
 ·rw [q1,q2]
  exact ⟨h,rfl⟩
 ·rw [q1,q2]
  dsimp only
  rw [← hr.waiting]
  split
  ·refine ⟨?_,by dsimp only;rw [h1,h2]⟩
   dsimp only
   rw [h1]
   exact Zq4 (ZnI h par fun a b hr=>⟨hr.id,hr.parent,hr.ended,hr.status,rfl,hr.cores⟩) _
  ·exact ⟨h,rfl⟩
theorem Zr2 {es es':List PE} (h:Sm es es') (pid k:Int):Eqv (ZC pid es k) (ZC pid es' k):=by
 unfold ZC
 rcases Zei h k with ⟨q1,q2⟩ | ⟨a,b,q1,q2,hr⟩
 ·rw [q1,q2]
  exact ⟨h,rfl⟩
 ·rw [q1,q2]
  dsimp only
  rw [← hr.parent,← hr.ended]
  have hu:=ZnI h k (f:=fun q=>{ q with parent:=1 }) fun a b hr=>⟨hr.id,rfl,hr.ended,hr.status,hr.waiting,hr.cores⟩
  split
  ·split
   ·exact Znh hu 1 hr.id hr.status
   ·exact ⟨hu,rfl⟩
  ·exact ⟨h,rfl⟩
theorem ZmC (pid:Int):∀ (ks:List Int) {es es':List PE},Sm es es'→Eqv (ZI pid es ks) (ZI pid es' ks)
 | [], _, _, h => ⟨h, rfl⟩
 | k :: ks, es, es', h => by
  obtain ⟨h1,h2⟩:=Zr2 h pid k
  obtain ⟨h3,h4⟩:=ZmC pid ks h1
  exact ⟨h3,by simp only [ZI,h2,h4]⟩
theorem Zrh {es es':List PE} (h:Sm es es') (pid st:Int):Eqv (Y1 es pid st) (Y1 es' pid st):=by
 unfold Y1
 rcases Zei h pid with ⟨q1,q2⟩ | ⟨a,b,q1,q2,hr⟩
 ·rw [q1,q2]
  exact ⟨h,rfl⟩
 ·rw [q1,q2]
  dsimp only
  have hu:Sm (JP pid (JD st) es) (JP pid (JD st) es'):=Zn9 h pid fun a b hr=>⟨hr.id,hr.parent,rfl,rfl,rfl,List.Perm.refl _⟩
  split
  ·exact ⟨hu,rfl⟩
  ·rw [← Zh9 h,← hr.parent]
   obtain ⟨h1,h2⟩:=ZmC pid (es.map fun e=>e.p.id) hu
   obtain ⟨h3,h4⟩:=Znh h1 a.p.parent (c:=(JD st a).p) (c':=(JD st b).p) hr.id rfl
   exact ⟨h3,by dsimp only;rw [h2,h4]⟩
theorem Za3 (st:Int):∀ (zs:List Int) {es es':List PE},Sm es es'→Eqv (Zi st es zs) (Zi st es' zs)
 | [], _, _, h => ⟨h, rfl⟩
 | z :: zs, es, es', h => by
  rcases ZdT h z with ⟨q1,q2⟩ | ⟨a,b,q1,q2,hr⟩
  ·simp only [Zi,q1,q2]
   exact Za3 st zs h
  ·simp only [Zi,q1,q2]
   obtain ⟨h1,h2⟩:=Zrh h z st
   obtain ⟨h3,h4⟩:=Za3 st zs h1
   exact ⟨h3,by dsimp only;rw [h2,h4]⟩
theorem Zss {es es':List PE} (h:Sm es es') (k st:Int):Eqv (K2 es k st).1 (K2 es' k st).1∧(K2 es k st).2=(K2 es' k st).2:=by
 unfold K2
 rcases ZdT h k with ⟨q1,q2⟩ | ⟨a,b,q1,q2,hr⟩
 ·rw [q1,q2]
  exact ⟨⟨h,rfl⟩,rfl⟩
 ·rw [q1,q2]
  dsimp only
  split
  ·exact ⟨⟨h,rfl⟩,rfl⟩
  ·split
   ·exact ⟨⟨h,rfl⟩,rfl⟩
   ·exact ⟨Zrh h k st,rfl⟩
theorem Zr7 {es es':List PE} (h:Sm es es') (id t:Int):Eqv (VD es id t).1 (VD es' id t).1∧(VD es id t).2=(VD es' id t).2:=by
 unfold VD
 rcases ZdT h id with ⟨q1,q2⟩ | ⟨a,b,q1,q2,hr⟩
 ·rw [q1,q2]
  exact ⟨⟨h,rfl⟩,rfl⟩
 ·rw [q1,q2]
  dsimp only
  rcases ZdT h t with ⟨q1,q2⟩ | ⟨a,b,q1,q2,hr⟩
  ·rw [q1,q2]
   exact ⟨⟨h,rfl⟩,rfl⟩
  ·rw [q1,q2]
   dsimp only
   rw [← ZkY h id,← ZkY h t]
   split
   ·exact ⟨Za3 (-1) _ h,rfl⟩
   ·exact ⟨⟨h,rfl⟩,rfl⟩
theorem ZsP {es es':List PE} (h:Sm es es') (k:Int):Eqv (YC es k) (YC es' k):=by
 unfold YC
 rcases ZdT h k with ⟨q1,q2⟩ | ⟨a,b,q1,q2,hr⟩
 ·rw [q1,q2]
  exact ⟨h,rfl⟩
 ·rw [q1,q2]
  dsimp only
  rw [← hr.waiting]
  split
  ·exact ⟨h,rfl⟩
  ·rcases ZqC h (p:=fun e=>decide (e.p.parent=k)&&e.p.ended) (fun a b hr=>by rw [hr.parent,hr.ended]) with ⟨q1,q2⟩ | ⟨c,d,q1,q2,hc⟩
   ·rw [q1,q2]
    dsimp only
    rw [← ZtR h (p:=fun e=>decide (e.p.parent=k)) fun a b hr=>by rw [hr.parent]]
    split
    ·exact ⟨ZnI h k (f:=fun q=>{ q with waiting:=Xb }) fun a b hr=>⟨hr.id,hr.parent,hr.ended,hr.status,rfl,hr.cores⟩,rfl⟩
    ·exact ⟨h,rfl⟩
   ·rw [q1,q2]
    dsimp only
    rw [← hc.id,← hc.status]
    exact ⟨Zq4 h _,rfl⟩
theorem Zf0 {es es':List PE} (h:Sm es es') (parent core:Int) (nm:Bool):YL es parent core nm=YL es' parent core nm:=by
 unfold YL
 rcases ZdT h parent with ⟨q1,q2⟩ | ⟨a,b,q1,q2,hr⟩
 ·rw [q1,q2]
 ·rw [q1,q2,ZqU h]
theorem ZiA {es es':List PE} (h:Sm es es') (k core:Int):Vv es k core=Vv es' k core:=by
 unfold Vv
 rcases ZdT h k with ⟨q1,q2⟩ | ⟨a,b,q1,q2,hr⟩
 ·rw [q1,q2]
 ·rw [q1,q2]
  dsimp only
  simp only [hr.cores.mem_iff]
theorem Zpf {es es':List PE} (h:Sm es es') (k core:Int) (L:Nat):Sm (JP k (Zap L core) es) (JP k (ZoY core) es'):=
 Zn9 h k fun a b hr=>⟨hr.id,hr.parent,hr.ended,hr.status,hr.waiting,(KW _).trans (hr.cores.append_right _)⟩
theorem Zn2 {core:Int} {a b:List Int} (h:a.Perm b):(wo core a).Perm (wo core b):=h.filter _
theorem ZtZ {es es':List PE} (h:Sm es es') (core:Int):Sm (es.map (Yh core)) (es'.map (Yh core)):=
 ZoB h fun a b hr=>⟨hr.id,hr.parent,hr.ended,hr.status,hr.waiting,Zn2 hr.cores⟩
theorem Zqr {es es':List PE} (h:Sm es es') (core:Int):ZbR core es=ZbR core es':=by
 unfold ZbR
 refine Zh9 (Zd5 h fun a b hr=>?_)
 have hw:wo core a.p.cores = []↔wo core b.p.cores = []:=by
  have:=(Zn2 (core:=core) hr.cores).length_eq
  rw [← Ty,← Ty,this]
 rw [hr.ended,decide_eq_decide.2 hw]
def Org (es es':List PE):Prop:=∀ e'∈es',∃ e∈es,e.p.id=e'.p.id∧(e.p.ended=Xb→e'.p.ended=Xb)
theorem Vz (es:List PE):Org es es:=fun e he=>⟨e,he,rfl,id⟩
theorem KJ {a b c:List PE} (h:Org a b) (h2:Org b c):Org a c:=fun e he=>by
 obtain ⟨d,hd,h3,h4⟩:=h2 e he
 obtain ⟨f,hf,h5,h6⟩:=h d hd
 exact ⟨f,hf,h5.trans h3,fun hh=>h4 (h6 hh)⟩
theorem Znp (es:List PE) (k:Int) {f:Pr→Pr} (hid:∀ q,(f q).id=q.id) (hen:∀ q,q.ended=Xb→(f q).ended=Xb):Org es (V4 k f es):=fun e he=>by
 obtain ⟨a,ha,rfl⟩:=Xj.1 he
 refine ⟨a,ha,?_⟩
 split
 ·exact ⟨(hid a.p).symm,hen a.p⟩
 ·exact ⟨rfl,id⟩
theorem Zkq (es:List PE) (k st:Int):Org es (JP k (JD st) es):=fun e he=>by
 obtain ⟨a,ha,rfl⟩:=Xj.1 he
 refine ⟨a,ha,?_⟩
 split
 ·exact ⟨rfl,fun _=>rfl⟩
 ·exact ⟨rfl,id⟩
theorem Zsf (es:List PE) (k:Int):Org es (Vg k es):=fun e he=>⟨e,(Wl.1 he).1,rfl,id⟩
theorem ZfO (es:List PE) (par:Int) (c:Pr):Org es (J0 es par c).1:=by
 unfold J0
 split
 ·split
  ·exact KJ (Znp es par (f:=fun q=>{ q with waiting:=Xc }) (fun _=>rfl) fun _ h=>h) (Zsf _ _)
  ·exact Vz es
 ·exact Vz es
theorem Zk6 (es:List PE) (pid k:Int):Org es (ZC pid es k).1:=by
 unfold ZC
 split
 ·split
  ·have hu:=Znp es k (f:=fun q=>{ q with parent:=1 }) (fun _=>rfl) fun _ h=>h
   split
   ·exact KJ hu (ZfO _ _ _)
   ·exact hu
  ·exact Vz es
 ·exact Vz es
theorem ZcJ (pid:Int):∀ (ks:List Int) (es:List PE),Org es (ZI pid es ks).1
 | [], es => Vz es
 | k :: ks, es => KJ (Zk6 es pid k) (ZcJ pid ks _)
theorem ZoW (es:List PE) (pid st:Int):Org es (Y1 es pid st).1:=by
 unfold Y1
 split
 ·split
  ·exact Zkq es pid st
  ·exact KJ (Zkq es pid st) (KJ (ZcJ pid _ _) (ZfO _ _ _))
 ·exact Vz es
theorem ZcW {es es':List PE} (hs:es.Pairwise fun a b=>a.p.id < b.p.id) (h:Org es es') {z:Int} (hz:J1 es z=Xe):J1 es' z=Xe:=by
 unfold J1
 cases hf:es'.find? (fun e=>decide (e.p.id=z)) with
 | none => rfl
 | some e' =>
  dsimp only
  obtain ⟨e,he,h1,h2⟩:=h e' (Wa hf)
  have hid:e'.p.id=z:=by have:=X4 hf;simpa using this
  have hfe:=Z7 hs he
  rw [h1,hid] at hfe
  unfold J1 at hz
  rw [hfe] at hz
  dsimp only at hz
  have:e.p.ended=Xb:=by
   cases hen:e.p.ended with
   | true => rfl
   | false => rw [hen] at hz; simp at hz
  rw [if_pos (h2 this)]
theorem Vy {last st:Int} {p:Int→Bool} : ∀ (zs:List Int) (es:List PE),LOk es last→(∀ z∈zs,p z=Xc→J1 es z=Xe)→Zi st es (zs.filter p)=Zi st es zs
 | [], _, _, _ => rfl
 | z :: zs, es, ho, h => by
  by_cases hp:p z=Xb
  ·rw [Wh hp]
   cases hr:J1 es z with
   | none =>
    simp only [Zi,hr]
    exact Vy zs es ho fun y hy=>h y (by simp [hy])
   | some e =>
    have ih:=Vy (st:=st) zs (Y1 es z st).1 (Kx ho) fun y hy hpy=>ZcW ho.srt (ZoW es z st) (h y (by simp [hy]) hpy)
    simp only [Zi,hr,ih]
  ·rw [Wd hp]
   have hr:=h z (by simp) (by simpa using hp)
   have ih:=Vy (st:=st) zs es ho fun y hy=>h y (by simp [hy])
   rw [ih]
   simp only [Zi,hr]
theorem del_run {es:List PE} (hs:es.Pairwise fun a b=>a.p.id < b.p.id) (core:Int) {e:PE} (he:e∈es) (hen:e.p.ended=Xb):J1 (es.map (Yh core)) e.p.id=Xe:=by
 have hs2:(es.map (Yh core)).Pairwise fun a b=>a.p.id < b.p.id:=by
  rw [Ta]
  exact hs
 have:=Z7 hs2 (e:=Yh core e) (Xj.2 ⟨e,he,rfl⟩)
 unfold J1
 have hid:(Yh core e).p.id=e.p.id:=rfl
 rw [hid] at this
 rw [this]
 dsimp only
 rw [if_pos (by exact hen)]
theorem ZoE {es:List PE} {last:Int} (ho:LOk es last) (core:Int):YG es core=VP es core:=by
 unfold YG VP
 split
 ·congr 1
  have hb:ZbR core es=(Zdd core es).filter fun z=>(J1 es z).isSome:=by
   unfold Zdd ZbR
   rw [List.filter_map,List.filter_filter]
   congr 1
   refine List.filter_congr fun e he=>?_
   have hf:=Z7 ho.srt he
   have:(J1 es e.p.id).isSome = !e.p.ended:=by
    unfold J1
    rw [hf]
    dsimp only
    cases e.p.ended<;>rfl
   show _=((J1 es e.p.id).isSome&&decide (wo core e.p.cores = []))
   rw [this]
  rw [hb]
  refine (Vy (last:=last) _ _ (Zaw ho core) fun z hz hp=>?_).symm
  obtain ⟨e,he,rfl⟩:=Xj.1 hz
  rw [Wl] at he
  have hf:=Z7 ho.srt he.1
  refine del_run ho.srt core he.1 ?_
  cases hen:e.p.ended with
  | true => rfl
  | false =>
   unfold J1 at hp
   rw [hf] at hp
   dsimp only at hp
   rw [hen] at hp
   simp at hp
 ·rfl
section
open Go Go.AM Go.Proofs.Ytpjnmgjphfnmmaa
set_option maxRecDepth 100000
def FR (K:List Int) (st:Int) (e e':PE):Prop:=e.p.id=e'.p.id∧((e'.p.ended=e.p.ended∧e'.p.status=e.p.status∧e'.p.cores=e.p.cores)∨(e.p.id∈K∧e.p.ended=Xc∧e'.p.ended=Xb∧e'.p.status=st∧e'.p.cores = []))
def Fra (K:List Int) (st:Int) (es es':List PE):Prop:=∀ e'∈es',∃ e∈es,FR K st e e'
variable {st last:Int} {es es' es2:List PE} {K K':List Int}
theorem FR.refl (e:PE):FR K st e e:=⟨rfl,.inl ⟨rfl,rfl,rfl⟩⟩
theorem Kr (es:List PE):Fra K st es es:=fun e he=>⟨e,he,FR.refl e⟩
theorem ZfH (h:Fra K st es es') (hk:∀ z∈K,z∈K'):Fra K' st es es':=fun e he=>by
 obtain ⟨d,hd,h1,h2⟩:=h e he
 exact ⟨d,hd,h1,h2.imp id fun ⟨a,b⟩=>⟨hk _ a,b⟩⟩
theorem Vn (h:Fra K st es es') (h2:Fra K st es' es2):Fra K st es es2:=fun e he=>by
 obtain ⟨d,hd,h3,h4⟩:=h2 e he
 obtain ⟨f,hf,h5,h6⟩:=h d hd
 refine ⟨f,hf,h5.trans h3,?_⟩
 rcases h4 with ⟨a,b,c⟩ | ⟨a,b,c⟩
 ·rcases h6 with ⟨p,q,r⟩ | ⟨p,q,r,s,t⟩
  ·exact .inl ⟨a.trans p,b.trans q,c.trans r⟩
  ·exact .inr ⟨p,q,a.trans r,b.trans s,c.trans t⟩
 ·rcases h6 with ⟨p,q,r⟩ | ⟨p,q,r,s,t⟩
  ·exact .inr ⟨by rw [h5];exact a,by rw [← p];exact b,c⟩
  ·rw [r] at b
   cases b
theorem Zrn (hs:es.Pairwise fun a b=>a.p.id < b.p.id) {a b:PE} (ha:a∈es) (hb:b∈es) (h:a.p.id=b.p.id):a=b:=by
 have h1:=Z7 hs ha
 have h2:=Z7 hs hb
 rw [h,h2] at h1
 exact (Option.some.inj h1).symm
theorem ZiD (es:List PE) (k:Int) {f:Pr→Pr} (h:∀ q,(f q).id=q.id∧(f q).ended=q.ended∧(f q).status=q.status∧(f q).cores=q.cores):Fra K st es (V4 k f es):=fun e he=>by
 obtain ⟨a,ha,rfl⟩:=Xj.1 he
 refine ⟨a,ha,?_⟩
 split
 ·obtain ⟨h1,h2,h3,h4⟩:=h a.p
  exact ⟨h1.symm,.inl ⟨h2,h3,h4⟩⟩
 ·exact FR.refl a
theorem ZoK (es:List PE) (k:Int):Fra K st es (Vg k es):=fun e he=>⟨e,(Wl.1 he).1,FR.refl e⟩
theorem Zk2 (es:List PE) (par:Int) (c:Pr):Fra K st es (J0 es par c).1:=by
 unfold J0
 split
 ·split
  ·exact Vn (ZiD es par (f:=fun q=>{ q with waiting:=Xc }) fun _=>⟨rfl,rfl,rfl,rfl⟩) (ZoK _ _)
  ·exact Kr es
 ·exact Kr es
theorem ZpZ (es:List PE) (pid k:Int):Fra K st es (ZC pid es k).1:=by
 unfold ZC
 split
 ·split
  ·have hu:=ZiD (K:=K) (st:=st) es k (f:=fun q=>{ q with parent:=1 }) fun _=>⟨rfl,rfl,rfl,rfl⟩
   split
   ·exact Vn hu (Zk2 _ _ _)
   ·exact hu
  ·exact Kr es
 ·exact Kr es
theorem ZjC (pid:Int):∀ (ks:List Int) (es:List PE),Fra K st es (ZI pid es ks).1
 | [], es => Kr es
 | k :: ks, es => Vn (ZpZ es pid k) (ZjC pid ks _)
theorem Zju (ho:LOk es last) {k:Int} {e:PE} (hr:J1 es k=Xa e) (st:Int):Fra [k] st es (Y1 es k st).1:=by
 obtain ⟨hf,hen⟩:=Z2 hr
 have hem:=Wa hf
 have hek:e.p.id=k:=by have:=X4 hf;simpa using this
 have hu:Fra [k] st es (JP k (JD st) es):=fun a ha=>by
  obtain ⟨b,hb,rfl⟩:=Xj.1 ha
  refine ⟨b,hb,?_⟩
  split
  ·rename_i hbk
   have:b=e:=Zrn ho.srt hb hem (hbk.trans hek.symm)
   subst this
   exact ⟨rfl,.inr ⟨by simp [hbk],hen,rfl,rfl,rfl⟩⟩
  ·exact FR.refl b
 unfold Y1
 rw [hf]
 dsimp only
 split
 ·exact hu
 ·exact Vn hu (Vn (ZjC k _ _) (Zk2 _ _ _))
theorem ZsS (ho:LOk es last) (k st:Int):J1 (Y1 es k st).1 k=Xe:=by
 unfold Y1
 cases hf:es.find? (fun e=>decide (e.p.id=k)) with
 | none =>
  dsimp only
  unfold J1
  rw [hf]
 | some e =>
  dsimp only
  have hek:e.p.id=k:=by have:=X4 hf;simpa using this
  have hlu:LOk (JP k (JD st) es) last:=Za8 ho (fun _=>rfl) fun _=>rfl
  have hu:J1 (JP k (JD st) es) k=Xe:=by
   have:=Zbx (k:=k) (f:=JD st) (fun _=>rfl) hf
   rw [if_pos hek] at this
   unfold J1
   rw [this]
   rfl
  split
  ·exact hu
  ·exact ZcW hlu.srt (KJ (ZcJ k _ _) (ZfO _ _ _)) hu
theorem W1 (st:Int):∀ (zs:List Int) (es:List PE),Org es (Zi st es zs).1
 | [], es => Vz es
 | z :: zs, es => by
  unfold Zi
  split
  ·exact KJ (ZoW es z st) (W1 st zs _)
  ·exact W1 st zs es
theorem Kt (st:Int):∀ (zs:List Int) (es:List PE),LOk es last→Fra zs st es (Zi st es zs).1
 | [], es, _ => Kr es
 | z :: zs, es, ho => by
  cases hr:J1 es z with
  | none =>
   simp only [Zi,hr]
   exact ZfH (Kt st zs es ho) fun y hy=>by simp [hy]
  | some e =>
   simp only [Zi,hr]
   exact Vn (ZfH (Zju ho hr st) fun y hy=>by simp at hy;simp [hy]) (ZfH (Kt st zs _ (Kx ho)) fun y hy=>by simp [hy])
theorem ZbV (st:Int):∀ (zs:List Int) (es:List PE),LOk es last→∀ z∈zs,J1 (Zi st es zs).1 z=Xe
 | [], _, _, _, h => by cases h
 | y :: zs, es, ho, z, hz => by
  cases hr:J1 es y with
  | none =>
   simp only [Zi,hr]
   rcases Xp.1 hz with rfl | hz
   ·exact ZcW ho.srt (W1 st zs es) hr
   ·exact ZbV st zs es ho z hz
  | some e =>
   simp only [Zi,hr]
   rcases Xp.1 hz with rfl | hz
   ·exact ZcW (Kx ho).srt (W1 st zs _) (ZsS ho z st)
   ·exact ZbV st zs _ (Kx ho) z hz
end
section
open Go Go.AM Go.Proofs.Ytpjnmgjphfnmmaa
set_option maxRecDepth 100000
variable {rows:LL} {F:Ym}
theorem Ze9 (x:Int) {n:Int} (m0:0 < n) (m1:n≤1073741824):∃ a,g9 x n=Xa a∧0≤a∧a < n:=by
 have hr:iop .rem .i64 x n=Int.tmod x n:=rfl
 have h1:=Int.tmod_lt_of_pos x m0
 have h2 : -n < Int.tmod x n:=by
  have:=Int.tmod_lt_of_pos (-x) m0
  rw [Int.neg_tmod] at this
  omega
 rw [Zvs,hr,Zb (by omega)]
 by_cases hn:Int.tmod x n < 0
 ·rw [if_pos (by simp [cop,hn]),ZmP (by omega) (by omega)]
  exact ⟨_,rfl,by omega,by omega⟩
 ·rw [if_neg (by simp [cop];omega)]
  exact ⟨_,rfl,by omega,by omega⟩
def CO (es:List PE):Prop:=∀ e∈es,e.p.cores.Pairwise (fun a b=>a < b)∧∀ z∈e.p.cores,0≤z∧z < 32
theorem ZoH:∀ (l:List Int) (a:Int),l.Pairwise (fun a b=>a < b)→(∀ z∈l,a≤z∧z < 32)→a≤32→(l.length:Int)≤32-a
 | [], a, _, _, ha => by simp; omega
 | z :: l, a, hs, hr, ha => by
  rw [Ui] at hs
  have h1:=hr z (by simp)
  have:=ZoH l (z+1) hs.2 (fun y hy=>⟨by have:=hs.1 y hy;omega,(hr y (by simp [hy])).2⟩) (by omega)
  simp only [XA]
  omega
theorem Zrc {es:List PE} (h:CO es):∀ e∈es,e.p.cores.length≤32:=fun e he=>by
 obtain ⟨h1,h2⟩:=h e he
 have:=ZoH _ 0 h1 h2 (by decide)
 omega
theorem Zky {K:List Int} {st:Int} {es es':List PE} (h:CO es) (hf:Fra K st es es'):CO es':=fun e he=>by
 obtain ⟨a,ha,_,h1⟩:=hf e he
 rcases h1 with ⟨_,_,h1⟩ | ⟨_,_,_,_,h1⟩
 ·rw [h1];exact h a ha
 ·rw [h1];exact ⟨List.Pairwise.nil,fun z hz=>by cases hz⟩
theorem Zt7 {es:List PE} (h:CO es) (core:Int):CO (es.map (Yh core)):=fun e he=>by
 obtain ⟨a,ha,rfl⟩:=Xj.1 he
 obtain ⟨h1,h2⟩:=h a ha
 exact ⟨h1.filter _,fun z hz=>h2 z (Wl.1 hz).1⟩
theorem ZrY {zs:List Int} (h:zs.Nodup):(srt zs).Pairwise fun a b=>a < b:=by
 have h1:=W0 zs
 have h2:(srt zs).Pairwise (fun a b=>a≠b):=by
  have:=(KW zs).nodup_iff.2 h
  exact Tv.1 this
 exact (h1.and h2).imp fun ⟨a,b⟩=>by omega
inductive Stp (es:List PE) (last:Int):List PE→Int→Prop
 | same : Stp es last es last
 | spawn (e' p : PE) (parent core : Int) (nm : ByteArray) : J1 es parent = Xa p → (0 ≤ core ∧ core < 32) → e'.p = ⟨last + 1, parent, nm, [core], Xc, 0, Xc⟩ → Stp es last (es ++ [e']) (last + 1)
 | span (k core : Int) (L : Nat) (e : PE) : J1 es k = Xa e → core ∉ e.p.cores → (0 ≤ core ∧ core < 32) → Stp es last (JP k (Zap L core) es) last
 | exit (k st : Int) (e : PE) : J1 es k = Xa e → Stp es last (Y1 es k st).1 last
 | kill (zs : List Int) : Stp es last (Zi (-1) es zs).1 last
 | wait (k : Int) : Stp es last (YC es k).1 last
 | depart (core : Int) : (0 ≤ core ∧ core < 32) → Stp es last (Zi (-2) (es.map (Yh core)) (Zdd core es)).1 last
theorem Zp7 {es:List PE} {last:Int} (h:LOk es last) (k:Int):LOk (YC es k).1 last:=by
 unfold YC
 cases hr:J1 es k with
 | none => exact h
 | some p =>
  obtain ⟨hf,_⟩:=Z2 hr
  have hpk:p.p.id=k:=by have:=X4 hf;simpa using this
  have hpr:=h.rng p (Wa hf)
  dsimp only
  split
  ·exact h
  ·split
   ·rename_i c hc
    have hcm:=Wa hc
    have hcp:c.p.parent=k:=by
     have:=X4 hc
     rw [Xr] at this
     simpa using this.1
    have:=h.par c hcm
    exact ZiG h (by omega)
   ·split
    ·exact ZbU (f:=fun q=>{ q with waiting:=Xb }) h (fun _=>rfl) fun e he _=>h.par e he
    ·exact h
theorem ZkU (es:List PE) (k:Int) {K:List Int} {st:Int} : Fra K st es (YC es k).1:=by
 unfold YC
 split
 ·exact Kr es
 ·split
  ·exact Kr es
  ·split
   ·exact ZoK _ _
   ·split
    ·exact ZiD es k (f:=fun q=>{ q with waiting:=Xb }) fun _=>⟨rfl,rfl,rfl,rfl⟩
    ·exact Kr es
theorem ZsF {es es':List PE} {last last':Int} (h:LOk es last) (s:Stp es last es' last'):∃ e∈es',e.p.id=1:=by
 cases s with
 | same => exact h.one
 | spawn e' p parent core nm _ _ _ =>
  obtain ⟨e,he,h1⟩:=h.one
  exact ⟨e,by simp [he],h1⟩
 | span k core L e _ _ _ => exact (Za8 (f := Zap L core) h (fun _ => rfl) fun _ => rfl).one
 | exit k st e _ => exact (Kx h).one
 | kill zs => exact (Vj zs _ h).one
 | wait k => exact (Zp7 h k).one
 | depart core _ => exact (Vj _ _ (Zaw h core)).one
theorem Ztv {es es':List PE} {last last':Int} (h:LOk es last) (hc:CO es) (s:Stp es last es' last'):CO es':=by
 cases s with
 | same => exact hc
 | spawn e' p parent core nm _ h1 h2 =>
  intro e he
  rcases Xv.1 he with he | he
  ·exact hc e he
  ·rw [XD] at he
   rw [he,h2]
   exact ⟨Tw _ _,fun z hz=>by rw [XD] at hz;omega⟩
 | span k core L e h1 h2 h3 =>
  intro a ha
  obtain ⟨b,hb,rfl⟩:=Xj.1 ha
  split
  ·rename_i hbk
   obtain ⟨hf,_⟩:=Z2 h1
   have hek:e.p.id=k:=by have:=X4 hf;simpa using this
   have:b=e:=Zrn h.srt hb (Wa hf) (hbk.trans hek.symm)
   subst this
   obtain ⟨c1,c2⟩:=hc b hb
   refine ⟨ZrY ?_,fun z hz=>?_⟩
   ·rw [List.nodup_append]
    refine ⟨Tv.2 (c1.imp fun hh=>by omega),by simp,fun x hx y hy=>?_⟩
    rw [XD] at hy
    intro hh
    rw [hy] at hh
    exact h2 (hh ▸ hx)
   ·have:=(KW (b.p.cores++[core])).mem_iff.1 hz
    rcases Xv.1 this with hz | hz
    ·exact c2 z hz
    ·rw [XD] at hz
     omega
  ·exact hc b hb
 | exit k st e h1 => exact Zky hc (Zju h h1 st)
 | kill zs => exact Zky hc (Kt (-1) zs es h)
 | wait k => exact Zky (K := []) (st := 0) hc (ZkU es k)
 | depart core _ => exact Zky (Zt7 hc core) (Kt (-2) _ _ (Zaw h core))
structure Bo (rows:LL) (m:MS) (r:RS) (F:Ym):Prop where
 h:ZD rows (m.frag++(r.frag++F))
 ok:m.Ok
 sm:Sm m.es r.es
 lst:m.last=r.last
 lok:LOk m.es m.last
 co:CO m.es
theorem ZqV {m:MS} (hm:m.Ok) (h:∃ e∈m.es,e.p.id=1):LOk m.es m.last:=⟨hm.srt,hm.rng,hm.par,hm.len,hm.lst,h⟩
theorem Zrk {es es':List PE} {last:Int} (h:LOk es last) (s:Sm es es'):LOk es' last:=by
 have hids:=Zh9 s
 refine ⟨?_,fun b hb=>?_,fun b hb=>?_,by rw [← ZqU s];exact h.len,h.lst,?_⟩
 ·have h1:=h.srt
  rw [← Ta (f:=fun e:PE=>e.p.id) (R:=fun a b=>a < b)] at h1 ⊢
  rw [← hids]
  exact h1
 ·obtain ⟨a,ha,hr⟩:=ZoP s hb
  rw [← hr.id]
  exact h.rng a ha
 ·obtain ⟨a,ha,hr⟩:=ZoP s hb
  rw [← hr.id,← hr.parent]
  exact h.par a ha
 ·obtain ⟨a,ha,h1⟩:=h.one
  have:(1:Int)∈es'.map fun e=>e.p.id:=by
   rw [← hids]
   exact Xj.2 ⟨a,ha,h1⟩
  obtain ⟨b,hb,h2⟩:=Xj.1 this
  exact ⟨b,hb,h2⟩
theorem mvR {A R F1 F:Ym} (h:ZD rows (A++(F1++(R++F)))):ZD rows (R++(A++(F1++F))):=by
 rw [← Xo] at h
 have:=h.perm (Ud (A++F1) R F)
 rw [Xo] at this
 exact this
theorem mvM {A R G F:Ym} (h:ZD rows (R++(G++(A++F)))):ZD rows (A++(R++(G++F))):=mvR h
theorem Bo.step {m m':MS} {r r':RS} {F F':Ym} {rows rows':LL} (b:Bo rows m r F) (h:ZD rows' (m'.frag++(r'.frag++F'))) (hm:m'.Ok) (hs:Sm m'.es r'.es) (hl:m'.last=r'.last) (st:Stp m.es m.last m'.es m'.last):Bo rows' m' r' F':=
 ⟨h,hm,hs,hl,ZqV hm (ZsF b.lok st),Ztv b.lok b.co st⟩
theorem Zfc {γ:Type} {l:List ZiY} {i:Nat} {a:ZiY} (h:l[i]? = Xa a) (k:Int×Int×Int→Option γ):Zk (ZU l) (i:Int) [.int .i64,.int .i64,.int .i64] k=k (a.1,a.2.1,a.2.2):=
 YF (l:=ZU l) (sh:=[.int .i64,.int .i64,.int .i64]) (cs:=[I a.1,I a.2.1,I a.2.2]) (r:=(a.1,a.2.1,a.2.2)) k (by omega) (by rw [Ws];simp only [ZU,Xl,h,Xw]) rfl
theorem Zjx (l:List ZiY) (hl:l.length≤1000000):∀ (d i k:Nat),i+d=l.length→d < k→Zph k (ZU l) (ZU l) (i:Int)=Xa Xb
 | 0, i, k, hd, hk => by
  obtain ⟨k',rfl⟩:∃ k',k=k'+1:=⟨k-1,by omega⟩
  have hlen:((ZU l).length:Int)=(l.length:Int):=by simp [ZU]
  rw [Zkf,hlen,if_neg (by simp [cop];omega)]
 | d + 1, i, k, hd, hk => by
  obtain ⟨k',rfl⟩:∃ k',k=k'+1:=⟨k-1,by omega⟩
  have hlen:((ZU l).length:Int)=(l.length:Int):=by simp [ZU]
  have hi:i < l.length:=by omega
  have hz:=Xs hi
  rw [Zkf,hlen,if_pos (by simp [cop];omega),Zfc hz,Zfc hz,ZaQ (by omega),if_neg (by simp [cop])]
  exact Zjx l hl d (i+1) k' (by omega) (by omega)
theorem s38 (l:List ZiY) (hl:l.length≤1000000):g38 (ZU l) (ZU l)=Xa Xb:=by
 rw [Zuu,if_neg (by simp [cop])]
 exact Zjx l hl l.length 0 Jr (by omega) (by unfold Jr;omega)
theorem Zac (st:Int):∀ (zs:List Int) (es:List PE) (last:Int),LOk es last→(Zi st es zs).2.length≤65*zs.length
 | [], _, _, _ => Xz _
 | z :: zs, es, last, ho => by
  have hl:=ho.len
  cases hr:J1 es z with
  | none =>
   simp only [Zi,hr,XA]
   have:=Zac st zs es last ho
   omega
  | some e =>
   simp only [Zi,hr,XA,Xu]
   have:=Zac st zs _ last (Kx (pid:=z) (st:=st) ho)
   have:=ZbT es z st
   omega
theorem s33 (a b c d:Int) (raw:Bool) (nm:ByteArray):∃ p q u v w,g33 a b c d raw nm=Xa (p,q,u,v,w)∧ByteArray.size w≤60:=by
 obtain ⟨y1,e1,_,_⟩:=Ze9 b (n:=8) (by decide) (by decide)
 obtain ⟨y2,e2,_,_⟩:=Ze9 c (n:=8) (by decide) (by decide)
 obtain ⟨y3,e3,_,_⟩:=Ze9 d (n:=3) (by decide) (by decide)
 obtain ⟨y4,e4,_,_⟩:=Ze9 c (n:=256) (by decide) (by decide)
 rw [ZuE,e1,e2,e3,e4]
 cases raw with
 | false => exact ⟨_, _, _, _, _, rfl, by decide⟩
 | true =>
  rw [if_pos rfl]
  by_cases h:nm.size≤60
  ·rw [if_pos (by simp [cop];omega)]
   exact ⟨_,_,_,_,_,rfl,h⟩
  ·rw [if_neg (by simp [cop];omega)]
   exact ⟨_,_,_,_,_,rfl,by decide⟩
theorem p10 {m:MS} {r:RS} (b:Bo rows m r F) {x y:LL} (hx:Zd x = .oref (m.jm+1) 0) (hy:Zd y = .oref (r.jr+1) 0) (hlast:m.last < 1048576) (parent core:Int) {nm:ByteArray} (hn:nm.size≤60) :
  ∃ v e rows1 rows2 m' r' F',g10 x parent nm core rows=Xa (v,e,rows1)∧g34 y parent nm core rows1=Xa (v,e,rows2)∧Bo rows2 m' r' F'∧m'.jm=m.jm∧r'.jr=r.jr∧m'.last≤m.last+1∧Stp m.es m.last m'.es m'.last:=by
 have h28:=s28 nm (by omega)
 have h56:=s56 nm (by omega)
 have hlr:=Zrk b.lok b.sm
 by_cases hc:YL m.es parent core (Zgh nm)=0
 ·have hc2:YL r.es parent core (Zgh nm)=0:=by rw [← Zf0 b.sm];exact hc
  obtain ⟨rows1,e',q1,q2,q3,q4⟩:=s10 b.h b.ok hx h28 hc hlast
  have hr1:=q3.perm (Ud _ _ _)
  have hne:r.es≠[]:=by
   obtain ⟨e,he,_⟩:=hlr.one
   intro hh
   rw [hh] at he
   cases he
  have hl1 : -1000≤r.last∧r.last < 1048576:=by
   obtain ⟨e,he,h1⟩:=hlr.one
   have:=hlr.rng e he
   have:=b.lst
   omega
  obtain ⟨rows2,ja2,G,t1,t2⟩:=s34 hr1 hne hlr.len hy h56 hc2 hl1
  have hrun:∃ p,J1 m.es parent=Xa p:=by
   unfold YL at hc
   cases hp:J1 m.es parent with
   | none => rw [hp] at hc; exact absurd hc (by show ¬ ((17 : Int) = 0); decide)
   | some p => exact ⟨p, rfl⟩
  obtain ⟨p,hp⟩:=hrun
  have hcore:0≤core∧core < 32:=by
   unfold YL at hc
   rw [hp] at hc
   dsimp only at hc
   by_cases h1:Zgh nm=Xb
   ·rw [if_pos h1] at hc
    by_cases h2:0≤core∧core < 32
    ·exact h2
    ·rw [if_neg h2] at hc
     exact absurd hc (by decide)
   ·rw [if_neg h1] at hc
    exact absurd hc (by decide)
  have st:Stp m.es m.last (m.es++[e']) (m.last+1):=.spawn e' p parent core nm hp hcore q2
  refine ⟨_,_,rows1,rows2,_,_,_,q1,by rw [b.lst];exact t1,b.step (m':={ m with es:=m.es++[e'],last:=m.last+1 }) (mvM t2) q4 (Zu0 b.sm (.cons ⟨?_,?_,?_,?_,?_,?_⟩ .nil)) (by show m.last+1=r.last+1;rw [b.lst]) st,rfl,rfl,Int.le_refl _,st⟩
  ·rw [q2,b.lst]
  ·rw [q2]
  ·rw [q2]
  ·rw [q2]
  ·rw [q2]
  ·rw [q2]
 ·have hc2:YL r.es parent core (Zgh nm)≠0:=by rw [← Zf0 b.sm];exact hc
  have q1:=Zup b.h hx h28 hc
  have t1:=ZuS (b.h.perm (Ud _ _ _)) hlr.len hy h56 hc2
  rw [← Zf0 b.sm] at t1
  exact ⟨_,_,rows,rows,m,r,F,q1,t1,b,rfl,rfl,by omega,.same⟩
end
section
open Go Go.AM Go.Proofs.Ytpjnmgjphfnmmaa
set_option maxRecDepth 100000
variable {rows:LL} {F:Ym}
theorem Zr4 (z:Int):cop .eql z z=Xb:=by simp [cop]
theorem Zqz {m:MS} {r:RS} (b:Bo rows m r F) (zs:List Int) (st:Int) (hz:zs.length≤100):(Zi st m.es zs).2.length≤1000000:=by
 have:=Zac st zs m.es m.last b.lok
 omega
theorem s17 {m:MS} {r:RS} (b:Bo rows m r F) {x y:LL} (hx:Zd x = .oref (m.jm+1) 0) (hy:Zd y = .oref (r.jr+1) 0) (hlast:m.last < 1048576) (k0 k1 k2 k3:Int) (raw:Bool) (nm:ByteArray) :
  ∃ rows2 m' r' F',g17 x y k0 k1 k2 k3 raw nm rows=Xa (Xb,rows2)∧Bo rows2 m' r' F'∧m'.jm=m.jm∧r'.jr=r.jr∧m'.last≤m.last+1∧Stp m.es m.last m'.es m'.last:=by
 obtain ⟨id,other,core,status,name,h33,hn⟩:=s33 k0 k1 k2 k3 raw nm
 obtain ⟨kd,hk,hk0,hk1⟩:=Ze9 k0 (n:=7) (by decide) (by decide)
 have hlr:=Zrk b.lok b.sm
 have hlr':LOk r.es r.last:=by rw [← b.lst];exact hlr
 have hcl:∀ e∈m.es,e.p.cores.length≤100:=fun e he=>XK (Zrc b.co e he) (by decide)
 have hcr:∀ e∈r.es,e.p.cores.length≤100:=fun e he=>by
  obtain ⟨a,ha,h1⟩:=ZoP b.sm he
  rw [← h1.cores.length_eq]
  exact hcl a ha
 rw [ZuR,h33,Xi]
 dsimp only
 rw [hk,Xi]
 have spawn:∃ rows2 m' r' F',((g10 x id name core rows).bind fun (r15:Int×Int×LL)=>(g34 y id name core r15.2.2).bind fun (r18:Int×Int×LL)=>if (cop .eql r15.1 r18.1)=Xb then Xa ((cop .eql r15.2.1 r18.2.1),r18.2.2) else Xa (Xc,r18.2.2))=Xa (Xb,rows2)∧Bo rows2 m' r' F'∧m'.jm=m.jm∧r'.jr=r.jr∧m'.last≤m.last+1∧Stp m.es m.last m'.es m'.last:=by
  obtain ⟨v,e,rows1,rows2,m',r',F',q1,q2,q3,q4,q5,q6,q7⟩:=p10 b hx hy hlast id core hn
  refine ⟨rows2,m',r',F',?_,q3,q4,q5,q6,q7⟩
  rw [q1,Xi]
  dsimp only
  rw [q2,Xi]
  dsimp only
  rw [if_pos (Zr4 _),Zr4]
 by_cases c0:kd=0
 ·rw [if_pos (by simp [cop,c0])]
  exact spawn
 rw [if_neg (by simp [cop,c0])]
 by_cases c1:kd=1
 ·rw [if_pos (by simp [cop,c1])]
  exact spawn
 rw [if_neg (by simp [cop,c1])]
 by_cases c2:kd=2
 ·rw [if_pos (by simp [cop,c2])]
  by_cases hc:Vv m.es id core=0
  ·have hc2:Vv r.es id core=0:=by rw [← ZiA b.sm];exact hc
   obtain ⟨rows1,F1,L,q1,q2,q3⟩:=s35 b.h b.ok hx hcl hc
   obtain ⟨rows2,es',t1,t2,t3,_⟩:=s36 (mvR q2) hlr.srt hlr.len hy (k:=id) (core:=core) hcr
   rw [t3 hc2] at t2
   have st:Stp m.es m.last (JP id (Zap L core) m.es) m.last:=by
    unfold Vv at hc
    cases hp:J1 m.es id with
    | none => rw [hp] at hc; exact absurd hc (by show ¬ ((17 : Int) = 0); decide)
    | some p =>
     rw [hp] at hc
     dsimp only at hc
     by_cases h2:0≤core∧core < 32
     ·rw [if_pos h2] at hc
      by_cases h3:core∈p.p.cores
      ·rw [if_pos h3] at hc
       exact absurd hc (by decide)
      ·exact .span id core L p hp h3 h2
     ·rw [if_neg h2] at hc
      exact absurd hc (by decide)
   refine ⟨rows2,_,_,_,?_,b.step (m':={ m with es:=JP id (Zap L core) m.es }) (r':={ r with es:=JP id (ZoY core) r.es }) (t2.perm (Ud _ _ _)) q3 (Zpf b.sm id core L) b.lst st,rfl,rfl,by show m.last≤m.last+1;omega,st⟩
   rw [q1,Xi]
   dsimp only
   rw [t1,Xi,hc2]
   rfl
  ·have hc2:Vv r.es id core≠0:=by rw [← ZiA b.sm];exact hc
   have q1:=Zub b.h b.ok hx hcl hc
   obtain ⟨rows2,es',t1,t2,_,t3⟩:=s36 (b.h.perm (Ud _ _ _)) hlr.srt hlr.len hy (k:=id) (core:=core) hcr
   rw [t3 hc2] at t2
   refine ⟨rows2,m,r,F,?_,b.step (t2.perm (Ud _ _ _)) b.ok b.sm b.lst .same,rfl,rfl,by omega,.same⟩
   rw [q1,Xi]
   dsimp only
   rw [t1,Xi,ZiA b.sm,Zr4]
 rw [if_neg (by simp [cop,c2])]
 by_cases c3:kd=3
 ·rw [if_pos (by simp [cop,c3])]
  obtain ⟨rows1,F1,q1,q2,q3⟩:=s13 b.h b.ok hx id status
  obtain ⟨rows2,ja2,G,t1,t2⟩:=s37 (mvR q2) hlr' hy id status
  obtain ⟨⟨g1,g2⟩,g3⟩:=Zss b.sm id status
  have hrl:(K2 m.es id status).1.2.length≤1000000:=by
   unfold K2
   split
   ·simp
   ·split
    ·simp
    ·split
     ·simp
     ·have:=ZbT m.es id status
      have:=b.lok.len
      dsimp only
      omega
  have st:Stp m.es m.last (K2 m.es id status).1.1 m.last:=by
   unfold K2
   split
   ·exact .same
   ·rename_i e he
    split
    ·exact .same
    ·split
     ·exact .same
     ·exact .exit id status e he
  refine ⟨rows2,_,_,_,?_,b.step (m':={ m with es:=(K2 m.es id status).1.1 }) (mvM t2) q3 g1 b.lst st,rfl,rfl,by show m.last≤m.last+1;omega,st⟩
  rw [q1,Xi]
  dsimp only
  rw [t1,Xi]
  dsimp only
  rw [← g2,s38 _ hrl,Xi,if_pos rfl,g3,Zr4]
 rw [if_neg (by simp [cop,c3])]
 by_cases c4:kd=4
 ·rw [if_pos (by simp [cop,c4])]
  obtain ⟨rows1,F1,q1,q2,q3⟩:=s21 b.h b.ok hx id other
  obtain ⟨rows2,ja2,G,t1,t2⟩:=s39 (mvR q2) hlr' hy id other
  obtain ⟨⟨g1,g2⟩,g3⟩:=Zr7 b.sm id other
  have hdl:=ZgC b.ok other
  have hrl:(VD m.es id other).1.2.length≤1000000:=by
   unfold VD
   split
   ·simp
   ·split
    ·simp
    ·split
     ·exact Zqz b _ _ (by simp;omega)
     ·simp
  have st:Stp m.es m.last (VD m.es id other).1.1 m.last:=by
   unfold VD
   split
   ·exact .same
   ·split
    ·exact .same
    ·split
     ·exact .kill _
     ·exact .same
  refine ⟨rows2,_,_,_,?_,b.step (m':={ m with es:=(VD m.es id other).1.1 }) (mvM t2) q3 g1 b.lst st,rfl,rfl,by show m.last≤m.last+1;omega,st⟩
  rw [q1,Xi]
  dsimp only
  rw [t1,Xi]
  dsimp only
  rw [← g2,s38 _ hrl,Xi,if_pos rfl,g3,Zr4]
 rw [if_neg (by simp [cop,c4])]
 by_cases c5:kd=5
 ·rw [if_pos (by simp [cop,c5])]
  obtain ⟨rows1,F1,q1,q2,q3⟩:=s11 b.h b.ok hx id
  obtain ⟨rows2,ja2,G,t1,t2⟩:=s40 (mvR q2) hlr' hy id
  obtain ⟨g1,g2⟩:=ZsP b.sm id
  have st:Stp m.es m.last (YC m.es id).1 m.last:=.wait id
  refine ⟨rows2,_,_,_,?_,b.step (m':={ m with es:=(YC m.es id).1 }) (mvM t2) q3 g1 b.lst st,rfl,rfl,by show m.last≤m.last+1;omega,st⟩
  rw [q1,Xi]
  dsimp only
  rw [t1,Xi]
  dsimp only
  rw [← g2,if_pos (by simp [cop]),if_pos (by simp),Zr4]
 rw [if_neg (by simp [cop,c5])]
 obtain ⟨rows1,F1,q1,q2,q3⟩:=s23 b.h b.ok hx (core:=core) hcl
 obtain ⟨rows2,ja2,G,t1,t2⟩:=s41 (mvR q2) hlr' hy (core:=core) hcr
 have hbl:(Zdd core m.es).length≤64:=by
  unfold Zdd
  rw [Xq]
  exact XK (Un _ _) b.lok.len
 have hge:Eqv (YG m.es core).1 (VP r.es core).1∧(YG m.es core).2=(VP r.es core).2:=by
  rw [ZoE b.lok]
  unfold VP
  split
  ·rw [← Zqr b.sm]
   exact ⟨Za3 (-2) _ (ZtZ b.sm core),rfl⟩
  ·exact ⟨⟨b.sm,rfl⟩,rfl⟩
 obtain ⟨⟨g1,g2⟩,g3⟩:=hge
 have hrl:(YG m.es core).1.2.length≤1000000:=by
  unfold YG
  split
  ·have:=Zac (-2) (Zdd core m.es) _ m.last (Zaw b.lok core)
   dsimp only
   omega
  ·simp
 have st:Stp m.es m.last (YG m.es core).1.1 m.last:=by
  unfold YG
  split
  ·rename_i hcr
   exact .depart core hcr
  ·exact .same
 refine ⟨rows2,_,_,_,?_,b.step (m':={ m with es:=(YG m.es core).1.1 }) (mvM t2) q3 g1 b.lst st,rfl,rfl,by show m.last≤m.last+1;omega,st⟩
 rw [q1,Xi]
 dsimp only
 rw [t1,Xi]
 dsimp only
 rw [← g2,s38 _ hrl,Xi,if_pos rfl,g3,Zr4]
theorem Zqm {es:List PE} {p:Pr} (h:es.map PE.p = [p]):∃ j c,es = [⟨j,c,p⟩]:=by
 match es,h with
 | [e], h =>
  rw [Xh,XG,List.cons.injEq] at h
  exact ⟨e.j,e.c,by rw [← h.1]⟩
theorem s16 (h:ZD rows F) (core:Int):∃ rows' m r F' j c z,g16 core rows=Xa ([[.oref (m.jm+1) 0]],[[.oref (r.jr+1) 0]],Xb,rows')∧Bo rows' m r F'∧m.es = [⟨j,c,Wq z⟩]∧m.last=1∧(0≤z∧z < 32):=by
 obtain ⟨z,hz,z0,z1⟩:=Ze9 core (n:=3) (by decide) (by decide)
 obtain ⟨m,r1,q1,q2,q3,q4,q5⟩:=s8 (z:=z) (by omega) h
 obtain ⟨j,c,hes⟩:=Zqm q4
 obtain ⟨r,r2,t1,t2,t3,t4⟩:=s32 (z:=z) (by omega) q2
 refine ⟨r2,m,r,F,j,c,z,?_,⟨t2.perm (Ud _ _ _),q3,?_,by rw [q5,t4],ZqV q3 ⟨_,by rw [hes];exact XD.2 rfl,rfl⟩,?_⟩,hes,q5,by omega⟩
 ·rw [Zt2,hz,Xi,q1,Xi]
  dsimp only
  rw [t1,Xi]
  dsimp only
  rw [if_pos (by decide),if_pos (by decide),Zb (by simp [Zc,Zd,ZO,okL])]
  rfl
 ·rw [hes,t3]
  exact .cons ⟨rfl,rfl,rfl,rfl,rfl,List.Perm.refl _⟩ .nil
 ·intro e he
  rw [hes,XD] at he
  rw [he]
  exact ⟨Tw _ _,fun y hy=>by
   have:y=z:=by simpa [Wq] using hy
   omega⟩
end
section
open Go Go.AM Go.Proofs.Ytpjnmgjphfnmmaa
set_option maxRecDepth 100000
variable {rows:LL} {F:Ym} {m:MS}
theorem ZrX {es:List PE} {p:Pr} (h:es.map PE.p = [p]):∃ j c,es = [⟨j,c,p⟩]:=by
 match es,h with
 | [e], h =>
  rw [Xh,XG,List.cons.injEq] at h
  exact ⟨e.j,e.c,by rw [← h.1]⟩
theorem Zvk {e:PE} {p:Pr} (h:e.p=p):∃ j c,e=⟨j,c,p⟩:=⟨e.j,e.c,by rw [← h]⟩
theorem Ztz:Zgh ⟨#[97]⟩=Xb:=by decide
theorem Zok {γ:Type} (a:ZiY) (k:Int×Int×Int→Option γ):Zk (ZU [a]) 0 [.int .i64,.int .i64,.int .i64] k=k (a.1,a.2.1,a.2.2):=YF (l:=ZU [a]) (sh:=[.int .i64,.int .i64,.int .i64]) (cs:=[I a.1,I a.2.1,I a.2.2]) (r:=(a.1,a.2.1,a.2.2)) k (by decide:(0:Int)≤0) rfl rfl
theorem s15 (h:ZD rows F):∃ rows',g15 rows=Xa (Xb,rows'):=by
 obtain ⟨m,r1,q1,q2,q3,q4,q5⟩:=s8 (z:=0) (by decide) h
 obtain ⟨j0,c0,hes⟩:=ZrX q4
 have hx:Zd [[.oref (m.jm+1) 0]] = .oref (m.jm+1) 0:=rfl
 have hn:g28 ⟨#[97]⟩=Xa Xb:=by rw [s28 _ (by decide),Ztz]
 obtain ⟨r2,e1,t1,t2,t3,t4⟩:=s10 q2 q3 hx (parent:=1) (core:=0) hn (by rw [hes];rfl) (by rw [q5];decide)
 rw [q5] at t1 t2
 obtain ⟨j1,c1,rfl⟩:=Zvk t2
 obtain ⟨r3,F3,u1,u2,u3⟩:=s11 t3 t4 hx 1
 have hw:YC ({ m with es:=m.es++[⟨j1,c1,⟨1+1,1,⟨#[97]⟩,[0],Xc,0,Xc⟩⟩],last:=m.last+1 } : MS).es 1=([⟨j0,c0,⟨1,0,ZaY,[0],Xc,0,Xb⟩⟩,⟨j1,c1,⟨2,1,⟨#[97]⟩,[0],Xc,0,Xc⟩⟩],0,0,0,Xc,0):=by
  show YC (m.es++_) 1=_
  rw [hes]
  rfl
 rw [hw] at u1 u2 u3
 obtain ⟨r4,F4,v1,v2,v3⟩:=s13 u2 u3 hx 2 7
 have he:K2 [⟨j0,c0,⟨1,0,ZaY,[0],Xc,0,Xb⟩⟩,⟨j1,c1,⟨2,1,⟨#[97]⟩,[0],Xc,0,Xc⟩⟩] 2 7=(([⟨j0,c0,⟨1,0,ZaY,[0],Xc,0,Xc⟩⟩],[(1,2,7)]),0):=rfl
 have he2:K2 ({ m with es:=[⟨j0,c0,⟨1,0,ZaY,[0],Xc,0,Xb⟩⟩,⟨j1,c1,⟨2,1,⟨#[97]⟩,[0],Xc,0,Xc⟩⟩],last:=m.last+1 } : MS).es 2 7=(([⟨j0,c0,⟨1,0,ZaY,[0],Xc,0,Xc⟩⟩],[(1,2,7)]),0):=he
 rw [he2] at v1 v2 v3
 obtain ⟨r5,F5,w1,w2⟩:=s14 v2 v3 hx (fun e he=>by
  rw [XD] at he
  subst he
  show (1:Nat)≤100000
  decide)
 refine ⟨r5,?_⟩
 rw [Zt0,q1,Xi]
 dsimp only
 rw [if_neg (by decide),Zb (by simp [Zc,Zd,ZO,okL]),if_neg (by simp [Zc,Zd,ZO,okL,cop]),t1,Xi]
 dsimp only
 rw [u1,Xi]
 dsimp only
 rw [v1,Xi]
 dsimp only
 rw [if_pos (by decide),if_pos (by decide),if_pos (by decide),if_pos (by decide),if_pos (by decide),if_pos (by decide)]
 rw [Zok,if_pos (by decide),w1]
 rfl
end
end Go.W
