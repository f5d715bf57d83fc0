import Derived.Test.YtpjnmgjphfnmmaaM4
import Derived.Test.YtpjnmgjphfnmmaaFWh
import Derived.Test.YtpjnmgjphfnmmaaFWe
open Option renaming some→Xa,none→Xe,bind_some→Xi,map_some→Xw
open Bool renaming true→Xb,false→Xc,and_eq_true→Xs,true_and→X8,false_eq_true→UB
open List renaming replicate→Xg,map_cons→Xh,mem_map→Xj,getElem?_eq_some_iff→Xk,getElem?_map→Xl,length→Xm,append_assoc→Xo,length_map→Xp,mem_cons→Xq,getElem?_eq_getElem→Xr,length_append→Xu,mem_append→Xv,getElem?_append_left→Xx,getElem?_append_right→Xy,length_cons→Xz,all_eq_true→XD,mem_singleton→XF,map_nil→XG,append_nil→XK,cons_append→XL,nil_append→XM,map_append→XN,length_take→XS,length_nil→XT,flatten_cons→X4,filter_cons_of_neg→X9,getElem?_set_self→Wb,mem_filter→Wc,filter_cons_of_pos→Wd,nodup_cons→Wf,map_map→Wg,find?_some→Wh,getElem?_eq_none→Wj,map_congr_left→Wo,mem_of_find?_eq_some→Ws,ext_getElem?→Wv,pairwise_append→Ub,sum_cons→Uc,pairwise_cons→Ug,perm_append_comm_assoc→Uh,mem_cons_of_mem→Um,length_filter_le→Un,take_of_length_le→Uo,mem_append_left→UC,flatMap_cons→UG,filter_append→UL,length_set→UO,filter_eq_self→UU,find?_cons→UV,perm_middle→UW,mem_append_right→U6,any_cons→U8,pairwise_map→U9,find?_cons_of_pos→Ta,find?_cons_of_neg→Tb,take_length→Ti,find?_eq_none→Tl,find?_eq_some_iff_append→Tm,filterMap_cons_some→Tu,nodup_iff_pairwise_ne→Tv,pairwise_singleton→Tw,set_append_right→Tx,length_eq_zero_iff→Ty,take_append_of_le_length→Tz
open Nat renaming le_refl→XA,zero_add→XH,le_trans→XI,zero_le→X7,mul_one→Wn,sub_self→UA,add_sub_cancel_left→UM
open Int renaming toNat_natCast→Wr
open Function renaming comp→U4
set_option linter.unusedVariables false
set_option linter.unusedSimpArgs false
set_option linter.defProp false
namespace Go.W
section
open Go Go.AM Go.Proofs.Ytpjnmgjphfnmmaa
set_option maxRecDepth 100000
structure Pr where
 id:Int
 parent:Int
 name:ByteArray
 cores:List Int
 ended : Bool
 status:Int
 waiting:Bool
structure PE where
 j:Nat
 c:Option (Nat×Nat)
 p:Pr
def PE.core (e:PE):AV:=match e.c with | none=>.osl 0 0 0 | some q=>.osl 3 (q.1+1) e.p.cores.length
def PE.row (e:PE):List AV:=[I e.p.id,I e.p.parent,.val (.string e.p.name),e.core,B e.p.ended,I e.p.status,B e.p.waiting]
def PE.arr (e:PE) (k:Nat):List AV:=e.p.cores.map (fun z=>I z)++Xg k (I 0)
def PE.frag (e:PE):Ym:=(e.j,e.row)::(match e.c with | none=>[] | some q=>[(q.1,e.arr q.2)])
def PE.ok (e:PE):Prop:=match e.c with | none=>e.p.cores = [] | some q=>e.p.cores.length+q.2≠0
structure MS where
 jm:Nat
 jq:Nat
 es:List PE
 last:Int
def PE.kv (e:PE):List AV:=[I e.p.id,.oref (e.j+1) 0]
def MS.head (m:MS):List AV:=[.omap (m.jq+1),I m.last]
def MS.map (m:MS):List AV:=ZZ (m.es.map PE.kv)
def MS.frag (m:MS):Ym:=(m.jm,m.head)::(m.jq,m.map)::m.es.flatMap PE.frag
def MS.find (m:MS) (k:Int):Option PE:=m.es.find? fun e=>decide (e.p.id=k)
def nmE (o:Option PE):LL:=match o with | none=>[[.oref 0 0]] | some e=>[[.oref (e.j+1) 0]]
variable {rows:LL} {F:Ym} {m:MS}
theorem head_at (h:ZD rows (m.frag++F)):rows[m.jm]? = Xa m.head:=h.get (by simp [MS.frag])
theorem map_at (h:ZD rows (m.frag++F)):rows[m.jq]? = Xa m.map:=h.get (by simp [MS.frag])
theorem ZlU (h:ZD rows (m.frag++F)) {e:PE} (he:e∈m.es):rows[e.j]? = Xa e.row:=h.get (by
 simp only [MS.frag,XL,Xq,Xv,List.mem_flatMap]
 exact .inr (.inr (.inl ⟨e,he,by simp [PE.frag]⟩)))
theorem Zcq {x:LL} {k:Int} (h:ZD rows (m.frag++F)) (hx:Ze x = .omap (m.jq+1)):Zd .mget rows k x []=nmE (m.find k):=by
 simp only [Zd,hx,ZmY,Zr4,Ji (map_at h),MS.map,ZZ,Kj]
 have:(m.es.map PE.kv).find? (fun r=>ZY r == Xa k)=(m.find k).map PE.kv:=by
  unfold MS.find
  induction m.es with
  | nil => rfl
  | cons e es ih =>
   have hk:(ZY e.kv == Xa k)=decide (e.p.id=k):=by
    show (Xa e.p.id == Xa k)=_
    by_cases hd:e.p.id=k<;>simp [hd]
   simp only [Xh,UV,hk]
   cases hd:decide (e.p.id=k) with
   | true => rfl
   | false => exact ih
 rw [this]
 cases m.find k with
 | none => rfl
 | some e => rfl
theorem Va {x:LL} (h:ZD rows (m.frag++F)) (hx:Ze x = .omap (m.jq+1)):Zd .mchk rows 0 x [] = [[]]:=by
 simp only [Zd,hx,ZtQ,Ji (map_at h),MS.map,ZZ,Yq,okL]
theorem Js {k:Int} {e:PE} (h:m.find k=Xa e):e∈m.es∧e.p.id=k:=by
 unfold MS.find at h
 refine ⟨Ws h,?_⟩
 have:=Wh h
 simpa using this
def MS.run (m:MS) (k:Int):Option PE:=match m.find k with | some e=>if e.p.ended=Xb then Xe else Xa e | none=>Xe
theorem Zp {γ:Type} {c:AV} (hc:ZP c=Xb) (k:LL→Option γ):Zl [[c]] 0 [.cel] k=k [[c]]:=by
 refine YH (l:=[[c]]) (sh:=[.cel]) (cs:=[c]) (r:=([[c]] : LL)) k (by decide:(0:Int)≤0) rfl ?_
 show (if ZP c=Xb then Xa [[c]] else Xe)=Xa [[c]]
 rw [if_pos hc]
theorem JR {γ:Type} (b:Bool) (k:Bool→Option γ):Zl [[B b]] 0 [.bool] k=k b:=YH (l:=[[B b]]) (sh:=[.bool]) (cs:=[B b]) (r:=(b:Bool)) k (by decide:(0:Int)≤0) rfl rfl
theorem ZJ {γ:Type} (z:Int) (k:Int→Option γ):Zl [[I z]] 0 [.int .i64] k=k z:=YH (l:=[[I z]]) (sh:=[.int .i64]) (cs:=[I z]) (r:=(z:Int)) k (by decide:(0:Int)≤0) rfl rfl
theorem ne1 {l:LL} (h:l = [[]]):l≠[]:=by rw [h];simp
theorem YV {x:LL} (h:ZD rows (m.frag++F)) (hx:Ze x = .oref (m.jm+1) 0):Zd (.get 1) rows 0 (Zd (.padd 0) x 0 E0 []) [] = [[.omap (m.jq+1)]]:=by
 rw [YM hx]
 exact JF rfl (head_at h) rfl rfl
theorem Zjm {x:LL} (h:ZD rows (m.frag++F)) (hx:Ze x = .oref (m.jm+1) 0):Zd (.get 1) rows 0 (Zd (.padd 1) x 0 E0 []) [] = [[I m.last]]:=by
 rw [YM hx]
 exact JF rfl (head_at h) rfl rfl
theorem Ki (o:Option PE):Zd .pisr (nmE o) 0 E0 [] = [[]]:=by cases o with | none=>exact Zo6 rfl | some e=>exact Zrw rfl
theorem K0:Zd .pnn (nmE Xe) 0 E0 [] = []:=Zq8 rfl
theorem Zr (e:PE):Zd .pnn (nmE (Xa e)) 0 E0 [] = [[]]:=ZC rfl
theorem ZdP (e:PE):Ze (nmE (Xa e)) = .oref (e.j+1) 0:=rfl
theorem Ke {e:PE} {o:Nat} {c:AV} (h:ZD rows (m.frag++F)) (he:e∈m.es) (hc:e.row[o]? = Xa c):Zd (.get 1) rows 0 (Zd (.padd o) (nmE (Xa e)) 0 E0 []) [] = [[c]]:=by
 rw [YM (ZdP e),XH]
 exact JF rfl (ZlU h he) rfl hc
theorem s27 {x:LL} (h:ZD rows (m.frag++F)) (hx:Ze x = .oref (m.jm+1) 0) (k:Int):g27 x k rows=Xa (nmE (m.run k),rows):=by
 rw [Ztc,Zc (ne1 (ZC hx)),Zc (ne1 (ZC hx)),YV h hx,Zp rfl,Zc (ne1 (Va h rfl)),Zcq h rfl,Zc (ne1 (Ki _))]
 unfold MS.run
 cases hf:m.find k with
 | none =>
  rw [K0]
  rfl
 | some e =>
  rw [Zc (ne1 (Zr e)),Zc (ne1 (Zr e)),Ke h (Js hf).1 (c:=B e.p.ended) rfl,JR,Zr]
  show _=Xa (nmE (if e.p.ended=Xb then Xe else Xa e),rows)
  cases hb:e.p.ended<;>rfl
end
section
open Go Go.AM Go.Proofs.Ytpjnmgjphfnmmaa
set_option maxRecDepth 100000
structure MS.Ok (m:MS):Prop where
 srt:m.es.Pairwise fun a b=>a.p.id < b.p.id
 rng:∀ e∈m.es,1≤e.p.id∧e.p.id≤m.last
 cor:∀ e∈m.es,e.ok
 par:∀ e∈m.es,0≤e.p.parent∧e.p.parent < e.p.id
 len:m.es.length≤64
 lst:m.last≤1048576
variable {rows:LL} {F:Ym} {m:MS}
def MS.ids (m:MS):LL:=m.es.map fun e=>[I e.p.id]
theorem Zsz (es:List PE):(es.map PE.kv).filterMap ZY=es.map fun e=>e.p.id:=by
 induction es with
 | nil => rfl
 | cons e es ih => rw [Xh, Tu (f := ZY) (a := e.kv) (b := e.p.id) rfl, ih, Xh]
theorem Zi5 (h:m.es.Pairwise fun a b=>a.p.id < b.p.id):Zdi (m.es.map PE.kv)=m.ids:=by
 unfold Zdi MS.ids
 rw [Zsz,List.mergeSort_of_pairwise,Wg]
 ·rfl
 ·rw [U9]
  exact h.imp fun hab=>decide_eq_true (by omega)
theorem s51 {x:LL} {rows:LL} (hx:Ze x = .omap (m.jq+1)):g51 x rows=Xa ([[.fnc 69 [rows.length+1]]],rows++[[.omap (m.jq+1)]]):=by
 have hp:Zd .pnew rows 0 E0 [] = [[.oref (rows.length+1) 0]]:=rfl
 rw [ZtD,hp,Zc (by simp [Zd,Ze,ZP,okL]),Zc (ne1 (ZC rfl)),hx]
 rfl
theorem s50 (h:ZD rows (m.frag++F)) (hm:m.Ok):g50 [[.fnc 69 [rows.length+1]]] (rows++[[.omap (m.jq+1)]])=Xa (m.ids,rows++[[.omap (m.jq+1)]]):=by
 have e:g50 [[.fnc 69 [rows.length+1]]] (rows++[[.omap (m.jq+1)]])=ZcN 69 [[.fnc 69 [rows.length+1]]] (rows++[[.omap (m.jq+1)]]):=rfl
 rw [e]
 have hq:(rows++[[.omap (m.jq+1)]])[m.jq]? = Xa m.map:=by
  have:=map_at h
  rw [Xx (Xk.1 this).1]
  exact this
 have hb:Z4 (rows++[[.omap (m.jq+1)]]) (rows.length+1) = [.omap (m.jq+1)]:=Ji (by simp)
 have hr:Z4 (rows++[[.omap (m.jq+1)]]) (m.jq+1)=ZZ (m.es.map PE.kv):=Ji hq
 unfold ZcN
 simp only [Ze,ZP,hb]
 rw [hr]
 have hk:Kj (ZZ (m.es.map PE.kv))=m.es.map PE.kv:=rfl
 rw [hk,Zc,Zi5 hm.srt]
 refine ⟨trivial,rfl,by have:=hm.len;simp;omega,XD.2 fun r hr=>?_⟩
 obtain ⟨e,he,rfl⟩:=Xj.1 hr
 have h1:=hm.rng e he
 have h2:=hm.lst
 show (decide (-9223372036854775808≤e.p.id)&&decide (e.p.id≤9223372036854775807))=Xb
 rw [decide_eq_true (by omega),decide_eq_true (by omega)]
 rfl
theorem s29 {x:LL} (h:ZD rows (m.frag++F)) (hm:m.Ok) (hx:Ze x = .oref (m.jm+1) 0):g29 x rows=Xa (m.ids,rows++[[.omap (m.jq+1)]]):=by
 rw [Ztk,Zc (ne1 (ZC hx)),Zc (ne1 (ZC hx)),YV h hx,Zp rfl,s51 (m:=m) rfl,Xi,s50 h hm]
 rfl
end
section
open Go Go.AM Go.Proofs.Ytpjnmgjphfnmmaa
set_option maxRecDepth 100000
variable {rows:LL} {F:Ym} {m:MS}
def PE.cf (e:PE):Ym:=match e.c with | none=>[] | some q=>[(q.1,e.arr q.2)]
theorem PE.frag_eq (e:PE):e.frag=(e.j,e.row)::e.cf:=rfl
def MS.put (m:MS) (pre:List PE) (e:PE) (post:List PE):MS:={ m with es:=pre++e::post }
theorem Vd (m:MS) {pre post:List PE} {e:PE} (hs:m.es=pre++e::post) :
  (m.frag++F).Perm ((e.j,e.row)::((m.jm,m.head)::(m.jq,m.map)::(pre.flatMap PE.frag++(e.cf++post.flatMap PE.frag))++F)):=by
 have:m.frag++F=((m.jm,m.head)::(m.jq,m.map)::pre.flatMap PE.frag)++((e.j,e.row)::(e.cf++post.flatMap PE.frag++F)):=by
  simp only [MS.frag,hs,List.flatMap_append,UG,PE.frag_eq,XL,Xo]
 rw [this]
 refine List.perm_middle.trans (List.Perm.cons _ ?_)
 simp only [XL,Xo]
 exact List.Perm.refl _
theorem holds_row (h:ZD rows (m.frag++F)) {pre post:List PE} {e e':PE} (hs:m.es=pre++e::post) (hj:e'.j=e.j) (hid:e'.p.id=e.p.id) (hc:e'.cf=e.cf):ZD (rows.set e.j e'.row) ((m.put pre e' post).frag++F):=by
 have h1:=(h.perm (Vd m hs)).set e'.row
 have h2:=(Vd (F:=F) (m.put pre e' post) (pre:=pre) (e:=e') (post:=post) rfl).symm
 refine ZD.perm ?_ h2
 have hm:(m.put pre e' post).map=m.map:=by
  simp only [MS.map,MS.put,hs,XN,Xh,PE.kv,hj,hid]
 have hh:(m.put pre e' post).head=m.head:=rfl
 rw [hm,hh,hj,hc]
 exact h1
theorem WY {k:Int} {e:PE} (h:m.find k=Xa e):∃ pre post,m.es=pre++e::post∧e.p.id=k∧∀ a∈pre,a.p.id≠k:=by
 obtain ⟨h1,pre,post,h2,h3⟩:=Tm.1 (show m.es.find? (fun e=>decide (e.p.id=k))=Xa e from h)
 exact ⟨pre,post,h2,by simpa using h1,fun a ha=>by simpa using h3 a ha⟩
def MS.del (m:MS) (pre post:List PE):MS:={ m with es:=pre++post }
theorem holds_del (h:ZD rows (m.frag++F)) {pre post:List PE} {e:PE} (hs:m.es=pre++e::post):ZD (rows.set m.jq (m.del pre post).map) ((m.del pre post).frag++(e.frag++F)):=by
 have h0:(m.frag++F).Perm ((m.jq,m.map)::((m.jm,m.head)::((m.del pre post).es.flatMap PE.frag++(e.frag++F)))):=by
  simp only [MS.frag,hs,MS.del,List.flatMap_append,UG,XL,Xo]
  refine (List.Perm.swap _ _ _).trans (List.Perm.cons _ (List.Perm.cons _ (List.Perm.append_left _ ?_)))
  rw [← Xo,← Xo (post.flatMap PE.frag)]
  exact List.Perm.append_right _ List.perm_append_comm
 refine ((h.perm h0).set (m.del pre post).map).perm ?_
 have:(m.del pre post).frag++(e.frag++F)=(m.jm,m.head)::(m.jq,(m.del pre post).map)::((m.del pre post).es.flatMap PE.frag++(e.frag++F)):=rfl
 rw [this]
 exact List.Perm.swap _ _ _
theorem ZiD {pre post:List PE} {e:PE} (h:(pre++e::post).Pairwise fun a b=>a.p.id < b.p.id):Za7 ((pre++e::post).map PE.kv) e.p.id=(pre++post).map PE.kv:=by
 unfold Za7
 rw [List.filter_map]
 congr 1
 have hk:∀ a:PE,(((fun r=>!(ZY r == Xa e.p.id)) ∘ PE.kv) a) = !decide (a.p.id=e.p.id):=fun a=>by
  show (!(Xa a.p.id == Xa e.p.id))=_
  by_cases hd:a.p.id=e.p.id<;>simp [hd]
 rw [Ub,Ug] at h
 obtain ⟨_,⟨h2,_⟩,h3⟩:=h
 rw [UL,X9 (by rw [hk];simp),UU.2 fun a ha=>?_,UU.2 fun a ha=>?_]
 ·rw [hk]
  have:=h2 a ha
  simp
  omega
 ·rw [hk]
  have:=h3 a ha e (by simp)
  simp
  omega
theorem Zlh (hm:m.Ok) {pre post:List PE} {e e':PE} (hs:m.es=pre++e::post) (hid:e'.p.id=e.p.id) (hok:e'.ok) (hpr:0≤e'.p.parent∧e'.p.parent < e'.p.id):(m.put pre e' post).Ok:=by
 have hsrt:=hm.srt
 rw [hs] at hsrt
 have hmem:∀ a∈pre++e'::post,a=e'∨a∈m.es:=fun a ha=>by
  rw [hs]
  rcases Xv.1 ha with ha | ha
  ·exact .inr (UC _ ha)
  ·rcases Xq.1 ha with rfl | ha
   ·exact .inl rfl
   ·exact .inr (U6 _ (Um _ ha))
 have he:=hm.rng e (by rw [hs];simp)
 refine ⟨?_,fun a ha=>?_,fun a ha=>?_,fun a ha=>?_,?_,hm.lst⟩
 ·show (pre++e'::post).Pairwise _
  rw [Ub,Ug] at hsrt ⊢
  obtain ⟨h1,⟨h2,h3⟩,h4⟩:=hsrt
  refine ⟨h1,⟨fun a ha=>by rw [hid];exact h2 a ha,h3⟩,fun a ha b hb=>?_⟩
  rcases Xq.1 hb with rfl | hb
  ·rw [hid];exact h4 a ha e (by simp)
  ·exact h4 a ha b (by simp [hb])
 ·rcases hmem a ha with rfl | ha
  ·rw [hid];exact he
  ·exact hm.rng a ha
 ·rcases hmem a ha with rfl | ha
  ·exact hok
  ·exact hm.cor a ha
 ·rcases hmem a ha with rfl | ha
  ·exact hpr
  ·exact hm.par a ha
 ·have:=hm.len
  rw [hs] at this
  show (pre++e'::post).length≤64
  simp at this ⊢
  omega
theorem Zty (hm:m.Ok) {pre post:List PE} {e:PE} (hs:m.es=pre++e::post):(m.del pre post).Ok:=by
 have hsrt:=hm.srt
 rw [hs] at hsrt
 have hmem:∀ a∈pre++post,a∈m.es:=fun a ha=>by
  rw [hs]
  rcases Xv.1 ha with ha | ha
  ·exact UC _ ha
  ·exact U6 _ (Um _ ha)
 refine ⟨?_,fun a ha=>hm.rng a (hmem a ha),fun a ha=>hm.cor a (hmem a ha),fun a ha=>hm.par a (hmem a ha),?_,hm.lst⟩
 ·show (pre++post).Pairwise _
  rw [Ub,Ug] at hsrt
  rw [Ub]
  exact ⟨hsrt.1,hsrt.2.1.2,fun a ha b hb=>hsrt.2.2 a ha b (Um _ hb)⟩
 ·have:=hm.len
  rw [hs] at this
  show (pre++post).length≤64
  simp at this ⊢
  omega
end
section
open Go Go.AM Go.Proofs.Ytpjnmgjphfnmmaa
set_option maxRecDepth 100000
variable {rows:LL} {F:Ym} {m:MS}
def ZcM (k:Int) (f:Pr→Pr) (es:List PE):List PE:=es.map fun e=>if e.p.id=k then { e with p:=f e.p } else e
def V7 (k:Int) (es:List PE):List PE:=es.filter fun e=>!decide (e.p.id=k)
theorem ZbA {k:Int} {f:Pr→Pr} {pre post:List PE} {e:PE} (h:(pre++e::post).Pairwise fun a b=>a.p.id < b.p.id) (hk:e.p.id=k):ZcM k f (pre++e::post)=pre++{ e with p:=f e.p } :: post:=by
 rw [Ub,Ug] at h
 obtain ⟨_,⟨h2,_⟩,h3⟩:=h
 unfold ZcM
 rw [XN,Xh,if_pos hk]
 congr 1
 ·conv=>rhs;rw [← List.map_id pre]
  refine Wo fun a ha=>?_
  have:=h3 a ha e (by simp)
  rw [if_neg (by omega)];rfl
 ·congr 1
  conv=>rhs;rw [← List.map_id post]
  refine Wo fun a ha=>?_
  have:=h2 a ha
  rw [if_neg (by omega)];rfl
theorem Zoe {k:Int} {pre post:List PE} {e:PE} (h:(pre++e::post).Pairwise fun a b=>a.p.id < b.p.id) (hk:e.p.id=k):V7 k (pre++e::post)=pre++post:=by
 rw [Ub,Ug] at h
 obtain ⟨_,⟨h2,_⟩,h3⟩:=h
 unfold V7
 rw [UL,X9 (by simp [hk]),UU.2 fun a ha=>?_,UU.2 fun a ha=>?_]
 ·have:=h2 a ha
  simp
  omega
 ·have:=h3 a ha e (by simp)
  simp
  omega
theorem ZqR {e:PE} {o:Nat} {c:AV} (h:ZD rows (m.frag++F)) (he:e∈m.es) (ho:o < 7):Zd .set rows 0 (Zd (.padd o) (nmE (Xa e)) 0 E0 []) [c]=rows.set e.j (e.row.set o c):=by
 rw [YM (ZdP e),XH]
 exact Zao rfl (ZlU h he) ho
theorem ZmK {e:PE} {f:Pr→Pr} (h:ZD rows (m.frag++F)) (hm:m.Ok) (he:m.find e.p.id=Xa e) (hid:(f e.p).id=e.p.id) (hc:(f e.p).cores=e.p.cores) (hpr:0≤(f e.p).parent∧(f e.p).parent < e.p.id) :
  ZD (rows.set e.j ({ e with p:=f e.p } : PE).row) (({ m with es:=ZcM e.p.id f m.es } : MS).frag++F)∧({ m with es:=ZcM e.p.id f m.es } : MS).Ok:=by
 obtain ⟨pre,post,hs,_,_⟩:=WY he
 have hsrt:=hm.srt
 rw [hs] at hsrt
 have hu:({ m with es:=ZcM e.p.id f m.es } : MS)=m.put pre { e with p:=f e.p } post:=by
  simp only [MS.put,hs,ZbA hsrt rfl]
 rw [hu]
 refine ⟨holds_row h hs rfl hid ?_,Zlh hm hs hid ?_ (by show 0≤(f e.p).parent∧(f e.p).parent < (f e.p).id;rw [hid];exact hpr)⟩
 ·simp only [PE.cf,PE.arr,hc]
 ·have:=hm.cor e (by rw [hs];simp)
  unfold PE.ok at this ⊢
  simp only [hc]
  exact this
theorem ZnW {e:PE} (h:ZD rows (m.frag++F)) (hm:m.Ok) (he:m.find e.p.id=Xa e) {x:LL} (hx:Ze x = .omap (m.jq+1)) :
  ZD (Zd .mdel rows e.p.id x []) (({ m with es:=V7 e.p.id m.es } : MS).frag++(e.frag++F))∧({ m with es:=V7 e.p.id m.es } : MS).Ok:=by
 obtain ⟨pre,post,hs,_,_⟩:=WY he
 have hsrt:=hm.srt
 rw [hs] at hsrt
 have hu:({ m with es:=V7 e.p.id m.es } : MS)=m.del pre post:=by
  simp only [MS.del,hs,Zoe hsrt rfl]
 rw [hu]
 refine ⟨?_,Zty hm hs⟩
 have:=holds_del h hs
 have hst:Zd .mdel rows e.p.id x []=rows.set m.jq (m.del pre post).map:=by
  simp only [Zd,hx,Zl5,Ji (map_at h)]
  show rows.set m.jq (ZZ (Za7 (m.es.map PE.kv) e.p.id))=_
  rw [hs,ZiD hsrt]
  rfl
 rw [hst]
 exact this
abbrev Ziu:=Int×Int×Int
def ZW (l:List Ziu):LL:=l.map fun r=>[I r.1,I r.2.1,I r.2.2]
def Yj (es:List PE) (par:Int) (c:Pr):List PE×List Ziu:=
 match es.find? fun e=>decide (e.p.id=par) with
 | some p => if p.p.waiting = Xb then (V7 c.id (ZcM par (fun q => { q with waiting := Xc }) es), [(par, c.id, c.status)]) else (es, [])
 | none => (es, [])
theorem ZcF {k k':Int} {f:Pr→Pr} {e:PE} (hid:∀ q,(f q).id=q.id) (h:m.find k'=Xa e):({ m with es:=ZcM k f m.es } : MS).find k'=Xa (if e.p.id=k then { e with p:=f e.p } else e):=by
 unfold MS.find ZcM at *
 dsimp only
 rw [List.find?_map]
 have:((fun e:PE=>decide (e.p.id=k')) ∘ fun e=>if e.p.id=k then { e with p:=f e.p } else e)=fun e=>decide (e.p.id=k'):=by
  funext a
  simp only [U4]
  by_cases ha:a.p.id=k
  ·simp only [if_pos ha,hid]
  ·simp only [if_neg ha]
 rw [this,h]
 rfl
theorem s52 {x:LL} (h:ZD rows (m.frag++F)) (hm:m.Ok) (hx:Ze x = .oref (m.jm+1) 0) {e:PE} (he:m.find e.p.id=Xa e) (par:Int) :
  ∃ rows' F',g52 x par (nmE (Xa e)) rows=Xa (ZW (Yj m.es par e.p).2,rows')∧ZD rows' (({ m with es:=(Yj m.es par e.p).1 } : MS).frag++(F'++F))∧({ m with es:=(Yj m.es par e.p).1 } : MS).Ok:=by
 rw [Zt7,Zc (ne1 (ZC hx)),Zc (ne1 (ZC hx)),YV h hx,Zp rfl,Zc (ne1 (Va h rfl)),Zcq h rfl,Zc (ne1 (Ki _))]
 unfold Yj
 cases hf:m.find par with
 | none =>
  have hf':m.es.find? (fun e=>decide (e.p.id=par))=Xe:=hf
  rw [hf',K0]
  exact ⟨rows,[],rfl,h,hm⟩
 | some p =>
  have hf':m.es.find? (fun e=>decide (e.p.id=par))=Xa p:=hf
  obtain ⟨hp,hpk⟩:=Js hf
  subst hpk
  rw [hf',Zc (ne1 (Zr p)),Zc (ne1 (Zr p)),Ke h hp (c:=B p.p.waiting) rfl,JR,Zr]
  rw [if_neg (by decide)]
  dsimp only
  cases hw:p.p.waiting with
  | false =>
   simp only [UB,if_false]
   exact ⟨rows,[],rfl,h,hm⟩
  | true =>
   simp only [Bool.not_true,UB,if_false,if_true]
   obtain ⟨hu1,hu2⟩:=ZmK (f:=fun q=>{ q with waiting:=Xc }) h hm (by rw [hf]) rfl rfl (hm.par p hp)
   have hst:Zd .set rows 0 (Zd (.padd 6) (nmE (Xa p)) 0 E0 []) [AV.val (.bool Xc)]=rows.set p.j ({ p with p:={ p.p with waiting:=Xc } } : PE).row:=by rw [ZqR h hp (by decide)];rfl
   have hfe:=ZcF (k:=p.p.id) (f:=fun q=>{ q with waiting:=Xc }) (fun _=>rfl) he
   obtain ⟨e1,he1⟩:∃ e1,e1=if e.p.id=p.p.id then { e with p:=(fun q:Pr=>{ q with waiting:=Xc }) e.p } else e:=⟨_,rfl⟩
   rw [← he1] at hfe
   have hj:e1.j=e.j:=by rw [he1];split<;>rfl
   have hi:e1.p.id=e.p.id:=by rw [he1];split<;>rfl
   have hs:e1.p.status=e.p.status:=by rw [he1];split<;>rfl
   have hn:nmE (Xa e)=nmE (Xa e1):=by simp only [nmE,hj]
   rw [← hi] at hfe
   rw [hn,hst,Zc (by simp),Zc (by simp),Zc (by simp),Zc (ne1 (ZC hx)),Zc (ne1 (ZC hx))]
   generalize rows.set p.j ({ p with p:={ p.p with waiting:=Xc } } : PE).row=rows1 at hu1 ⊢
   obtain ⟨hv1,hv2⟩:=ZnW hu1 hu2 hfe (x:=[[.omap (m.jq+1)]]) rfl
   rw [YV hu1 hx,Zp rfl,Zc (ne1 (Zr _)),Zc (ne1 (Zr _)),Ke hu1 (Js hfe).1 (c:=I e1.p.id) rfl,ZJ,Zc (ne1 (Va hu1 rfl)),Zc (ne1 (Zr _)),Zc (ne1 (Zr _))]
   have hr:(Zd .mdel rows1 e1.p.id [[.omap (m.jq+1)]] [])[e1.j]? = Xa e1.row:=hv1.get (by simp [PE.frag])
   rw [YM (ZdP e1),YM (ZdP e1),JF (c:=I e1.p.id) rfl hr rfl rfl,ZJ,Zc (ne1 (Zr _)),Zc (ne1 (Zr _)),JF (c:=I e1.p.status) rfl hr rfl rfl,ZJ]
   refine ⟨_,e1.frag,?_,by rw [← hi];exact hv1,by rw [← hi];exact hv2⟩
   rw [hi,hs]
   rfl
end
section
open Go Go.AM Go.Proofs.Ytpjnmgjphfnmmaa
set_option maxRecDepth 100000
variable {rows:LL} {F:Ym} {m:MS}
def Yb (st:Int) (e:PE):PE:={ e with c:=Xe,p:={ e.p with ended:=Xb,status:=st,cores:=[],waiting:=Xc } }
def Yh (k:Int) (f:PE→PE) (es:List PE):List PE:=es.map fun e=>if e.p.id=k then f e else e
theorem Ve {k:Int} {f:PE→PE} {pre post:List PE} {e:PE} (h:(pre++e::post).Pairwise fun a b=>a.p.id < b.p.id) (hk:e.p.id=k):Yh k f (pre++e::post)=pre++f e::post:=by
 rw [Ub,Ug] at h
 obtain ⟨_,⟨h2,_⟩,h3⟩:=h
 unfold Yh
 rw [XN,Xh,if_pos hk]
 congr 1
 ·conv=>rhs;rw [← List.map_id pre]
  refine Wo fun a ha=>?_
  have:=h3 a ha e (by simp)
  rw [if_neg (by omega)];rfl
 ·congr 1
  conv=>rhs;rw [← List.map_id post]
  refine Wo fun a ha=>?_
  have:=h2 a ha
  rw [if_neg (by omega)];rfl
theorem Zsn {e:PE} {f:PE→PE} (h:ZD rows (m.frag++F)) (hm:m.Ok) (he:m.find e.p.id=Xa e) (hj:(f e).j=e.j) (hid:(f e).p.id=e.p.id) (hc:(f e).c=Xe) (hok:(f e).ok) (hpr:0≤(f e).p.parent∧(f e).p.parent < e.p.id) :
  ZD (rows.set e.j (f e).row) (({ m with es:=Yh e.p.id f m.es } : MS).frag++(e.cf++F))∧({ m with es:=Yh e.p.id f m.es } : MS).Ok:=by
 obtain ⟨pre,post,hs,_,_⟩:=WY he
 have hsrt:=hm.srt
 rw [hs] at hsrt
 have hu:({ m with es:=Yh e.p.id f m.es } : MS)=m.put pre (f e) post:=by
  simp only [MS.put,hs,Ve hsrt rfl]
 rw [hu]
 refine ⟨?_,Zlh hm hs hid hok (by rw [hid];exact hpr)⟩
 have hcf:(f e).cf = []:=by simp only [PE.cf,hc]
 have h1:=(h.perm (Vd m hs)).set (f e).row
 have h2:=(Vd (F:=e.cf++F) (m.put pre (f e) post) (pre:=pre) (e:=f e) (post:=post) rfl).symm
 refine ZD.perm ?_ h2
 have hmm:(m.put pre (f e) post).map=m.map:=by
  simp only [MS.map,MS.put,hs,XN,Xh,PE.kv,hj,hid]
 have hh:(m.put pre (f e) post).head=m.head:=rfl
 rw [hmm,hh,hj,hcf]
 refine h1.perm (List.Perm.cons _ ?_)
 simp only [XL,XM,Xo]
 refine List.Perm.cons _ (List.Perm.cons _ (List.Perm.append_left _ ?_))
 rw [← Xo,← Xo (post.flatMap PE.frag)]
 exact List.Perm.append_right _ List.perm_append_comm
end
section
open Go Go.AM Go.Proofs.Ytpjnmgjphfnmmaa
set_option maxRecDepth 100000
variable {rows:LL} {F:Ym} {m:MS}
abbrev ints (zs:List Int):LL:=zs.map fun z=>[I z]
theorem ZQ {γ:Type} {zs:List Int} {i:Nat} {z:Int} (h:zs[i]? = Xa z) (k:Int→Option γ):Zl (ints zs) (i:Int) [.int .i64] k=k z:=
 YH (l:=ints zs) (sh:=[.int .i64]) (cs:=[I z]) (r:=(z:Int)) k (by omega) (by rw [Wr,Xl,h];rfl) rfl
theorem Y6 (m:MS):m.ids=ints (m.es.map fun e=>e.p.id):=by simp only [MS.ids,ints,Wg];rfl
def ZN (pid:Int) (es:List PE) (k:Int):List PE×List Ziu:=
 match es.find? fun e=>decide (e.p.id=k) with
 | some c =>
  if c.p.parent=pid then
   (if c.p.ended=Xb then Yj (ZcM k (fun q=>{ q with parent:=1 }) es) 1 { c.p with parent:=1 } else (ZcM k (fun q=>{ q with parent:=1 }) es,[]))
  else (es,[])
 | none => (es, [])
def ZT (pid:Int):List PE→List Int→List PE×List Ziu
 | es, [] => (es, [])
 | es, k :: ks => ((ZT pid (ZN pid es k).1 ks).1, (ZN pid es k).2 ++ (ZT pid (ZN pid es k).1 ks).2)
theorem ZnZ {es:List PE} {par:Int} {c:Pr} {k:Int} {e:PE} (hk:k≠c.id) (h:es.find? (fun e=>decide (e.p.id=k))=Xa e):∃ e',(Yj es par c).1.find? (fun e=>decide (e.p.id=k))=Xa e'∧e'.j=e.j∧e'.p.id=e.p.id∧e'.p.parent=e.p.parent∧e'.p.status=e.p.status∧e'.p.ended=e.p.ended:=by
 unfold Yj
 split
 ·rename_i p hp
  split
  ·have h1:=ZcF (m:=⟨0,0,es,0⟩) (k:=par) (k':=k) (f:=fun q=>{ q with waiting:=Xc }) (fun _=>rfl) h
   refine ⟨if e.p.id=par then { e with p:=(fun q:Pr=>{ q with waiting:=Xc }) e.p } else e,?_,?_⟩
   ·show (V7 c.id (ZcM par (fun q=>{ q with waiting:=Xc }) es)).find? (fun e=>decide (e.p.id=k))=Xa (if e.p.id=par then { e with p:=(fun q:Pr=>{ q with waiting:=Xc }) e.p } else e)
    unfold V7
    rw [List.find?_filter]
    have:(fun a:PE=>decide ((!decide (a.p.id=c.id))=Xb∧decide (a.p.id=k)=Xb))=fun a=>decide (a.p.id=k):=by
     funext a
     by_cases ha:a.p.id=k
     ·simp [ha,hk]
     ·simp [ha]
    rw [this]
    exact h1
   ·split<;>exact ⟨rfl,rfl,rfl,rfl,rfl⟩
  ·exact ⟨e,h,rfl,rfl,rfl,rfl,rfl⟩
 ·exact ⟨e,h,rfl,rfl,rfl,rfl,rfl⟩
theorem W1 (es:List PE) (par:Int) (c:Pr):(Yj es par c).2.length≤1:=by
 unfold Yj
 split
 ·split<;>simp
 ·simp
theorem ZfR (pid:Int) (es:List PE) (k:Int):(ZN pid es k).2.length≤1:=by
 unfold ZN
 split
 ·split
  ·split
   ·exact W1 _ _ _
   ·simp
  ·simp
 ·simp
theorem ZaJ {i:Nat} (h:i≤1048576):iop .add .i64 (i:Int) 1=((i+1:Nat):Int):=by
 rw [Znx (by omega) (by omega)]
 omega
theorem ZgJ {a b:LL} (ha:a.length≤100000) (hb:b.length≤1):Jr a b 24:=by
 unfold Jr ZB
 omega
theorem ZqN {x:LL} (h:ZD rows (m.frag++F)) (hm:m.Ok) (hx:Ze x = .oref (m.jm+1) 0) {e c:PE} (he:m.find e.p.id=Xa e) (hc:m.find c.p.id=Xa c) (hc1:e.p.id≠1) {zs:List Int} {i:Nat} (hz:zs[i]? = Xa c.p.id) (hzl:zs.length≤64) {acc:LL} (hacc:acc.length≤100000) (k:Nat) :
  ∃ rows' F',ZfL (k+1) x (nmE (Xa e)) acc (ints zs) (zs.length:Int) (i:Int) rows=ZfL k x (nmE (Xa e)) (acc++ZW (ZN e.p.id m.es c.p.id).2) (ints zs) (zs.length:Int) ((i+1:Nat):Int) rows'∧
   ZD rows' (({ m with es:=(ZN e.p.id m.es c.p.id).1 } : MS).frag++(F'++F))∧({ m with es:=(ZN e.p.id m.es c.p.id).1 } : MS).Ok:=by
 have hi:i < zs.length:=(Xk.1 hz).1
 have hem:=(Js he).1
 have hcm:=(Js hc).1
 have hc':m.es.find? (fun e=>decide (e.p.id=c.p.id))=Xa c:=hc
 rw [ZkE,if_pos (by simp [cop];omega),ZQ hz,Zc (ne1 (ZC hx)),Zc (ne1 (ZC hx)),YV h hx,Zp rfl,Zc (ne1 (Va h rfl)),Zcq h rfl,hc,Zc (ne1 (Zr c)),Zc (ne1 (Zr c)),Ke h hcm (c:=I c.p.parent) rfl,ZJ,
  Zc (ne1 (Zr e)),Zc (ne1 (Zr e)),Ke h hem (c:=I e.p.id) rfl,ZJ,ZaJ (by omega)]
 unfold ZN
 rw [hc']
 dsimp only
 by_cases hpar:c.p.parent=e.p.id
 ·rw [if_neg (by simp [cop,hpar]),if_pos hpar,Zc (ne1 (Zr c)),Zc (ne1 (Zr c)),Zc (by simp),Zc (ne1 (Zr c)),Zc (ne1 (Zr c))]
  have hce:=hm.par c hcm
  have hee:=hm.rng e hem
  obtain ⟨hu1,hu2⟩:=ZmK (f:=fun q=>{ q with parent:=1 }) h hm hc rfl rfl ⟨by show (0:Int)≤1;decide,by show (1:Int) < c.p.id;omega⟩
  have hst:Zd .set rows 0 (Zd (.padd 1) (nmE (Xa c)) 0 E0 []) [AV.val (.int .i64 1)]=rows.set c.j ({ c with p:={ c.p with parent:=1 } } : PE).row:=by rw [ZqR h hcm (by decide)];rfl
  have hfe:=ZcF (k:=c.p.id) (f:=fun q=>{ q with parent:=1 }) (fun _=>rfl) hc
  rw [if_pos rfl] at hfe
  rw [hst]
  generalize rows.set c.j ({ c with p:={ c.p with parent:=1 } } : PE).row=rows1 at hu1 ⊢
  obtain ⟨c1,hc1'⟩:∃ c1,c1=({ c with p:={ c.p with parent:=1 } } : PE):=⟨_,rfl⟩
  have hfe1:({ m with es:=ZcM c.p.id (fun q=>{ q with parent:=1 }) m.es } : MS).find c1.p.id=Xa c1:=by rw [hc1'];exact hfe
  have hn:nmE (Xa c)=nmE (Xa c1):=by rw [hc1'];rfl
  have hcp:c1.p = { c.p with parent:=1 }:=by rw [hc1']
  rw [hn,Ke hu1 (Js hfe1).1 (c:=B c1.p.ended) rfl,JR,hcp]
  dsimp only
  cases hen:c.p.ended with
  | true =>
   obtain ⟨rows2,F',q1,q2,q3⟩:=s52 hu1 hu2 hx hfe1 1
   rw [hcp] at q1 q2 q3
   simp only [if_true]
   rw [q1,Xi,Zc (ZgJ hacc (by have:=W1 (ZcM c.p.id (fun q=>{ q with parent:=1 }) m.es) 1 { c.p with parent:=1 }; simp only [ZW,Xp];exact this))]
   exact ⟨rows2,F',rfl,q2,q3⟩
  | false =>
   simp only [UB,if_false]
   exact ⟨rows1,[],by simp [ZW],hu1,hu2⟩
 ·rw [if_pos (by simp [cop,hpar]),if_neg hpar]
  exact ⟨rows,[],by simp [ZW],h,hm⟩
theorem K8 {es:List PE} {pid z k:Int} {e:PE} (hk:k≠z) (h:es.find? (fun e=>decide (e.p.id=k))=Xa e):∃ e',(ZN pid es z).1.find? (fun e=>decide (e.p.id=k))=Xa e'∧e'.j=e.j∧e'.p.id=e.p.id∧e'.p.parent=e.p.parent∧e'.p.status=e.p.status:=by
 unfold ZN
 split
 ·rename_i c hc
  have hcz:c.p.id=z:=by have:=Wh hc;simpa using this
  split
  ·have h1:=ZcF (m:=⟨0,0,es,0⟩) (k:=z) (k':=k) (f:=fun q=>{ q with parent:=1 }) (fun _=>rfl) h
   have hek:e.p.id=k:=by have:=Wh h;simpa using this
   rw [if_neg (by rw [hek];exact hk)] at h1
   split
   ·obtain ⟨e',g1,g2,g3,g4,g5,_⟩:=ZnZ (es:=ZcM z (fun q=>{ q with parent:=1 }) es) (par:=1) (c:={ c.p with parent:=1 }) (k:=k) (e:=e) (by show k≠c.p.id;rw [hcz];exact hk) h1
    exact ⟨e',g1,g2,g3,g4,g5⟩
   ·exact ⟨e,h1,rfl,rfl,rfl,rfl⟩
  ·exact ⟨e,h,rfl,rfl,rfl,rfl⟩
 ·exact ⟨e,h,rfl,rfl,rfl,rfl⟩
theorem ZmI {e:PE} (hm:m.Ok) (he:m.find e.p.id=Xa e):ZN e.p.id m.es e.p.id=(m.es,[]):=by
 have he':m.es.find? (fun a=>decide (a.p.id=e.p.id))=Xa e:=he
 unfold ZN
 rw [he']
 have:=hm.par e (Js he).1
 exact if_neg (by omega)
theorem ZjW {x:LL} {zs:List Int} (hzl:zs.length≤64) {pid:Int} (hp1:pid≠1):∀ (ks pre:List Int) (rows:LL) (F:Ym) (m:MS) (e:PE) (acc:LL) (k:Nat),zs=pre++ks→ks.length < k→ks.Nodup→(∀ z∈ks,∃ c,m.find z=Xa c)→ZD rows (m.frag++F)→m.Ok→Ze x = .oref (m.jm+1) 0→
  m.find pid=Xa e→acc.length+ks.length≤100000→
  ∃ rows' F' k' e',ZfL k x (nmE (Xa e)) acc (ints zs) (zs.length:Int) (pre.length:Int) rows=ZfL (k'+1) x (nmE (Xa e)) (acc++ZW (ZT pid m.es ks).2) (ints zs) (zs.length:Int) (zs.length:Int) rows'∧
   ZD rows' (({ m with es:=(ZT pid m.es ks).1 } : MS).frag++(F'++F))∧({ m with es:=(ZT pid m.es ks).1 } : MS).Ok∧({ m with es:=(ZT pid m.es ks).1 } : MS).find pid=Xa e'∧e'.j=e.j∧e'.p.parent=e.p.parent∧e'.p.status=e.p.status
 | [], pre, rows, F, m, e, acc, k, hz, hk, _, _, h, hm, _, he, _ => by
  obtain ⟨k',rfl⟩:∃ k',k=k'+1:=⟨k-1,by simp at hk;omega⟩
  have hl:zs.length=pre.length:=by rw [hz,XK]
  exact ⟨rows,[],k',e,by rw [hl];simp [ZT,ZW],h,hm,he,rfl,rfl,rfl⟩
 | z :: ks, pre, rows, F, m, e, acc, k, hz, hk, hn, hin, h, hm, hx, he, hacc => by
  obtain ⟨k',rfl⟩:∃ k',k=k'+1:=⟨k-1,by simp at hk;omega⟩
  obtain ⟨c,hc⟩:=hin z (by simp)
  have hcz:=(Js hc).2
  have hep:=(Js he).2
  subst hcz
  subst hep
  obtain ⟨rows1,F1,q1,q2,q3⟩:=ZqN h hm hx he hc hp1 (zs:=zs) (i:=pre.length) (by rw [hz];simp) hzl (acc:=acc) (by omega) k'
  rw [Wf] at hn
  have hfe:∃ e1,({ m with es:=(ZN e.p.id m.es c.p.id).1 } : MS).find e.p.id=Xa e1∧e1.j=e.j∧e1.p.parent=e.p.parent∧e1.p.status=e.p.status:=by
   by_cases hce:e.p.id=c.p.id
   ·rw [← hce,ZmI hm he]
    exact ⟨e,he,rfl,rfl,rfl⟩
   ·obtain ⟨e1,g1,g2,_,g4,g5⟩:=K8 (pid:=e.p.id) hce he
    exact ⟨e1,g1,g2,g4,g5⟩
  obtain ⟨e1,g1,g2,g4,g5⟩:=hfe
  obtain ⟨rows2,F2,k2,e2,r1,r2,r3,r4,r5,r6,r7⟩:=ZjW hzl hp1 ks (pre++[c.p.id]) rows1 (F1++F) _ e1 (acc++ZW (ZN e.p.id m.es c.p.id).2) k' (by rw [hz];simp) (by simp at hk;omega) hn.2
   (fun z hzk=>by
    obtain ⟨c',hc'⟩:=hin z (by simp [hzk])
    obtain ⟨c1,t1,_⟩:=K8 (pid:=e.p.id) (z:=c.p.id) (fun hh=>hn.1 (by rw [← hh];exact hzk)) hc'
    exact ⟨c1,t1⟩) q2 q3 hx g1 (by have:=ZfR e.p.id m.es c.p.id;simp only [Xu,ZW,Xp,Xz] at hacc ⊢; omega)
  have hnm:nmE (Xa e1)=nmE (Xa e):=by simp only [nmE,g2]
  refine ⟨rows2,F2++F1,k2,e2,?_,by rw [Xo];exact r2,r3,r4,r5.trans g2,r6.trans g4,r7.trans g5⟩
  rw [q1]
  rw [hnm] at r1
  have hlen:((pre++[c.p.id]).length:Int)=((pre.length+1:Nat):Int):=by simp
  rw [hlen] at r1
  rw [r1]
  simp only [ZT,ZW,XN,Xo]
end
section
open Go Go.AM Go.Proofs.Ytpjnmgjphfnmmaa
set_option maxRecDepth 100000
variable {rows:LL} {F:Ym} {m:MS}
def Y5 (es:List PE) (pid st:Int):List PE×List Ziu:=
 match es.find? fun e=>decide (e.p.id=pid) with
 | some e =>
  if pid=1 then (Yh pid (Yb st) es,[])
  else
   ((Yj (ZT pid (Yh pid (Yb st) es) (es.map fun e=>e.p.id)).1 e.p.parent (Yb st e).p).1,
    (ZT pid (Yh pid (Yb st) es) (es.map fun e=>e.p.id)).2++(Yj (ZT pid (Yh pid (Yb st) es) (es.map fun e=>e.p.id)).1 e.p.parent (Yb st e).p).2)
 | none => (es, [])
theorem ZdZ {k k':Int} {f:PE→PE} {es:List PE} {e:PE} (hid:∀ q,(f q).p.id=q.p.id) (h:es.find? (fun e=>decide (e.p.id=k'))=Xa e):(Yh k f es).find? (fun e=>decide (e.p.id=k'))=Xa (if e.p.id=k then f e else e):=by
 unfold Yh
 rw [List.find?_map]
 have:((fun e:PE=>decide (e.p.id=k')) ∘ fun e=>if e.p.id=k then f e else e)=fun e=>decide (e.p.id=k'):=by
  funext a
  simp only [U4]
  by_cases ha:a.p.id=k
  ·simp only [if_pos ha,hid]
  ·simp only [if_neg ha]
 rw [this,h]
 rfl
theorem ZgF {k:Int} {f:PE→PE} {es:List PE} (hid:∀ q,(f q).p.id=q.p.id):(Yh k f es).map (fun e=>e.p.id)=es.map fun e=>e.p.id:=by
 unfold Yh
 rw [Wg]
 refine Wo fun a _=>?_
 simp only [U4]
 split
 ·exact hid a
 ·rfl
theorem Vv {e:PE} {rows1:LL} {row:List AV} {o:Nat} {c:AV} (hr:rows1[e.j]? = Xa row) (ho:o < row.length):Zd .set rows1 0 (Zd (.padd o) (nmE (Xa e)) 0 E0 []) [c]=rows1.set e.j (row.set o c):=by
 rw [YM (ZdP e),XH]
 exact Zao rfl hr ho
theorem Y7 {e:PE} {rows1:LL} {row:List AV} {o:Nat} {c:AV} (hr:rows1[e.j]? = Xa row) (h0:Z1 row=Xb) (hc:row[o]? = Xa c):Zd (.get 1) rows1 0 (Zd (.padd o) (nmE (Xa e)) 0 E0 []) [] = [[c]]:=by
 rw [YM (ZdP e),XH]
 exact JF rfl hr h0 hc
theorem Ze4 {es:List PE} {par:Int} {c c':Pr} (h1:c.id=c'.id) (h2:c.status=c'.status):Yj es par c=Yj es par c':=by
 unfold Yj
 rw [h1,h2]
theorem ZcT (pid:Int):∀ (ks:List Int) (es:List PE),(ZT pid es ks).2.length≤ks.length
 | [], _ => XA _
 | k :: ks, es => by
  have h1:=ZfR pid es k
  have h2:=ZcT pid ks (ZN pid es k).1
  simp only [ZT,Xu,Xz]
  omega
theorem s30 {x:LL} (h:ZD rows (m.frag++F)) (hm:m.Ok) (hx:Ze x = .oref (m.jm+1) 0) {e:PE} (he:m.find e.p.id=Xa e) (st:Int) :
  ∃ rows' F',g30 x (nmE (Xa e)) st rows=Xa (ZW (Y5 m.es e.p.id st).2,rows')∧ZD rows' (({ m with es:=(Y5 m.es e.p.id st).1 } : MS).frag++(F'++F))∧({ m with es:=(Y5 m.es e.p.id st).1 } : MS).Ok:=by
 have hem:=(Js he).1
 have hr:=ZlU h hem
 have hlt:e.j < rows.length:=(Xk.1 hr).1
 have hs4:Zd .set rows 0 (Zd (.padd 4) (nmE (Xa e)) 0 E0 []) [AV.val (.bool Xb)]=rows.set e.j (e.row.set 4 (B Xb)):=Vv hr (by simp [PE.row])
 have hr4:(rows.set e.j (e.row.set 4 (B Xb)))[e.j]? = Xa (e.row.set 4 (B Xb)):=Wb hlt
 have hs5:Zd .set (rows.set e.j (e.row.set 4 (B Xb))) 0 (Zd (.padd 5) (nmE (Xa e)) 0 E0 []) [I st]=rows.set e.j ((e.row.set 4 (B Xb)).set 5 (I st)):=by rw [Vv hr4 (by simp [PE.row]),List.set_set]
 have hr5:(rows.set e.j ((e.row.set 4 (B Xb)).set 5 (I st)))[e.j]? = Xa ((e.row.set 4 (B Xb)).set 5 (I st)):=Wb hlt
 have hs3:Zd .set (rows.set e.j ((e.row.set 4 (B Xb)).set 5 (I st))) 0 (Zd (.padd 3) (nmE (Xa e)) 0 E0 []) [Ze (Zd (.pnil 1) E0 0 E0 [])]=rows.set e.j (((e.row.set 4 (B Xb)).set 5 (I st)).set 3 (.osl 0 0 0)):=by rw [Vv hr5 (by simp [PE.row]),List.set_set];rfl
 have hr3:(rows.set e.j (((e.row.set 4 (B Xb)).set 5 (I st)).set 3 (.osl 0 0 0)))[e.j]? = Xa (((e.row.set 4 (B Xb)).set 5 (I st)).set 3 (.osl 0 0 0)):=Wb hlt
 have hs6:Zd .set (rows.set e.j (((e.row.set 4 (B Xb)).set 5 (I st)).set 3 (.osl 0 0 0))) 0 (Zd (.padd 6) (nmE (Xa e)) 0 E0 []) [AV.val (.bool Xc)]=rows.set e.j (Yb st e).row:=by rw [Vv hr3 (by simp [PE.row]),List.set_set];rfl
 rw [ZuA,Zc (ne1 (Zr e)),Zc (ne1 (Zr e)),Zc (by rw [Y7 hr rfl (c:=B e.p.ended) rfl];simp),Zc (ne1 (Zr e)),Zc (ne1 (Zr e)),hs4,Zc (by rw [Y7 hr4 rfl (c:=I e.p.status) rfl];simp),
  Zc (ne1 (Zr e)),Zc (ne1 (Zr e)),hs5,Zc (by rw [Y7 hr5 rfl (c:=e.core) rfl];simp),Zc (ne1 (Zr e)),Zc (ne1 (Zr e)),hs3,Zc (by rw [Y7 hr3 rfl (c:=B e.p.waiting) rfl];simp),
  Zc (ne1 (Zr e)),Zc (ne1 (Zr e)),hs6]
 have he':m.es.find? (fun a=>decide (a.p.id=e.p.id))=Xa e:=he
 obtain ⟨hu1,hu2⟩:=Zsn (f:=Yb st) h hm he rfl rfl rfl (by show ([] : List Int) = [];rfl) (hm.par e hem)
 have hfe:=ZdZ (k:=e.p.id) (f:=Yb st) (fun _=>rfl) he'
 rw [if_pos rfl] at hfe
 have hfe1:({ m with es:=Yh e.p.id (Yb st) m.es } : MS).find e.p.id=Xa (Yb st e):=hfe
 generalize rows.set e.j (Yb st e).row=rows1 at hu1 ⊢
 rw [show nmE (Xa e)=nmE (Xa (Yb st e)) from rfl,Ke hu1 (Js hfe1).1 (c:=I e.p.id) rfl,ZJ]
 unfold Y5
 rw [he']
 dsimp only
 by_cases h1:e.p.id=1
 ·rw [if_pos (by simp [cop,h1]),if_pos h1]
  exact ⟨rows1,e.cf,rfl,hu1,hu2⟩
 ·have hids:({ m with es:=Yh e.p.id (Yb st) m.es } : MS).ids=ints (m.es.map fun e=>e.p.id):=by rw [Y6];exact congrArg ints (ZgF fun _=>rfl)
  rw [if_neg (by simp [cop,h1]),if_neg h1,s29 hu1 hu2 hx,Xi,hids]
  dsimp only
  have hp:=(hu1.push [.omap (m.jq+1)]).tail
  have hl2:(m.es.map fun e=>e.p.id).length≤64:=by rw [Xp];exact hm.len
  have hnod:(m.es.map fun e=>e.p.id).Nodup:=by
   rw [Tv,U9]
   exact hm.srt.imp fun hab hh=>by omega
  have hin:∀ z∈m.es.map fun e=>e.p.id,∃ c,({ m with es:=Yh e.p.id (Yb st) m.es } : MS).find z=Xa c:=fun z hz=>by
   obtain ⟨a,ha,rfl⟩:=Xj.1 hz
   cases hq:({ m with es:=Yh e.p.id (Yb st) m.es } : MS).find a.p.id with
   | some c => exact ⟨c, rfl⟩
   | none =>
    exfalso
    have hz2:a.p.id∈(Yh e.p.id (Yb st) m.es).map fun e=>e.p.id:=by rw [ZgF (f:=Yb st) fun _=>rfl];exact hz
    obtain ⟨b,hb,hbb⟩:=Xj.1 hz2
    have:=Tl.1 hq b hb
    simp [hbb] at this
  have hlen:((ints (m.es.map fun e=>e.p.id)).length:Int)=((m.es.map fun e=>e.p.id).length:Int):=by simp
  rw [hlen]
  obtain ⟨rows2,F2,k2,e2,r1,r2,r3,r4,r5,r6,r7⟩:=ZjW hl2 h1 (m.es.map fun e=>e.p.id) [] _ _ _ (Yb st e) E0 Jv rfl (by unfold Jv;omega) hnod hin hp hu2 hx hfe1 (by simp at hl2 ⊢; omega)
  ·have hz:((([] : List Int).length:Nat):Int)=0:=rfl
   rw [hz] at r1
   have hid2:e2.p.id=e.p.id:=(Js r4).2
   have hnm:nmE (Xa (Yb st e))=nmE (Xa e2):=by simp only [nmE,r5]
   have hf2:({ m with es:=(ZT e.p.id (Yh e.p.id (Yb st) m.es) (m.es.map fun e=>e.p.id)).1 } : MS).find e2.p.id=Xa e2:=by rw [hid2];exact r4
   rw [r1,hnm,ZkE,if_neg (by simp [cop]),Zc (ne1 (Zr e2)),Zc (ne1 (Zr e2)),Ke r2 (Js r4).1 (c:=I e2.p.parent) rfl,ZJ]
   obtain ⟨rows3,F3,t1,t2,t3⟩:=s52 r2 r3 hx hf2 e2.p.parent
   have hpar:e2.p.parent=e.p.parent:=r6
   have htc:∀ es,Yj es e2.p.parent e2.p=Yj es e.p.parent (Yb st e).p:=fun es=>by rw [hpar];exact Ze4 hid2 r7
   rw [htc] at t1 t2 t3
   rw [t1,Xi,Zc (ZgJ ?_ ?_)]
   ·refine ⟨rows3,F3++(F2++e.cf),?_,?_,t3⟩
    ·simp only [ZW,XN,XM]
    ·simp only [Xo]
     simp only [Xo] at t2
     exact t2
   ·have:=ZcT e.p.id (m.es.map fun e=>e.p.id) (Yh e.p.id (Yb st) m.es)
    simp only [XM,ZW,Xp] at this hl2 ⊢
    omega
   ·have:=W1 (ZT e.p.id (Yh e.p.id (Yb st) m.es) (m.es.map fun e=>e.p.id)).1 e.p.parent (Yb st e).p
    simp only [ZW,Xp]
    exact this
end
section
open Go Go.AM Go.Proofs.Ytpjnmgjphfnmmaa
set_option maxRecDepth 100000
variable {rows:LL} {F:Ym} {m:MS}
theorem ZfM {a b:LL} (ha:a.length≤100000) (hb:b.length≤100000):Jr a b 24:=by
 unfold Jr ZB
 omega
theorem ZbM (es:List PE) (pid st:Int):(Y5 es pid st).2.length≤es.length+1:=by
 unfold Y5
 split
 ·split
  ·simp
  ·have h1:=ZcT pid (es.map fun e=>e.p.id) (Yh pid (Yb st) es)
   rename_i e _ _
   have h2:=W1 (ZT pid (Yh pid (Yb st) es) (es.map fun e=>e.p.id)).1 e.p.parent (Yb st e).p
   simp only [Xu,Xp] at h1 ⊢
   omega
 ·simp
def J6 (es:List PE) (z:Int):Option PE:=match es.find? fun e=>decide (e.p.id=z) with | some e=>if e.p.ended=Xb then Xe else Xa e | none=>Xe
theorem Za3 (z:Int):m.run z=J6 m.es z:=rfl
def Zi (st:Int):List PE→List Int→List PE×List Ziu
 | es, [] => (es, [])
 | es, z :: zs =>
  match J6 es z with
  | some _ => ((Zi st (Y5 es z st).1 zs).1, (Y5 es z st).2 ++ (Zi st (Y5 es z st).1 zs).2)
  | none => Zi st es zs
theorem Je {es:List PE} {z:Int} {e:PE} (h:J6 es z=Xa e):es.find? (fun e=>decide (e.p.id=z))=Xa e∧e.p.ended=Xc:=by
 unfold J6 at h
 split at h
 ·split at h
  ·cases h
  ·rename_i e' h1 h2
   cases h
   exact ⟨h1,by simpa using h2⟩
 ·cases h
theorem ZgD {x:LL} {zs:List Int} (hzl:zs.length≤1000) (st:Int):∀ (ks pre:List Int) (rows:LL) (F:Ym) (m:MS) (acc:LL) (k:Nat),zs=pre++ks→ks.length < k→ZD rows (m.frag++F)→m.Ok→Ze x = .oref (m.jm+1) 0→acc.length+65*ks.length≤100000→
  ∃ rows' F',Zjg k x st acc (ints zs) (zs.length:Int) (pre.length:Int) rows=Xa (acc++ZW (Zi st m.es ks).2,rows')∧ZD rows' (({ m with es:=(Zi st m.es ks).1 } : MS).frag++(F'++F))∧({ m with es:=(Zi st m.es ks).1 } : MS).Ok
 | [], pre, rows, F, m, acc, k, hz, hk, h, hm, _, _ => by
  obtain ⟨k',rfl⟩:∃ k',k=k'+1:=⟨k-1,by simp at hk;omega⟩
  have hl:zs.length=pre.length:=by rw [hz,XK]
  rw [Zlj,hl,if_neg (by simp [cop])]
  exact ⟨rows,[],by simp [Zi,ZW],h,hm⟩
 | z :: ks, pre, rows, F, m, acc, k, hz, hk, h, hm, hx, hacc => by
  obtain ⟨k',rfl⟩:∃ k',k=k'+1:=⟨k-1,by simp at hk;omega⟩
  have hz1:zs[pre.length]? = Xa z:=by rw [hz];simp
  have hi:pre.length < zs.length:=(Xk.1 hz1).1
  have hlen:((pre++[z]).length:Int)=((pre.length+1:Nat):Int):=by simp
  rw [Zlj,if_pos (by simp [cop];omega),ZQ hz1,s27 h hx,Xi,Zc (ne1 (Ki _)),ZaJ (by omega),Za3]
  have key:∀ (o:Option PE),J6 m.es z=o→∃ rows' F',(if (cop .neq (Xm (Zd .pnn (nmE o) 0 E0 []):Int) 0)=Xb then (g30 x (nmE o) st rows).bind fun (r10:LL×LL)=>Zg (Jr acc r10.1 24)<|Zjg k' x st (acc++r10.1) (ints zs) (zs.length:Int) ((pre.length+1:Nat):Int) r10.2 else Zjg k' x st acc (ints zs) (zs.length:Int) ((pre.length+1:Nat):Int) rows)=Xa (acc++ZW (Zi st m.es (z::ks)).2,rows')∧ZD rows' (({ m with es:=(Zi st m.es (z::ks)).1 } : MS).frag++(F'++F))∧({ m with es:=(Zi st m.es (z::ks)).1 } : MS).Ok:=by
   intro o ho
   cases o with
   | none =>
    rw [K0,if_neg (by decide)]
    obtain ⟨rows',F',q1,q2,q3⟩:=ZgD hzl st ks (pre++[z]) rows F m acc k' (by rw [hz];simp) (by simp at hk;omega) h hm hx (by simp at hacc;omega)
    rw [hlen] at q1
    have he:Zi st m.es (z::ks)=Zi st m.es ks:=by simp only [Zi,ho]
    rw [he]
    exact ⟨rows',F',q1,q2,q3⟩
   | some e =>
    obtain ⟨hf,hen⟩:=Je ho
    have hez:e.p.id=z:=(Js hf).2
    subst hez
    rw [Zr,if_pos (by decide)]
    obtain ⟨rows1,F1,q1,q2,q3⟩:=s30 h hm hx hf st
    have hl:=ZbM m.es e.p.id st
    have hml:=hm.len
    have hra:(ZW (Y5 m.es e.p.id st).2).length≤65:=by simp only [ZW,Xp];omega
    rw [q1,Xi,Zc (ZfM (by omega) (show (ZW (Y5 m.es e.p.id st).2).length≤100000 by omega))]
    obtain ⟨rows2,F2,r1,r2,r3⟩:=ZgD hzl st ks (pre++[e.p.id]) rows1 (F1++F) _ (acc++ZW (Y5 m.es e.p.id st).2) k' (by rw [hz];simp) (by simp at hk;omega) q2 q3 hx (by simp only [Xu,Xz] at hacc ⊢; omega)
    rw [hlen] at r1
    have he:Zi st m.es (e.p.id::ks)=((Zi st (Y5 m.es e.p.id st).1 ks).1,(Y5 m.es e.p.id st).2++(Zi st (Y5 m.es e.p.id st).1 ks).2):=by simp only [Zi,ho]
    rw [he]
    refine ⟨rows2,F2++F1,?_,by rw [Xo];exact r2,r3⟩
    rw [r1]
    simp only [ZW,XN,Xo]
  exact key _ rfl
end
section
open Go Go.AM Go.Proofs.Ytpjnmgjphfnmmaa
set_option maxRecDepth 100000
variable {rows:LL} {F:Ym} {m:MS}
theorem s45 {x:LL} {zs:List Int} (hzl:zs.length≤1000) (st:Int) (h:ZD rows (m.frag++F)) (hm:m.Ok) (hx:Ze x = .oref (m.jm+1) 0) :
  ∃ rows' F',g45 x (ints zs) st rows=Xa (ZW (Zi st m.es zs).2,rows')∧ZD rows' (({ m with es:=(Zi st m.es zs).1 } : MS).frag++(F'++F))∧({ m with es:=(Zi st m.es zs).1 } : MS).Ok:=by
 obtain ⟨rows',F',q1,q2,q3⟩:=ZgD hzl st zs [] rows F m [] Jv rfl (by unfold Jv;omega) h hm hx (by simp;omega)
 refine ⟨rows',F',?_,q2,q3⟩
 rw [Zt4]
 have hl:((ints zs).length:Int)=(zs.length:Int):=by simp
 rw [hl]
 have hz:((([] : List Int).length:Nat):Int)=0:=rfl
 rw [hz] at q1
 rw [q1,XM]
def K4 (es:List PE) (k st:Int):(List PE×List Ziu)×Int:=
 match J6 es k with
 | none => ((es, []), 17)
 | some _ => if st < 0 then ((es, []), 1) else if 255 < st then ((es, []), 1) else (Y5 es k st, 0)
theorem s13 {x:LL} (h:ZD rows (m.frag++F)) (hm:m.Ok) (hx:Ze x = .oref (m.jm+1) 0) (k st:Int) :
  ∃ rows' F',g13 x k st rows=Xa (ZW (K4 m.es k st).1.2,(K4 m.es k st).2,rows')∧ZD rows' (({ m with es:=(K4 m.es k st).1.1 } : MS).frag++(F'++F))∧({ m with es:=(K4 m.es k st).1.1 } : MS).Ok:=by
 rw [Zt9,s27 h hx,Xi,Zc (ne1 (Ki _)),Za3]
 unfold K4
 cases ho:J6 m.es k with
 | none =>
  rw [K0,if_pos (by decide)]
  exact ⟨rows,[],rfl,h,hm⟩
 | some e =>
  obtain ⟨hf,hen⟩:=Je ho
  have hez:e.p.id=k:=(Js hf).2
  subst hez
  rw [Zr,if_neg (by decide)]
  dsimp only
  by_cases h1:st < 0
  ·rw [if_pos (by simp [cop,h1]),if_pos h1]
   exact ⟨rows,[],rfl,h,hm⟩
  ·rw [if_neg (by simp [cop];omega),if_neg h1]
   by_cases h2:255 < st
   ·rw [if_pos (by simp [cop,h2]),if_pos h2]
    exact ⟨rows,[],rfl,h,hm⟩
   ·rw [if_neg (by simp [cop];omega),if_neg h2]
    obtain ⟨rows1,F1,q1,q2,q3⟩:=s30 h hm hx hf st
    rw [q1]
    exact ⟨rows1,F1,rfl,q2,q3⟩
theorem s26 (z:Int):g26 z=Xa (decide (0≤z∧z < 32)):=by
 rw [ZuC]
 by_cases h1:0≤z
 ·rw [if_pos (by simp [cop,h1])]
  by_cases h2:z < 32<;>simp [cop,h1,h2]
 ·rw [if_neg (by simp [cop];omega)]
  simp [h1]
theorem ZeQ (zs:List Int) (rest:List AV):YE 1 (zs.map (fun z=>I z)++rest) zs.length=ints zs:=by
 unfold YE
 apply Wv
 intro i
 simp only [Xl]
 by_cases hi:i < zs.length
 ·rw [List.getElem?_range hi,Xr hi]
  simp only [Xw,Wn]
  congr 1
  apply Wv
  intro k
  rw [List.getElem?_take]
  cases k with
  | zero =>
   simp only [Nat.lt_one_iff,if_true,List.getElem?_drop,Nat.add_zero]
   rw [Xx (by simpa using hi),Xl,Xr hi]
   rfl
  | succ k => simp
 ·rw [Wj (by simpa using Nat.le_of_not_lt hi),Wj (Nat.le_of_not_lt hi)]
  rfl
theorem Zog (h:ZD rows (m.frag++F)) {e:PE} (he:e∈m.es) {q:Nat×Nat} (hq:e.c=Xa q):rows[q.1]? = Xa (e.arr q.2):=h.get (by
 simp only [MS.frag,XL,Xq,Xv,List.mem_flatMap]
 exact .inr (.inr (.inl ⟨e,he,by simp [PE.frag,hq]⟩)))
theorem ZrL (e:PE) (k:Nat):(e.arr k).length=e.p.cores.length+k:=by simp [PE.arr]
theorem Zp7 (e:PE) {k:Nat} (h:e.p.cores.length+k≠0):Z1 (e.arr k)=Xb:=by
 unfold PE.arr
 cases hc:e.p.cores with
 | cons z zs => rfl
 | nil =>
  rw [hc] at h
  cases k with
  | zero => simp at h
  | succ k => rfl
theorem J8 (e:PE):ZP e.core=Xb:=by
 unfold PE.core
 split<;>rfl
theorem Znn {x:LL} {e:PE} (hx:Ze x=e.core):Zd .pisl x 0 E0 [] = [[]]:=by
 have:∃ a b c,e.core = .osl a b c:=by
  unfold PE.core
  split<;>exact ⟨_,_,_,rfl⟩
 obtain ⟨a,b,c,he⟩:=this
 simp only [Zd,hx,he,okL]
theorem Zn9 (hm:m.Ok) {x:LL} {e:PE} (he:e∈m.es) (hx:Ze x=e.core):Zd .plen x 0 E0 []=Xg e.p.cores.length []:=by
 have hok:=hm.cor e he
 unfold PE.ok at hok
 unfold PE.core at hx
 cases hc:e.c with
 | none =>
  rw [hc] at hx hok
  simp only [Zd,hx,hok]
  rfl
 | some q =>
  rw [hc] at hx
  simp only [Zd,hx]
theorem Zh6 (h:ZD rows (m.frag++F)) (hm:m.Ok) {x:LL} {e:PE} (he:e∈m.es) (hx:Ze x=e.core):Zd (.vchk 3 1) rows 0 x [] = [[]]:=by
 have hok:=hm.cor e he
 unfold PE.ok at hok
 unfold PE.core at hx
 cases hc:e.c with
 | none =>
  rw [hc] at hx hok
  simp only [Zd,hx,ZdR,okL]
 | some q =>
  rw [hc] at hx hok
  have hr:=Zog h he hc
  simp only [Zd,hx,ZdR,Ji hr,Zp7 e hok,decide_true,X8,ZrL]
  rw [decide_eq_true (by omega)]
  rfl
theorem Zo2 (h:ZD rows (m.frag++F)) (hm:m.Ok) {x:LL} {e:PE} (he:e∈m.es) (hx:Ze x=e.core):Zd (.view 1) rows 0 x []=ints e.p.cores:=by
 have hok:=hm.cor e he
 unfold PE.ok at hok
 unfold PE.core at hx
 cases hc:e.c with
 | none =>
  rw [hc] at hx hok
  simp only [Zd,hx,Za6,pJ,pO,hok]
  rfl
 | some q =>
  rw [hc] at hx hok
  have hr:=Zog h he hc
  simp only [Zd,hx,Za6,pJ,pO,Ji hr]
  exact ZeQ _ _
theorem s53 (h:ZD rows (m.frag++F)) (hm:m.Ok) {x:LL} {e:PE} (he:e∈m.es) (hx:Ze x=e.core) (hl:e.p.cores.length≤100000):g53 x rows=Xa (ints e.p.cores,rows):=by
 rw [Ztd,Zc (ne1 (Znn hx)),Zn9 hm he hx]
 refine Zr3 (fun hn=>?_) ?_
 ·have:e.p.cores = []:=by
   cases hc:e.p.cores with
   | nil => rfl
   | cons z zs => rw [hc] at hn; simp at hn
  rw [if_pos rfl,this]
  rfl
 ·rw [if_neg (by decide),Zc (ne1 (Zh6 h hm he hx)),Zo2 h hm he hx,Zc (by unfold Jr ZB;simp only [XT,Xp];omega)]
  rfl
theorem ZmJ {γ:Type} {e:PE} (k:Int×Int×ByteArray×LL×Bool×Int×Bool→Option γ):Zl [e.row] 0 [.int .i64,.int .i64,.str,.cel,.bool,.int .i64,.bool] k=k (e.p.id,e.p.parent,e.p.name,[[e.core]],e.p.ended,e.p.status,e.p.waiting):=by
 refine YH (l:=[e.row]) (sh:=[.int .i64,.int .i64,.str,.cel,.bool,.int .i64,.bool]) (cs:=e.row) (r:=(e.p.id,e.p.parent,e.p.name,[[e.core]],e.p.ended,e.p.status,e.p.waiting)) k (by decide) rfl ?_
 unfold PE.row PE.core
 split<;>rfl
def Zaj (p:Pr):List AV:=[I p.id,I p.parent,.val (.string p.name),.slice Xc 1 (ints p.cores),B p.ended,I p.status,B p.waiting]
theorem s31 (h:ZD rows (m.frag++F)) (hm:m.Ok) {e:PE} (he:e∈m.es) (hl:e.p.cores.length≤100000):g31 (nmE (Xa e)) rows=Xa (e.p.id,e.p.parent,e.p.name,ints e.p.cores,e.p.ended,e.p.status,e.p.waiting,rows):=by
 rw [Zuv,Zc (ne1 (Zr e)),ZtR (n:=7) (ZdP e) (ZlU h he) rfl rfl,ZmJ,Zc (ne1 (Zr e)),Zc (ne1 (Zr e)),Ke h he (c:=e.core) rfl,Zp (J8 e),s53 h hm he (Zpe (J8 e)) hl]
 rfl
theorem Zj5 {x:LL} (h:ZD rows (m.frag++F)) (hm:m.Ok) (hx:Ze x = .oref (m.jm+1) 0) (hl:∀ e∈m.es,e.p.cores.length≤100000):∀ (ks pre:List PE) (k:Nat),m.es=pre++ks→ks.length < k→
  Zpx k x ((pre.map PE.p).map Zaj) m.ids (m.es.length:Int) (pre.length:Int) rows=Xa ((m.es.map PE.p).map Zaj,rows)
 | [], pre, k, hs, hk => by
  obtain ⟨k',rfl⟩:∃ k',k=k'+1:=⟨k-1,by simp at hk;omega⟩
  rw [XK] at hs
  rw [Zk0,hs,if_neg (by simp [cop])]
 | e :: ks, pre, k, hs, hk => by
  obtain ⟨k',rfl⟩:∃ k',k=k'+1:=⟨k-1,by simp at hk;omega⟩
  have he:e∈m.es:=by rw [hs];simp
  have hlen:(pre.length:Int) < (m.es.length:Int):=by rw [hs];simp;omega
  have hml:=hm.len
  have hpl:pre.length≤64:=by omega
  have hf:m.find e.p.id=Xa e:=by
   unfold MS.find
   rw [Tm]
   refine ⟨by simp,pre,ks,hs,fun a ha=>?_⟩
   have hsrt:=hm.srt
   rw [hs,Ub] at hsrt
   have:=hsrt.2.2 a ha e (by simp)
   simp;omega
  have hz:(m.es.map fun e=>e.p.id)[pre.length]? = Xa e.p.id:=by rw [hs];simp
  rw [Zk0,if_pos (by simp [cop];omega),Y6,ZQ hz,Zc (ne1 (ZC hx)),Zc (ne1 (ZC hx)),YV h hx,Zp rfl,Zc (ne1 (Va h rfl)),Zcq h rfl,hf,s31 h hm he (hl e he),Xi,
   Zc (by unfold Jr ZB;simp;omega),ZaJ (by omega)]
  have:=Zj5 h hm hx hl ks (pre++[e]) k' (by rw [hs];simp) (by simp at hk;omega)
  rw [Y6] at this
  simp only [Xu,Xz,XT,XN,Xh,XG] at this
  exact this
theorem s14 {x:LL} (h:ZD rows (m.frag++F)) (hm:m.Ok) (hx:Ze x = .oref (m.jm+1) 0) (hl:∀ e∈m.es,e.p.cores.length≤100000) :
  ∃ rows' F',g14 x rows=Xa ((m.es.map PE.p).map Zaj,rows')∧ZD rows' (m.frag++(F'++F)):=by
 have hp:=(h.push [.omap (m.jq+1)])
 have hq:ZD (rows++[[.omap (m.jq+1)]]) (m.frag++([(rows.length,[.omap (m.jq+1)])]++F)):=hp.perm (by
  rw [XL,XM]
  exact List.perm_middle.symm)
 refine ⟨rows++[[.omap (m.jq+1)]],[(rows.length,[.omap (m.jq+1)])],?_,hq⟩
 rw [Zuo,s29 h hm hx,Xi]
 have hl2:((m.ids).length:Int)=(m.es.length:Int):=by simp [MS.ids]
 rw [hl2]
 exact Zj5 hq hm hx hl m.es [] Jv rfl (by have:=hm.len;unfold Jv;omega)
end
section
open Go Go.AM Go.Proofs.Ytpjnmgjphfnmmaa
set_option maxRecDepth 100000
variable {rows:LL} {F:Ym} {m:MS}
theorem Zov (l:LL) (x:List AV):Z4 (l++[x]) (l.length+1)=x:=Ji (by simp)
theorem Zrz {x:LL} {j:Nat} {k:Int} {c:AV} {kvs:LL} (hx:Ze x = .omap (j+1)) (hr:rows[j]? = Xa (ZZ kvs)):Zd .mput rows k x [c]=rows.set j (ZZ (Kd kvs k c)):=by
 simp only [Zd,hx,Zl5,Ji hr]
 rfl
theorem ZkW (l:LL) (a b:List AV):(l++[a]).set l.length b=l++[b]:=by simp
def Zbv:ByteArray:=⟨#[105,110,105,116]⟩
def WH (z:Int):Pr:=⟨1,0,Zbv,[z],Xc,0,Xc⟩
theorem s8 {z:Int} (hz:0≤z∧z < 32) (h:ZD rows F):∃ m:MS,∃ rows',g8 z rows=Xa ([[.oref (m.jm+1) 0]],0,rows')∧ZD rows' (m.frag++F)∧m.Ok∧m.es.map PE.p = [WH z]∧m.last=1:=by
 have h1:=h.push [I z]
 have h2:=h1.push [I 1,I 0,.val (.string Zbv),.osl 3 (rows.length+1) 1,B Xc,I 0,B Xc]
 have h3:=h2.push (ZZ [[I 1,.oref (rows.length+1+1) 0]])
 have h4:=h3.push [.omap (rows.length+1+1+1),I 1]
 refine ⟨⟨rows.length+3,rows.length+2,[⟨rows.length+1,Xa (rows.length,0),WH z⟩],1⟩,rows++[[I z]]++[[I 1,I 0,.val (.string Zbv),.osl 3 (rows.length+1) 1,B Xc,I 0,B Xc]]++[ZZ [[I 1,.oref (rows.length+1+1) 0]]]++[[.omap (rows.length+1+1+1),I 1]],?_,?_,⟨?_,?_,?_,?_,?_,?_⟩,rfl,rfl⟩
 ·rw [ZvB,s26,Xi,decide_eq_true hz]
  have hn:∀ l:LL,Zd .newm l 0 E0 []=l++[ZZ []]:=fun _=>rfl
  have hp:∀ l:LL,Zd .pmap l 0 E0 [] = [[.omap (l.length+1)]]:=fun _=>rfl
  have hw:∀ l:LL,Zd .pnew l 0 E0 [] = [[.oref (l.length+1) 0]]:=fun _=>rfl
  have ha:∀ l:LL,Zd (.parr 3) l 1 E0 [] = [[.osl 3 (l.length+1) 1]]:=fun _=>rfl
  rw [if_neg (by decide),hn,hp,ha,Zc (by simp only [Zd,Ze,ZP,ZtQ,Zov];rw [show Yq (ZZ [])=Xb from rfl];simp [okL]),hw,Zc (by simp [Zd,Ze,ZP,okL])]
  rw [Zrz (j:=(rows++[[I z]]++[[I 1,I 0,.val (.string Zbv),.osl 3 (rows.length+1) 1,B Xc,I 0,B Xc]]).length) (kvs:=[]) rfl (by
   have:=List.getElem?_concat_length (l:=rows++[[I z]]++[[I 1,I 0,.val (.string Zbv),.osl 3 (rows.length+1) 1,B Xc,I 0,B Xc]]) (a:=ZZ [])
   exact this)]
  have hs:∀ (l:LL) (a b:List AV),(l++[a]).set l.length b=l++[b]:=ZkW
  have e1:∀ l:LL,l=rows++[[I z]]++[[I 1,I 0,.val (.string Zbv),Ze [[.osl 3 (rows.length+1) 1]],B Xc,I 0,B Xc]]→l.length=rows.length+2:=fun l hl=>by rw [hl];simp
  show Xa _=Xa _
  congr 1
  have hl1:(rows++[[I z]]).length=rows.length+1:=by simp
  simp only [Ze,ZP,Zbv,hw,UO,Xu,Xz,XT,hl1]
  refine Prod.ext ?_ (Prod.ext rfl ?_)
  ·simp
  ·simp only [Prod.snd]
   congr 1
   have:=ZkW (rows++[[I z]]++[[I 1,I 0,.val (.string Zbv),.osl 3 (rows.length+1) 1,B Xc,I 0,B Xc]]) (ZZ []) (ZZ [[I 1,.oref (rows.length+1+1) 0]])
   have hl2:(rows++[[I z]]++[[I 1,I 0,.val (.string Zbv),.osl 3 (rows.length+1) 1,B Xc,I 0,B Xc]]).length=rows.length+1+1:=by simp
   rw [hl2] at this
   exact this
 ·simp only [Xu,Xz,XT,XH] at h4
  simp only [MS.frag,MS.head,MS.map,PE.kv,PE.frag,PE.row,PE.core,PE.arr,WH,Xh,XG,UG,List.flatMap_nil,List.replicate_zero,XK,Xz,XT,XH,XL,XM]
  exact h4
 ·exact Tw _ _
 ·intro e he
  rw [XF] at he
  subst he
  exact ⟨Int.le_refl _,Int.le_refl _⟩
 ·intro e he
  rw [XF] at he
  subst he
  show (1+0:Nat)≠0
  decide
 ·intro e he
  rw [XF] at he
  subst he
  exact ⟨Int.le_refl _,by show (0:Int) < 1;decide⟩
 ·show (1:Nat)≤64
  decide
 ·show (1:Int)≤1048576
  decide
def YL (es:List PE) (parent core:Int) (nm:Bool):Int:=
 match J6 es parent with
 | none => 17
 | some _ => if nm = Xb then (if 0 ≤ core ∧ core < 32 then (if es.length = 64 then 15 else 0) else 1) else 63
theorem put_new {es:List PE} {k:Int} {c:AV} (h:∀ e∈es,e.p.id < k):Kd (es.map PE.kv) k c=es.map PE.kv++[[I k,c]]:=by
 unfold Kd
 rw [if_neg]
 intro hh
 obtain ⟨r,hr,hk⟩:=List.any_eq_true.1 hh
 obtain ⟨e,he,rfl⟩:=Xj.1 hr
 have:=h e he
 have hk':(Xa e.p.id == Xa k)=Xb:=hk
 simp at hk'
 omega
theorem ZtH {x:LL} (h:ZD rows (m.frag++F)) (hx:Ze x = .oref (m.jm+1) 0) {parent core:Int} {name:ByteArray} {nm:Bool} (hn:g28 name=Xa nm) (hc:YL m.es parent core nm≠0) :
  g10 x parent name core rows=Xa (0,YL m.es parent core nm,rows):=by
 rw [Zrp,s27 h hx,Xi,Zc (ne1 (Ki _)),Za3]
 unfold YL at hc ⊢
 cases ho:J6 m.es parent with
 | none =>
  rw [K0,if_pos (by decide)]
 | some e =>
  rw [ho] at hc
  dsimp only at hc ⊢
  rw [Zr,if_neg (by decide),hn,Xi]
  cases nm with
  | false => rfl
  | true =>
   simp only [if_true] at hc ⊢
   rw [if_neg (by decide),s26,Xi]
   by_cases hr:0≤core∧core < 32
   ·rw [if_pos hr] at hc ⊢
    rw [decide_eq_true hr,if_neg (by decide),Zc (ne1 (ZC hx)),Zc (ne1 (ZC hx)),YV h hx,Zp rfl,Zc (ne1 (Va h rfl))]
    have hrows:Zd .mrows rows 0 [[.omap (m.jq+1)]] []=m.es.map PE.kv:=by
     simp only [Zd,Ze,ZP,Zr4,Ji (map_at h),MS.map,ZZ,Kj]
    by_cases hl:m.es.length=64
    ·rw [if_pos hl] at hc ⊢
     rw [hrows,if_pos (by simp [cop,hl])]
    ·rw [if_neg hl] at hc
     exact absurd rfl hc
   ·rw [if_neg hr]
    rw [decide_eq_false hr]
    rfl
theorem s10 {x:LL} (h:ZD rows (m.frag++F)) (hm:m.Ok) (hx:Ze x = .oref (m.jm+1) 0) {parent core:Int} {name:ByteArray} {nm:Bool} (hn:g28 name=Xa nm) (hc:YL m.es parent core nm=0) (hlast:m.last < 1048576) :
  ∃ rows',∃ e':PE,g10 x parent name core rows=Xa (m.last+1,0,rows')∧e'.p=⟨m.last+1,parent,name,[core],Xc,0,Xc⟩∧ZD rows' (({ m with es:=m.es++[e'],last:=m.last+1 } : MS).frag++F)∧({ m with es:=m.es++[e'],last:=m.last+1 } : MS).Ok:=by
 rw [Zrp,s27 h hx,Xi,Zc (ne1 (Ki _)),Za3]
 unfold YL at hc
 cases ho:J6 m.es parent with
 | none => rw [ho] at hc; exact absurd hc (by show ¬ ((17 : Int) = 0); decide)
 | some e =>
  rw [ho] at hc
  dsimp only at hc
  cases nm with
  | false => rw [if_neg (by decide)] at hc; exact absurd hc (by decide)
  | true =>
  rw [if_pos rfl] at hc
  by_cases hr:0≤core∧core < 32
  ·rw [if_pos hr] at hc
   by_cases hl:m.es.length=64
   ·rw [if_pos hl] at hc;exact absurd hc (by decide)
   ·have hrows:Zd .mrows rows 0 [[.omap (m.jq+1)]] []=m.es.map PE.kv:=by
     simp only [Zd,Ze,ZP,Zr4,Ji (map_at h),MS.map,ZZ,Kj]
    obtain ⟨hf,_⟩:=Je ho
    have hem:=Js (m:=m) hf
    have hrg:=hm.rng e hem.1
    have hlst:=hm.lst
    rw [Zr,if_neg (by decide),hn,Xi,if_neg (by decide),s26,Xi,decide_eq_true hr,if_neg (by decide),Zc (ne1 (ZC hx)),Zc (ne1 (ZC hx)),YV h hx,Zp rfl,Zc (ne1 (Va h rfl)),hrows,if_neg (by simp [cop];omega),
     Zc (ne1 (ZC hx)),Zc (ne1 (ZC hx)),Zjm h hx,ZJ,Zc (ne1 (ZC hx)),Zc (ne1 (ZC hx)),Zc (by simp),Zc (ne1 (ZC hx)),Zc (ne1 (ZC hx))]
    have hadd:iop .add .i64 m.last 1=m.last+1:=Znx (by omega) (by omega)
    rw [hadd]
    have hs1:Zd .set rows 0 (Zd (.padd 1) x 0 E0 []) [AV.val (.int .i64 (m.last+1))]=rows.set m.jm [.omap (m.jq+1),I (m.last+1)]:=by
     rw [YM hx]
     rw [Zao rfl (head_at h) (by simp [MS.head])]
     rfl
    rw [hs1]
    have h1:ZD (rows.set m.jm [.omap (m.jq+1),I (m.last+1)]) (({ m with last:=m.last+1 } : MS).frag++F):=ZD.set h [.omap (m.jq+1),I (m.last+1)]
    generalize rows.set m.jm [.omap (m.jq+1),I (m.last+1)]=r1 at h1 ⊢
    have h2:=h1.push [I core]
    have h3:=h2.push [I (m.last+1),I parent,.val (.string name),.osl 3 (r1.length+1) 1,B Xc,I 0,B Xc]
    have hw:∀ l:LL,Zd .pnew l 0 E0 [] = [[.oref (l.length+1) 0]]:=fun _=>rfl
    have ha:Zd (.parr 3) r1 1 E0 [] = [[.osl 3 (r1.length+1) 1]]:=rfl
    have hc3:Ze [[AV.osl 3 (r1.length+1) 1]] = .osl 3 (r1.length+1) 1:=rfl
    have hc4:Ze [[AV.oref ((r1++[[AV.val (.int .i64 core)]]).length+1) 0]] = .oref ((r1++[[AV.val (.int .i64 core)]]).length+1) 0:=rfl
    rw [YV (m:={ m with last:=m.last+1 }) h1 hx,Zp rfl,Zc (ne1 (ZC hx)),Zc (ne1 (ZC hx)),Zjm (m:={ m with last:=m.last+1 }) h1 hx,ZJ,Zc (ne1 (ZC hx)),Zc (ne1 (ZC hx)),ZJ,ha,hc3]
    dsimp only
    generalize hr3:r1++[[AV.val (.int .i64 core)]]++[[AV.val (.int .i64 (m.last+1)),AV.val (.int .i64 parent),AV.val (.string name),AV.osl 3 (r1.length+1) 1,AV.val (.bool Xc),AV.val (.int .i64 0),AV.val (.bool Xc)]]=r3
    have hr3':r1++[[I core]]++[[I (m.last+1),I parent,.val (.string name),.osl 3 (r1.length+1) 1,B Xc,I 0,B Xc]]=r3:=hr3
    rw [hr3'] at h3
    have h3m:=h3.tail.tail
    rw [Zc (ne1 (Va (m:={ m with last:=m.last+1 }) h3m rfl)),hw,hc4,Zc (by simp [Zd,Ze,ZP,okL]),Zc (ne1 (ZC hx)),Zc (ne1 (ZC hx))]
    rw [Zrz (j:=m.jq) (kvs:=m.es.map PE.kv) rfl (map_at (m:={ m with last:=m.last+1 }) h3m),put_new (fun a ha=>by have:=hm.rng a ha;omega)]
    have hlen:(r1++[[AV.val (.int .i64 core)]]).length=r1.length+1:=by simp
    have hlen':(r1++[[I core]]).length=r1.length+1:=by simp
    rw [hlen]
    rw [hlen'] at h3
    obtain ⟨e',he'⟩:∃ e':PE,e'=⟨r1.length+1,Xa (r1.length,0),⟨m.last+1,parent,name,[core],Xc,0,Xc⟩⟩:=⟨_,rfl⟩
    have hfr:e'.frag = [(r1.length+1,[I (m.last+1),I parent,.val (.string name),.osl 3 (r1.length+1) 1,B Xc,I 0,B Xc]),(r1.length,[I core])]:=by rw [he'];rfl
    have hkv:e'.kv = [I (m.last+1),.oref (r1.length+1+1) 0]:=by rw [he'];rfl
    have hp1:((r1.length+1,[I (m.last+1),I parent,.val (.string name),.osl 3 (r1.length+1) 1,B Xc,I 0,B Xc])::(r1.length,[I core])::(({ m with last:=m.last+1 } : MS).frag++F)).Perm ((m.jq,m.map)::((m.jm,[.omap (m.jq+1),I (m.last+1)])::((m.es++[e']).flatMap PE.frag++F))):=by
     have:(m.es++[e']).flatMap PE.frag++F=m.es.flatMap PE.frag++(e'.frag++F):=by simp [List.flatMap_append]
     rw [this]
     have h0:(r1.length+1,[I (m.last+1),I parent,.val (.string name),.osl 3 (r1.length+1) 1,B Xc,I 0,B Xc])::(r1.length,[I core])::(({ m with last:=m.last+1 } : MS).frag++F)=e'.frag++(({ m with last:=m.last+1 } : MS).frag++F):=by rw [hfr];rfl
     rw [h0]
     refine (Uh _ _ _).trans ?_
     exact (List.Perm.swap _ _ _)
    have h4:=((h3.perm hp1).set (ZZ (m.es.map PE.kv++[e'.kv]))).perm (List.Perm.swap _ _ _)
    have hfin:ZD (r3.set m.jq (ZZ (m.es.map PE.kv++[e'.kv]))) (({ m with es:=m.es++[e'],last:=m.last+1 } : MS).frag++F):=by
     have hmap:({ m with es:=m.es++[e'],last:=m.last+1 } : MS).map=ZZ (m.es.map PE.kv++[e'.kv]):=by simp [MS.map]
     unfold MS.frag
     rw [hmap]
     exact h4
    rw [hkv] at hfin
    rw [Zjm (m:={ m with es:=m.es++[e'],last:=m.last+1 }) hfin hx,ZJ]
    refine ⟨_,e',rfl,by rw [he'],hfin,?_,?_,?_,?_,?_,?_⟩
    ·show (m.es++[e']).Pairwise _
     rw [Ub]
     refine ⟨hm.srt,Tw _ _,fun a ha b hb=>?_⟩
     rw [XF] at hb
     have:=hm.rng a ha
     rw [hb,he']
     show a.p.id < m.last+1
     omega
    ·intro a ha
     show 1≤a.p.id∧a.p.id≤m.last+1
     rcases Xv.1 ha with ha | ha
     ·have:=hm.rng a ha
      omega
     ·rw [XF] at ha
      rw [ha,he']
      dsimp only
      omega
    ·intro a ha
     rcases Xv.1 ha with ha | ha
     ·exact hm.cor a ha
     ·rw [XF] at ha
      rw [ha,he']
      show (1+0:Nat)≠0
      decide
    ·intro a ha
     rcases Xv.1 ha with ha | ha
     ·exact hm.par a ha
     ·rw [XF] at ha
      rw [ha,he']
      show 0≤parent∧parent < m.last+1
      omega
    ·show (m.es++[e']).length≤64
     have:=hm.len
     simp
     omega
    ·show m.last+1≤1048576
     omega
  ·rw [if_neg hr] at hc;exact absurd hc (by decide)
end
section
open Go Go.AM Go.Proofs.Ytpjnmgjphfnmmaa
set_option maxRecDepth 100000
variable {rows:LL} {F:Ym} {m:MS}
def Y2 (es:List PE) (k:Int):List PE×Int×Int×Int×Bool×Int:=
 match J6 es k with
 | none => (es, 0, 0, 0, Xc, 17)
 | some p =>
  if p.p.waiting=Xb then (es,0,0,0,Xc,4)
  else match es.find? fun e=>decide (e.p.parent=k)&&e.p.ended with
   | some c => (V7 c.p.id es, k, c.p.id, c.p.status, Xb, 0)
   | none => if (es.any fun e => decide (e.p.parent = k)) = Xb then (ZcM k (fun q => { q with waiting := Xb }) es, 0, 0, 0, Xc, 0) else (es, 0, 0, 0, Xc, 2)
theorem Zgz (hm:m.Ok) {pre ks:List PE} {e:PE} (hs:m.es=pre++e::ks):m.find e.p.id=Xa e:=by
 unfold MS.find
 rw [Tm]
 refine ⟨by simp,pre,ks,hs,fun a ha=>?_⟩
 have hsrt:=hm.srt
 rw [hs,Ub] at hsrt
 have:=hsrt.2.2 a ha e (by simp)
 simp
 omega
theorem Zgu {x:LL} (h:ZD rows (m.frag++F)) (hm:m.Ok) (hx:Ze x = .oref (m.jm+1) 0) (kk:Int) {p:PE} (hp:p∈m.es):∀ (ks pre:List PE) (k c:Nat),m.es=pre++ks→ks.length < k→c≤pre.length→
  Zmz k x kk 0 0 0 (nmE (Xa p)) (c:Int) m.ids (m.es.length:Int) (pre.length:Int) rows =
   match ks.find? (fun e=>decide (e.p.parent=kk)&&e.p.ended) with
   | some e => Xa (kk, e.p.id, e.p.status, Xb, 0, Zd .mdel rows e.p.id [[.omap (m.jq + 1)]] [])
   | none => if c = 0 ∧ (ks.any fun e => decide (e.p.parent = kk)) = Xc then Xa (0, 0, 0, Xc, 2, rows) else Xa (0, 0, 0, Xc, 0, rows.set p.j (p.row.set 6 (B Xb)))
 | [], pre, k, c, hs, hk, hc => by
  obtain ⟨k',rfl⟩:∃ k',k=k'+1:=⟨k-1,by simp at hk;omega⟩
  rw [XK] at hs
  rw [ZkU,hs,if_neg (by simp [cop])]
  simp only [List.find?_nil,List.any_nil,and_true]
  by_cases h0:c=0
  ·rw [if_pos (by simp [cop,h0]),if_pos h0]
  ·rw [if_neg (by simp [cop];omega),if_neg h0,Zc (ne1 (Zr p)),Zc (ne1 (Zr p)),Zc (by rw [Y7 (ZlU h hp) rfl (c:=B p.p.waiting) rfl];simp),Vv (ZlU h hp) (by simp [PE.row])]
 | e :: ks, pre, k, c, hs, hk, hc => by
  obtain ⟨k',rfl⟩:∃ k',k=k'+1:=⟨k-1,by simp at hk;omega⟩
  have he:e∈m.es:=by rw [hs];simp
  have hlen:(pre.length:Int) < (m.es.length:Int):=by rw [hs];simp;omega
  have hml:=hm.len
  have hpl:pre.length≤64:=by omega
  have hf:=Zgz hm hs
  have hz:(m.es.map fun e=>e.p.id)[pre.length]? = Xa e.p.id:=by rw [hs];simp
  have hl1:((pre++[e]).length:Int)=((pre.length+1:Nat):Int):=by simp
  rw [ZkU,if_pos (by simp [cop];omega),Y6,ZQ hz,Zc (ne1 (ZC hx)),Zc (ne1 (ZC hx)),YV h hx,Zp rfl,Zc (ne1 (Va h rfl)),Zcq h rfl,hf,Zc (ne1 (Zr e)),Zc (ne1 (Zr e)),Ke h he (c:=I e.p.parent) rfl,ZJ,ZaJ (by omega)]
  by_cases hpar:e.p.parent=kk
  ·rw [if_neg (by simp [cop,hpar]),Zc (ne1 (Zr e)),Zc (ne1 (Zr e)),Ke h he (c:=B e.p.ended) rfl,JR]
   cases hen:e.p.ended with
   | true =>
    rw [if_pos rfl,Zc (ne1 (ZC hx)),Zc (ne1 (ZC hx)),Zp rfl,Zc (ne1 (Va h rfl)),Zc (ne1 (Zr e)),Zc (ne1 (Zr e))]
    have hr:=(ZnW h hm hf (x:=[[.omap (m.jq+1)]]) rfl).1
    have hr2:(Zd .mdel rows e.p.id [[.omap (m.jq+1)]] [])[e.j]? = Xa e.row:=hr.get (by simp [PE.frag])
    rw [Y7 hr2 rfl (c:=I e.p.status) rfl,ZJ]
    simp only [UV,hpar,hen,decide_true,X8]
   | false =>
    rw [if_neg (by decide),ZaJ (by omega)]
    have ih:=Zgu h hm hx kk hp ks (pre++[e]) k' (c+1) (by rw [hs];simp) (by simp at hk;omega) (by simp;omega)
    rw [Y6,hl1] at ih
    rw [ih]
    simp only [UV,hpar,hen,decide_true,X8,U8,Bool.true_or,Bool.true_eq_false,and_false,if_false,Nat.add_eq_zero_iff,Nat.one_ne_zero,false_and]
  ·rw [if_pos (by simp [cop,hpar])]
   have ih:=Zgu h hm hx kk hp ks (pre++[e]) k' c (by rw [hs];simp) (by simp at hk;omega) (by simp;omega)
   rw [Y6,hl1] at ih
   rw [ih]
   simp only [UV,hpar,decide_false,Bool.false_and,U8,Bool.false_or]
theorem s11 {x:LL} (h:ZD rows (m.frag++F)) (hm:m.Ok) (hx:Ze x = .oref (m.jm+1) 0) (k:Int) :
  ∃ rows' F',g11 x k rows=Xa ((Y2 m.es k).2.1,(Y2 m.es k).2.2.1,(Y2 m.es k).2.2.2.1,(Y2 m.es k).2.2.2.2.1,(Y2 m.es k).2.2.2.2.2,rows')∧ZD rows' (({ m with es:=(Y2 m.es k).1 } : MS).frag++(F'++F))∧({ m with es:=(Y2 m.es k).1 } : MS).Ok:=by
 rw [Zug,s27 h hx,Xi,Zc (ne1 (Ki _)),Za3]
 unfold Y2
 cases ho:J6 m.es k with
 | none =>
  rw [K0,if_pos (by decide)]
  exact ⟨rows,[],rfl,h,hm⟩
 | some p =>
  obtain ⟨hf,hen⟩:=Je ho
  obtain ⟨hp,hpk⟩:=Js (m:=m) hf
  subst hpk
  rw [Zr,if_neg (by decide),Zc (by simp),Zc (by simp),Ke h hp (c:=B p.p.waiting) rfl,JR]
  dsimp only
  cases hw:p.p.waiting with
  | true =>
   exact ⟨rows,[],rfl,h,hm⟩
  | false =>
   rw [if_neg (by decide),if_neg (by decide),s29 h hm hx,Xi]
   have hp0:=(h.push [.omap (m.jq+1)])
   have hq:ZD (rows++[[.omap (m.jq+1)]]) (m.frag++([(rows.length,[.omap (m.jq+1)])]++F)):=hp0.perm (by
    rw [XL,XM]
    exact List.perm_middle.symm)
   generalize rows++[[.omap (m.jq+1)]]=rows1 at hq ⊢
   have hl2:((m.ids).length:Int)=(m.es.length:Int):=by simp [MS.ids]
   have hlp:=Zgu hq hm hx p.p.id hp m.es [] Jv 0 rfl (by have:=hm.len;unfold Jv;omega) (XA _)
   rw [hl2]
   have hz:((([] : List PE).length:Nat):Int)=0:=rfl
   rw [hz] at hlp
   have hz2:((0:Nat):Int)=0:=rfl
   rw [hz2] at hlp
   rw [hlp]
   cases hfc:m.es.find? (fun e=>decide (e.p.parent=p.p.id)&&e.p.ended) with
   | some c =>
    have hcm:=Ws hfc
    have hcf:m.find c.p.id=Xa c:=by
     obtain ⟨pre,post,hs⟩:=List.append_of_mem hcm
     exact Zgz hm hs
    obtain ⟨g1,g2⟩:=ZnW hq hm hcf (x:=[[.omap (m.jq+1)]]) rfl
    refine ⟨_,c.frag++[(rows.length,[.omap (m.jq+1)])],rfl,?_,g2⟩
    rw [Xo]
    exact g1
   | none =>
    dsimp only
    cases ha:m.es.any fun e=>decide (e.p.parent=p.p.id) with
    | false =>
     rw [if_pos ⟨rfl,rfl⟩,if_neg (by decide)]
     exact ⟨rows1,_,rfl,hq,hm⟩
    | true =>
     rw [if_neg (by simp),if_pos rfl]
     obtain ⟨g1,g2⟩:=ZmK (f:=fun q=>{ q with waiting:=Xb }) hq hm hf rfl rfl (hm.par p hp)
     refine ⟨_,[(rows.length,[.omap (m.jq+1)])],rfl,?_,g2⟩
     exact g1
end
section
open Go Go.AM Go.Proofs.Ytpjnmgjphfnmmaa
set_option maxRecDepth 100000
variable {rows:LL} {F:Ym} {m:MS}
def Jw (zs:List Int):List AV:=zs.map fun z=>I z
def IsI (rows:LL) (c:AV) (zs:List Int):Prop:=(c = .osl 0 0 0∧zs = [])∨∃ j rest,c = .osl 3 (j+1) zs.length∧rows[j]? = Xa (Jw zs++rest)∧Jw zs++rest≠[]
theorem Zdc {zs:List Int} {k:Nat} (h:Jw zs++Xg k (I 0)≠[]):Z1 (Jw zs++Xg k (I 0))=Xb:=by
 cases zs with
 | cons z zs => rfl
 | nil =>
  cases k with
  | zero => exact absurd rfl h
  | succ k => rfl
theorem Zf9 (h:ZD rows (m.frag++F)) (hm:m.Ok) {e:PE} (he:e∈m.es):IsI rows e.core e.p.cores:=by
 have hok:=hm.cor e he
 unfold PE.ok at hok
 unfold PE.core
 cases hc:e.c with
 | none =>
  rw [hc] at hok
  exact .inl ⟨rfl,hok⟩
 | some q =>
  rw [hc] at hok
  refine .inr ⟨q.1,Xg q.2 (I 0),rfl,Zog h he hc,fun hn=>?_⟩
  have:=congrArg Xm hn
  simp [Jw] at this
  exact hok (by simp [this.1,this.2])
theorem Zaa {c:AV} {zs:List Int} (h:IsI rows c zs) {x:LL} (hx:Ze x=c):Zd .pisl x 0 E0 [] = [[]]:=by
 rcases h with ⟨rfl,_⟩ | ⟨j,rest,rfl,_⟩ <;> simp only [Zd,hx,okL]
theorem Kt {c:AV} {zs:List Int} (h:IsI rows c zs) {x:LL} (hx:Ze x=c):((Zd .plen x 0 E0 []).length:Int)=(zs.length:Int):=by
 rcases h with ⟨rfl,rfl⟩ | ⟨j,rest,rfl,_⟩ <;> simp only [Zd,hx]<;>simp
theorem Zq6 {zs:List Int} {rest:List AV} {i:Nat} {z:Int} (h:zs[i]? = Xa z):(Jw zs++rest)[i]? = Xa (I z):=by
 have hi:=(Xk.1 h).1
 rw [Xx (by simpa [Jw] using hi)]
 simp only [Jw,Xl,h,Xw]
theorem Zls {zs:List Int} {rest:List AV} {i:Nat} {z:Int} (h:zs[i]? = Xa z):Z1 (Jw zs++rest)=Xb:=by
 cases zs with
 | nil => simp at h
 | cons z zs => rfl
theorem Zjr {c:AV} {zs:List Int} (h:IsI rows c zs) {x:LL} (hx:Ze x=c) {i:Nat} {z:Int} (hz:zs[i]? = Xa z):Zd (.get 1) rows 0 (Zd (.pidx 1) x (i:Int) [] []) [] = [[I z]]:=by
 rcases h with ⟨rfl,rfl⟩ | ⟨j,rest,rfl,hr,_⟩
 ·simp at hz
 ·have hp:Zd (.pidx 1) x (i:Int) [] [] = [[.oref (j+1) i]]:=by simp only [Zd,hx,pJ,Wr,Wn]
  rw [hp]
  exact JF rfl hr (Zls hz) (Zq6 hz)
theorem ZkM {c:AV} {zs:List Int} (h:IsI rows c zs) {x:LL} (hx:Ze x=c) (hl:zs.length≤100000) (k:Int):∀ (ks pre:List Int) (q:Nat),zs=pre++ks→ks.length < q→
  ∃ r:Int,Zqc q x k (zs.length:Int) (pre.length:Int) rows=Xa (r,rows)∧(0≤r↔k∈ks)
 | [], pre, q, hs, hq => by
  obtain ⟨q',rfl⟩:∃ q',q=q'+1:=⟨q-1,by simp at hq;omega⟩
  rw [XK] at hs
  rw [Zke,hs,if_neg (by simp [cop])]
  exact ⟨-1,rfl,by simp⟩
 | z :: ks, pre, q, hs, hq => by
  obtain ⟨q',rfl⟩:∃ q',q=q'+1:=⟨q-1,by simp at hq;omega⟩
  have hz:zs[pre.length]? = Xa z:=by rw [hs];simp
  have hi:pre.length < zs.length:=(Xk.1 hz).1
  have hl1:((pre++[z]).length:Int)=((pre.length+1:Nat):Int):=by simp
  rw [Zke,if_pos (by simp [cop];omega),Zc (by omega),Kt h hx,Zc (by omega),Zjr h hx hz,ZJ,ZaJ (by omega)]
  by_cases hk:k=z
  ·rw [if_pos (by simp [cop,hk])]
   exact ⟨_,rfl,by simp [hk]⟩
  ·rw [if_neg (by simp [cop,hk])]
   obtain ⟨r,h1,h2⟩:=ZkM h hx hl k ks (pre++[z]) q' (by rw [hs];simp) (by simp at hq;omega)
   rw [hl1] at h1
   exact ⟨r,h1,by rw [h2];simp [hk]⟩
theorem s44 {c:AV} {zs:List Int} (h:IsI rows c zs) {x:LL} (hx:Ze x=c) (hl:zs.length≤100000) (k:Int):g44 x k rows=Xa (decide (k∈zs),rows):=by
 obtain ⟨r,h1,h2⟩:=ZkM h hx hl k zs [] Jv rfl (by unfold Jv;omega)
 have hz:((([] : List Int).length:Nat):Int)=0:=rfl
 rw [hz] at h1
 rw [Zup,Zt6,Zc (ne1 (Zaa h hx)),Kt h hx,h1,Xi]
 simp only [cop,ge_iff_le]
 congr 2
 exact decide_eq_decide.2 h2
def srt (zs:List Int):List Int:=zs.mergeSort fun a b=>decide (a≤b)
theorem Zs2 (zs:List Int):(Jw zs).filterMap (fun c=>ZY [c])=zs:=by
 unfold Jw
 induction zs with
 | nil => rfl
 | cons z zs ih => rw [Xh, Tu (f := fun c => ZY [c]) (a := I z) (b := z) rfl, ih]
theorem Zgm (zs:List Int):KC (Jw zs)=Jw (srt zs):=by
 unfold KC srt
 rw [Zs2]
 rfl
theorem Zas (zs:List Int):(srt zs).length=zs.length:=List.length_mergeSort _
theorem modify_set {rows:LL} {j:Nat} {row:List AV} (hr:rows[j]? = Xa row) (f:List AV→List AV):rows.modify j f=rows.set j (f row):=by
 have hlt:=(Xk.1 hr).1
 apply Wv
 intro i
 rw [List.getElem?_modify,List.getElem?_set]
 by_cases hij:j=i
 ·subst hij
  rw [if_pos rfl,if_pos hlt,hr]
  simp
 ·rw [if_neg hij]
  simp [hij]
theorem s43 {x:LL} {j:Nat} {zs:List Int} (hx:Ze x = .osl 3 (j+1) zs.length) (hr:rows[j]? = Xa (Jw zs)) (h0:zs≠[]) (hl:zs.length≤100000) :
  g43 x rows=Xa (rows.set j (Jw (srt zs))):=by
 have e:g43 x rows=Zj7 x rows:=rfl
 rw [e]
 unfold Zj7
 rw [hx]
 dsimp only
 rw [Ji hr,Zc]
 ·congr 1
  simp only [Zd,ZiG,hx]
  have hlen:(Jw zs).length=zs.length:=by simp [Jw]
  rw [modify_set hr,Uo (by omega),List.drop_eq_nil_of_le (by omega),Zgm,XK]
 ·have hlen:(Jw zs).length=zs.length:=by simp [Jw]
  have hc:Z1 (Jw zs)=Xb:=by
   cases zs with
   | nil => exact absurd rfl h0
   | cons z zs => rfl
  rw [hc,hlen,decide_eq_true rfl,decide_eq_true (show zs.length≤1048576 by omega),decide_eq_true rfl]
  simp only [X8]
  refine XD.2 fun c hc=>?_
  obtain ⟨z,hz,rfl⟩:=Xj.1 hc
  rfl
theorem Zuj {c:AV} {zs:List Int} (h:IsI rows c zs) {x:LL} (hx:Ze x=c) (k:Int) :
  (Zd (.papp 3) rows 0 x [AV.slice Xc 1 (E0++[[AV.val (.int .i64 k)]])] = [[.osl 3 (rows.length+1) (zs.length+1)]])∧
  ∃ rows1,Zd (.app 1) rows 0 x [AV.slice Xc 1 (E0++[[AV.val (.int .i64 k)]])]=rows1++[Jw (zs++[k])]∧((c = .osl 0 0 0∧rows1=rows)∨∃ j n,c = .osl 3 (j+1) n∧rows1=rows.set j []):=by
 rcases h with ⟨rfl,rfl⟩ | ⟨j,rest,rfl,hr,_⟩
 ·refine ⟨?_,rows,?_,.inl ⟨rfl,rfl⟩⟩
  ·simp only [Zd,hx,pO,Zq0];rfl
  ·simp only [Zd,hx,Zh8,Zq0];rfl
 ·refine ⟨?_,rows.set j [],?_,.inr ⟨j,_,rfl,rfl⟩⟩
  ·simp only [Zd,hx,pO,Zq0];rfl
  ·simp only [Zd,hx,Zh8,Zq0,Ji hr]
   congr 2
   have hl:(Jw zs).length=zs.length:=by simp [Jw]
   rw [Wn,List.take_left' hl]
   simp [Jw]
def VB (es:List PE) (k core:Int):Int:=
 match J6 es k with
 | none => 17
 | some e => if 0 ≤ core ∧ core < 32 then (if core ∈ e.p.cores then 56 else 0) else 1
end
section
open Go Go.AM Go.Proofs.Ytpjnmgjphfnmmaa
set_option maxRecDepth 100000
variable {rows:LL} {F:Ym} {m:MS}
def MS.base (m:MS) (pre post:List PE):Ym:=(m.jm,m.head)::(m.jq,m.map)::(pre.flatMap PE.frag++post.flatMap PE.frag)
theorem Zgn {G:Ym} {pre post:List PE} {e e':PE} (hs:m.es=pre++e::post) (hj:e'.j=e.j) (hid:e'.p.id=e.p.id):((e.j,e'.row)::(e'.cf++(m.base pre post++G))).Perm ((m.put pre e' post).frag++G):=by
 have h2:=(Vd (F:=G) (m.put pre e' post) (pre:=pre) (e:=e') (post:=post) rfl).symm
 have hm:(m.put pre e' post).map=m.map:=by
  simp only [MS.map,MS.put,hs,XN,Xh,PE.kv,hj,hid]
 have hh:(m.put pre e' post).head=m.head:=rfl
 rw [hm,hh,hj] at h2
 refine List.Perm.trans (List.Perm.cons _ ?_) h2
 have e1:(m.base pre post++G)=((m.jm,m.head)::(m.jq,m.map)::pre.flatMap PE.frag)++(post.flatMap PE.frag++G):=by simp [MS.base]
 have e2:((m.put pre e' post).jm,m.head)::((m.put pre e' post).jq,m.map)::(pre.flatMap PE.frag++(e'.cf++post.flatMap PE.frag))++G=((m.jm,m.head)::(m.jq,m.map)::pre.flatMap PE.frag)++(e'.cf++(post.flatMap PE.frag++G)):=by simp [MS.put]
 rw [e1,e2]
 exact Uh _ _ _
theorem Zqx {pre post:List PE} {e:PE} (hs:m.es=pre++e::post):m.put pre e post=m:=by
 unfold MS.put
 rw [← hs]
theorem ZjK (h:ZD rows (m.frag++F)) {pre post:List PE} {e:PE} (hs:m.es=pre++e::post):ZD rows ((e.j,e.row)::(e.cf++(m.base pre post++F))):=by
 refine h.perm ?_
 have:=(Zgn (m:=m) (G:=F) (e:=e) (e':=e) hs rfl rfl).symm
 rw [Zqx hs] at this
 exact this
def ZaK (L:Nat) (core:Int) (e:PE):PE:={ e with c:=Xa (L,0),p:={ e.p with cores:=srt (e.p.cores++[core]) } }
theorem ZuG {x:LL} (h:ZD rows (m.frag++F)) (hm:m.Ok) (hx:Ze x = .oref (m.jm+1) 0) {k core:Int} (hcl:∀ e∈m.es,e.p.cores.length≤100) (hc:VB m.es k core≠0):g35 x k core rows=Xa (VB m.es k core,rows):=by
 rw [Zrb,s27 h hx,Xi,Zc (ne1 (Ki _)),Za3]
 unfold VB at hc ⊢
 cases ho:J6 m.es k with
 | none =>
  rw [K0,if_pos (by decide)]
 | some e =>
  obtain ⟨hf,_⟩:=Je ho
  have he:=(Js (m:=m) hf).1
  rw [ho] at hc
  dsimp only at hc ⊢
  rw [Zr,if_neg (by decide),s26,Xi]
  by_cases hr:0≤core∧core < 32
  ·rw [if_pos hr] at hc ⊢
   rw [decide_eq_true hr,if_neg (by decide),Zc (by simp),Zc (by simp),Ke h he (c:=e.core) rfl,Zp (J8 e),s44 (Zf9 h hm he) (Zpe (J8 e)) (by have:=hcl e he;omega),Xi]
   by_cases hi:core∈e.p.cores
   ·rw [if_pos hi]
    dsimp only
    rw [decide_eq_true hi,if_pos rfl]
   ·rw [if_neg hi] at hc
    exact absurd rfl hc
  ·rw [if_neg hr,decide_eq_false hr]
   rfl
theorem s35 {x:LL} (h:ZD rows (m.frag++F)) (hm:m.Ok) (hx:Ze x = .oref (m.jm+1) 0) {k core:Int} (hcl:∀ e∈m.es,e.p.cores.length≤100) (hc:VB m.es k core=0) :
  ∃ rows' F' L,g35 x k core rows=Xa (0,rows')∧ZD rows' (({ m with es:=Yh k (ZaK L core) m.es } : MS).frag++(F'++F))∧({ m with es:=Yh k (ZaK L core) m.es } : MS).Ok:=by
 rw [Zrb,s27 h hx,Xi,Zc (ne1 (Ki _)),Za3]
 unfold VB at hc
 cases ho:J6 m.es k with
 | none => rw [ho] at hc; exact absurd hc (by show ¬ ((17 : Int) = 0); decide)
 | some e =>
  obtain ⟨hf,_⟩:=Je ho
  obtain ⟨he,hek⟩:=Js (m:=m) hf
  subst hek
  rw [ho] at hc
  dsimp only at hc
  by_cases hr:0≤core∧core < 32
  ·rw [if_pos hr] at hc
   by_cases hi:core∈e.p.cores
   ·rw [if_pos hi] at hc;exact absurd hc (by decide)
   ·have hcle:=hcl e he
    have hcI:=Zf9 h hm he
    have hcc:=Zpe (J8 e)
    rw [Zr,if_neg (by decide),s26,Xi,decide_eq_true hr,if_neg (by decide),Zc (by simp),Zc (by simp),Ke h he (c:=e.core) rfl,Zp (J8 e),s44 hcI hcc (by omega),Xi]
    dsimp only
    have hpl:(Zd .plen [[e.core]] 0 E0 []).length=e.p.cores.length:=by
     have:=Kt hcI hcc
     omega
    rw [decide_eq_false hi,if_neg (by decide),Zc (by simp),Zc (by simp),Ke h he (c:=e.core) rfl,Zp (J8 e),Zc (by simp),Zc (ne1 (Zh6 h hm he hcc)),Zc (by unfold Jr ZB;rw [hpl];simp;omega),Zc (by simp),Zc (by simp)]
    obtain ⟨pre,post,hs,_,_⟩:=WY (m:=m) hf
    obtain ⟨hpa,rows1,hap,hr1⟩:=Zuj hcI hcc core
    have hfr:=ZjK h hs
    -- the old array is gone
    obtain ⟨gar,hg⟩:∃ gar:Ym,ZD rows1 ((e.j,e.row)::(gar++(m.base pre post++F)))∧rows1.length=rows.length:=by
     rcases hr1 with ⟨_,rfl⟩ | ⟨j,n,hcj,rfl⟩
     ·exact ⟨e.cf,hfr,rfl⟩
     ·unfold PE.core at hcj
      cases hec:e.c with
      | none => rw [hec] at hcj; simp at hcj
      | some q =>
       rw [hec] at hcj
       have hjq:j=q.1:=by
        simp only [AV.osl.injEq] at hcj
        omega
       subst hjq
       have hcf:e.cf = [(q.1,e.arr q.2)]:=by simp only [PE.cf,hec]
       rw [hcf] at hfr
       refine ⟨[(q.1,[])],?_,by simp⟩
       exact ((hfr.perm (List.Perm.swap _ _ _)).set []).perm (List.Perm.swap _ _ _)
    obtain ⟨hg1,hgl⟩:=hg
    have hg2:=hg1.push (Jw (e.p.cores++[core]))
    rw [hgl] at hg2
    rw [hap,hpa]
    have hce:Ze [[AV.osl 3 (rows.length+1) (e.p.cores.length+1)]] = .osl 3 (rows.length+1) (e.p.cores.length+1):=rfl
    rw [hce]
    have hg3:=hg2.perm (List.Perm.swap _ _ _)
    have hrj:(rows1++[Jw (e.p.cores++[core])])[e.j]? = Xa e.row:=hg3.get (by simp)
    obtain ⟨e',he'⟩:∃ e':PE,e'=ZaK rows.length core e:=⟨_,rfl⟩
    have hsl:(srt (e.p.cores++[core])).length=e.p.cores.length+1:=by rw [Zas];simp
    have hrow:e.row.set 3 (.osl 3 (rows.length+1) (e.p.cores.length+1))=e'.row:=by
     rw [he']
     simp only [PE.row,PE.core,ZaK,hsl]
     rfl
    have hst:Zd .set (rows1++[Jw (e.p.cores++[core])]) 0 (Zd (.padd 3) (nmE (Xa e)) 0 E0 []) [AV.osl 3 (rows.length+1) (e.p.cores.length+1)]=(rows1++[Jw (e.p.cores++[core])]).set e.j e'.row:=by
     rw [Vv hrj (by simp [PE.row]),hrow]
    rw [Zc (by rw [Y7 hrj rfl (c:=e.core) rfl];simp),Zc (by simp),Zc (by simp),hst]
    have hg4:=hg3.set e'.row
    have hrj4:((rows1++[Jw (e.p.cores++[core])]).set e.j e'.row)[e.j]? = Xa e'.row:=hg4.get (by simp)
    have hrl4:((rows1++[Jw (e.p.cores++[core])]).set e.j e'.row)[rows.length]? = Xa (Jw (e.p.cores++[core])):=hg4.get (by simp)
    have hec':e'.core = .osl 3 (rows.length+1) (e.p.cores++[core]).length:=by
     rw [he']
     simp only [PE.core,ZaK,hsl,Xu,Xz,XT]
    rw [Y7 hrj4 rfl (c:=e'.core) rfl,Zp (J8 e'),s43 (zs:=e.p.cores++[core]) (by rw [Zpe (J8 e')];exact hec') hrl4 (by simp) (by simp;omega),Xi]
    have hg5:=((hg4.perm (List.Perm.swap _ _ _)).set (Jw (srt (e.p.cores++[core])))).perm (List.Perm.swap _ _ _)
    refine ⟨_,gar,rows.length,rfl,?_,?_⟩
    ·have hup:({ m with es:=Yh e.p.id (ZaK rows.length core) m.es } : MS)=m.put pre e' post:=by
      have hsrt:=hm.srt
      rw [hs] at hsrt
      simp only [MS.put,hs,Ve (f:=ZaK rows.length core) hsrt rfl,he']
     rw [hup]
     have hp:=Zgn (m:=m) (G:=gar++F) (e:=e) (e':=e') hs (by rw [he'];rfl) (by rw [he'];rfl)
     refine hg5.perm (List.Perm.trans ?_ hp)
     have hcf:e'.cf = [(rows.length,Jw (srt (e.p.cores++[core])))]:=by
      rw [he']
      simp [PE.cf,ZaK,PE.arr,Jw]
     rw [hcf]
     refine List.Perm.cons _ (List.Perm.cons _ ?_)
     exact Uh _ _ _
    ·have hsrt:=hm.srt
     rw [hs] at hsrt
     have hup:({ m with es:=Yh e.p.id (ZaK rows.length core) m.es } : MS)=m.put pre e' post:=by
      simp only [MS.put,hs,Ve (f:=ZaK rows.length core) hsrt rfl,he']
     rw [hup]
     refine Zlh hm hs (by rw [he'];rfl) ?_ ?_
     ·rw [he']
      show (srt (e.p.cores++[core])).length+0≠0
      rw [hsl]
      omega
     ·rw [he']
      exact hm.par e he
  ·rw [if_neg hr] at hc;exact absurd hc (by decide)
end
section
open Go Go.AM Go.Proofs.Ytpjnmgjphfnmmaa
set_option maxRecDepth 100000
variable {rows:LL} {F:Ym} {m:MS}
def wo (core:Int) (zs:List Int):List Int:=zs.filter fun z=>!decide (z=core)
theorem ZoN (core:Int) (zs:List Int):(wo core zs).length≤zs.length:=Un _ _
theorem s47 {b:Nat} {core z:Int} {x:LL} (hx:Ze x = .oref (b+1) 0) (hb:rows[b]? = Xa [I core]):g47 z x rows=Xa (decide (z=core),rows):=by
 rw [ZuE,JF hx hb rfl (c:=I core) rfl,ZJ]
 rfl
theorem ZnQ (b:Nat):Zd (.pisf 47 1) [[.fnc 47 [b+1]]] 0 E0 [] = [[]]:=by simp [Zd,Ze,ZP,okL]
theorem Zmm (b:Nat):Ze (Zd (.pcap 0) [[.fnc 47 [b+1]]] 0 E0 []) = .oref (b+1) 0:=rfl
theorem ZjL {c:AV} {zs:List Int} (h:IsI rows c zs) {x:LL} (hx:Ze x=c) (hl:zs.length≤100000) {b:Nat} {core:Int} (hb:rows[b]? = Xa [I core]):∀ (ks pre:List Int) (q:Nat),zs=pre++ks→ks.length < q→core∉pre→
  ∃ r:Int,Zqd q x [[.fnc 47 [b+1]]] (zs.length:Int) (pre.length:Int) rows=Xa (r,rows)∧((r = -1∧core∉zs)∨∃ p s,r=(Xm p:Int)∧zs=p++core::s∧core∉p)
 | [], pre, q, hs, hq, hn => by
  obtain ⟨q',rfl⟩:∃ q',q=q'+1:=⟨q-1,by simp at hq;omega⟩
  rw [XK] at hs
  rw [ZkQ,hs,if_neg (by simp [cop])]
  exact ⟨-1,rfl,.inl ⟨rfl,hn⟩⟩
 | z :: ks, pre, q, hs, hq, hn => by
  obtain ⟨q',rfl⟩:∃ q',q=q'+1:=⟨q-1,by simp at hq;omega⟩
  have hz:zs[pre.length]? = Xa z:=by rw [hs];simp
  have hi:pre.length < zs.length:=(Xk.1 hz).1
  have hl1:((pre++[z]).length:Int)=((pre.length+1:Nat):Int):=by simp
  rw [ZkQ,if_pos (by simp [cop];omega),Zc (by omega),Kt h hx,Zc (by omega),Zjr h hx hz,ZJ,Zc (ne1 (ZnQ b)),s47 (Zmm b) hb,Xi,ZaJ (by omega)]
  dsimp only
  by_cases hk:z=core
  ·rw [decide_eq_true hk,if_pos rfl]
   exact ⟨_,rfl,.inr ⟨pre,ks,rfl,by rw [hs,hk],hn⟩⟩
  ·rw [decide_eq_false hk,if_neg (by decide)]
   obtain ⟨r,h1,h2⟩:=ZjL h hx hl hb ks (pre++[z]) q' (by rw [hs];simp) (by simp at hq;omega) (by simp [hn,Ne.symm hk])
   rw [hl1] at h1
   exact ⟨r,h1,h2⟩
theorem ZfH {x:LL} {qj n b:Nat} {core:Int} {H:Ym} {k:Nat} (hx:Ze x = .osl 3 (qj+1) n) (hn:n≤1000):∀ (ks kept junk:List Int) (rows:LL) (f:Nat),kept.length+junk.length+ks.length=n→junk≠[]→ks.length < f→
  ZD rows ((qj,Jw (kept++(junk++ks))++Xg k (I 0))::(b,[I core])::H)→
  ∃ rows',ZnH f x [[.fnc 47 [b+1]]] (kept.length:Int) ((kept.length+junk.length:Nat):Int) rows=Xa ([[.osl 3 (qj+1) (kept++wo core ks).length]],rows')∧
   ZD rows' ((qj,Jw (kept++wo core ks)++Xg (k+(n-(kept++wo core ks).length)) (I 0))::(b,[I core])::H)
 | [], kept, junk, rows, f, hs, hj, hf, h => by
  obtain ⟨f',rfl⟩:∃ f',f=f'+1:=⟨f-1,by simp at hf;omega⟩
  have hI:IsI rows (.osl 3 (qj+1) n) (kept++(junk++[])):=.inr ⟨qj,_,by simp at hs ⊢; omega,h.get (.head _),by simp [Jw];exact fun _ hh=>absurd hh hj⟩
  have hr:=h.get (j:=qj) (.head _)
  have hlen:(kept++(junk++[])).length=n:=by simp at hs ⊢; omega
  rw [Zka,Zc (ne1 (Zaa hI hx)),Kt hI hx,hlen,if_neg (by simp [cop];simp at hs;omega)]
  have hv:Zd (.vchk 3 1) rows 0 x [] = [[]]:=by
   have hc:Z1 (Jw (kept++(junk++[]))++Xg k (I 0))=Xb:=Zdc (by simp [Jw];exact fun _ hh=>absurd hh hj)
   simp only [Zd,hx,ZdR,Ji hr,hc,decide_true,X8,Xu,List.length_replicate]
   rw [decide_eq_true (by simp [Jw] at hlen ⊢; omega)]
   rfl
  rw [Zc (ne1 hv),Zc (by omega),Zc (by omega),Zc (ne1 (Zaa hI hx)),Zc (by omega),Zc (by omega)]
  have hcut:Zd .pcut x (kept.length:Int) [] [] = [[.osl 3 (qj+1) kept.length]]:=by simp only [Zd,hx,pE,pJ,Wr]
  have hclr:Zd (.clr 1) rows (kept.length:Int) x [AV.val (.int .i64 0)]=rows.set qj (Jw kept++Xg (k+(n-kept.length)) (I 0)):=by
   simp only [Zd,hx,ZqO]
   rw [modify_set hr]
   congr 1
   have hkl:(Jw kept).length=kept.length:=by simp [Jw]
   have hal:(Jw (kept++(junk++[]))).length=n:=by rw [← hlen];simp [Jw]
   have e1:Jw (kept++(junk++[]))=Jw kept++Jw (junk++[]):=by simp [Jw]
   rw [Wn,Wn,Wr]
   rw [show (Jw (kept++(junk++[]))++Xg k (I 0)).drop n=Xg k (I 0) from List.drop_left' hal]
   rw [e1,Xo (Jw kept) (Jw (junk++[])),List.take_left' hkl]
   have hfl:∀ q:Nat,(Xg q [AV.val (.int .i64 0)]).flatten=Xg q (I 0):=fun q=>by
    induction q with
    | zero => rfl
    | succ q ih => rw [List.replicate_succ, X4, ih]; rfl
   rw [hfl,Xo,List.replicate_append_replicate,Nat.add_comm]
  rw [hcut,hclr]
  have hw:kept++wo core []=kept:=by simp [wo]
  rw [hw]
  exact ⟨_,rfl,h.set _⟩
 | z :: ks, kept, junk, rows, f, hs, hj, hf, h => by
  obtain ⟨f',rfl⟩:∃ f',f=f'+1:=⟨f-1,by simp at hf;omega⟩
  have hne:Jw (kept++(junk++z::ks))++Xg k (I 0)≠[]:=by simp [Jw]
  have hI:IsI rows (.osl 3 (qj+1) n) (kept++(junk++z::ks)):=.inr ⟨qj,_,by simp at hs ⊢; omega,h.get (.head _),hne⟩
  have hr:=h.get (j:=qj) (.head _)
  have hb:=h.get (j:=b) (row:=[I core]) (by simp)
  have hlen:(kept++(junk++z::ks)).length=n:=by simp at hs ⊢; omega
  have hz:(kept++(junk++z::ks))[kept.length+junk.length]? = Xa z:=by rw [← Xo,← Xu];simp
  obtain ⟨j0,junk',rfl⟩:∃ j0 junk',junk=j0::junk':=by
   cases junk with
   | nil => exact absurd rfl hj
   | cons a b => exact ⟨a, b, rfl⟩
  have hjl:kept.length+(j0::junk').length+(z::ks).length=n:=hs
  have hkl:(z::ks).length=ks.length+1:=rfl
  have ha1:iop .add .i64 ((kept.length+(j0::junk').length:Nat):Int) 1=((kept.length+(j0::junk').length+1:Nat):Int):=ZaJ (by omega)
  have ha2:iop .add .i64 (kept.length:Int) 1=((kept.length+1:Nat):Int):=ZaJ (by omega)
  rw [Zka,Zc (ne1 (Zaa hI hx)),Kt hI hx,hlen,if_pos (by simp only [cop,decide_eq_true_eq];omega),Zc (by omega),Zc (by omega),Zjr hI hx hz,ZJ,Zc (ne1 (ZnQ b)),s47 (Zmm b) hb,Xi,ha1,ha2]
  dsimp only
  have hwz:wo core (z::ks)=if z=core then wo core ks else z::wo core ks:=by
   unfold wo
   by_cases hk:z=core
   ·rw [if_pos hk,X9 (by simp [hk])]
   ·rw [if_neg hk,Wd (by simp [hk])]
  by_cases hk:z=core
  ·rw [decide_eq_true hk,if_neg (by decide)]
   obtain ⟨rows',h1,h2⟩:=ZfH hx hn ks kept ((j0::junk')++[z]) rows f' (by simp at hs ⊢; omega) (by simp) (by simp at hf;omega) (by simpa using h)
   rw [hwz,if_pos hk]
   have e1:((kept.length+((j0::junk')++[z]).length:Nat):Int)=((kept.length+(j0::junk').length+1:Nat):Int):=by simp;omega
   rw [e1] at h1
   exact ⟨rows',h1,h2⟩
  ·rw [decide_eq_false hk,if_pos (by decide),Zc (by omega),Zc (by omega)]
   have hp:Zd (.pidx 1) x (kept.length:Int) [] [] = [[.oref (qj+1) kept.length]]:=by simp only [Zd,hx,pJ,Wr,Wn]
   have hlt:kept.length < (Jw (kept++(j0::junk'++z::ks))++Xg k (I 0)).length:=by simp [Jw]
   have hc0:(Jw (kept++(j0::junk'++z::ks))++Xg k (I 0))[kept.length]? = Xa (I j0):=Zq6 (by simp)
   have hce:Z1 (Jw (kept++(j0::junk'++z::ks))++Xg k (I 0))=Xb:=Zdc hne
   have hst:Zd .set rows 0 (Zd (.pidx 1) x (kept.length:Int) [] []) [AV.val (.int .i64 z)]=rows.set qj ((Jw (kept++(j0::junk'++z::ks))++Xg k (I 0)).set kept.length (I z)):=by
    rw [hp]
    exact Zao rfl hr hlt
   have hset:(Jw (kept++(j0::junk'++z::ks))++Xg k (I 0)).set kept.length (I z)=Jw ((kept++[z])++((junk'++[z])++ks))++Xg k (I 0):=by
    have e1:Jw (kept++(j0::junk'++z::ks))=Jw kept++(I j0::Jw (junk'++z::ks)):=by simp [Jw]
    have e2:Jw ((kept++[z])++((junk'++[z])++ks))=Jw kept++(I z::Jw (junk'++z::ks)):=by simp [Jw]
    have hkl:kept.length=(Jw kept).length:=by simp [Jw]
    rw [e1,e2,Xo,hkl,Tx _ _ (XA _),UA]
    simp
   rw [Zc (by rw [hp,JF rfl hr hce hc0];simp),hst,hset]
   have h':=h.set (Jw ((kept++[z])++((junk'++[z])++ks))++Xg k (I 0))
   obtain ⟨rows',h1,h2⟩:=ZfH hx hn ks (kept++[z]) (junk'++[z]) _ f' (by simp at hs ⊢; omega) (by simp) (by simp at hf;omega) h'
   rw [hwz,if_neg hk]
   have e1:(((kept++[z]).length+(junk'++[z]).length:Nat):Int)=((kept.length+(j0::junk').length+1:Nat):Int):=by simp;omega
   have e2:((kept++[z]).length:Int)=((kept.length+1:Nat):Int):=by simp
   rw [e1,e2] at h1
   have e3:kept++[z]++wo core ks=kept++z::wo core ks:=by simp
   rw [e3] at h1 h2
   exact ⟨rows',h1,h2⟩
def JS (core:Int) (e:PE):PE:={ e with c:=e.c.map fun q=>(q.1,q.2+(e.p.cores.length-(wo core e.p.cores).length)),p:={ e.p with cores:=wo core e.p.cores } }
theorem ZoL {core:Int} {zs:List Int} (h:core∉zs):wo core zs=zs:=UU.2 fun z hz=>by
 have:z≠core:=fun hh=>h (by rw [← hh];exact hz)
 simp [this]
theorem Znl {core:Int} {e:PE} (h:core∉e.p.cores):JS core e=e:=by
 obtain ⟨j,c,p⟩:=e
 unfold JS
 rw [ZoL h]
 cases c<;>simp
theorem s46 {e:PE} {b:Nat} {core:Int} {H:Ym} (h:ZD rows (e.cf++((b,[I core])::H))) (hok:e.ok) (hl:e.p.cores.length≤100) :
  ∃ rows' y,g46 [[e.core]] [[.fnc 47 [b+1]]] rows=Xa (y,rows')∧Ze y=(JS core e).core∧ZD rows' ((JS core e).cf++((b,[I core])::H)):=by
 have hcc:=Zpe (J8 e)
 have hb:=h.get (j:=b) (row:=[I core]) (by simp)
 have hI:IsI rows e.core e.p.cores:=by
  unfold PE.ok at hok
  unfold PE.core
  cases hc:e.c with
  | none =>
   rw [hc] at hok
   exact .inl ⟨rfl,hok⟩
  | some q =>
   rw [hc] at hok
   refine .inr ⟨q.1,Xg q.2 (I 0),rfl,h.get (by simp [PE.cf,hc];exact .inl rfl),fun hn=>?_⟩
   have:=congrArg Xm hn
   simp [Jw] at this
   exact hok (by simp [this.1,this.2])
 obtain ⟨r,h1,h2⟩:=ZjL hI hcc (by omega) hb e.p.cores [] Jv rfl (by unfold Jv;omega) (by simp)
 have hz:((([] : List Int).length:Nat):Int)=0:=rfl
 rw [hz] at h1
 rw [ZuF,Zt0,Zc (ne1 (Zaa hI hcc)),Kt hI hcc,h1,Xi]
 dsimp only
 rcases h2 with ⟨rfl,hn⟩ | ⟨p,s,rfl,hs,hp⟩
 ·rw [if_pos (by decide),Znl hn]
  exact ⟨rows,_,rfl,hcc,h⟩
 ·rw [if_neg (by simp [cop])]
  obtain ⟨q,hq⟩:∃ q,e.c=Xa q:=by
   cases hc:e.c with
   | some q => exact ⟨q, rfl⟩
   | none =>
    unfold PE.ok at hok
    rw [hc] at hok
    rw [hok] at hs
    simp at hs
  have hcf:e.cf = [(q.1,e.arr q.2)]:=by simp only [PE.cf,hq]
  rw [hcf] at h
  have hx:Ze [[e.core]] = .osl 3 (q.1+1) e.p.cores.length:=by
   rw [hcc]
   simp only [PE.core,hq]
  have hpl:p.length≤100:=by rw [hs] at hl;simp at hl;omega
  have harr:e.arr q.2=Jw (p++([core]++s))++Xg q.2 (I 0):=by
   unfold PE.arr
   rw [hs]
   rfl
  rw [harr] at h
  obtain ⟨rows',t1,t2⟩:=ZfH hx (by omega) s p [core] rows Jv (by rw [hs];simp;omega) (by simp) (by rw [hs] at hl;simp at hl;unfold Jv;omega) h
  have hwo:wo core e.p.cores=p++wo core s:=by
   rw [hs]
   unfold wo
   rw [UL,X9 (by simp)]
   congr 1
   exact ZoL hp
  have e1:iop .add .i64 (p.length:Int) 1=((p.length + [core].length:Nat):Int):=ZaJ (by omega)
  rw [e1,t1]
  refine ⟨rows',_,rfl,?_,?_⟩
  ·simp only [PE.core,JS,hq,Xw,hwo]
   rfl
  ·have:(JS core e).cf = [(q.1,Jw (p++wo core s)++Xg (q.2+(e.p.cores.length-(p++wo core s).length)) (I 0))]:=by
    simp only [PE.cf,JS,hq,Xw,PE.arr,hwo]
    rfl
   rw [this]
   exact t2
theorem ZrH {core:Int} {e:PE} (h:e.ok):(JS core e).ok:=by
 unfold PE.ok at h ⊢
 unfold JS
 have:=ZoN core e.p.cores
 cases hc:e.c with
 | none =>
  rw [hc] at h
  dsimp only at h
  simp [h,wo]
 | some q =>
  rw [hc] at h
  dsimp only [Xw] at h ⊢
  omega
def V4 (core:Int) (es:List PE):List Int:=(es.filter fun e=>decide (wo core e.p.cores = [])).map fun e=>e.p.id
theorem ZjF {x:LL} {b:Nat} {core:Int} (hi:List Int) (hil:hi.length≤64):∀ (ks pre:List PE) (rows:LL) (F:Ym) (m:MS) (acc:List Int) (k:Nat),m.es=pre++ks→hi=m.es.map (fun e=>e.p.id)→ks.length < k→(∀ e∈ks,e.p.cores.length≤100)→acc.length+ks.length≤1000→ZD rows (m.frag++((b,[I core])::F))→m.Ok→Ze x = .oref (m.jm+1) 0→
  ∃ rows',ZlJ k x [[.oref (b+1) 0]] (ints acc) (ints hi) (hi.length:Int) (pre.length:Int) rows=(g45 x (ints (acc++V4 core ks)) (-2) rows').bind (fun r=>Xa (r.1,0,r.2))∧
   ZD rows' (({ m with es:=pre++ks.map (JS core) } : MS).frag++((b,[I core])::F))∧({ m with es:=pre++ks.map (JS core) } : MS).Ok
 | [], pre, rows, F, m, acc, k, hs, hh, hk, _, _, h, hm, hx => by
  obtain ⟨k',rfl⟩:∃ k',k=k'+1:=⟨k-1,by simp at hk;omega⟩
  have hl:hi.length=pre.length:=by rw [hh,hs];simp
  rw [Zj4,hl,if_neg (by simp [cop])]
  have:({ m with es:=pre++([] : List PE).map (JS core) } : MS)=m:=by
   obtain ⟨a,b,c,d⟩:=m
   simp only [XG] at hs ⊢
   rw [hs]
  rw [this]
  refine ⟨rows,?_,h,hm⟩
  simp [V4]
 | e :: ks, pre, rows, F, m, acc, k, hs, hh, hk, hcl, hacc, h, hm, hx => by
  obtain ⟨k',rfl⟩:∃ k',k=k'+1:=⟨k-1,by simp at hk;omega⟩
  have he:e∈m.es:=by rw [hs];simp
  have hf:=Zgz hm hs
  have hz:hi[pre.length]? = Xa e.p.id:=by rw [hh,hs];simp
  have hlt:pre.length < hi.length:=(Xk.1 hz).1
  have hpi:Zd .pis0 [[.oref (b+1) 0]] 0 E0 [] = [[]]:=by simp [Zd,Ze,ZP,okL]
  have hpn:Zd .pnn [[.oref (b+1) 0]] 0 E0 [] = [[]]:=by simp [Zd,Ze,ZP,okL]
  have hfn:Zd (.pfnc 47) E0 0 [] [Ze [[.oref (b+1) 0]]] = [[.fnc 47 [b+1]]]:=rfl
  rw [Zj4,if_pos (by simp [cop];omega),ZQ hz,Zc (ne1 (ZC hx)),Zc (ne1 (ZC hx)),YV h hx,Zp rfl,Zc (ne1 (Va h rfl)),Zcq h rfl,hf,Zc (ne1 (Zr e)),Zc (ne1 (Zr e)),Ke h he (c:=e.core) rfl,Zp (J8 e),Zc (ne1 hpi),Zc (ne1 hpn),hfn]
  have hfr:=ZjK h hs
  have hp1:((e.j,e.row)::(e.cf++(m.base pre ks++((b,[I core])::F)))).Perm (e.cf++((b,[I core])::((e.j,e.row)::(m.base pre ks++F)))):=by
   refine List.perm_middle.symm.trans (List.Perm.append_left _ ?_)
   refine (List.Perm.cons _ UW).trans (List.Perm.swap _ _ _)
  obtain ⟨rows1,y,t1,t2,t3⟩:=s46 (core:=core) (hfr.perm hp1) (hm.cor e he) (hcl e (by simp))
  have hp2:((JS core e).cf++((b,[I core])::((e.j,e.row)::(m.base pre ks++F)))).Perm ((e.j,e.row)::((JS core e).cf++(m.base pre ks++((b,[I core])::F)))):=by
   refine List.Perm.trans (List.Perm.append_left _ ?_) UW
   exact (List.Perm.swap _ _ _).trans (List.Perm.cons _ List.perm_middle.symm)
  have hg:=t3.perm hp2
  have hrj:rows1[e.j]? = Xa e.row:=hg.get (by simp)
  have hg2:=hg.set (JS core e).row
  have hrow:e.row.set 3 (JS core e).core=(JS core e).row:=rfl
  have hst:Zd .set rows1 0 (Zd (.padd 3) (nmE (Xa e)) 0 E0 []) [Ze y]=rows1.set e.j (JS core e).row:=by rw [Vv hrj (by simp [PE.row]),t2,hrow]
  have hrj2:(rows1.set e.j (JS core e).row)[e.j]? = Xa (JS core e).row:=hg2.get (by simp)
  have hg3:=hg2.perm (Zgn (m:=m) (G:=(b,[I core])::F) (e:=e) (e':=JS core e) hs rfl rfl)
  have hmok:(m.put pre (JS core e) ks).Ok:=Zlh hm hs rfl (ZrH (hm.cor e he)) (hm.par e he)
  have hin2:JS core e∈(m.put pre (JS core e) ks).es:=by simp [MS.put]
  have hI2:=Zf9 hg3 hmok hin2
  have hc2:=Zpe (J8 (JS core e))
  rw [t1,Xi]
  dsimp only
  rw [Zc (ne1 (Zr e)),Zc (ne1 (Zr e)),Zc (by rw [Y7 hrj rfl (c:=e.core) rfl];simp),Zc (ne1 (Zr e)),Zc (ne1 (Zr e)),hst,Y7 hrj2 rfl (c:=(JS core e).core) rfl,Zp (J8 _),Zc (ne1 (Zaa hI2 hc2)),Kt hI2 hc2,ZaJ (by omega)]
  have hih:∀ acc':List Int,acc'.length+ks.length≤1000→∃ rows',ZlJ k' x [[.oref (b+1) 0]] (ints acc') (ints hi) (hi.length:Int) ((pre.length+1:Nat):Int) (rows1.set e.j (JS core e).row)=(g45 x (ints (acc'++V4 core ks)) (-2) rows').bind (fun r=>Xa (r.1,0,r.2))∧
   ZD rows' (({ m with es:=pre++(e::ks).map (JS core) } : MS).frag++((b,[I core])::F))∧({ m with es:=pre++(e::ks).map (JS core) } : MS).Ok:=fun acc' ha=>by
   obtain ⟨rows',u1,u2,u3⟩:=ZjF (x:=x) (b:=b) (core:=core) hi hil ks (pre++[JS core e]) _ F (m.put pre (JS core e) ks) acc' k' (by simp [MS.put]) (by rw [hh,hs];simp [MS.put,JS]) (by simp at hk;omega) (fun a ha=>hcl a (by simp [ha])) ha hg3 hmok hx
   have e1:((pre++[JS core e]).length:Int)=((pre.length+1:Nat):Int):=by simp
   rw [e1] at u1
   have e2:({ m.put pre (JS core e) ks with es:=(pre++[JS core e])++ks.map (JS core) } : MS) = { m with es:=pre++(e::ks).map (JS core) }:=by simp [MS.put]
   rw [e2] at u2 u3
   exact ⟨rows',u1,u2,u3⟩
  by_cases hb0:wo core e.p.cores = []
  ·rw [if_pos (by show cop .eql ((wo core e.p.cores).length:Int) 0=Xb;rw [hb0];rfl),Zc (by unfold Jr ZB;simp at hacc ⊢; omega)]
   have e3:ints acc++(E0++[[AV.val (.int .i64 e.p.id)]])=ints (acc++[e.p.id]):=by simp [ints]
   have e4:acc++V4 core (e::ks)=(acc++[e.p.id])++V4 core ks:=by
    unfold V4
    rw [Wd (by simp [hb0])]
    simp
   rw [e3,e4]
   exact hih (acc++[e.p.id]) (by simp at hacc ⊢; omega)
  ·rw [if_neg (by show ¬ (cop .eql ((wo core e.p.cores).length:Int) 0=Xb);simp [cop,hb0])]
   have e4:acc++V4 core (e::ks)=acc++V4 core ks:=by
    unfold V4
    rw [X9 (by simp [hb0])]
   rw [e4]
   exact hih acc (by simp at hacc ⊢; omega)
def Yk (es:List PE) (core:Int):(List PE×List Ziu)×Int:=
 if 0≤core∧core < 32 then (Zi (-2) (es.map (JS core)) (V4 core es),0) else ((es,[]),1)
theorem s23 {x:LL} (h:ZD rows (m.frag++F)) (hm:m.Ok) (hx:Ze x = .oref (m.jm+1) 0) {core:Int} (hcl:∀ e∈m.es,e.p.cores.length≤100) :
  ∃ rows' F',g23 x core rows=Xa (ZW (Yk m.es core).1.2,(Yk m.es core).2,rows')∧ZD rows' (({ m with es:=(Yk m.es core).1.1 } : MS).frag++(F'++F))∧({ m with es:=(Yk m.es core).1.1 } : MS).Ok:=by
 have hp0:=(h.push [I core])
 have hq:ZD (rows++[[I core]]) (m.frag++((rows.length,[I core])::F)):=hp0.perm List.perm_middle.symm
 have hpn:Zd .pnew rows 0 E0 [] = [[.oref (rows.length+1) 0]]:=rfl
 have hrl:(rows++[[I core]])[rows.length]? = Xa [I core]:=by simp
 rw [ZtM,hpn,JF rfl hrl rfl (c:=I core) rfl,ZJ,s26,Xi]
 unfold Yk
 by_cases hr:0≤core∧core < 32
 ·rw [decide_eq_true hr,if_neg (by decide),if_pos hr]
  have hg:=s29 hq hm hx
  rw [hg,Xi]
  dsimp only
  have hq2:=(hq.push [.omap (m.jq+1)])
  have hq3:ZD (rows++[[I core]]++[[.omap (m.jq+1)]]) (m.frag++((rows.length,[I core])::(((rows++[[I core]]).length,[.omap (m.jq+1)])::F))):=hq2.perm (by
   refine List.perm_middle.symm.trans (List.Perm.append_left _ ?_)
   exact List.Perm.swap _ _ _)
  have hml:=hm.len
  have hl2:((m.ids).length:Int)=((m.es.map fun e=>e.p.id).length:Int):=by simp [MS.ids]
  obtain ⟨rows',u1,u2,u3⟩:=ZjF (x:=x) (b:=rows.length) (core:=core) (m.es.map fun e=>e.p.id) (by simpa using hml) m.es [] _ _ m [] Jv rfl rfl (by unfold Jv;omega) hcl (by simp;omega) hq3 hm hx
  have hz:((([] : List PE).length:Nat):Int)=0:=rfl
  rw [hz] at u1
  rw [hl2,Y6]
  have hi0:(ints ([] : List Int))=E0:=rfl
  rw [hi0] at u1
  rw [u1]
  have hbl:(V4 core m.es).length≤1000:=by
   unfold V4
   rw [Xp]
   have:=Un (fun e:PE=>decide (wo core e.p.cores = [])) m.es
   omega
  rw [XM] at u2 u3 ⊢
  obtain ⟨rows2,F2,v1,v2,v3⟩:=s45 hbl (-2) u2 u3 hx
  rw [v1]
  refine ⟨rows2,F2++[(rows.length,[I core]),((rows++[[I core]]).length,[.omap (m.jq+1)])],rfl,?_,v3⟩
  rw [Xo]
  exact v2
 ·rw [decide_eq_false hr,if_pos (by decide),if_neg hr]
  exact ⟨_,[(rows.length,[I core])],rfl,hq,hm⟩
end
section
open Go Go.AM Go.Proofs.Ytpjnmgjphfnmmaa
set_option maxRecDepth 100000
variable {rows:LL} {F:Ym} {m:MS}
def Jz (es:List PE) (id:Int):List Int:=(es.filter fun e=>decide (e.p.parent=id)).map fun e=>e.p.id
def JZ:Nat→List PE→Int→List Int
 | 0, _, _ => []
 | n + 1, es, id => (Jz es id).flatMap fun c => c :: JZ n es c
def Zi8 (es:List PE) (id:Int):Nat:=(es.filter fun e=>decide (id < e.p.id)).length
theorem ZjT {c:AV} {zs:List Int} {k:Nat} (h:(c = .osl 0 0 0∧zs = [])∨∃ j,c = .osl 3 (j+1) zs.length∧rows[j]? = Xa (Jw zs++Xg k (I 0))∧Jw zs++Xg k (I 0)≠[]) {x:LL} (hx:Ze x=c):Zd (.vchk 3 1) rows 0 x [] = [[]]:=by
 rcases h with ⟨rfl,_⟩ | ⟨j,rfl,hr,hn⟩
 ·simp only [Zd,hx,ZdR,okL]
 ·simp only [Zd,hx,ZdR,Ji hr,Zdc hn,decide_true,X8]
  rw [decide_eq_true (by simp [Jw])]
  rfl
theorem Zp9 {c:AV} {zs:List Int} (h:IsI rows c zs) {x:LL} (hx:Ze x=c):Zd (.view 1) rows 0 x []=ints zs:=by
 rcases h with ⟨rfl,rfl⟩ | ⟨j,rest,rfl,hr,_⟩
 ·simp only [Zd,hx,Za6,pJ,pO];rfl
 ·simp only [Zd,hx,Za6,pJ,pO,Ji hr]
  exact ZeQ _ _
def JJ (o:Option Nat) (zs:List Int):AV:=match o with | none=>.osl 0 0 0 | some j=>.osl 3 (j+1) zs.length
def Zgl (o:Option Nat) (zs:List Int):Ym:=match o with | none=>[] | some j=>[(j,Jw zs)]
def ook (o:Option Nat) (zs:List Int):Prop:=match o with | none=>zs = [] | some _=>zs≠[]
theorem Kc (o:Option Nat) (zs:List Int):ZP (JJ o zs)=Xb:=by cases o<;>rfl
def KO (m:MS) (b:Nat) (o:Option Nat) (zs:List Int) (F:Ym):Ym:=(b+1,[JJ o zs])::(b,[.oref (m.jm+1) 0])::(b+2,[.fnc 42 [b+1,b+1+1,b+2+1]])::(Zgl o zs++(m.frag++F))
theorem ZuN {b:Nat} {o:Option Nat} {zs:List Int} (h:ZD rows (KO m b o zs F)) (ho:ook o zs):(JJ o zs = .osl 0 0 0∧zs = [])∨∃ j,JJ o zs = .osl 3 (j+1) zs.length∧rows[j]? = Xa (Jw zs++Xg 0 (I 0))∧Jw zs++Xg 0 (I 0)≠[]:=by
 cases o with
 | none => exact .inl ⟨rfl, ho⟩
 | some j =>
  refine .inr ⟨j,rfl,?_,fun hn=>?_⟩
  ·have:=h.get (j:=j) (row:=Jw zs) (by simp [KO,Zgl])
   simpa using this
  ·simp [Jw] at hn
   exact ho hn
theorem Zrx {c:AV} {zs:List Int} {k:Nat} (h:(c = .osl 0 0 0∧zs = [])∨∃ j,c = .osl 3 (j+1) zs.length∧rows[j]? = Xa (Jw zs++Xg k (I 0))∧Jw zs++Xg k (I 0)≠[]):IsI rows c zs:=by
 rcases h with h | ⟨j,h1,h2,h3⟩
 ·exact .inl h
 ·exact .inr ⟨j,_,h1,h2,h3⟩
theorem w_m {b:Nat} {o:Option Nat} {zs:List Int} (h:ZD rows (KO m b o zs F)):ZD rows (m.frag++F):=(ZD.right (A:=Zgl o zs) h.tail.tail.tail)
theorem Zvy {b:Nat} {o:Option Nat} {zs:List Int} (h:ZD rows (KO m b o zs F)) (ho:ook o zs) (k:Int) {x y:LL} (hx:Ze x=JJ o zs) (hy:Ze y = .oref (b+1+1) 0) :
  ∃ F',ZD (Zd .set (Zd (.app 1) rows 0 x [AV.slice Xc 1 (E0++[[AV.val (.int .i64 k)]])]) 0 y [Ze (Zd (.papp 3) rows 0 x [AV.slice Xc 1 (E0++[[AV.val (.int .i64 k)]])])]) (KO m b (Xa rows.length) (zs++[k]) (F'++F))∧Zd (.get 1) (Zd (.app 1) rows 0 x [AV.slice Xc 1 (E0++[[AV.val (.int .i64 k)]])]) 0 y []≠[]:=by
 obtain ⟨hpa,rows1,hap,hr1⟩:=Zuj (Zrx (ZuN h ho)) hx k
 rw [hap,hpa]
 obtain ⟨gar,hg,hgl⟩:∃ gar:Ym,ZD rows1 ((b+1,[JJ o zs])::(b,[.oref (m.jm+1) 0])::(b+2,[.fnc 42 [b+1,b+1+1,b+2+1]])::(m.frag++(gar++F)))∧rows1.length=rows.length:=by
  rcases hr1 with ⟨hc,rfl⟩ | ⟨j,n,hcj,rfl⟩
  ·cases o with
   | none => exact ⟨[], h, rfl⟩
   | some j => simp [JJ] at hc
  ·cases o with
   | none => simp [JJ] at hcj
   | some j' =>
    have hjj:j=j':=by
     simp only [JJ,AV.osl.injEq] at hcj
     omega
    subst hjj
    refine ⟨[(j,[])],?_,by simp⟩
    have hp:(KO m b (Xa j) zs F).Perm ((j,Jw zs)::((b+1,[JJ (Xa j) zs])::(b,[.oref (m.jm+1) 0])::(b+2,[.fnc 42 [b+1,b+1+1,b+2+1]])::(m.frag++F))):=by
     unfold KO Zgl
     exact UW (l₁:=[(b+1,[JJ (Xa j) zs]),(b,[.oref (m.jm+1) 0]),(b+2,[.fnc 42 [b+1,b+1+1,b+2+1]])])
    have h2:=(h.perm hp).set []
    refine h2.perm ?_
    refine List.Perm.symm ?_
    exact UW (l₁:=[(b+1,[JJ (Xa j) zs]),(b,[.oref (m.jm+1) 0]),(b+2,[.fnc 42 [b+1,b+1+1,b+2+1]])]++m.frag) (l₂:=F)
 have h2:=hg.push (Jw (zs++[k]))
 rw [hgl] at h2
 have h3:=h2.perm (List.Perm.swap _ _ _)
 have hrb:(rows1++[Jw (zs++[k])])[b+1]? = Xa [JJ o zs]:=h3.get (.head _)
 have hcn:Ze [[AV.osl 3 (rows.length+1) (zs.length+1)]] = .osl 3 (rows.length+1) (zs.length+1):=rfl
 have hc0:Z1 [JJ o zs]=Xb:=J2 (Kc o zs)
 refine ⟨gar,?_,by rw [JF hy hrb hc0 (c:=JJ o zs) rfl];simp⟩
 rw [hcn,Zao hy hrb (by simp)]
 have h4:=h3.set [.osl 3 (rows.length+1) (zs.length+1)]
 have e1:JJ (Xa rows.length) (zs++[k]) = .osl 3 (rows.length+1) (zs.length+1):=by simp [JJ]
 unfold KO
 rw [e1]
 refine h4.perm (List.Perm.cons _ ?_)
 exact (UW (l₁:=([(b,[.oref (m.jm+1) 0]),(b+2,[.fnc 42 [b+1,b+1+1,b+2+1]])] : Ym))).symm
theorem Ka (e:PE) (es:List PE) (id:Int):Jz (e::es) id=if e.p.parent=id then e.p.id::Jz es id else Jz es id:=by
 unfold Jz
 by_cases h:e.p.parent=id
 ·rw [if_pos h,Wd (by simp [h]),Xh]
 ·rw [if_neg h,X9 (by simp [h])]
theorem ZjH {es:List PE} {id:Int} {e:PE} (he:e∈es) (h:id < e.p.id):Zi8 es e.p.id < Zi8 es id:=by
 unfold Zi8
 induction es with
 | nil => cases he
 | cons a es ih =>
  have mono:(es.filter fun a=>decide (e.p.id < a.p.id)).length≤(es.filter fun a=>decide (id < a.p.id)).length:=by
   clear ih he
   induction es with
   | nil => exact XA _
   | cons b es ih =>
    by_cases h1:e.p.id < b.p.id
    ·rw [Wd (by simp [h1]),Wd (by simp;omega)]
     simp;exact ih
    ·rw [X9 (by simp [h1])]
     by_cases h2:id < b.p.id
     ·rw [Wd (by simp [h2])]
      simp;omega
     ·rw [X9 (by simp [h2])]
      exact ih
  rcases Xq.1 he with rfl | he
  ·rw [X9 (by simp),Wd (by simp [h])]
   simp;omega
  ·have:=ih he
   by_cases h1:e.p.id < a.p.id
   ·rw [Wd (by simp [h1]),Wd (by simp;omega)]
    simp;exact this
   ·rw [X9 (by simp [h1])]
    by_cases h2:id < a.p.id
    ·rw [Wd (by simp [h2])]
     simp;omega
    ·rw [X9 (by simp [h2])]
     exact this
theorem s42 (m:MS) (hm:m.Ok) (b:Nat):∀ (k:Nat) (id:Int) (o:Option Nat) (zs:List Int) (rows:LL) (F:Ym),Zi8 m.es id < k→zs.length+(JZ k m.es id).length≤100000→ZD rows (KO m b o zs F)→ook o zs→
  ∃ rows' F' o',g42 (G42 k) id [[.oref (b+1) 0]] [[.oref (b+1+1) 0]] [[.oref (b+2+1) 0]] rows=Xa rows'∧ZD rows' (KO m b o' (zs++JZ k m.es id) (F'++F))∧ook o' (zs++JZ k m.es id):=by
 intro k
 induction k with
 | zero => intro id o zs rows F h; omega
 | succ k ih =>
  intro id o zs rows F hab hlen h ho
  have loop:∀ (ks pre:List PE) (q:Nat) (o:Option Nat) (zs:List Int) (rows:LL) (F:Ym),m.es=pre++ks→ks.length < q→zs.length+((Jz ks id).flatMap fun c=>c::JZ k m.es c).length≤100000→ZD rows (KO m b o zs F)→ook o zs→
    ∃ rows' F' o',Znu (G42 k) q id [[.oref (b+1) 0]] [[.oref (b+1+1) 0]] [[.oref (b+2+1) 0]] m.ids (m.es.length:Int) (pre.length:Int) rows=Xa rows'∧ZD rows' (KO m b o' (zs++(Jz ks id).flatMap fun c=>c::JZ k m.es c) (F'++F))∧ook o' (zs++(Jz ks id).flatMap fun c=>c::JZ k m.es c):=by
   intro ks
   induction ks with
   | nil =>
    intro pre q o zs rows F hs hq hl h ho
    obtain ⟨q',rfl⟩:∃ q',q=q'+1:=⟨q-1,by simp at hq;omega⟩
    rw [XK] at hs
    rw [Zkp,hs,if_neg (by simp [cop])]
    refine ⟨rows,[],o,rfl,?_,?_⟩
    ·simpa [Jz] using h
    ·simpa [Jz] using ho
   | cons e ks ihk =>
    intro pre q o zs rows F hs hq hl h ho
    obtain ⟨q',rfl⟩:∃ q',q=q'+1:=⟨q-1,by simp at hq;omega⟩
    have hmF:=w_m h
    have he:e∈m.es:=by rw [hs];simp
    have hlt:(pre.length:Int) < (m.es.length:Int):=by rw [hs];simp;omega
    have hml:=hm.len
    have hf:=Zgz hm hs
    have hz:(m.es.map fun e=>e.p.id)[pre.length]? = Xa e.p.id:=by rw [hs];simp
    have hl1:((pre++[e]).length:Int)=((pre.length+1:Nat):Int):=by simp
    have hrx:rows[b]? = Xa [.oref (m.jm+1) 0]:=h.get (.tail _ (.head _))
    have hx:Ze [[AV.oref (m.jm+1) 0]] = .oref (m.jm+1) 0:=rfl
    rw [Zkp,if_pos (by simp [cop];omega),Y6,ZQ hz,JF (j:=b) (o:=0) rfl hrx rfl (c:=.oref (m.jm+1) 0) rfl,Zp rfl,Zc (ne1 (ZC hx)),Zc (ne1 (ZC hx)),YV hmF hx,Zp rfl,Zc (ne1 (Va hmF rfl)),Zcq hmF rfl,hf,Zc (ne1 (Zr e)),Zc (ne1 (Zr e)),Ke hmF he (c:=I e.p.parent) rfl,ZJ,ZaJ (by omega)]
    rw [Ka] at hl ⊢
    by_cases hp:e.p.parent=id
    ·rw [if_pos hp] at hl ⊢
     rw [if_pos (by simp [cop,hp])]
     have hro:rows[b+1]? = Xa [JJ o zs]:=h.get (.head _)
     have hco:Z1 [JJ o zs]=Xb:=J2 (Kc o zs)
     have hI:=ZuN h ho
     have hcx:Ze [[JJ o zs]]=JJ o zs:=Zpe (Kc o zs)
     have hpl:(Zd .plen [[JJ o zs]] 0 E0 []).length=zs.length:=by
      have:=Kt (Zrx hI) hcx
      omega
     simp only [UG,XL,Xz,Xu] at hl
     obtain ⟨F1,ha1,ha2⟩:=Zvy h ho e.p.id (x:=[[JJ o zs]]) (y:=[[.oref (b+1+1) 0]]) hcx rfl
     rw [JF (j:=b+1) (o:=0) rfl hro hco (c:=JJ o zs) rfl,Zp (Kc o zs),Zc (by simp),Zc (ne1 (ZjT hI hcx)),Zc (by unfold Jr ZB;rw [hpl];simp;omega),Zc ha2]
     have hrw:=ha1.get (j:=b+2) (row:=[.fnc 42 [b+1,b+1+1,b+2+1]]) (.tail _ (.tail _ (.head _)))
     rw [JF (j:=b+2) (o:=0) rfl hrw rfl (c:=.fnc 42 [b+1,b+1+1,b+2+1]) rfl,Zp rfl,Zc (by simp [Zd,Ze,ZP,okL])]
     have hc0:Zd (.pcap 0) [[AV.fnc 42 [b+1,b+1+1,b+2+1]]] 0 E0 [] = [[.oref (b+1) 0]]:=rfl
     have hc1:Zd (.pcap 1) [[AV.fnc 42 [b+1,b+1+1,b+2+1]]] 0 E0 [] = [[.oref (b+1+1) 0]]:=rfl
     have hc2:Zd (.pcap 2) [[AV.fnc 42 [b+1,b+1+1,b+2+1]]] 0 E0 [] = [[.oref (b+2+1) 0]]:=rfl
     rw [hc0,hc1,hc2]
     have hep:=hm.par e he
     have hab2:=ZjH he (show id < e.p.id by omega)
     obtain ⟨rows2,F2,o2,t1,t2,t3⟩:=ih e.p.id (Xa rows.length) (zs++[e.p.id]) _ (F1++F) (by omega) (by simp;omega) ha1 (by simp [ook])
     rw [t1,Xi]
     obtain ⟨rows3,F3,o3,u1,u2,u3⟩:=ihk (pre++[e]) q' o2 (zs++[e.p.id]++JZ k m.es e.p.id) rows2 (F2++(F1++F)) (by rw [hs];simp) (by simp at hq;omega) (by simp at hl ⊢; omega) t2 t3
     rw [Y6,hl1] at u1
     have e1:zs++(e.p.id::Jz ks id).flatMap (fun c=>c::JZ k m.es c)=zs++[e.p.id]++JZ k m.es e.p.id++(Jz ks id).flatMap fun c=>c::JZ k m.es c:=by simp
     rw [e1]
     refine ⟨rows3,F3++(F2++F1),o3,u1,?_,u3⟩
     simp only [Xo] at u2 ⊢
     exact u2
    ·rw [if_neg hp] at hl ⊢
     rw [if_neg (by simp [cop,hp])]
     obtain ⟨rows3,F3,o3,u1,u2,u3⟩:=ihk (pre++[e]) q' o zs rows F (by rw [hs];simp) (by simp at hq;omega) hl h ho
     rw [Y6,hl1] at u1
     exact ⟨rows3,F3,o3,u1,u2,u3⟩
  have hmF:=w_m h
  have hrx:rows[b]? = Xa [.oref (m.jm+1) 0]:=h.get (.tail _ (.head _))
  have hp0:=(h.push [.omap (m.jq+1)])
  have hq:ZD (rows++[[.omap (m.jq+1)]]) (KO m b o zs ([(rows.length,[.omap (m.jq+1)])]++F)):=hp0.perm (by
   have:KO m b o zs ([(rows.length,[.omap (m.jq+1)])]++F)=([(b+1,[JJ o zs]),(b,[.oref (m.jm+1) 0]),(b+2,[.fnc 42 [b+1,b+1+1,b+2+1]])]++Zgl o zs++m.frag)++(rows.length,[.omap (m.jq+1)])::F:=by simp [KO]
   rw [this]
   have h2:KO m b o zs F=([(b+1,[JJ o zs]),(b,[.oref (m.jm+1) 0]),(b+2,[.fnc 42 [b+1,b+1+1,b+2+1]])]++Zgl o zs++m.frag)++F:=by simp [KO]
   rw [h2]
   exact List.perm_middle.symm)
  have hx:Ze [[AV.oref (m.jm+1) 0]] = .oref (m.jm+1) 0:=rfl
  have hgo:g42 (G42 (k+1)) id [[.oref (b+1) 0]] [[.oref (b+1+1) 0]] [[.oref (b+2+1) 0]] rows=g42 (F42 (G42 k)).S.g id [[.oref (b+1) 0]] [[.oref (b+1+1) 0]] [[.oref (b+2+1) 0]] rows:=rfl
  rw [hgo,ZtY,JF (j:=b) (o:=0) rfl hrx rfl (c:=.oref (m.jm+1) 0) rfl,Zp rfl,s29 hmF hm hx,Xi]
  have hl2:((m.ids).length:Int)=(m.es.length:Int):=by simp [MS.ids]
  obtain ⟨rows3,F3,o3,u1,u2,u3⟩:=loop m.es [] Jv o zs _ _ rfl (by have:=hm.len;unfold Jv;omega) hlen hq ho
  rw [hl2]
  refine ⟨rows3,F3++[(rows.length,[.omap (m.jq+1)])],o3,u1,?_,u3⟩
  rw [Xo]
  exact u2
end
section
open Go Go.AM Go.Proofs.Ytpjnmgjphfnmmaa
set_option maxRecDepth 100000
variable {rows:LL} {F:Ym} {m:MS}
def up (es:List PE):Nat→Int→Int→Nat
 | 0, _, _ => 0
 | n + 1, k, id => match es.find? (fun e => decide (e.p.id = k)) with | none => 0 | some e => (if e.p.parent = id then 1 else 0) + up es n e.p.parent id
theorem ZkO {α β:Type} (f:α→β→Nat) (l2:List β):∀ l1:List α,(l1.map fun a=>(l2.map fun b=>f a b).sum).sum=(l2.map fun b=>(l1.map fun a=>f a b).sum).sum
 | [] => by
  induction l2 with
  | nil => rfl
  | cons b l2 ih => simpa using ih
 | a :: l1 => by
  rw [Xh,Uc,ZkO f l2 l1]
  induction l2 with
  | nil => rfl
  | cons b l2 ih =>
   simp only [Xh,Uc] at ih ⊢
   omega
theorem ZiN {α:Type} (f g:α→Nat):∀ l:List α,(l.map fun a=>f a+g a).sum=(l.map f).sum+(l.map g).sum
 | [] => rfl
 | a :: l => by
  simp only [Xh,Uc,ZiN f g l]
  omega
theorem Zm0 {α:Type} (f:α→Nat):∀ l:List α,(∀ a∈l,f a≤1)→(l.map f).sum≤l.length
 | [], _ => XA _
 | a :: l, h => by
  have h1:=h a (by simp)
  have h2:=Zm0 f l fun b hb=>h b (by simp [hb])
  simp only [Xh,Uc,Xz]
  omega
theorem WQ {α:Type} (f g:α→Nat):∀ l:List α,(∀ a∈l,f a=g a)→(l.map f).sum=(l.map g).sum
 | [], _ => rfl
 | a :: l, h => by
  have h2:=WQ f g l fun b hb=>h b (by simp [hb])
  simp only [Xh,Uc,h2,h a (by simp)]
theorem Zl4 {es:List PE} (hs:es.Pairwise fun a b=>a.p.id < b.p.id) (q id:Int):((Jz es id).map fun c=>if q=c then 1 else 0).sum=match es.find? (fun e=>decide (e.p.id=q)) with | none=>0 | some e=>if e.p.parent=id then 1 else 0:=by
 induction es with
 | nil => rfl
 | cons a es ih =>
  rw [Ug] at hs
  rw [Ka]
  by_cases haq:a.p.id=q
  ·have h0:((Jz es id).map fun c=>if q=c then 1 else 0).sum=0:=by
    rw [ih hs.2,Tl.2 fun e he=>?_]
    have:=hs.1 e he
    simp
    omega
   rw [Ta (by simp [haq])]
   by_cases hp:a.p.parent=id
   ·rw [if_pos hp,Xh,Uc,h0,if_pos haq.symm]
    simp [hp]
   ·rw [if_neg hp,h0]
    simp [hp]
  ·rw [Tb (by simp [haq])]
   by_cases hp:a.p.parent=id
   ·rw [if_pos hp,Xh,Uc,if_neg (fun h=>haq h.symm),XH]
    exact ih hs.2
   ·rw [if_neg hp]
    exact ih hs.2
theorem ZnM {es:List PE} (hs:es.Pairwise fun a b=>a.p.id < b.p.id) (id:Int):∀ (n:Nat) (k:Int),((Jz es id).map fun c=>up es n k c).sum=match es.find? (fun e=>decide (e.p.id=k)) with | none=>0 | some e=>up es n e.p.parent id
 | 0, k => by
  have h0:((Jz es id).map fun c=>up es 0 k c).sum=0:=by
   induction Jz es id with
   | nil => rfl
   | cons c l ih => rw [Xh, Uc, ih]; rfl
  rw [h0]
  split<;>rfl
 | n + 1, k => by
  cases hf:es.find? (fun e=>decide (e.p.id=k)) with
  | none =>
   have h0:∀ c,up es (n+1) k c=0:=fun c=>by simp only [up,hf]
   dsimp only
   rw [WQ _ (fun _=>0) _ fun c _=>h0 c]
   induction Jz es id with
   | nil => rfl
   | cons c l ih => rw [Xh, Uc, ih]
  | some e =>
   have h0:∀ c,up es (n+1) k c=(if e.p.parent=c then 1 else 0)+up es n e.p.parent c:=fun c=>by simp only [up,hf]
   dsimp only
   rw [WQ _ (fun c=>(if e.p.parent=c then 1 else 0)+up es n e.p.parent c) _ fun c _=>h0 c,ZiN,Zl4 hs,ZnM hs id n e.p.parent]
   rw [up]
   cases es.find? (fun a=>decide (a.p.id=e.p.parent)) with
   | none => rfl
   | some e' => rfl
theorem Jm {es:List PE} (hs:es.Pairwise fun a b=>a.p.id < b.p.id) {e:PE} (he:e∈es):es.find? (fun a=>decide (a.p.id=e.p.id))=Xa e:=by
 obtain ⟨pre,post,rfl⟩:=List.append_of_mem he
 rw [Tm]
 refine ⟨by simp,pre,post,rfl,fun a ha=>?_⟩
 rw [Ub] at hs
 have:=hs.2.2 a ha e (by simp)
 simp
 omega
theorem ZpG (es:List PE) (id:Int):(Jz es id).length=(es.map fun e=>if e.p.parent=id then 1 else 0).sum:=by
 induction es with
 | nil => rfl
 | cons a es ih =>
  rw [Ka,Xh,Uc,← ih]
  by_cases hp:a.p.parent=id
  ·rw [if_pos hp,if_pos hp,Xz];omega
  ·rw [if_neg hp,if_neg hp];omega
theorem ZjX (f:Int→List Int):∀ l:List Int,(l.flatMap fun c=>c::f c).length=l.length+(l.map fun c=>(f c).length).sum
 | [] => rfl
 | c :: l => by
  rw [UG,Xu,Xz,ZjX f l,Xz,Xh,Uc]
  omega
theorem Zf1 {es:List PE} (hs:es.Pairwise fun a b=>a.p.id < b.p.id):∀ (n:Nat) (id:Int),(JZ n es id).length=(es.map fun e=>up es n e.p.id id).sum
 | 0, id => by
  show 0=_
  have:∀ l:List PE,(l.map fun e=>up es 0 e.p.id id).sum=0:=fun l=>by
   induction l with
   | nil => rfl
   | cons c l ih => rw [Xh, Uc, ih]; rfl
  rw [this]
 | n + 1, id => by
  rw [JZ,ZjX,WQ _ (fun c=>(es.map fun e=>up es n e.p.id c).sum) _ fun c _=>Zf1 hs n c,ZkO,ZpG,← ZiN]
  refine WQ _ _ _ fun e he=>?_
  rw [ZnM hs,up,Jm hs he]
theorem Zr1 {es:List PE} (hp:∀ e∈es,e.p.parent < e.p.id):∀ (n:Nat) (k id:Int),up es n k id≤if id < k then 1 else 0
 | 0, k, id => X7 _
 | n + 1, k, id => by
  rw [up]
  cases hf:es.find? (fun e=>decide (e.p.id=k)) with
  | none => exact X7 _
  | some e =>
   have h1:=hp e (Ws hf)
   have h2:e.p.id=k:=by have:=Wh hf;simpa using this
   have h3:=Zr1 hp n e.p.parent id
   dsimp only
   by_cases hpi:e.p.parent=id
   ·rw [if_pos hpi,if_pos (by omega)]
    rw [if_neg (by omega)] at h3
    omega
   ·rw [if_neg hpi]
    by_cases h4:id < e.p.parent
    ·rw [if_pos h4] at h3
     rw [if_pos (by omega)]
     omega
    ·rw [if_neg h4] at h3
     omega
theorem ZoH (hm:m.Ok) (n:Nat) (id:Int):(JZ n m.es id).length≤64:=by
 rw [Zf1 hm.srt]
 refine XI (Zm0 _ _ fun e _=>?_) hm.len
 have:=Zr1 (es:=m.es) (fun a ha=>(hm.par a ha).2) n e.p.id id
 split at this<;>omega
theorem Zpz (hm:m.Ok) (id:Int):Zi8 m.es id≤64:=XI (Un _ _) hm.len
def KG (es:List PE) (id:Int):List Int:=match es.find? (fun e=>decide (e.p.id=id)) with | none=>[] | some _=>srt (JZ 128 es id)
theorem s19 {x:LL} (h:ZD rows (m.frag++F)) (hm:m.Ok) (hx:Ze x = .oref (m.jm+1) 0) (id:Int) :
  ∃ rows' F' c,g19 x id rows=Xa ([[c]],rows')∧ZP c=Xb∧IsI rows' c (KG m.es id)∧((c = .osl 0 0 0)∨∃ j,c = .osl 3 (j+1) (KG m.es id).length∧rows'[j]? = Xa (Jw (KG m.es id))∧KG m.es id≠[]∧(j,Jw (KG m.es id))∈F')∧ZD rows' (m.frag++(F'++F)):=by
 have hw:∀ l:LL,Zd .pnew l 0 E0 [] = [[.oref (l.length+1) 0]]:=fun _=>rfl
 have hn1:Ze (Zd (.pnil 1) E0 0 E0 []) = .osl 0 0 0:=rfl
 have hn3:Ze (Zd (.pnil 3) E0 0 E0 []) = .fnc 0 []:=rfl
 have hlb1:(rows++[[AV.oref (m.jm+1) 0]]).length=rows.length+1:=by simp
 have hlb2:(rows++[[AV.oref (m.jm+1) 0]]++[[AV.osl 0 0 0]]).length=rows.length+2:=by simp
 have hfc:Ze (Zd (.pfnc 42) E0 0 [] [Ze [[AV.oref (rows.length+1) 0]],Ze [[AV.oref (rows.length+1+1) 0]],Ze [[AV.oref (rows.length+2+1) 0]]]) = .fnc 42 [rows.length+1,rows.length+1+1,rows.length+2+1]:=rfl
 have hp1:=h.push [.oref (m.jm+1) 0]
 have hp2:=hp1.push [.osl 0 0 0]
 have hp3:=hp2.push [.fnc 0 []]
 rw [hlb1] at hp3 hp2
 rw [hlb2] at hp3
 have hp4:=hp3.set [.fnc 42 [rows.length+1,rows.length+1+1,rows.length+2+1]]
 have hrw:(rows++[[AV.oref (m.jm+1) 0]]++[[AV.osl 0 0 0]]++[[AV.fnc 0 []]])[rows.length+2]? = Xa [AV.fnc 0 []]:=hp3.get (.head _)
 have hst:Zd .set (rows++[[AV.oref (m.jm+1) 0]]++[[AV.osl 0 0 0]]++[[AV.fnc 0 []]]) 0 [[AV.oref (rows.length+2+1) 0]] [.fnc 42 [rows.length+1,rows.length+1+1,rows.length+2+1]]=(rows++[[AV.oref (m.jm+1) 0]]++[[AV.osl 0 0 0]]++[[AV.fnc 0 []]]).set (rows.length+2) [.fnc 42 [rows.length+1,rows.length+1+1,rows.length+2+1]]:=by
  rw [Zao (o:=0) rfl hrw (by simp)]
  rfl
 rw [Ztg,hx,hn1,hn3,hw,hw,hw,hlb1,hlb2,hfc,hst]
 rw [Zc (by simp [Zd,Ze,ZP,okL]),Zc (by simp [Zd,Ze,ZP,okL]),Zc (by simp [Zd,Ze,ZP,okL]),Zc (by simp [Zd,Ze,ZP,okL]),Zc (by simp [Zd,Ze,ZP,okL]),Zc (by simp [Zd,Ze,ZP,okL]),
  Zc (by rw [JF (j:=rows.length+2) (o:=0) rfl hrw rfl (c:=.fnc 0 []) rfl];simp)]
 generalize (rows++[[AV.oref (m.jm+1) 0]]++[[AV.osl 0 0 0]]++[[AV.fnc 0 []]]).set (rows.length+2) [.fnc 42 [rows.length+1,rows.length+1+1,rows.length+2+1]]=r4 at hp4 ⊢
 have hwf:ZD r4 (KO m rows.length Xe [] F):=hp4.perm (by
  unfold KO Zgl JJ
  rw [XM]
  exact (List.Perm.swap _ _ _).trans (List.Perm.cons _ (List.Perm.swap _ _ _)))
 have hmF:=w_m hwf
 have hrx:r4[rows.length]? = Xa [.oref (m.jm+1) 0]:=hwf.get (.tail _ (.head _))
 have hx':Ze [[AV.oref (m.jm+1) 0]] = .oref (m.jm+1) 0:=rfl
 rw [JF (j:=rows.length) (o:=0) rfl hrx rfl (c:=.oref (m.jm+1) 0) rfl,Zp rfl,Zc (ne1 (ZC hx')),Zc (ne1 (ZC hx')),YV hmF hx',Zp rfl,Zc (ne1 (Va hmF rfl)),Zcq hmF rfl,Zc (ne1 (Ki _))]
 have hfd:m.es.find? (fun e=>decide (e.p.id=id))=m.find id:=rfl
 unfold KG
 rw [hfd]
 cases hf:m.find id with
 | none =>
  have hro:r4[rows.length+1]? = Xa [.osl 0 0 0]:=hwf.get (.head _)
  rw [K0,if_neg (by decide),JF (j:=rows.length+1) (o:=0) rfl hro rfl (c:=.osl 0 0 0) rfl,Zp rfl]
  have hs:g43 [[.osl 0 0 0]] r4=Xa r4:=rfl
  rw [hs,Xi,JF (j:=rows.length+1) (o:=0) rfl hro rfl (c:=.osl 0 0 0) rfl,Zp rfl]
  refine ⟨r4,[(rows.length+2,[.fnc 42 [rows.length+1,rows.length+1+1,rows.length+2+1]]),(rows.length+1,[.osl 0 0 0]),(rows.length,[.oref (m.jm+1) 0])],_,rfl,rfl,.inl ⟨rfl,rfl⟩,.inl rfl,?_⟩
  exact hp4.perm ((Uh [(rows.length+2,[AV.fnc 42 [rows.length+1,rows.length+1+1,rows.length+2+1]]),(rows.length+1,[AV.osl 0 0 0]),(rows.length,[AV.oref (m.jm+1) 0])] m.frag F))
 | some e =>
  have hrw4:=hwf.get (j:=rows.length+2) (row:=[.fnc 42 [rows.length+1,rows.length+1+1,rows.length+2+1]]) (.tail _ (.tail _ (.head _)))
  rw [Zr,if_pos (by decide),JF (j:=rows.length+2) (o:=0) rfl hrw4 rfl (c:=.fnc 42 [rows.length+1,rows.length+1+1,rows.length+2+1]) rfl,Zp rfl,Zc (by simp [Zd,Ze,ZP,okL])]
  have hc0:Zd (.pcap 0) [[AV.fnc 42 [rows.length+1,rows.length+1+1,rows.length+2+1]]] 0 E0 [] = [[.oref (rows.length+1) 0]]:=rfl
  have hc1:Zd (.pcap 1) [[AV.fnc 42 [rows.length+1,rows.length+1+1,rows.length+2+1]]] 0 E0 [] = [[.oref (rows.length+1+1) 0]]:=rfl
  have hc2:Zd (.pcap 2) [[AV.fnc 42 [rows.length+1,rows.length+1+1,rows.length+2+1]]] 0 E0 [] = [[.oref (rows.length+2+1) 0]]:=rfl
  have hab:=Zpz hm id
  have hdl:=ZoH hm 128 id
  obtain ⟨r5,F5,o5,t1,t2,t3⟩:=s42 m hm rows.length 128 id Xe [] r4 F (by omega) (by simp;omega) hwf rfl
  rw [XM] at t2 t3
  rw [hc0,hc1,hc2,t1,Xi]
  have hro:r5[rows.length+1]? = Xa [JJ o5 (JZ 128 m.es id)]:=t2.get (.head _)
  have hco:Z1 [JJ o5 (JZ 128 m.es id)]=Xb:=J2 (Kc o5 _)
  rw [JF (j:=rows.length+1) (o:=0) rfl hro hco (c:=JJ o5 (JZ 128 m.es id)) rfl,Zp (Kc o5 _)]
  have hcx:Ze [[JJ o5 (JZ 128 m.es id)]]=JJ o5 (JZ 128 m.es id):=Zpe (Kc o5 _)
  cases o5 with
  | none =>
   have hd0:JZ 128 m.es id = []:=t3
   have hs:g43 [[JJ Xe (JZ 128 m.es id)]] r5=Xa r5:=rfl
   rw [hs,Xi,JF (j:=rows.length+1) (o:=0) rfl hro hco (c:=JJ Xe (JZ 128 m.es id)) rfl,Zp rfl]
   have hsr:srt (JZ 128 m.es id) = []:=by rw [hd0];simp [srt]
   dsimp only
   refine ⟨r5,[(rows.length+1,[AV.osl 0 0 0]),(rows.length,[AV.oref (m.jm+1) 0]),(rows.length+2,[AV.fnc 42 [rows.length+1,rows.length+1+1,rows.length+2+1]])]++F5,_,rfl,rfl,.inl ⟨rfl,hsr⟩,.inl rfl,?_⟩
   rw [Xo]
   exact t2.perm (Uh [(rows.length+1,[AV.osl 0 0 0]),(rows.length,[AV.oref (m.jm+1) 0]),(rows.length+2,[AV.fnc 42 [rows.length+1,rows.length+1+1,rows.length+2+1]])] m.frag (F5++F))
  | some j =>
   have hd0:JZ 128 m.es id≠[]:=t3
   have hrj:r5[j]? = Xa (Jw (JZ 128 m.es id)):=t2.get (by simp [KO,Zgl])
   rw [s43 (j:=j) (zs:=JZ 128 m.es id) hcx hrj hd0 (by omega),Xi]
   have hp:(KO m rows.length (Xa j) (JZ 128 m.es id) (F5++F)).Perm ((j,Jw (JZ 128 m.es id))::((rows.length+1,[JJ (Xa j) (JZ 128 m.es id)])::(rows.length,[.oref (m.jm+1) 0])::(rows.length+2,[.fnc 42 [rows.length+1,rows.length+1+1,rows.length+2+1]])::(m.frag++(F5++F)))):=by
    unfold KO Zgl
    exact UW (l₁:=[(rows.length+1,[JJ (Xa j) (JZ 128 m.es id)]),(rows.length,[.oref (m.jm+1) 0]),(rows.length+2,[.fnc 42 [rows.length+1,rows.length+1+1,rows.length+2+1]])])
   have h6:=(t2.perm hp).set (Jw (srt (JZ 128 m.es id)))
   have hro6:=h6.get (j:=rows.length+1) (row:=[JJ (Xa j) (JZ 128 m.es id)]) (.tail _ (.head _))
   rw [JF (j:=rows.length+1) (o:=0) rfl hro6 hco (c:=JJ (Xa j) (JZ 128 m.es id)) rfl,Zp (Kc _ _)]
   have hsl:=Zas (JZ 128 m.es id)
   have hsn:srt (JZ 128 m.es id)≠[]:=fun hh=>by
    rw [hh] at hsl
    exact hd0 (Ty.1 hsl.symm)
   have hoc:JJ (Xa j) (JZ 128 m.es id) = .osl 3 (j+1) (srt (JZ 128 m.es id)).length:=by rw [hsl];rfl
   dsimp only
   refine ⟨_,(j,Jw (srt (JZ 128 m.es id)))::(rows.length+1,[JJ (Xa j) (JZ 128 m.es id)])::(rows.length,[.oref (m.jm+1) 0])::(rows.length+2,[.fnc 42 [rows.length+1,rows.length+1+1,rows.length+2+1]])::F5,_,rfl,rfl,.inr ⟨j,[],hoc,?_,?_⟩,.inr ⟨j,hoc,?_,hsn,.head _⟩,?_⟩
   ·rw [XK]
    exact h6.get (.head _)
   ·rw [XK]
    intro hh
    exact hsn (List.map_eq_nil_iff.1 hh)
   ·exact h6.get (.head _)
   ·exact h6.perm (Uh [(j,Jw (srt (JZ 128 m.es id))),(rows.length+1,[JJ (Xa j) (JZ 128 m.es id)]),(rows.length,[.oref (m.jm+1) 0]),(rows.length+2,[.fnc 42 [rows.length+1,rows.length+1+1,rows.length+2+1]])] m.frag (F5++F))
theorem Zf6 (hm:m.Ok) (id:Int):(KG m.es id).length≤64:=by
 unfold KG
 split
 ·exact X7 _
 ·rw [Zas]
  exact ZoH hm 128 id
def VD (es:List PE) (id target:Int):(List PE×List Ziu)×Int:=
 match J6 es id with
 | none => ((es, []), 17)
 | some _ =>
  match J6 es target with
  | none => ((es, []), 17)
  | some _ => if target = id ∨ target ∈ KG es id then (Zi (-1) es (target :: KG es target), 0) else ((es, []), 8)
theorem s21 {x:LL} (h:ZD rows (m.frag++F)) (hm:m.Ok) (hx:Ze x = .oref (m.jm+1) 0) (id target:Int) :
  ∃ rows' F',g21 x id target rows=Xa (ZW (VD m.es id target).1.2,(VD m.es id target).2,rows')∧ZD rows' (({ m with es:=(VD m.es id target).1.1 } : MS).frag++(F'++F))∧({ m with es:=(VD m.es id target).1.1 } : MS).Ok:=by
 rw [Zuq,s27 h hx,Xi,Zc (ne1 (Ki _)),Za3]
 unfold VD
 cases ho:J6 m.es id with
 | none =>
  rw [K0,if_pos (by decide)]
  exact ⟨rows,[],rfl,h,hm⟩
 | some e =>
  rw [Zr,if_neg (by decide)]
  dsimp only
  rw [s27 h hx,Xi,Zc (ne1 (Ki _)),Za3]
  cases ht:J6 m.es target with
  | none =>
   rw [K0,if_pos (by decide)]
   exact ⟨rows,[],rfl,h,hm⟩
  | some t =>
   rw [Zr,if_neg (by decide)]
   dsimp only
   -- the end of it
   have fin:∀ (r1:LL) (F1:Ym),ZD r1 (m.frag++(F1++F))→∃ rows' F',((g19 x target r1).bind fun (r12:LL×LL)=>
     Zg ((Zd (.vchk 3 1) r12.2 0 r12.1 [])≠[])<|
     Zg (Jr (E0++[[AV.val (.int .i64 target)]]) (Zd (.view 1) r12.2 0 r12.1 []) 8)<|
     (g45 x ((E0++[[AV.val (.int .i64 target)]])++(Zd (.view 1) r12.2 0 r12.1 [])) (-1) r12.2).bind fun (r14:LL×LL)=>
     Xa (r14.1,(0:Int),r14.2))=Xa (ZW (Zi (-1) m.es (target::KG m.es target)).2,0,rows')∧ZD rows' (({ m with es:=(Zi (-1) m.es (target::KG m.es target)).1 } : MS).frag++(F'++F))∧({ m with es:=(Zi (-1) m.es (target::KG m.es target)).1 } : MS).Ok:=fun r1 F1 h1=>by
    obtain ⟨r2,F2,c,q1,q2,q3,q4,q5⟩:=s19 h1 hm hx target
    have hdl:=Zf6 hm target
    rw [q1,Xi]
    dsimp only
    have hcx:Ze [[c]]=c:=Zpe q2
    have hv:Zd (.vchk 3 1) r2 0 [[c]] [] = [[]]:=by
     rcases q4 with rfl | ⟨j,rfl,hr,hn⟩
     ·simp [Zd,Ze,ZP,ZdR,okL]
     ·refine ZjT (k:=0) (zs:=KG m.es target) (.inr ⟨j,rfl,by simpa using hr,fun hh=>?_⟩) rfl
      simp [Jw] at hh
      exact hn.1 hh
    have hint:(E0++[[AV.val (.int .i64 target)]])++ints (KG m.es target)=ints (target::KG m.es target):=rfl
    rw [Zc (ne1 hv),Zp9 q3 hcx,Zc (by unfold Jr ZB;simp;omega),hint]
    obtain ⟨r3,F3,t1,t2,t3⟩:=s45 (zs:=target::KG m.es target) (by simp;omega) (-1) q5 hm hx
    rw [t1]
    refine ⟨r3,F3++(F2++F1),rfl,?_,t3⟩
    simp only [Xo] at t2 ⊢
    exact t2
   by_cases hti:target=id
   ·rw [if_neg (by simp [cop,hti]),if_pos (.inl hti)]
    exact fin rows [] h
   ·rw [if_pos (by simp [cop,hti])]
    obtain ⟨r2,F2,c,q1,q2,q3,q4,q5⟩:=s19 h hm hx id
    have hdl:=Zf6 hm id
    have hcx:Ze [[c]]=c:=Zpe q2
    rw [q1,Xi]
    dsimp only
    rw [s44 q3 hcx (by omega) target,Xi]
    dsimp only
    by_cases hin:target∈KG m.es id
    ·rw [decide_eq_true hin,if_neg (by decide),if_pos (.inr hin)]
     exact fin r2 F2 q5
    ·rw [decide_eq_false hin,if_pos (by decide),if_neg (fun hh=>hh.elim hti hin)]
     exact ⟨r2,F2,rfl,q5,hm⟩
end
open Go Go.AM Go.Proofs.Ytpjnmgjphfnmmaa
set_option maxRecDepth 100000
def Zeq (z:Int):Bool:=decide (97≤z∧z≤122∨65≤z∧z≤90∨z=95)
def Zip (z:Int):Bool:=decide (48≤z∧z≤57)
def chr (s:ByteArray) (i:Nat):Int:=((s.data.toList.getD i 0).toNat:Int)
def ZiA (s:ByteArray):Nat→Nat→Bool
 | _, 0 => Xb
 | i, n + 1 => (Zeq (chr s i) || Zip (chr s i)) && ZiA s (i + 1) n
def Zpd (s:ByteArray):Nat→Nat→Nat
 | i, 0 => i
 | i, n + 1 => if (Zeq (chr s i) || Zip (chr s i)) = Xb then Zpd s (i + 1) n else i
def ZgK (s:ByteArray):Bool:=decide (s.size≠0)&&(Zeq (chr s 0)&&(ZiA s 0 s.size&&decide (s.size≤24)))
theorem ZkP (z:Int):(if (cop .geq z 97)=Xb then
 if (cop .leq z 122)=Xb then
 Xa (Xb)
 else
 if (cop .geq z 65)=Xb then
 if (cop .leq z 90)=Xb then
 Xa (Xb)
 else
 Xa ((cop .eql z 95))
 else
 Xa ((cop .eql z 95))
 else
 if (cop .geq z 65)=Xb then
 if (cop .leq z 90)=Xb then
 Xa (Xb)
 else
 Xa ((cop .eql z 95))
 else
 Xa ((cop .eql z 95)))=Xa (Zeq z):=by
  unfold Zeq
  simp only [cop,decide_eq_true_eq]
  by_cases h1:97≤z<;>by_cases h2:z≤122<;>by_cases h3:65≤z<;>by_cases h4:z≤90<;>by_cases h5:z=95<;>simp [h1,h2,h3,h4,h5]<;>omega
theorem ZkY (z:Int):(if (cop .geq z 48)=Xb then
 Xa ((cop .leq z 57))
 else
 Xa (Xc))=Xa (Zip z):=by
  unfold Zip
  simp only [cop,decide_eq_true_eq]
  by_cases h1:48≤z<;>by_cases h2:z≤57<;>simp [h1,h2]
theorem s66 (z:Int):g66 z=Xa (Zeq z):=by rw [Ztq];exact ZkP z
theorem s86 (z:Int):g86 z=Xa (Zeq z):=by rw [ZuL];exact ZkP z
theorem s84 (z:Int):g84 z=Xa (Zip z):=by rw [ZuJ];exact ZkY z
theorem s87 (z:Int):g87 z=Xa (Zip z):=by rw [Zuk];exact ZkY z
theorem ZuV {i:Nat} (h:i≤1048576):iop .add .i64 (i:Int) 1=((i+1:Nat):Int):=by
 rw [Znx (by omega) (by omega)]
 omega
theorem Zk8 (s:ByteArray) (hs:s.size≤1000000):∀ (n i k:Nat),i+n=s.size→n < k→Zmi k s (i:Int)=Xa ((Zpd s i n:Nat):Int)
 | 0, i, k, hi, hk => by
  obtain ⟨k',rfl⟩:∃ k',k=k'+1:=⟨k-1,by omega⟩
  rw [ZjZ,if_neg (by simp [cop];omega)]
  rfl
 | n + 1, i, k, hi, hk => by
  obtain ⟨k',rfl⟩:∃ k',k=k'+1:=⟨k-1,by omega⟩
  have ih:=Zk8 s hs n (i+1) k' (by omega) (by omega)
  rw [ZjZ,if_pos (by simp [cop];omega),Zc (by omega),Zc (by omega),s66,Xi,ZuV (by omega),ih,Zc (by omega),Zc (by omega),s84,Xi,Wr]
  rw [show Zpd s i (n+1)=if (Zeq (chr s i)||Zip (chr s i))=Xb then Zpd s (i+1) n else i from rfl]
  show (if Zeq (chr s i)=Xb then _ else if Zip (chr s i)=Xb then _ else _)=_
  cases Zeq (chr s i)<;>cases Zip (chr s i)<;>rfl
theorem Zlk (s:ByteArray) (hs:s.size≤1000000):∀ (n i k:Nat),i+n=s.size→n < k→Zmb k s (i:Int)=Xa (ZiA s i n)
 | 0, i, k, hi, hk => by
  obtain ⟨k',rfl⟩:∃ k',k=k'+1:=⟨k-1,by omega⟩
  rw [Zk5,if_neg (by simp [cop];omega)]
  rfl
 | n + 1, i, k, hi, hk => by
  obtain ⟨k',rfl⟩:∃ k',k=k'+1:=⟨k-1,by omega⟩
  have ih:=Zlk s hs n (i+1) k' (by omega) (by omega)
  rw [Zk5,if_pos (by simp [cop];omega),Zc (by omega),Zc (by omega),s86,Xi,ZuV (by omega),ih,Zc (by omega),Zc (by omega),s87,Xi,Wr]
  rw [show ZiA s i (n+1)=((Zeq (chr s i)||Zip (chr s i))&&ZiA s (i+1) n) from rfl]
  show (if (!Zeq (chr s i))=Xb then (if (!Zip (chr s i))=Xb then _ else _) else _)=_
  cases Zeq (chr s i)<;>cases Zip (chr s i)<;>rfl
theorem Znq (s:ByteArray):∀ (n i:Nat),i≤Zpd s i n∧(Zpd s i n=i+n↔ZiA s i n=Xb)
 | 0, i => ⟨XA _, by simp [Zpd, ZiA]⟩
 | n + 1, i => by
  obtain ⟨h1,h2⟩:=Znq s n (i+1)
  rw [show Zpd s i (n+1)=if (Zeq (chr s i)||Zip (chr s i))=Xb then Zpd s (i+1) n else i from rfl,show ZiA s i (n+1)=((Zeq (chr s i)||Zip (chr s i))&&ZiA s (i+1) n) from rfl]
  cases (Zeq (chr s i)||Zip (chr s i)) with
  | true =>
   simp only [if_true,X8]
   exact ⟨by omega,by rw [← h2];omega⟩
  | false => simp
theorem ZhT (s:ByteArray):(ByteArray.toList s == ByteArray.toList (⟨#[]⟩:ByteArray))=decide (s.size=0):=by
 rw [ByteArray.toList_eq,ByteArray.toList_eq]
 have:s.size=s.data.toList.length:=rfl
 rw [this]
 cases s.data.toList<;>simp
theorem s28 (s:ByteArray) (hs:s.size≤1000000):g28 s=Xa (ZgK s):=by
 have h67:g67 s=Xa ((Zpd s 0 s.size:Nat):Int):=by
  rw [ZuB]
  exact Zk8 s hs s.size 0 Jv (by omega) (by unfold Jv;omega)
 obtain ⟨h1,h2⟩:=Znq s s.size 0
 rw [ZtJ,ZuS,ZhT]
 unfold ZgK
 by_cases h0:s.size=0
 ·rw [if_neg (by simp [h0])]
  simp [h0]
 ·rw [if_pos (by simp [h0]),Zc (by decide),Zc (by omega),s66,Xi,h67]
  show (if Zeq (chr s 0)=Xb then _ else _:Option Bool).bind _=_
  rw [decide_eq_true h0,X8]
  cases Zeq (chr s 0) with
  | false => rfl
  | true =>
   rw [if_pos rfl,Xi,Xi,X8]
   cases ha:ZiA s 0 s.size with
   | true =>
    have:=h2.2 ha
    rw [if_pos (by simp [cop];omega),X8]
    congr 1
    simp [cop]
    omega
   | false =>
    rw [if_neg]
    ·rfl
    ·intro hh
     simp [cop] at hh
     rw [h2.1 (by omega)] at ha
     cases ha
theorem s56 (s:ByteArray) (hs:s.size≤1000000):g56 s=Xa (ZgK s):=by
 rw [Ztl,ZuX,ZhT]
 unfold ZgK
 by_cases h0:s.size=0
 ·rw [if_pos (by simp [h0])]
  simp [h0]
 ·have h70:Zmb Jv s 1=Xa (ZiA s 1 (s.size-1)):=Zlk s hs (s.size-1) 1 Jv (by omega) (by unfold Jv;omega)
  rw [if_neg (by simp [h0]),Zc (by decide),Zc (by omega),s86,Xi,h70]
  show (if (!Zeq (chr s 0))=Xb then _ else _:Option Bool).bind _=_
  rw [decide_eq_true h0,X8]
  have ha:Zeq (chr s 0)=Xb→ZiA s 0 s.size=ZiA s 1 (s.size-1):=fun hl=>by
   obtain ⟨n,hn⟩:∃ n,s.size=n+1:=⟨s.size-1,by omega⟩
   rw [hn]
   show ((Zeq (chr s 0)||Zip (chr s 0))&&ZiA s 1 n)=_
   rw [hl]
   simp
  cases hl:Zeq (chr s 0) with
  | false => rfl
  | true =>
   rw [if_neg (by decide),Xi,X8,ha hl]
   cases ZiA s 1 (s.size-1) with
   | true =>
    rw [if_pos rfl,X8]
    congr 1
    simp [cop]
    omega
   | false => rfl
section
open Go Go.AM Go.Proofs.Ytpjnmgjphfnmmaa
set_option maxRecDepth 100000
variable {rows:LL} {F:Ym}
def VO (e:PE):List AV:=[I e.p.id,I e.p.parent,.val (.string e.p.name),.slice Xc 1 (ints e.p.cores),B e.p.ended,I e.p.status,B e.p.waiting]
structure RS where
 jr:Nat
 ja:Nat
 es:List PE
 last:Int
variable {r:RS}
def RS.head (r:RS):List AV:=[.osl 57 (r.ja+1) r.es.length,I r.last]
def RS.arr (r:RS):List AV:=(r.es.map VO).flatten
def RS.frag (r:RS):Ym:=[(r.jr,r.head),(r.ja,r.arr)]
structure LOk (es:List PE) (last:Int):Prop where
 srt:es.Pairwise fun a b=>a.p.id < b.p.id
 rng:∀ e∈es,1≤e.p.id∧e.p.id≤last
 par:∀ e∈es,0≤e.p.parent∧e.p.parent < e.p.id
 len:es.length≤64
 lst:last≤1048576
 one:∃ e∈es,e.p.id=1
theorem ZfB (e:PE):(VO e).length=7:=rfl
theorem Ky (es:List PE):(es.map VO).flatten.length=es.length*7:=by
 induction es with
 | nil => rfl
 | cons e es ih => rw [Xh, X4, Xu, ih, ZfB, Xz]; omega
theorem ZbG (es:List PE) {pre post:List PE} {e:PE} (hs:es=pre++e::post):(es.map VO).flatten=(pre.map VO).flatten++(VO e++(post.map VO).flatten):=by
 rw [hs,XN,Xh,List.flatten_append,X4]
theorem ZaP {es:List PE} (h:es≠[]):Z1 (es.map VO).flatten=Xb:=by
 cases es with
 | nil => exact absurd rfl h
 | cons e es => rfl
theorem ZmB (h:ZD rows (r.frag++F)):rows[r.jr]? = Xa r.head:=h.get (by simp [RS.frag])
theorem ZmG (h:ZD rows (r.frag++F)):rows[r.ja]? = Xa r.arr:=h.get (by simp [RS.frag])
theorem KB {x:LL} (h:ZD rows (r.frag++F)) (hx:Ze x = .oref (r.jr+1) 0):Zd (.get 1) rows 0 (Zd (.padd 0) x 0 E0 []) [] = [[.osl 57 (r.ja+1) r.es.length]]:=by
 rw [YM hx]
 exact JF rfl (ZmB h) rfl rfl
theorem Zou {x:LL} (h:ZD rows (r.frag++F)) (hx:Ze x = .oref (r.jr+1) 0):Zd (.get 1) rows 0 (Zd (.padd 1) x 0 E0 []) [] = [[I r.last]]:=by
 rw [YM hx]
 exact JF rfl (ZmB h) rfl rfl
theorem Zal (a n:Nat):Zd .pisl [[.osl 57 (a+1) n]] 0 E0 [] = [[]]:=by simp [Zd,Ze,ZP,okL]
theorem YG (a n:Nat):((Zd .plen [[.osl 57 (a+1) n]] 0 E0 []).length:Int)=(n:Int):=by simp [Zd,Ze,ZP]
theorem ZhK (a n i:Nat):Zd (.pidx 7) [[.osl 57 (a+1) n]] (i:Int) [] [] = [[.oref (a+1) (i*7)]]:=by simp [Zd,Ze,ZP,pJ]
abbrev rn (r:RS) (i:Nat):LL:=[[.oref (r.ja+1) (i*7)]]
theorem ZL (r:RS) (i:Nat):Zd .pnn (rn r i) 0 E0 [] = [[]]:=ZC rfl
theorem YX (r:RS) (i:Nat):Zd .pisr (rn r i) 0 E0 [] = [[]]:=Zrw rfl
theorem Kn:Zd .pisr [[.oref 0 0]] 0 E0 [] = [[]]:=Zo6 rfl
theorem Vu:Zd .pnn [[.oref 0 0]] 0 E0 [] = []:=Zq8 rfl
theorem Zr6 {es pre post:List PE} {e:PE} (hs:es=pre++e::post) {o:Nat} {c:AV} (hc:(VO e)[o]? = Xa c):((es.map VO).flatten)[pre.length*7+o]? = Xa c:=by
 rw [ZbG es hs]
 have hl:=Ky pre
 have ho:o < (VO e).length:=(Xk.1 hc).1
 rw [Xy (by omega),hl,UM,Xx ho,hc]
theorem YS (h:ZD rows (r.frag++F)) {pre post:List PE} {e:PE} (hs:r.es=pre++e::post) {o:Nat} {c:AV} (hc:(VO e)[o]? = Xa c):Zd (.get 1) rows 0 (Zd (.padd o) (rn r pre.length) 0 E0 []) [] = [[c]]:=by
 rw [YM (j:=r.ja+1) (o:=pre.length*7) rfl]
 exact JF rfl (ZmG h) (ZaP (by rw [hs];simp)) (Zr6 hs hc)
theorem Ztz (h:ZD rows (r.frag++F)) {pre post:List PE} {e:PE} (hs:r.es=pre++e::post):Zd (.get 7) rows 0 (rn r pre.length) [] = [VO e]:=by
 have hl:=Ky pre
 have hc:Z1 r.arr=Xb:=ZaP (by rw [hs];simp)
 have hrl:r.arr.length=r.es.length*7:=Ky r.es
 have hel:r.es.length=pre.length+post.length+1:=by rw [hs];simp;omega
 simp only [Zd,Ze,ZP,Znz,Ji (ZmG h),hc,X8]
 rw [decide_eq_true (by omega)]
 dsimp only
 have:(r.arr.drop (pre.length*7)).take 7=VO e:=by
  unfold RS.arr
  rw [ZbG r.es hs,List.drop_left' hl,List.take_left' (ZfB e)]
 rw [this]
theorem Zez (h:ZD rows (r.frag++F)) {pre post:List PE} {e e':PE} (hs:r.es=pre++e::post) {o:Nat} {c:AV} (ho:o < 7) (he:(VO e).set o c=VO e') :
  ZD (Zd .set rows 0 (Zd (.padd o) (rn r pre.length) 0 E0 []) [c]) (({ r with es:=pre++e'::post } : RS).frag++F):=by
 rw [YM (j:=r.ja+1) (o:=pre.length*7) rfl]
 have hl:=Ky pre
 have hrl:r.arr.length=r.es.length*7:=Ky r.es
 have hel:r.es.length=pre.length+post.length+1:=by rw [hs];simp;omega
 rw [Zao rfl (ZmG h) (by omega)]
 have hset:r.arr.set (pre.length*7+o) c=({ r with es:=pre++e'::post } : RS).arr:=by
  unfold RS.arr
  rw [ZbG r.es hs,ZbG (pre++e'::post) rfl,Tx _ _ (by omega),hl,UM,List.set_append_left _ _ (by rw [ZfB];exact ho),he]
 rw [hset]
 have hh:({ r with es:=pre++e'::post } : RS).head=r.head:=by
  unfold RS.head
  rw [hs]
  simp
 have h2:=(h.perm (List.Perm.swap _ _ _)).set ({ r with es:=pre++e'::post } : RS).arr
 refine (h2.perm (List.Perm.swap _ _ _)).perm ?_
 have:({ r with es:=pre++e'::post } : RS).frag++F=(r.jr,({ r with es:=pre++e'::post } : RS).head)::(r.ja,({ r with es:=pre++e'::post } : RS).arr)::F:=rfl
 rw [this,hh]
 exact List.Perm.refl _
theorem Zgh {x:LL} (h:ZD rows (r.frag++F)) (hl:r.es.length≤100) (hx:Ze x = .oref (r.jr+1) 0) (k:Int):∀ (ks pre:List PE) (q:Nat),r.es=pre++ks→ks.length < q→
  (∀ p e s,ks=p++e::s→e.p.id=k→(∀ a∈p,a.p.id≠k)→Zo7 q x k (pre.length:Int) rows=Xa (rn r (pre++p).length,rows))∧((∀ a∈ks,a.p.id≠k)→Zo7 q x k (pre.length:Int) rows=Xa ([[.oref 0 0]],rows))
 | [], pre, q, hs, hq => by
  obtain ⟨q',rfl⟩:∃ q',q=q'+1:=⟨q-1,by simp at hq;omega⟩
  rw [XK] at hs
  refine ⟨fun p e s hh=>by simp at hh,fun _=>?_⟩
  rw [ZkD,Zc (ne1 (ZC hx)),Zc (ne1 (ZC hx)),KB h hx,Zp rfl,Zc (ne1 (Zal _ _)),YG,hs,if_neg (by simp [cop])]
  rfl
 | a :: ks, pre, q, hs, hq => by
  obtain ⟨q',rfl⟩:∃ q',q=q'+1:=⟨q-1,by simp at hq;omega⟩
  have hel:r.es.length=pre.length+ks.length+1:=by rw [hs];simp;omega
  have hl1:((pre++[a]).length:Int)=((pre.length+1:Nat):Int):=by simp
  obtain ⟨ih1,ih2⟩:=Zgh h hl hx k ks (pre++[a]) q' (by rw [hs];simp) (by simp at hq;omega)
  rw [hl1] at ih1 ih2
  rw [ZkD,Zc (ne1 (ZC hx)),Zc (ne1 (ZC hx)),KB h hx,Zp rfl,Zc (ne1 (Zal _ _)),YG,if_pos (by simp [cop];omega),Zc (ne1 (ZC hx)),Zc (ne1 (ZC hx)),Zp rfl,Zc (by omega),YG,Zc (by omega),ZhK,Zc (ne1 (ZL r _)),YS h hs (c:=I a.p.id) rfl,ZJ,ZaJ (by omega)]
  by_cases hk:a.p.id=k
  ·rw [if_pos (by simp [cop,hk]),Zc (ne1 (ZC hx)),Zc (ne1 (ZC hx)),Zp rfl,Zc (by omega),YG,Zc (by omega),ZhK]
   refine ⟨fun p e s hh hek hp=>?_,fun hh=>absurd hk (hh a (by simp))⟩
   cases p with
   | nil => simp
   | cons b p =>
    rw [XL,List.cons.injEq] at hh
    exact absurd (hh.1 ▸ hk) (hp b (by simp))
  ·rw [if_neg (by simp [cop,hk])]
   refine ⟨fun p e s hh hek hp=>?_,fun hh=>ih2 fun b hb=>hh b (by simp [hb])⟩
   cases p with
   | nil =>
    rw [XM,List.cons.injEq] at hh
    exact absurd hek (hh.1 ▸ hk)
   | cons b p =>
    rw [XL,List.cons.injEq] at hh
    have:=ih1 p e s hh.2 hek fun c hc=>hp c (by simp [hc])
    rw [hh.1] at this
    rw [this]
    simp
theorem ZjY {x:LL} (h:ZD rows (r.frag++F)) (hl:r.es.length≤100) (hx:Ze x = .oref (r.jr+1) 0) {k:Int} (hf:r.es.find? (fun e=>decide (e.p.id=k))=Xe):g60 x k rows=Xa ([[.oref 0 0]],rows):=by
 rw [ZqS]
 exact (Zgh h hl hx k r.es [] Jv rfl (by unfold Jv;omega)).2 fun a ha=>by simpa using Tl.1 hf a ha
theorem VI {x:LL} (h:ZD rows (r.frag++F)) (hl:r.es.length≤100) (hx:Ze x = .oref (r.jr+1) 0) {pre post:List PE} {e:PE} (hs:r.es=pre++e::post) (hp:∀ a∈pre,a.p.id≠e.p.id):g60 x e.p.id rows=Xa (rn r pre.length,rows):=by
 rw [ZqS]
 have:=(Zgh h hl hx e.p.id r.es [] Jv rfl (by unfold Jv;omega)).1 pre e post hs rfl hp
 simpa using this
theorem JX {es:List PE} {k:Int} {e:PE} (h:es.find? (fun e=>decide (e.p.id=k))=Xa e):∃ pre post,es=pre++e::post∧e.p.id=k∧∀ a∈pre,a.p.id≠e.p.id:=by
 obtain ⟨h1,pre,post,h2,h3⟩:=Tm.1 h
 have h1':e.p.id=k:=by simpa using h1
 exact ⟨pre,post,h2,h1',fun a ha=>by have:=h3 a ha;rw [h1'];simpa using this⟩
theorem VT {x:LL} (h:ZD rows (r.frag++F)) (hl:r.es.length≤100) (hx:Ze x = .oref (r.jr+1) 0) {k:Int} (hf:J6 r.es k=Xe):g55 x k rows=Xa ([[.oref 0 0]],rows):=by
 unfold J6 at hf
 rw [ZqU]
 cases hq:r.es.find? (fun e=>decide (e.p.id=k)) with
 | none =>
  rw [ZjY h hl hx hq,Xi]
  dsimp only
  rw [Zc (ne1 Kn),Vu]
  rfl
 | some e =>
  obtain ⟨pre,post,hs,rfl,hp⟩:=JX hq
  rw [hq] at hf
  dsimp only at hf
  have hen:e.p.ended=Xb:=by
   cases he:e.p.ended with
   | true => rfl
   | false => rw [he] at hf; simp at hf
  rw [VI h hl hx hs hp,Xi]
  dsimp only
  rw [Zc (ne1 (YX r _)),ZL,if_pos (by decide),Zc (by simp),Zc (by simp),YS h hs (c:=B e.p.ended) rfl,JR,hen]
  rfl
theorem KQ {x:LL} (h:ZD rows (r.frag++F)) (hl:r.es.length≤100) (hx:Ze x = .oref (r.jr+1) 0) {pre post:List PE} {e:PE} (hs:r.es=pre++e::post) (hp:∀ a∈pre,a.p.id≠e.p.id) (hen:e.p.ended=Xc):g55 x e.p.id rows=Xa (rn r pre.length,rows):=by
 rw [ZqU,VI h hl hx hs hp,Xi]
 dsimp only
 rw [Zc (ne1 (YX r _)),ZL,if_pos (by decide),Zc (by simp),Zc (by simp),YS h hs (c:=B e.p.ended) rfl,JR,hen]
 rfl
theorem s54 (z:Int):g54 z=Xa (decide (0≤z∧z < 32)):=by
 rw [ZtV]
 by_cases h1:0≤z
 ·rw [if_pos (by simp [cop,h1])]
  by_cases h2:z < 32<;>simp [cop,h1,h2]
 ·rw [if_neg (by simp [cop];omega)]
  simp [h1]
theorem s32 {z:Int} (hz:0≤z∧z < 32) (h:ZD rows F):∃ r:RS,∃ rows',g32 z rows=Xa ([[.oref (r.jr+1) 0]],0,rows')∧ZD rows' (r.frag++F)∧r.es = [⟨0,Xe,WH z⟩]∧r.last=1:=by
 have h1:=h.push (VO ⟨0,Xe,WH z⟩)
 have h2:=h1.push [.osl 57 (rows.length+1) 1,I 1]
 refine ⟨⟨rows.length+1,rows.length,[⟨0,Xe,WH z⟩],1⟩,rows++[VO ⟨0,Xe,WH z⟩]++[[.osl 57 (rows.length+1) 1,I 1]],?_,?_,rfl,rfl⟩
 ·rw [ZuW,s54,Xi,decide_eq_true hz,if_neg (by decide)]
  have hl:(rows++[VO ⟨0,Xe,WH z⟩]).length=rows.length+1:=by simp
  have hw:Zd .pnew (rows++[VO ⟨0,Xe,WH z⟩]) 0 E0 [] = [[.oref (rows.length+1+1) 0]]:=by
   show [[AV.oref ((rows++[VO ⟨0,Xe,WH z⟩]).length+1) 0]]=_
   rw [hl]
  show Xa (Zd .pnew (rows++[VO ⟨0,Xe,WH z⟩]) 0 E0 [],_)=_
  rw [hw]
  rfl
 ·have hl:(rows++[VO ⟨0,Xe,WH z⟩]).length=rows.length+1:=by simp
  rw [hl] at h2
  have e1:(⟨rows.length+1,rows.length,[⟨0,Xe,WH z⟩],1⟩:RS).frag++F=(rows.length+1,[.osl 57 (rows.length+1) 1,I 1])::(rows.length,VO ⟨0,Xe,WH z⟩)::F:=by
   simp [RS.frag,RS.head,RS.arr]
  rw [e1]
  exact h2
end
section
open Go Go.AM Go.Proofs.Ytpjnmgjphfnmmaa
set_option maxRecDepth 100000
variable {rows:LL} {F:Ym} {r:RS}
theorem Zur {x:LL} (h:ZD rows (r.frag++F)) (hl:r.es.length≤64) (hx:Ze x = .oref (r.jr+1) 0) {parent core:Int} {name:ByteArray} {nm:Bool} (hn:g56 name=Xa nm) (hc:YL r.es parent core nm≠0) :
  g34 x parent name core rows=Xa (0,YL r.es parent core nm,rows):=by
 rw [Zrc]
 unfold YL at hc ⊢
 cases ho:J6 r.es parent with
 | none =>
  rw [VT h (by omega) hx ho,Xi]
  dsimp only
  rw [Zc (ne1 Kn),Vu,if_pos (by decide)]
 | some e =>
  obtain ⟨hf,hen⟩:=Je ho
  obtain ⟨pre,post,hs,rfl,hp⟩:=JX hf
  rw [ho] at hc
  dsimp only at hc ⊢
  rw [KQ h (by omega) hx hs hp hen,Xi]
  dsimp only
  rw [Zc (ne1 (YX r _)),ZL,if_neg (by decide),hn,Xi]
  cases nm with
  | false => rfl
  | true =>
   simp only [if_true] at hc ⊢
   rw [if_neg (by decide),s54,Xi]
   by_cases hr:0≤core∧core < 32
   ·rw [if_pos hr] at hc ⊢
    rw [decide_eq_true hr,if_neg (by decide),Zc (ne1 (ZC hx)),Zc (ne1 (ZC hx)),KB h hx,Zp rfl,Zc (ne1 (Zal _ _)),YG]
    by_cases hl:r.es.length=64
    ·rw [if_pos hl] at hc ⊢
     rw [if_pos (by simp [cop,hl])]
    ·rw [if_neg hl] at hc
     exact absurd rfl hc
   ·rw [if_neg hr]
    rw [decide_eq_false hr]
    rfl
theorem Ztm (h:ZD rows (r.frag++F)) (hne:r.es≠[]):Zd (.vchk 57 7) rows 0 [[.osl 57 (r.ja+1) r.es.length]] [] = [[]]:=by
 have hc:Z1 r.arr=Xb:=ZaP hne
 have hrl:r.arr.length=r.es.length*7:=Ky r.es
 simp only [Zd,Ze,ZP,ZdR,Ji (ZmG h),hc,decide_true,X8]
 rw [decide_eq_true (by omega)]
 rfl
theorem Zwy {α:Type} (a b c:α) (l:List α):(a::b::c::l).Perm (c::a::b::l):=UW (l₁:=[a,b])
theorem s34 {x:LL} (h:ZD rows (r.frag++F)) (hne:r.es≠[]) (hl:r.es.length≤64) (hx:Ze x = .oref (r.jr+1) 0) {parent core:Int} {name:ByteArray} {nm:Bool} (hn:g56 name=Xa nm) (hc:YL r.es parent core nm=0) (hlast : -1000≤r.last∧r.last < 1048576) :
  ∃ rows' ja' G,g34 x parent name core rows=Xa (r.last+1,0,rows')∧ZD rows' (({ r with ja:=ja',es:=r.es++[⟨0,Xe,⟨r.last+1,parent,name,[core],Xc,0,Xc⟩⟩],last:=r.last+1 } : RS).frag++(G++F)):=by
 rw [Zrc]
 unfold YL at hc
 cases ho:J6 r.es parent with
 | none => rw [ho] at hc; exact absurd hc (by show ¬ ((17 : Int) = 0); decide)
 | some e =>
  obtain ⟨hf,hen⟩:=Je ho
  obtain ⟨pre,post,hs,rfl,hp⟩:=JX hf
  rw [ho] at hc
  dsimp only at hc
  cases nm with
  | false => rw [if_neg (by decide)] at hc; exact absurd hc (by decide)
  | true =>
  rw [if_pos rfl] at hc
  by_cases hr:0≤core∧core < 32
  ·rw [if_pos hr] at hc
   by_cases hl64:r.es.length=64
   ·rw [if_pos hl64] at hc;exact absurd hc (by decide)
   ·rw [KQ h (by omega) hx hs hp hen,Xi]
    dsimp only
    rw [Zc (ne1 (YX r _)),ZL,if_neg (by decide),hn,Xi,if_neg (by decide),s54,Xi,decide_eq_true hr,if_neg (by decide),Zc (ne1 (ZC hx)),Zc (ne1 (ZC hx)),KB h hx,Zp rfl,Zc (ne1 (Zal _ _)),YG,if_neg (by simp [cop];omega),
     Zc (ne1 (ZC hx)),Zc (ne1 (ZC hx)),Zou h hx,ZJ,Zc (ne1 (ZC hx)),Zc (ne1 (ZC hx)),Zc (by simp),Zc (ne1 (ZC hx)),Zc (ne1 (ZC hx))]
    have hadd:iop .add .i64 r.last 1=r.last+1:=Znx (by omega) (by omega)
    rw [hadd]
    have hs1:Zd .set rows 0 (Zd (.padd 1) x 0 E0 []) [AV.val (.int .i64 (r.last+1))]=rows.set r.jr [.osl 57 (r.ja+1) r.es.length,I (r.last+1)]:=by
     rw [YM hx]
     rw [Zao rfl (ZmB h) (by simp [RS.head])]
     rfl
    rw [hs1]
    have h1:ZD (rows.set r.jr [.osl 57 (r.ja+1) r.es.length,I (r.last+1)]) (({ r with last:=r.last+1 } : RS).frag++F):=ZD.set h [.osl 57 (r.ja+1) r.es.length,I (r.last+1)]
    generalize rows.set r.jr [.osl 57 (r.ja+1) r.es.length,I (r.last+1)]=r1 at h1 ⊢
    have hh0:=KB (r:={ r with last:=r.last+1 }) h1 hx
    have hh1:=Zou (r:={ r with last:=r.last+1 }) h1 hx
    dsimp only at hh0 hh1
    rw [hh0,Zp rfl,Zc (ne1 (ZC hx)),Zc (ne1 (ZC hx)),hh1,ZJ,Zc (by simp),Zc (ne1 (Ztm (r:={ r with last:=r.last+1 }) h1 hne))]
    have hpl:=YG r.ja r.es.length
    rw [Zc (by unfold Jr ZB;simp only [Xu,Xz,XT];omega),Zc (ne1 (ZC hx)),Zc (ne1 (ZC hx))]
    have hrl:r.arr.length=r.es.length*7:=Ky r.es
    have happ:∀ row:List AV,Zd (.app 7) r1 0 [[.osl 57 (r.ja+1) r.es.length]] [AV.slice Xc 7 (E0++[row])]=r1.set r.ja []++[r.arr++row]:=fun row=>by
     have hra:=ZmG (r:={ r with last:=r.last+1 }) h1
     have hra':r1[r.ja]? = Xa r.arr:=hra
     simp only [Zd,Ze,ZP,Zh8,Zq0,Ji hra']
     rw [Uo (by omega)]
     simp
    have hpap:∀ row:List AV,Zd (.papp 57) r1 0 [[.osl 57 (r.ja+1) r.es.length]] [AV.slice Xc 7 (E0++[row])] = [[.osl 57 (r1.length+1) (r.es.length+1)]]:=fun row=>by
     simp only [Zd,Ze,ZP,pO,Zq0];rfl
    rw [happ,hpap]
    have hcn:Ze [[AV.osl 57 (r1.length+1) (r.es.length+1)]] = .osl 57 (r1.length+1) (r.es.length+1):=rfl
    rw [hcn]
    have hp1:=((h1.perm (List.Perm.swap _ _ _)).set []).push (r.arr++VO ⟨0,Xe,⟨r.last+1,e.p.id,name,[core],Xc,0,Xc⟩⟩)
    have hlen:(r1.set r.ja []).length=r1.length:=by simp
    have hp2:=hp1.perm (Zwy _ _ _ _)
    have hrow:r1.set r.ja []++[r.arr++[AV.val (.int .i64 (r.last+1)),AV.val (.int .i64 e.p.id),AV.val (.string name),AV.slice Xc 1 (E0++[[AV.val (.int .i64 core)]]),AV.val (.bool Xc),AV.val (.int .i64 0),AV.val (.bool Xc)]]=r1.set r.ja []++[r.arr++VO ⟨0,Xe,⟨r.last+1,e.p.id,name,[core],Xc,0,Xc⟩⟩]:=rfl
    rw [hrow]
    generalize r1.set r.ja []++[r.arr++VO ⟨0,Xe,⟨r.last+1,e.p.id,name,[core],Xc,0,Xc⟩⟩]=r3 at hp2 ⊢
    have hrj:r3[r.jr]? = Xa [.osl 57 (r.ja+1) r.es.length,I (r.last+1)]:=hp2.get (.head _)
    have hst:Zd .set r3 0 (Zd (.padd 0) x 0 E0 []) [AV.osl 57 (r1.length+1) (r.es.length+1)]=r3.set r.jr [.osl 57 (r1.length+1) (r.es.length+1),I (r.last+1)]:=by
     rw [YM hx,Zao rfl hrj (by simp)]
     rfl
    have hg0:Zd (.get 1) r3 0 (Zd (.padd 0) x 0 E0 []) [] = [[.osl 57 (r.ja+1) r.es.length]]:=by
     rw [YM hx]
     exact JF rfl hrj rfl rfl
    have hp3:=hp2.set [.osl 57 (r1.length+1) (r.es.length+1),I (r.last+1)]
    have hrj3:(r3.set r.jr [.osl 57 (r1.length+1) (r.es.length+1),I (r.last+1)])[r.jr]? = Xa [.osl 57 (r1.length+1) (r.es.length+1),I (r.last+1)]:=hp3.get (.head _)
    have hg1:Zd (.get 1) (r3.set r.jr [.osl 57 (r1.length+1) (r.es.length+1),I (r.last+1)]) 0 (Zd (.padd 1) x 0 E0 []) [] = [[I (r.last+1)]]:=by
     rw [YM hx]
     exact JF rfl hrj3 rfl rfl
    rw [Zc (by rw [hg0];simp),Zc (ne1 (ZC hx)),Zc (ne1 (ZC hx)),hst,hg1,ZJ]
    refine ⟨_,r1.length,[(r.ja,[])],rfl,?_⟩
    have e1:(({ r with ja:=r1.length,es:=r.es++[⟨0,Xe,⟨r.last+1,e.p.id,name,[core],Xc,0,Xc⟩⟩],last:=r.last+1 } : RS).frag++([(r.ja,[])]++F))=(r.jr,[.osl 57 (r1.length+1) (r.es.length+1),I (r.last+1)])::(r1.length,r.arr++VO ⟨0,Xe,⟨r.last+1,e.p.id,name,[core],Xc,0,Xc⟩⟩)::(r.ja,[])::F:=by
     simp [RS.frag,RS.head,RS.arr]
    rw [e1]
    rw [hlen] at hp3
    exact hp3
  ·rw [if_neg hr] at hc;exact absurd hc (by decide)
theorem V8 {γ:Type} (l:LL) (k:LL→Option γ):Zl [[.slice Xc 1 l]] 0 [.slice 1] k=k l:=by
 refine YH (l:=[[.slice Xc 1 l]]) (sh:=[.slice 1]) (cs:=[.slice Xc 1 l]) (r:=(l:LL)) k (by decide:(0:Int)≤0) rfl ?_
 rfl
def ZnJ (core:Int) (e:PE):PE:={ e with p:={ e.p with cores:=e.p.cores++[core] } }
theorem Zkz {e:PE} {pre post:List PE} (h:ZD rows (r.frag++F)) (hs:r.es=pre++e::post) (core:Int) (hl:e.p.cores.length≤1000):∀ (ks ps:List Int) (q:Nat),e.p.cores=ps++ks→ks.length < q→core∉ps→
  Zpu q core (rn r pre.length) (ps.length:Int) rows=if core∈ks then Xa (56,rows) else Xa (0,Zd .set rows 0 (Zd (.padd 3) (rn r pre.length) 0 E0 []) [.slice Xc 1 (ints (e.p.cores++[core]))])
 | [], ps, q, hc, hq, hn => by
  obtain ⟨q',rfl⟩:∃ q',q=q'+1:=⟨q-1,by simp at hq;omega⟩
  rw [XK] at hc
  have hlen:((ints e.p.cores).length:Int)=(e.p.cores.length:Int):=by simp
  have hln:(ints e.p.cores).length=e.p.cores.length:=by simp
  rw [Zkl,Zc (ne1 (ZL r _)),Zc (ne1 (ZL r _)),YS h hs (c:=.slice Xc 1 (ints e.p.cores)) rfl,V8,hlen,← hc,if_neg (by simp [cop]),Zc (ne1 (ZL r _)),Zc (ne1 (ZL r _)),V8,Zc (by unfold Jr ZB;rw [hln];simp;omega),Zc (by unfold Jr ZB;rw [hln];simp;omega),Zc (ne1 (ZL r _)),Zc (ne1 (ZL r _)),Zc (by simp),if_neg (by simp)]
  have:ints e.p.cores++(E0++[[AV.val (.int .i64 core)]])=ints (e.p.cores++[core]):=by simp [ints]
  rw [this]
 | z :: ks, ps, q, hc, hq, hn => by
  obtain ⟨q',rfl⟩:∃ q',q=q'+1:=⟨q-1,by simp at hq;omega⟩
  have hz:e.p.cores[ps.length]? = Xa z:=by rw [hc];simp
  have hi:=(Xk.1 hz).1
  have hlen:((ints e.p.cores).length:Int)=(e.p.cores.length:Int):=by simp
  have hl1:((ps++[z]).length:Int)=((ps.length+1:Nat):Int):=by simp
  rw [Zkl,Zc (ne1 (ZL r _)),Zc (ne1 (ZL r _)),YS h hs (c:=.slice Xc 1 (ints e.p.cores)) rfl,V8,hlen,if_pos (by simp [cop];omega),Zc (ne1 (ZL r _)),Zc (ne1 (ZL r _)),V8,ZQ hz,ZaJ (by omega)]
  by_cases hk:z=core
  ·rw [if_pos (by simp [cop,hk]),if_pos (by simp [hk])]
  ·rw [if_neg (by simp [cop,hk])]
   have ih:=Zkz h hs core hl ks (ps++[z]) q' (by rw [hc];simp) (by simp at hq;omega) (by simp [hn,Ne.symm hk])
   rw [hl1] at ih
   rw [ih]
   simp [Ne.symm hk]
theorem s36 {x:LL} (h:ZD rows (r.frag++F)) (hsrt:r.es.Pairwise fun a b=>a.p.id < b.p.id) (hl:r.es.length≤64) (hx:Ze x = .oref (r.jr+1) 0) {k core:Int} (hcl:∀ e∈r.es,e.p.cores.length≤100) :
  ∃ rows' es',g36 x k core rows=Xa (VB r.es k core,rows')∧ZD rows' (({ r with es:=es' } : RS).frag++F)∧(VB r.es k core=0→es'=Yh k (ZnJ core) r.es)∧(VB r.es k core≠0→es'=r.es):=by
 rw [ZtX]
 cases ho:J6 r.es k with
 | none =>
  have hsp:VB r.es k core=17:=by unfold VB;rw [ho]
  rw [hsp,VT h (by omega) hx ho,Xi]
  dsimp only
  rw [Zc (ne1 Kn),Vu,if_pos (by decide)]
  exact ⟨rows,r.es,rfl,h,fun hh=>(by cases hh),fun _=>rfl⟩
 | some e =>
  obtain ⟨hf,hen⟩:=Je ho
  obtain ⟨pre,post,hs,rfl,hp⟩:=JX hf
  have hce:=hcl e (by rw [hs];simp)
  have hsp:VB r.es e.p.id core=if 0≤core∧core < 32 then (if core∈e.p.cores then 56 else 0) else 1:=by unfold VB;rw [ho]
  rw [hsp,KQ h (by omega) hx hs hp hen,Xi]
  dsimp only
  rw [Zc (ne1 (YX r _)),ZL,if_neg (by decide),s54,Xi]
  by_cases hr:0≤core∧core < 32
  ·simp only [if_pos hr]
   rw [decide_eq_true hr,if_neg (by decide)]
   have:=Zkz h hs core (by omega) e.p.cores [] Jv rfl (by unfold Jv;omega) (by simp)
   have hz:((([] : List Int).length:Nat):Int)=0:=rfl
   rw [hz] at this
   rw [this]
   by_cases hi:core∈e.p.cores
   ·simp only [if_pos hi]
    exact ⟨rows,r.es,rfl,h,fun hh=>(by cases hh),fun _=>rfl⟩
   ·simp only [if_neg hi]
    have hset:=Zez (r:=r) (e':=ZnJ core e) h hs (o:=3) (c:=.slice Xc 1 (ints (e.p.cores++[core]))) (by decide) rfl
    refine ⟨_,_,rfl,hset,fun _=>?_,fun hh=>absurd rfl hh⟩
    rw [hs] at hsrt
    rw [hs,Ve (f:=ZnJ core) hsrt rfl]
  ·simp only [if_neg hr]
   rw [decide_eq_false hr]
   exact ⟨rows,r.es,rfl,h,fun hh=>(by cases hh),fun _=>rfl⟩
end
section
open Go Go.AM Go.Proofs.Ytpjnmgjphfnmmaa
set_option maxRecDepth 100000
variable {rows:LL} {F:Ym} {r:RS} {es:List PE} {last:Int}
theorem Zi0 (h:LOk es last) {f:PE→PE} (hid:∀ e,(f e).p.id=e.p.id) (hp:∀ e∈es,0≤(f e).p.parent∧(f e).p.parent < e.p.id):LOk (es.map f) last:=by
 refine ⟨?_,fun e he=>?_,fun e he=>?_,by rw [Xp];exact h.len,h.lst,?_⟩
 ·rw [U9]
  exact h.srt.imp fun hab=>by rw [hid,hid];exact hab
 ·obtain ⟨a,ha,rfl⟩:=Xj.1 he
  rw [hid]
  exact h.rng a ha
 ·obtain ⟨a,ha,rfl⟩:=Xj.1 he
  rw [hid]
  exact hp a ha
 ·obtain ⟨a,ha,h1⟩:=h.one
  exact ⟨f a,Xj.2 ⟨a,ha,rfl⟩,by rw [hid];exact h1⟩
theorem Zdp (h:LOk es last) {k:Int} {f:Pr→Pr} (hid:∀ q,(f q).id=q.id) (hp:∀ e∈es,e.p.id=k→0≤(f e.p).parent∧(f e.p).parent < e.p.id):LOk (ZcM k f es) last:=by
 refine Zi0 h (fun e=>?_) fun e he=>?_
 ·split
  ·exact hid e.p
  ·rfl
 ·split
  ·exact hp e he ‹_›
  ·exact h.par e he
theorem Zbt (h:LOk es last) {k:Int} {f:PE→PE} (hid:∀ q,(f q).p.id=q.p.id) (hp:∀ e,(f e).p.parent=e.p.parent):LOk (Yh k f es) last:=by
 refine Zi0 h (fun e=>?_) fun e he=>?_
 ·split
  ·exact hid e
  ·rfl
 ·split
  ·rw [hp];exact h.par e he
  ·exact h.par e he
theorem Zjp (h:LOk es last) {k:Int} (hk:k≠1):LOk (V7 k es) last:=by
 refine ⟨h.srt.filter _,fun e he=>h.rng e (Wc.1 he).1,fun e he=>h.par e (Wc.1 he).1,XI (Un _ _) h.len,h.lst,?_⟩
 obtain ⟨a,ha,h1⟩:=h.one
 exact ⟨a,Wc.2 ⟨ha,by simp [h1,Ne.symm hk]⟩,h1⟩
theorem Zk3 (h:LOk es last) {par:Int} {c:Pr} (hc:c.id≠1):LOk (Yj es par c).1 last:=by
 unfold Yj
 split
 ·split
  ·exact Zjp (Zdp (f:=fun q=>{ q with waiting:=Xc }) h (fun _=>rfl) fun e he _=>h.par e he) hc
  ·exact h
 ·exact h
theorem Zgk (h:LOk es last) {pid k:Int} (hp:1≤pid):LOk (ZN pid es k).1 last:=by
 unfold ZN
 split
 ·rename_i c hc
  have hcm:=Ws hc
  have hck:c.p.id=k:=by have:=Wh hc;simpa using this
  split
  ·rename_i hpar
   have hpc:=h.par c hcm
   have hu:LOk (ZcM k (fun q=>{ q with parent:=1 }) es) last:=Zdp h (fun _=>rfl) fun e he hek=>⟨by show (0:Int)≤1;decide,by show (1:Int) < e.p.id;omega⟩
   split
   ·exact Zk3 hu (by show c.p.id≠1;omega)
   ·exact hu
  ·exact h
 ·exact h
theorem ZfF {pid:Int} (hp:1≤pid):∀ (ks:List Int) (es:List PE),LOk es last→LOk (ZT pid es ks).1 last
 | [], _, h => h
 | _ :: ks, _, h => ZfF hp ks _ (Zgk h hp)
theorem KM (h:LOk es last) {pid st:Int} : LOk (Y5 es pid st).1 last:=by
 unfold Y5
 split
 ·rename_i e he
  have hem:=Ws he
  have hid:e.p.id=pid:=by have:=Wh he;simpa using this
  have hr:=h.rng e hem
  have hu:LOk (Yh pid (Yb st) es) last:=Zbt h (fun _=>rfl) fun _=>rfl
  split
  ·exact hu
  ·exact Zk3 (ZfF (by omega) _ _ hu) (by show e.p.id≠1;omega)
 ·exact h
theorem Y0 {st:Int} : ∀ (zs:List Int) (es:List PE),LOk es last→LOk (Zi st es zs).1 last
 | [], _, h => h
 | z :: zs, es, h => by
  unfold Zi
  split
  ·exact Y0 zs _ (KM h)
  ·exact Y0 zs _ h
theorem ZqX (h:LOk es last) {k:Int} (hk:k≠1):V7 k es≠[]:=by
 obtain ⟨a,ha,_⟩:=(Zjp h hk).one
 intro hh
 rw [hh] at ha
 cases ha
theorem Zmh {γ:Type} {e:PE} (k:Int×Int×ByteArray×LL×Bool×Int×Bool→Option γ):Zl [VO e] 0 [.int .i64,.int .i64,.str,.slice 1,.bool,.int .i64,.bool] k=k (e.p.id,e.p.parent,e.p.name,ints e.p.cores,e.p.ended,e.p.status,e.p.waiting):=by
 refine YH (l:=[VO e]) (sh:=[.int .i64,.int .i64,.str,.slice 1,.bool,.int .i64,.bool]) (cs:=VO e) (r:=(e.p.id,e.p.parent,e.p.name,ints e.p.cores,e.p.ended,e.p.status,e.p.waiting)) k (by decide) rfl ?_
 rfl
theorem Zj1 {x:LL} (h:ZD rows (r.frag++F)) (hl:r.es.length≤64) (hx:Ze x = .oref (r.jr+1) 0) (k:Int):∀ (ks pre:List PE) (q:Nat),r.es=pre++ks→ks.length < q→V7 k r.es≠[]→
  Zmo q x k ((V7 k pre).map VO) (pre.length:Int) rows=Xa (Zd .set (Zd .push rows 0 ((V7 k r.es).map VO) []) 0 (Zd (.padd 0) x 0 E0 []) [.osl 57 (rows.length+1) (V7 k r.es).length])
 | [], pre, q, hs, hq, hne => by
  obtain ⟨q',rfl⟩:∃ q',q=q'+1:=⟨q-1,by simp at hq;omega⟩
  rw [XK] at hs
  have hn:Ze (Zd (.parr 57) rows (((V7 k r.es).map VO).length:Int) [] []) = .osl 57 (rows.length+1) (V7 k r.es).length:=by simp [Zd,Ze,ZP]
  rw [Zj6,Zc (ne1 (ZC hx)),Zc (ne1 (ZC hx)),KB h hx,Zp rfl,Zc (ne1 (Zal _ _)),YG,← hs,if_neg (by simp [cop]),Zc (ne1 (ZC hx)),Zc (ne1 (ZC hx)),Zc (by intro hh;exact hne (List.map_eq_nil_iff.1 hh)),Zc (by simp),hn]
 | e :: ks, pre, q, hs, hq, hne => by
  obtain ⟨q',rfl⟩:∃ q',q=q'+1:=⟨q-1,by simp at hq;omega⟩
  have hel:r.es.length=pre.length+ks.length+1:=by rw [hs];simp;omega
  have hl1:((pre++[e]).length:Int)=((pre.length+1:Nat):Int):=by simp
  have ih:=Zj1 h hl hx k ks (pre++[e]) q' (by rw [hs];simp) (by simp at hq;omega) hne
  rw [hl1] at ih
  have hpl:(V7 k pre).length≤pre.length:=Un _ _
  rw [Zj6,Zc (ne1 (ZC hx)),Zc (ne1 (ZC hx)),KB h hx,Zp rfl,Zc (ne1 (Zal _ _)),YG,if_pos (by simp [cop];omega),Zc (ne1 (ZC hx)),Zc (ne1 (ZC hx)),Zp rfl,Zc (by omega),YG,Zc (by omega),ZhK,Zc (ne1 (ZL r _)),YS h hs (c:=I e.p.id) rfl,ZJ,ZaJ (by omega)]
  by_cases hk:e.p.id=k
  ·rw [if_neg (by simp [cop,hk])]
   have e1:V7 k (pre++[e])=V7 k pre:=by
    unfold V7
    rw [UL,X9 (by simp [hk])]
    simp
   rw [e1] at ih
   exact ih
  ·rw [if_pos (by simp [cop,hk]),Zc (ne1 (ZC hx)),Zc (ne1 (ZC hx)),Zp rfl,Zc (by omega),YG,Zc (by omega),ZhK,Ztz h hs,Zmh,Zc (by unfold Jr ZB;simp;omega)]
   have e1:V7 k (pre++[e])=V7 k pre++[e]:=by
    unfold V7
    rw [UL,Wd (by simp [hk])]
    simp
   rw [e1,XN] at ih
   exact ih
theorem s61 {x:LL} (h:ZD rows (r.frag++F)) (hl:r.es.length≤64) (hx:Ze x = .oref (r.jr+1) 0) {k:Int} (hne:V7 k r.es≠[]) :
  ∃ rows' ja',g61 x k rows=Xa rows'∧ZD rows' (({ r with ja:=ja',es:=V7 k r.es } : RS).frag++([(r.ja,r.arr)]++F)):=by
 have hlp:=Zj1 h hl hx k r.es [] Jv rfl (by unfold Jv;omega) hne
 have hz:((([] : List PE).length:Nat):Int)=0:=rfl
 have hz2:(V7 k []).map VO = []:=rfl
 rw [hz,hz2] at hlp
 rw [ZtG,hlp]
 have hpush:Zd .push rows 0 ((V7 k r.es).map VO) []=rows++[((V7 k r.es).map VO).flatten]:=rfl
 have hp1:=h.push ((V7 k r.es).map VO).flatten
 have hp2:=hp1.perm (List.Perm.swap _ _ _)
 have hrj:(rows++[((V7 k r.es).map VO).flatten])[r.jr]? = Xa r.head:=hp2.get (.head _)
 rw [hpush,YM hx,Zao rfl hrj (by simp [RS.head])]
 refine ⟨_,rows.length,rfl,?_⟩
 exact hp2.set (r.head.set (0+0) (.osl 57 (rows.length+1) (V7 k r.es).length))
theorem s71 {x:LL} (h:ZD rows (r.frag++F)) (ho:LOk r.es r.last) (hx:Ze x = .oref (r.jr+1) 0) {c:PE} (hc:r.es.find? (fun e=>decide (e.p.id=c.p.id))=Xa c) (hc1:c.p.id≠1) :
  ∃ rows' ja' G,g71 x c.p.id rows=Xa (ZW (Yj r.es c.p.parent c.p).2,rows')∧ZD rows' (({ r with ja:=ja',es:=(Yj r.es c.p.parent c.p).1 } : RS).frag++(G++F)):=by
 obtain ⟨pre,post,hs,_,hp⟩:=JX hc
 have hl:=ho.len
 rw [Zud,VI h (by omega) hx hs hp,Xi]
 dsimp only
 rw [Zc (ne1 (YX r _)),ZL,if_neg (by decide),if_neg (by simp [cop,hc1]),Zc (by simp),Zc (by simp),YS h hs (c:=I c.p.parent) rfl,ZJ,Zc (by simp),Zc (by simp),YS h hs (c:=I c.p.status) rfl,ZJ,Zc (by simp),Zc (by simp),ZJ]
 unfold Yj
 cases hpf:r.es.find? (fun e=>decide (e.p.id=c.p.parent)) with
 | none =>
  rw [ZjY h (by omega) hx hpf,Xi]
  dsimp only
  rw [Zc (ne1 Kn),Vu,if_pos (by decide)]
  exact ⟨rows,r.ja,[],rfl,h⟩
 | some p =>
  obtain ⟨pre2,post2,hs2,hpk,hp2⟩:=JX hpf
  have h60:=VI h (by omega) hx hs2 hp2
  rw [hpk] at h60
  rw [h60,Xi]
  dsimp only
  rw [Zc (ne1 (YX r _)),ZL,if_neg (by decide),Zc (by simp),Zc (by simp),YS h hs2 (c:=B p.p.waiting) rfl,JR]
  cases hw:p.p.waiting with
  | false =>
   rw [if_pos (by decide),if_neg (by decide)]
   exact ⟨rows,r.ja,[],rfl,h⟩
  | true =>
   rw [if_neg (by decide),if_pos rfl,Zc (by simp),Zc (by simp),Zc (by simp)]
   have hset:=Zez (r:=r) (e':={ p with p:={ p.p with waiting:=Xc } }) h hs2 (o:=6) (c:=B Xc) (by decide) rfl
   have hsrt:=ho.srt
   rw [hs2] at hsrt
   have hup:=ZbA (f:=fun q=>{ q with waiting:=Xc }) hsrt hpk
   rw [← hs2] at hup
   rw [← hup] at hset
   have hu:LOk (ZcM c.p.parent (fun q=>{ q with waiting:=Xc }) r.es) r.last:=Zdp ho (fun _=>rfl) fun e he _=>ho.par e he
   obtain ⟨rows2,ja2,q1,q2⟩:=s61 (x:=x) (k:=c.p.id) hset hu.len hx (ZqX hu hc1)
   rw [q1]
   exact ⟨rows2,ja2,_,rfl,q2⟩
theorem ZcJ (a b:List PE) (id:Int):Jz (a++b) id=Jz a id++Jz b id:=by
 unfold Jz
 rw [UL,XN]
theorem Zj3 {x:LL} (h:ZD rows (r.frag++F)) (ho:LOk r.es r.last) (hx:Ze x = .oref (r.jr+1) 0) {id:Int} (hid:1≤id):∀ (ks pre:List PE) (q:Nat),r.es=pre++ks→ks.length < q→
  Zll q x id (ints (Jz pre id)) (pre.length:Int) rows=Xa (ints (Jz r.es id),rows)
 | [], pre, q, hs, hq => by
  obtain ⟨q',rfl⟩:∃ q',q=q'+1:=⟨q-1,by simp at hq;omega⟩
  rw [XK] at hs
  rw [Zjx,Zc (ne1 (ZC hx)),Zc (ne1 (ZC hx)),KB h hx,Zp rfl,Zc (ne1 (Zal _ _)),YG,← hs,if_neg (by simp [cop])]
 | e :: ks, pre, q, hs, hq => by
  obtain ⟨q',rfl⟩:∃ q',q=q'+1:=⟨q-1,by simp at hq;omega⟩
  have hl:=ho.len
  have hel:r.es.length=pre.length+ks.length+1:=by rw [hs];simp;omega
  have hl1:((pre++[e]).length:Int)=((pre.length+1:Nat):Int):=by simp
  have ih:=Zj3 h ho hx hid ks (pre++[e]) q' (by rw [hs];simp) (by simp at hq;omega)
  rw [hl1,ZcJ,Ka] at ih
  have hkl:(Jz pre id).length≤pre.length:=by
   unfold Jz
   rw [Xp]
   exact Un _ _
  rw [Zjx,Zc (ne1 (ZC hx)),Zc (ne1 (ZC hx)),KB h hx,Zp rfl,Zc (ne1 (Zal _ _)),YG,if_pos (by simp [cop];omega),Zc (ne1 (ZC hx)),Zc (ne1 (ZC hx)),Zp rfl,Zc (by omega),YG,Zc (by omega),ZhK,Zc (ne1 (ZL r _)),YS h hs (c:=I e.p.parent) rfl,ZJ,ZaJ (by omega)]
  by_cases hp:e.p.parent=id
  ·have hpe:=ho.par e (by rw [hs];simp)
   rw [if_pos hp] at ih
   rw [if_pos (by simp [cop,hp]),Zc (ne1 (ZC hx)),Zc (ne1 (ZC hx)),Zp rfl,Zc (by omega),YG,Zc (by omega),ZhK,Zc (ne1 (ZL r _)),YS h hs (c:=I e.p.id) rfl,ZJ,if_pos (by simp [cop];omega),Zc (ne1 (ZC hx)),Zc (ne1 (ZC hx)),Zp rfl,Zc (by omega),YG,Zc (by omega),ZhK,Zc (ne1 (ZL r _)),YS h hs (c:=I e.p.id) rfl,ZJ,Zc (by unfold Jr ZB;simp;omega)]
   have e1:ints (Jz pre id)++(E0++[[AV.val (.int .i64 e.p.id)]])=ints (Jz pre id++e.p.id::Jz [] id):=by simp [ints,Jz]
   rw [e1]
   exact ih
  ·rw [if_neg hp] at ih
   rw [if_neg (by simp [cop,hp])]
   have e1:Jz pre id++Jz [] id=Jz pre id:=by simp [Jz]
   rw [e1] at ih
   exact ih
theorem s59 {x:LL} (h:ZD rows (r.frag++F)) (ho:LOk r.es r.last) (hx:Ze x = .oref (r.jr+1) 0) {id:Int} (hid:1≤id):g59 x id rows=Xa (ints (Jz r.es id),rows):=by
 rw [Zum]
 exact Zj3 h ho hx hid r.es [] Jv rfl (by have:=ho.len;unfold Jv;omega)
end
section
open Go Go.AM Go.Proofs.Ytpjnmgjphfnmmaa
set_option maxRecDepth 100000
variable {rows:LL} {F:Ym} {r:RS} {es:List PE} {last:Int}
def pz (pid:Int) (es:List PE) (z:Int):Bool:=match es.find? (fun e=>decide (e.p.id=z)) with | none=>Xc | some c=>decide (c.p.parent=pid)
theorem Zc7 {pid:Int} : ∀ (ks:List Int) (es:List PE),ks.Nodup→(∀ z∈ks,∃ c,es.find? (fun e=>decide (e.p.id=z))=Xa c)→ZT pid es ks=ZT pid es (ks.filter (pz pid es))
 | [], _, _, _ => rfl
 | z :: ks, es, hn, hin => by
  rw [Wf] at hn
  obtain ⟨c,hc⟩:=hin z (by simp)
  by_cases hz:pz pid es z=Xb
  ·rw [Wd hz]
   have ih:=Zc7 (pid:=pid) ks (ZN pid es z).1 hn.2 fun y hy=>by
    obtain ⟨c',hc'⟩:=hin y (by simp [hy])
    obtain ⟨c1,t1,_⟩:=K8 (pid:=pid) (z:=z) (k:=y) (fun hh=>hn.1 (hh ▸ hy)) hc'
    exact ⟨c1,t1⟩
   have hcg:ks.filter (pz pid (ZN pid es z).1)=ks.filter (pz pid es):=by
    refine List.filter_congr fun y hy=>?_
    obtain ⟨c',hc'⟩:=hin y (by simp [hy])
    obtain ⟨c1,t1,_,_,t4,_⟩:=K8 (pid:=pid) (z:=z) (k:=y) (fun hh=>hn.1 (hh ▸ hy)) hc'
    unfold pz
    rw [t1,hc']
    dsimp only
    rw [t4]
   rw [hcg] at ih
   simp only [ZT,ih]
  ·rw [X9 hz]
   have hst:ZN pid es z=(es,[]):=by
    unfold pz at hz
    rw [hc] at hz
    unfold ZN
    rw [hc]
    dsimp only at hz ⊢
    rw [if_neg (by simpa using hz)]
   have ih:=Zc7 (pid:=pid) ks es hn.2 fun y hy=>hin y (by simp [hy])
   simp only [ZT,hst,XM]
   rw [ih]
theorem Zik (hs:es.Pairwise fun a b=>a.p.id < b.p.id):(es.map fun e=>e.p.id).Nodup:=by
 rw [Tv,U9]
 exact hs.imp fun hab hh=>by omega
theorem Znt (hs:es.Pairwise fun a b=>a.p.id < b.p.id) {z:Int} (hz:z∈es.map fun e=>e.p.id):∃ c,es.find? (fun e=>decide (e.p.id=z))=Xa c:=by
 obtain ⟨e,he,rfl⟩:=Xj.1 hz
 exact ⟨e,Jm hs he⟩
theorem Zkv (hs:es.Pairwise fun a b=>a.p.id < b.p.id) (pid:Int):(es.map fun e=>e.p.id).filter (pz pid es)=Jz es pid:=by
 rw [List.filter_map]
 unfold Jz
 congr 1
 refine List.filter_congr fun e he=>?_
 simp only [U4,pz,Jm hs he]
theorem Zm4 (hs:es.Pairwise fun a b=>a.p.id < b.p.id) (pid:Int):ZT pid es (es.map fun e=>e.p.id)=ZT pid es (Jz es pid):=by
 rw [Zc7 _ _ (Zik hs) fun z hz=>Znt hs hz,Zkv hs]
theorem ZjA {x:LL} {zs:List Int} (hzl:zs.length≤64) {pid:Int} (hp1:1≤pid):∀ (ks pre:List Int) (rows:LL) (F:Ym) (r:RS) (e:PE) (acc:LL) (q:Nat),zs=pre++ks→ks.length < q→ks.Nodup→pid∉ks→(∀ z∈ks,∃ c,r.es.find? (fun e=>decide (e.p.id=z))=Xa c∧c.p.parent=pid)→ZD rows (r.frag++F)→LOk r.es r.last→Ze x = .oref (r.jr+1) 0→
  r.es.find? (fun e=>decide (e.p.id=pid))=Xa e→acc.length+ks.length≤100000→
  ∃ rows' ja' G q' e',Zin q x pid acc (ints zs) (pre.length:Int) rows=Zin (q'+1) x pid (acc++ZW (ZT pid r.es ks).2) (ints zs) (zs.length:Int) rows'∧
   ZD rows' (({ r with ja:=ja',es:=(ZT pid r.es ks).1 } : RS).frag++(G++F))∧(ZT pid r.es ks).1.find? (fun e=>decide (e.p.id=pid))=Xa e'∧e'.p.id=e.p.id∧e'.p.parent=e.p.parent∧e'.p.status=e.p.status
 | [], pre, rows, F, r, e, acc, q, hz, hq, _, _, _, h, _, _, he, _ => by
  obtain ⟨q',rfl⟩:∃ q',q=q'+1:=⟨q-1,by simp at hq;omega⟩
  have hl:zs.length=pre.length:=by rw [hz,XK]
  exact ⟨rows,r.ja,[],q',e,by rw [hl];simp [ZT,ZW],h,he,rfl,rfl,rfl⟩
 | z :: ks, pre, rows, F, r, e, acc, q, hz, hq, hn, hpn, hin, h, ho, hx, he, hacc => by
  obtain ⟨q',rfl⟩:∃ q',q=q'+1:=⟨q-1,by simp at hq;omega⟩
  rw [Wf] at hn
  obtain ⟨c,hc,hcp⟩:=hin z (by simp)
  obtain ⟨cpre,cpost,hs,rfl,hp⟩:=JX hc
  have hz1:zs[pre.length]? = Xa c.p.id:=by rw [hz];simp
  have hlt:=(Xk.1 hz1).1
  have hl:=ho.len
  have hlen:((ints zs).length:Int)=(zs.length:Int):=by simp
  have hl1:((pre++[c.p.id]).length:Int)=((pre.length+1:Nat):Int):=by simp
  have hcm:c∈r.es:=by rw [hs];simp
  have hcpar:=ho.par c hcm
  obtain ⟨c1,hc1'⟩:∃ c1,c1=({ c with p:={ c.p with parent:=1 } } : PE):=⟨_,rfl⟩
  have hset:=Zez (r:=r) (e':=c1) h hs (o:=1) (c:=I 1) (by decide) (by rw [hc1'];rfl)
  have hsrt:=ho.srt
  have hup:ZcM c.p.id (fun q=>{ q with parent:=1 }) r.es=cpre++c1::cpost:=by
   rw [hs] at hsrt
   rw [hs,ZbA (f:=fun q=>{ q with parent:=1 }) hsrt rfl,hc1']
  have hu:LOk (cpre++c1::cpost) r.last:=by
   rw [← hup]
   exact Zdp ho (fun _=>rfl) fun a ha hac=>⟨by show (0:Int)≤1;decide,by show (1:Int) < a.p.id;omega⟩
  have hpne:pid≠c.p.id:=fun hh=>hpn (by simp [hh])
  have hfe:∃ e1,(ZN pid r.es c.p.id).1.find? (fun a=>decide (a.p.id=pid))=Xa e1∧e1.p.id=e.p.id∧e1.p.parent=e.p.parent∧e1.p.status=e.p.status:=by
   obtain ⟨e1,g1,_,g3,g4,g5⟩:=K8 (pid:=pid) hpne he
   exact ⟨e1,g1,g3,g4,g5⟩
  obtain ⟨e1,g1,g3,g4,g5⟩:=hfe
  have hin':∀ y∈ks,∃ c',(ZN pid r.es c.p.id).1.find? (fun e=>decide (e.p.id=y))=Xa c'∧c'.p.parent=pid:=fun y hy=>by
   obtain ⟨c',hc',hcp'⟩:=hin y (by simp [hy])
   obtain ⟨c2,t1,_,_,t4,_⟩:=K8 (pid:=pid) (z:=c.p.id) (k:=y) (fun hh=>hn.1 (hh ▸ hy)) hc'
   exact ⟨c2,t1,t4.trans hcp'⟩
  -- one turn
  have key:∃ rows1 ja1 G1,Zin (q'+1) x pid acc (ints zs) (pre.length:Int) rows=Zin q' x pid (acc++ZW (ZN pid r.es c.p.id).2) (ints zs) ((pre.length+1:Nat):Int) rows1∧ZD rows1 (({ r with ja:=ja1,es:=(ZN pid r.es c.p.id).1 } : RS).frag++(G1++F)):=by
   rw [ZjR,hlen,if_pos (by simp [cop];omega),ZQ hz1,VI h (by omega) hx hs hp,Xi]
   dsimp only
   rw [Zc (ne1 (ZL r _)),Zc (ne1 (ZL r _)),Zc (by rw [YS h hs (c:=I c.p.parent) rfl];simp),Zc (ne1 (ZL r _)),Zc (ne1 (ZL r _))]
   have hge:=YS (r:={ r with es:=cpre++c1::cpost }) hset (pre:=cpre) (post:=cpost) (e:=c1) rfl (o:=4) (c:=B c1.p.ended) rfl
   have hrn:rn ({ r with es:=cpre++c1::cpost } : RS) cpre.length=rn r cpre.length:=rfl
   rw [hrn] at hge
   rw [hge,JR,ZaJ (by omega)]
   have hcen:c1.p.ended=c.p.ended:=by rw [hc1']
   rw [hcen]
   have hstep:ZN pid r.es c.p.id=if c.p.ended=Xb then Yj (cpre++c1::cpost) 1 c1.p else (cpre++c1::cpost,[]):=by
    unfold ZN
    rw [hc]
    dsimp only
    rw [if_pos hcp,hup,show c1.p = { c.p with parent:=1 } from by rw [hc1']]
   rw [hstep]
   cases hen:c.p.ended with
   | true =>
    rw [if_pos rfl,if_pos rfl,ZQ hz1]
    have hfc1:({ r with es:=cpre++c1::cpost } : RS).es.find? (fun e=>decide (e.p.id=c1.p.id))=Xa c1:=Jm hu.srt (by simp)
    have hci:c1.p.id=c.p.id:=by rw [hc1']
    have hcp1:c1.p.parent=1:=by rw [hc1']
    obtain ⟨rows2,ja2,G2,t1,t2⟩:=s71 (r:={ r with es:=cpre++c1::cpost }) hset hu hx hfc1 (by omega)
    rw [hcp1] at t1 t2
    rw [hci] at t1
    dsimp only at t1 t2
    rw [t1,Xi,Zc (ZgJ (by omega) (by simp only [ZW,Xp];exact W1 _ _ _))]
    exact ⟨rows2,ja2,G2,rfl,t2⟩
   | false =>
    rw [if_neg (by decide),if_neg (by decide)]
    exact ⟨_,r.ja,[],by simp [ZW],hset⟩
  obtain ⟨rows1,ja1,G1,k1,k2⟩:=key
  have hst:LOk (ZN pid r.es c.p.id).1 r.last:=Zgk ho hp1
  obtain ⟨rows2,ja2,G2,q2,e2,r1,r2,r4,r5,r6,r7⟩:=ZjA hzl hp1 ks (pre++[c.p.id]) rows1 (G1++F) { r with ja:=ja1,es:=(ZN pid r.es c.p.id).1 } e1 (acc++ZW (ZN pid r.es c.p.id).2) q' (by rw [hz];simp) (by simp at hq;omega) hn.2 (fun hh=>hpn (by simp [hh])) hin' k2 hst hx g1 (by have:=ZfR pid r.es c.p.id;simp only [Xu,ZW,Xp,Xz] at hacc ⊢; omega)
  refine ⟨rows2,ja2,G2++G1,q2,e2,?_,by rw [Xo];exact r2,r4,r5.trans g3,r6.trans g4,r7.trans g5⟩
  rw [k1]
  rw [hl1] at r1
  rw [r1]
  simp only [ZT,ZW,XN,Xo]
theorem Zrf {x:LL} (h:ZD rows (r.frag++F)) (hl:r.es.length≤64) (hx:Ze x = .oref (r.jr+1) 0) {k st:Int} (hf:J6 r.es k=Xe):g57 x k st rows=Xa ([],rows):=by
 rw [Zq5,VT h (by omega) hx hf,Xi]
 dsimp only
 rw [Zc (ne1 Kn),Vu,if_pos (by decide)]
theorem s57 {x:LL} (h:ZD rows (r.frag++F)) (ho:LOk r.es r.last) (hx:Ze x = .oref (r.jr+1) 0) {e:PE} {k:Int} (hf:J6 r.es k=Xa e) (st:Int) :
  ∃ rows' ja' G,g57 x k st rows=Xa (ZW (Y5 r.es k st).2,rows')∧ZD rows' (({ r with ja:=ja',es:=(Y5 r.es k st).1 } : RS).frag++(G++F)):=by
 obtain ⟨hfe,hen⟩:=Je hf
 obtain ⟨pre,post,hs,rfl,hp⟩:=JX hfe
 have hl:=ho.len
 rw [Zq5,KQ h (by omega) hx hs hp hen,Xi]
 dsimp only
 obtain ⟨e1,he1⟩:∃ e1,e1=({ e with p:={ e.p with ended:=Xb } } : PE):=⟨_,rfl⟩
 obtain ⟨e2,he2⟩:∃ e2,e2=({ e with p:={ e.p with ended:=Xb,cores:=[] } } : PE):=⟨_,rfl⟩
 obtain ⟨e3,he3⟩:∃ e3,e3=({ e with p:={ e.p with ended:=Xb,cores:=[],waiting:=Xc } } : PE):=⟨_,rfl⟩
 have h1:=Zez (r:=r) (e':=e1) h hs (o:=4) (c:=B Xb) (by decide) (by rw [he1];rfl)
 have h2:=Zez (r:={ r with es:=pre++e1::post }) (e':=e2) h1 (pre:=pre) (post:=post) (e:=e1) rfl (o:=3) (c:=.slice Xc 1 []) (by decide) (by rw [he1,he2];rfl)
 have h3:=Zez (r:={ r with es:=pre++e2::post }) (e':=e3) h2 (pre:=pre) (post:=post) (e:=e2) rfl (o:=6) (c:=B Xc) (by decide) (by rw [he2,he3];rfl)
 have h4:=Zez (r:={ r with es:=pre++e3::post }) (e':=Yb st e) h3 (pre:=pre) (post:=post) (e:=e3) rfl (o:=5) (c:=I st) (by decide) (by rw [he3];rfl)
 have g1:=YS (r:={ r with es:=pre++e1::post }) h1 (pre:=pre) (post:=post) (e:=e1) rfl (o:=3) (c:=.slice Xc 1 (ints e1.p.cores)) rfl
 have g2:=YS (r:={ r with es:=pre++e2::post }) h2 (pre:=pre) (post:=post) (e:=e2) rfl (o:=6) (c:=B e2.p.waiting) rfl
 have g3:=YS (r:={ r with es:=pre++e3::post }) h3 (pre:=pre) (post:=post) (e:=e3) rfl (o:=5) (c:=I e3.p.status) rfl
 have hn1:rn ({ r with es:=pre++e1::post } : RS) pre.length=rn r pre.length:=rfl
 have hn2:rn ({ r with es:=pre++e2::post } : RS) pre.length=rn r pre.length:=rfl
 have hn3:rn ({ r with es:=pre++e3::post } : RS) pre.length=rn r pre.length:=rfl
 rw [hn1] at g1 h2
 rw [hn2] at g2 h3
 rw [hn3] at g3 h4
 rw [Zc (ne1 (YX r _)),ZL,if_neg (by decide),Zc (by simp),Zc (by simp),Zc (by rw [YS h hs (c:=B e.p.ended) rfl];simp),Zc (by simp),Zc (by simp),Zc (by rw [g1];simp),Zc (by simp),Zc (by simp),Zc (by rw [g2];simp),Zc (by simp),Zc (by simp),Zc (by rw [g3];simp)]
 have hsrt:=ho.srt
 have hup:Yh e.p.id (Yb st) r.es=pre++Yb st e::post:=by
  rw [hs] at hsrt
  rw [hs,Ve (f:=Yb st) hsrt rfl]
 unfold Y5
 rw [hfe]
 dsimp only at h4 ⊢
 rw [← hup] at h4
 have hu:LOk (Yh e.p.id (Yb st) r.es) r.last:=Zbt ho (fun _=>rfl) fun _=>rfl
 by_cases hid:e.p.id=1
 ·rw [if_pos (by simp [cop,hid]),if_pos hid]
  exact ⟨_,r.ja,[],rfl,h4⟩
 ·have hem:e∈r.es:=by rw [hs];simp
  have hrg:=ho.rng e hem
  rw [if_neg (by simp [cop,hid]),if_neg hid,s59 (r:={ r with es:=Yh e.p.id (Yb st) r.es }) h4 hu hx hrg.1,Xi]
  dsimp only
  have hids:(r.es.map fun e=>e.p.id)=(Yh e.p.id (Yb st) r.es).map fun e=>e.p.id:=(ZgF (f:=Yb st) fun _=>rfl).symm
  rw [hids,Zm4 hu.srt]
  have hkm:∀ z∈Jz (Yh e.p.id (Yb st) r.es) e.p.id,∃ c,(Yh e.p.id (Yb st) r.es).find? (fun e=>decide (e.p.id=z))=Xa c∧c.p.parent=e.p.id:=fun z hz=>by
   obtain ⟨c,hc,rfl⟩:=Xj.1 hz
   rw [Wc] at hc
   exact ⟨c,Jm hu.srt hc.1,by simpa using hc.2⟩
  have hkl:(Jz (Yh e.p.id (Yb st) r.es) e.p.id).length≤64:=by
   unfold Jz
   rw [Xp]
   exact XI (Un _ _) hu.len
  have hkn:(Jz (Yh e.p.id (Yb st) r.es) e.p.id).Nodup:=by
   rw [← Zkv hu.srt]
   exact (Zik hu.srt).filter _
  have hkp:e.p.id∉Jz (Yh e.p.id (Yb st) r.es) e.p.id:=fun hh=>by
   obtain ⟨c,hc,hcp⟩:=hkm _ hh
   have hcm:=Ws hc
   have hci:c.p.id=e.p.id:=by have:=Wh hc;simpa using this
   have:=hu.par c hcm
   omega
  have hfe2:=ZdZ (k:=e.p.id) (f:=Yb st) (fun _=>rfl) hfe
  rw [if_pos rfl] at hfe2
  obtain ⟨rows2,ja2,G2,q2,e5,r1,r2,r4,r5,r6,r7⟩:=ZjA hkl hrg.1 (Jz (Yh e.p.id (Yb st) r.es) e.p.id) [] _ F { r with es:=Yh e.p.id (Yb st) r.es } (Yb st e) [] Jv rfl (by unfold Jv;omega) hkn hkp hkm h4 hu hx hfe2 (by simp;omega)
  have hz:((([] : List Int).length:Nat):Int)=0:=rfl
  rw [hz] at r1
  dsimp only at r1 r2 r4
  have hlen:((ints (Jz (Yh e.p.id (Yb st) r.es) e.p.id)).length:Int)=((Jz (Yh e.p.id (Yb st) r.es) e.p.id).length:Int):=by simp
  have hlk:LOk (ZT e.p.id (Yh e.p.id (Yb st) r.es) (Jz (Yh e.p.id (Yb st) r.es) e.p.id)).1 r.last:=ZfF hrg.1 _ _ hu
  have h5id:e5.p.id=e.p.id:=r5
  have r4':(ZT e.p.id (Yh e.p.id (Yb st) r.es) (Jz (Yh e.p.id (Yb st) r.es) e.p.id)).1.find? (fun a=>decide (a.p.id=e5.p.id))=Xa e5:=by rw [h5id];exact r4
  obtain ⟨rows3,ja3,G3,t1,t2⟩:=s71 (r:={ r with ja:=ja2,es:=(ZT e.p.id (Yh e.p.id (Yb st) r.es) (Jz (Yh e.p.id (Yb st) r.es) e.p.id)).1 }) r2 hlk hx (c:=e5) r4' (by omega)
  dsimp only at t1 t2
  have htc:∀ es,Yj es e5.p.parent e5.p=Yj es e.p.parent (Yb st e).p:=fun es=>by
   rw [show e5.p.parent=e.p.parent from r6]
   exact Ze4 h5id r7
  rw [htc] at t1 t2
  rw [h5id] at t1
  rw [r1,ZjR,hlen,if_neg (by simp [cop]),t1,Xi,Zc (ZgJ ?_ ?_)]
  ·refine ⟨rows3,ja3,G3++G2,?_,by rw [Xo];exact t2⟩
   simp only [ZW,XN,XM]
  ·have:=ZcT e.p.id (Jz (Yh e.p.id (Yb st) r.es) e.p.id) (Yh e.p.id (Yb st) r.es)
   simp only [XM,ZW,Xp] at this ⊢
   omega
  ·simp only [ZW,Xp]
   exact W1 _ _ _
theorem s37 {x:LL} (h:ZD rows (r.frag++F)) (ho:LOk r.es r.last) (hx:Ze x = .oref (r.jr+1) 0) (k st:Int) :
  ∃ rows' ja' G,g37 x k st rows=Xa (ZW (K4 r.es k st).1.2,(K4 r.es k st).2,rows')∧ZD rows' (({ r with ja:=ja',es:=(K4 r.es k st).1.1 } : RS).frag++(G++F)):=by
 have hl:=ho.len
 rw [Zux]
 unfold K4
 cases hf:J6 r.es k with
 | none =>
  rw [VT h (by omega) hx hf,Xi]
  dsimp only
  rw [Zc (ne1 Kn),Vu,if_pos (by decide)]
  exact ⟨rows,r.ja,[],rfl,h⟩
 | some e =>
  obtain ⟨hfe,hen⟩:=Je hf
  obtain ⟨pre,post,hs,rfl,hp⟩:=JX hfe
  rw [KQ h (by omega) hx hs hp hen,Xi]
  dsimp only
  rw [Zc (ne1 (YX r _)),ZL,if_neg (by decide)]
  by_cases h1:st < 0
  ·rw [if_pos (by simp [cop,h1]),if_pos h1]
   exact ⟨rows,r.ja,[],rfl,h⟩
  ·rw [if_neg (by simp [cop];omega),if_neg h1]
   by_cases h2:255 < st
   ·rw [if_pos (by simp [cop,h2]),if_pos h2]
    exact ⟨rows,r.ja,[],rfl,h⟩
   ·rw [if_neg (by simp [cop];omega),if_neg h2]
    obtain ⟨rows1,ja1,G1,q1,q2⟩:=s57 h ho hx hf st
    rw [q1]
    exact ⟨rows1,ja1,G1,rfl,q2⟩
end
section
open Go Go.AM Go.Proofs.Ytpjnmgjphfnmmaa
set_option maxRecDepth 100000
variable {rows:LL} {F:Ym} {r:RS} {es:List PE} {last:Int}
theorem ZfD {x:LL} (h:ZD rows (r.frag++F)) (ho:LOk r.es r.last) (hx:Ze x = .oref (r.jr+1) 0) (id:Int) {pp pq:List PE} {p:PE} (hpp:r.es=pp++p::pq):∀ (ks pre:List PE) (q:Nat),r.es=pre++ks→ks.length < q→
  ZpJ q x id 0 0 0 (rn r pp.length) (ints (Jz r.es id)) ((Jz pre id).length:Int) rows =
   match ks.find? (fun e=>decide (e.p.parent=id)&&e.p.ended) with
   | some c => (g61 x c.p.id rows).bind fun r16 => Xa (id, c.p.id, c.p.status, Xb, 0, r16)
   | none => Xa (0, 0, 0, Xc, 0, Zd .set rows 0 (Zd (.padd 6) (rn r pp.length) 0 E0 []) [B Xb])
 | [], pre, q, hs, hq => by
  obtain ⟨q',rfl⟩:∃ q',q=q'+1:=⟨q-1,by simp at hq;omega⟩
  rw [XK] at hs
  have hlen:((ints (Jz r.es id)).length:Int)=((Jz r.es id).length:Int):=by simp
  rw [Zkt,hlen,← hs,if_neg (by simp [cop]),Zc (ne1 (ZL r _)),Zc (ne1 (ZL r _)),Zc (by rw [YS h hpp (c:=B p.p.waiting) rfl];simp)]
  rfl
 | e :: ks, pre, q, hs, hq => by
  have hl:=ho.len
  by_cases hp:e.p.parent=id
  ·obtain ⟨q',rfl⟩:∃ q',q=q'+1:=⟨q-1,by simp at hq;omega⟩
   have hlen:((ints (Jz r.es id)).length:Int)=((Jz r.es id).length:Int):=by simp
   have hke:Jz r.es id=Jz pre id++e.p.id::Jz ks id:=by rw [hs,ZcJ,Ka,if_pos hp]
   have hz:(Jz r.es id)[(Jz pre id).length]? = Xa e.p.id:=by rw [hke];simp
   have hlt:=(Xk.1 hz).1
   have hkl:(Jz r.es id).length≤64:=by
    unfold Jz
    rw [Xp]
    exact XI (Un _ _) hl
   have hem:e∈r.es:=by rw [hs];simp
   obtain ⟨pre2,post2,hs2,_,hp2⟩:=JX (Jm ho.srt hem)
   rw [Zkt,hlen,if_pos (by simp [cop];omega),ZQ hz,VI h (by omega) hx hs2 hp2,Xi]
   dsimp only
   rw [Zc (ne1 (ZL r _)),Zc (ne1 (ZL r _)),YS h hs2 (c:=B e.p.ended) rfl,JR]
   cases hen:e.p.ended with
   | true =>
    rw [if_pos rfl,Zc (ne1 (ZL r _)),Zc (ne1 (ZL r _)),YS h hs2 (c:=I e.p.id) rfl,ZJ,Zc (ne1 (ZL r _)),Zc (ne1 (ZL r _)),YS h hs2 (c:=I e.p.status) rfl,ZJ,Zc (ne1 (ZL r _)),Zc (ne1 (ZL r _)),ZJ]
    simp only [UV,hp,hen,decide_true,X8]
   | false =>
    have ih:=ZfD h ho hx id hpp ks (pre++[e]) q' (by rw [hs];simp) (by simp at hq;omega)
    have hk1:((Jz (pre++[e]) id).length:Int)=(((Jz pre id).length+1:Nat):Int):=by rw [ZcJ,Ka,if_pos hp];simp [Jz]
    rw [hk1] at ih
    rw [if_neg (by decide),ZaJ (by omega),ih]
    simp only [UV,hp,hen,decide_true,X8]
  ·have ih:=ZfD h ho hx id hpp ks (pre++[e]) q (by rw [hs];simp) (by simp at hq;omega)
   have hk1:Jz (pre++[e]) id=Jz pre id:=by rw [ZcJ,Ka,if_neg hp];simp [Jz]
   rw [hk1] at ih
   rw [ih]
   simp only [UV,hp,decide_false,Bool.false_and]
theorem Zko (es:List PE) (id:Int):(es.any fun e=>decide (e.p.parent=id))=Xb↔Jz es id≠[]:=by
 induction es with
 | nil => simp [Jz]
 | cons e es ih =>
  rw [U8,Ka]
  by_cases hp:e.p.parent=id
  ·simp [hp]
  ·rw [if_neg hp,← ih]
   simp [hp]
theorem s40 {x:LL} (h:ZD rows (r.frag++F)) (ho:LOk r.es r.last) (hx:Ze x = .oref (r.jr+1) 0) (k:Int) :
  ∃ rows' ja' G,g40 x k rows=Xa ((Y2 r.es k).2.1,(Y2 r.es k).2.2.1,(Y2 r.es k).2.2.2.1,(Y2 r.es k).2.2.2.2.1,(Y2 r.es k).2.2.2.2.2,rows')∧ZD rows' (({ r with ja:=ja',es:=(Y2 r.es k).1 } : RS).frag++(G++F)):=by
 have hl:=ho.len
 rw [ZtF]
 unfold Y2
 cases hf:J6 r.es k with
 | none =>
  rw [VT h (by omega) hx hf,Xi]
  dsimp only
  rw [Zc (ne1 Kn),Vu,if_pos (by decide)]
  exact ⟨rows,r.ja,[],rfl,h⟩
 | some p =>
  obtain ⟨hfe,hen⟩:=Je hf
  obtain ⟨pre,post,hs,rfl,hp⟩:=JX hfe
  have hpm:p∈r.es:=by rw [hs];simp
  have hrg:=ho.rng p hpm
  rw [KQ h (by omega) hx hs hp hen,Xi]
  dsimp only
  rw [Zc (ne1 (YX r _)),ZL,if_neg (by decide),Zc (by simp),Zc (by simp),YS h hs (c:=B p.p.waiting) rfl,JR]
  cases hw:p.p.waiting with
  | true => exact ⟨rows, r.ja, [], rfl, h⟩
  | false =>
   rw [if_neg (by decide),if_neg (by decide),s59 h ho hx hrg.1,Xi]
   dsimp only
   by_cases hk:Jz r.es p.p.id = []
   ·have hany:(r.es.any fun e=>decide (e.p.parent=p.p.id))=Xc:=by
     have:=Zko r.es p.p.id
     rw [hk] at this
     simpa using this
    have hfn:r.es.find? (fun e=>decide (e.p.parent=p.p.id)&&e.p.ended)=Xe:=by
     rw [Tl]
     intro a ha
     have:=List.any_eq_false.1 hany a ha
     simp at this ⊢
     intro hh
     exact absurd hh this
    rw [hk,if_pos (by decide),hfn]
    dsimp only
    rw [if_neg (by rw [hany];decide)]
    exact ⟨rows,r.ja,[],rfl,h⟩
   ·have hany:(r.es.any fun e=>decide (e.p.parent=p.p.id))=Xb:=(Zko r.es p.p.id).2 hk
    have hlen:((ints (Jz r.es p.p.id)).length:Int)=((Jz r.es p.p.id).length:Int):=by simp
    have hlp:=ZfD h ho hx p.p.id hs r.es [] Jv rfl (by unfold Jv;omega)
    have hz:(((Jz [] p.p.id).length:Nat):Int)=0:=rfl
    rw [hz] at hlp
    rw [hlen,if_neg (by simp [cop,hk]),hlp]
    cases hfc:r.es.find? (fun e=>decide (e.p.parent=p.p.id)&&e.p.ended) with
    | some c =>
     have hcm:=Ws hfc
     have hcp:c.p.parent=p.p.id:=by
      have:=Wh hfc
      rw [Xs] at this
      simpa using this.1
     have hcpar:=ho.par c hcm
     obtain ⟨rows2,ja2,q1,q2⟩:=s61 (x:=x) (k:=c.p.id) h hl hx (ZqX ho (by omega))
     dsimp only
     rw [q1]
     exact ⟨rows2,ja2,_,rfl,q2⟩
    | none =>
     dsimp only
     rw [if_pos hany]
     have hset:=Zez (r:=r) (e':={ p with p:={ p.p with waiting:=Xb } }) h hs (o:=6) (c:=B Xb) (by decide) rfl
     have hsrt:=ho.srt
     rw [hs] at hsrt
     have hup:=ZbA (f:=fun q=>{ q with waiting:=Xb }) hsrt rfl
     rw [← hs] at hup
     rw [← hup] at hset
     exact ⟨_,r.ja,[],rfl,hset⟩
theorem ZbQ:∀ (a b:List Int),a.Pairwise (fun x y=>x≤y)→b.Pairwise (fun x y=>x≤y)→a.Perm b→a=b
 | [], b, _, _, h => (List.nil_perm.1 h).symm
 | x :: a, b, ha, hb, h => by
  cases b with
  | nil => exact (List.perm_nil.1 h)
  | cons y b =>
   have ha':=Ug.1 ha
   have hb':=Ug.1 hb
   have h1:x∈y::b:=h.mem_iff.1 (by simp)
   have h2:y∈x::a:=h.mem_iff.2 (by simp)
   have h3:y≤x:=by
    rcases Xq.1 h1 with rfl | h1
    ·omega
    ·exact hb'.1 _ h1
   have h4:x≤y:=by
    rcases Xq.1 h2 with rfl | h2
    ·omega
    ·exact ha'.1 _ h2
   have:x=y:=by omega
   subst this
   rw [ZbQ a b ha'.2 hb'.2 (List.perm_cons x |>.1 h)]
theorem KT (l:List Int):(srt l).Perm l:=List.mergeSort_perm l _
theorem WV (l:List Int):(srt l).Pairwise (fun x y=>x≤y):=by
 have:=List.pairwise_mergeSort (le:=fun a b:Int=>decide (a≤b)) (fun a b c h1 h2=>by simp at *; omega) (fun a b=>by simp;omega) l
 exact this.imp fun h=>by simpa using h
theorem ZnN {a b:List Int} (h:a.Perm b):srt a=srt b:=ZbQ _ _ (WV a) (WV b) ((KT a).trans (h.trans (KT b).symm))
theorem ZjI (l:List Int) (w:Nat) (hw:w < l.length) (z:Int):Jf (ints l) w 0 [AV.val (.int .i64 z)]=ints (l.set w z):=by
 have:(ints l)[w]? = Xa [I l[w]]:=by unfold ints;rw [Xl,Xr hw];rfl
 have hm:=modify_set this (fun x=>setCells x 0 [AV.val (.int .i64 z)])
 rw [show Jf (ints l) w 0 [AV.val (.int .i64 z)]=(ints l).modify w (fun x=>setCells x 0 [AV.val (.int .i64 z)]) from rfl,hm]
 unfold ints
 rw [List.map_set]
 rfl
theorem Zsg (rec0:List V→Option LL) (i:Nat) (hi:i < 50000):∀ (j fuel:Nat) (A:List Int) (x:Int) (Bs D:List Int),j < fuel→A.length=j→(A++Bs).Pairwise (fun x y=>x≤y)→(∀ b∈Bs,x≤b)→A.length+Bs.length=i→
  ∃ X:List Int,X.Perm (A++x::(Bs++D))∧(X.take (i+1)).Pairwise (fun x y=>x≤y)∧ZqD rec0 fuel (ints (A++x::(Bs++D))) (i:Int) (j:Int)=rec0 [.l (ints X),.i ((i+1:Nat):Int)]:=by
 intro j
 induction j with
 | zero =>
  intro fuel A x Bs D hf hA hs hx hl
  obtain ⟨f,rfl⟩:∃ f,fuel=f+1:=⟨fuel-1,by omega⟩
  obtain rfl:=Ty.1 hA
  refine ⟨_,List.Perm.refl _,?_,?_⟩
  ·have hBi:Bs.length=i:=by simpa using hl
   have:List.take (i+1) ([]++x::(Bs++D))=x::Bs:=by
    rw [XM,List.take_succ_cons,Tz (by omega),← hBi,Ti]
   rw [this]
   exact Ug.2 ⟨hx,hs⟩
  ·rw [Zkn,if_neg (by simp [cop]),ZaJ (by omega)]
 | succ j ih =>
  intro fuel A x Bs D hf hA hs hx hl
  obtain ⟨f,rfl⟩:∃ f,fuel=f+1:=⟨fuel-1,by omega⟩
  obtain ⟨A',a,rfl⟩:∃ A' a,A=A'++[a]:=⟨A.dropLast,A.getLast (fun h=>by rw [h] at hA;simp at hA),(List.dropLast_concat_getLast _).symm⟩
  have hA':A'.length=j:=by simpa using hA
  have hform:(A'++[a])++x::(Bs++D)=A'++a::x::(Bs++D):=by simp
  have hli:A'.length+1+Bs.length=i:=by simpa using hl
  rw [hform]
  have hsub:iop .sub .i64 ((j+1:Nat):Int) 1=(j:Int):=by rw [ZuT (by omega) (by omega)];omega
  have e1:(A'++a::x::(Bs++D))[j+1]? = Xa x:=by rw [Xy (by omega),hA'];simp
  have e0:(A'++a::x::(Bs++D))[j]? = Xa a:=by rw [Xy (by omega),hA'];simp
  have hXl:(A'++a::x::(Bs++D)).length=j+2+Bs.length+D.length:=by simp;omega
  have hlen:∀ l:List Int,((ints l).length:Int)=(l.length:Int):=fun l=>by simp
  rw [Zkn,if_pos (by simp [cop]),hsub,Zc (by omega),hlen,Zc (by omega),ZQ e1,Zc (by omega),Zc (by omega),ZQ e0]
  by_cases hlt:x < a
  ·rw [if_pos (by simp [cop,hlt]),Zc (by omega),Zc (by omega),ZQ e1,Zc (by omega),Zc (by omega),ZQ e0,Zc (by omega),Zc (by omega),Zc (by omega),Zc (by omega),Wr,Wr,ZjI _ _ (by omega),hlen,UO,Zc (by omega),Zc (by omega),Zc (by omega),Zc (by omega),ZjI _ _ (by rw [UO];omega)]
   have hsw:((A'++a::x::(Bs++D)).set (j+1) a).set j x=A'++x::((a::Bs)++D):=by
    rw [Tx _ _ (by omega),Tx _ _ (by omega),hA',UA,show j+1-j=1 by omega]
    rfl
   rw [hsw]
   obtain ⟨X,h1,h2,h3⟩:=ih f A' x (a::Bs) D (by omega) hA' (by
     have:A'++a::Bs=(A'++[a])++Bs:=by simp
     rw [this];exact hs) (fun b hb=>by
     rcases Xq.1 hb with rfl | hb
     ·omega
     ·exact hx b hb) (by rw [Xz];omega)
   exact ⟨X,h1.trans (List.Perm.append_left _ (List.Perm.swap a x (Bs++D))),h2,h3⟩
  ·rw [if_neg (by simp [cop];omega),ZaJ (by omega)]
   refine ⟨_,List.Perm.refl _,?_,rfl⟩
   have:List.take (i+1) (A'++a::x::(Bs++D))=(A'++[a])++x::Bs:=by
    have h2:A'++a::x::(Bs++D)=((A'++[a])++x::Bs)++D:=by simp
    have h3:((A'++[a])++x::Bs).length=i+1:=by simp;omega
    rw [h2,Tz (by omega),← h3,Ti]
   rw [this]
   obtain ⟨h1,h2,h3⟩:=Ub.1 hs
   obtain ⟨h4,_,h5⟩:=Ub.1 h1
   refine Ub.2 ⟨h1,Ug.2 ⟨hx,h2⟩,fun y hy b hb=>?_⟩
   have hya:y≤a:=by
    rcases Xv.1 hy with hy | hy
    ·exact h5 y hy a (by simp)
    ·rw [XF] at hy;omega
   rcases Xq.1 hb with rfl | hb
   ·omega
   ·have:=hx b hb;omega
theorem ZjQ:∀ (d i k:Nat) (X:List Int),i+d=X.length→1≤i→d < k→X.length < 50000→(X.take i).Pairwise (fun x y=>x≤y)→∃ Y:List Int,Y.Perm X∧Y.Pairwise (fun x y=>x≤y)∧ZrP k (ints X) (i:Int)=Xa (ints Y)
 | 0, i, k, X, hd, h1, hk, hl, hs => by
  obtain ⟨k',rfl⟩:∃ k',k=k'+1:=⟨k-1,by omega⟩
  have hlen:((ints X).length:Int)=(X.length:Int):=by simp
  rw [ZgA,hlen,if_neg (by simp [cop];omega)]
  have:X.take i=X:=Uo (by omega)
  rw [this] at hs
  exact ⟨X,List.Perm.refl _,hs,rfl⟩
 | d + 1, i, k, X, hd, h1, hk, hl, hs => by
  obtain ⟨k',rfl⟩:∃ k',k=k'+1:=⟨k-1,by omega⟩
  have hlen:((ints X).length:Int)=(X.length:Int):=by simp
  have hi:i < X.length:=by omega
  have hform:X=X.take i++X[i]::([]++X.drop (i+1)):=by
   rw [XM,List.getElem_cons_drop,List.take_append_drop]
  obtain ⟨Y,p1,p2,p3⟩:=Zsg (F72.lp [2] 0 r0 k') i (by omega) i Jv (X.take i) X[i] [] (X.drop (i+1)) (by unfold Jv;omega) (by rw [XS];omega) (by rw [XK];exact hs) (fun b hb=>by cases hb) (by rw [XS];simp;omega)
  rw [← hform] at p1 p3
  have hYl:Y.length=X.length:=p1.length_eq
  obtain ⟨Z,q1,q2,q3⟩:=ZjQ d (i+1) k' Y (by omega) (by omega) (by omega) (by omega) p2
  rw [ZgA,hlen,if_pos (by simp [cop];omega),p3]
  exact ⟨Z,q1.trans p1,q2,q3⟩
theorem s72 (zs:List Int) (hl:zs.length < 50000):g72 (ints zs)=Xa (ints (srt zs)):=by
 rw [Zt8,Zc (by unfold Jr ZB;simp;omega)]
 have fin:∀ Y:List Int,Y.Perm zs→Y.Pairwise (fun x y=>x≤y)→Y=srt zs:=fun Y h1 h2=>ZbQ _ _ h2 (WV zs) (h1.trans (KT zs).symm)
 cases zs with
 | nil =>
  have h0:srt [] = []:=by simp [srt]
  rw [show Jv=1208925819614629174706175+1 from rfl,ZgA,if_neg (by decide),h0]
 | cons z zs =>
  obtain ⟨Y,h1,h2,h3⟩:=ZjQ zs.length 1 Jv (z::zs) (by simp;omega) (by omega) (by simp at hl;unfold Jv;omega) hl (by simp)
  have h1c:((1:Nat):Int)=1:=rfl
  rw [h1c] at h3
  rw [h3,fin Y h1 h2]
end
section
open Go Go.AM Go.Proofs.Ytpjnmgjphfnmmaa
set_option maxRecDepth 100000
variable {rows:LL} {F:Ym} {r:RS} {es:List PE} {last:Int}
theorem Zgo (ho:LOk es last) (n:Nat) (id:Int):(JZ n es id).length≤64:=by
 rw [Zf1 ho.srt]
 refine XI (Zm0 _ _ fun e _=>?_) ho.len
 have:=Zr1 (es:=es) (fun a ha=>(ho.par a ha).2) n e.p.id id
 split at this<;>omega
theorem Zef {f g:Int→List Int} (h:∀ c,(f c).Perm (g c)):∀ l:List Int,(l.flatMap fun c=>c::f c).Perm (l.flatMap fun c=>c::g c)
 | [] => List.Perm.refl _
 | c :: l => by
  rw [UG,UG]
  exact List.Perm.append (List.Perm.cons _ (h c)) (Zef h l)
theorem s58 {x:LL} (h:ZD rows (r.frag++F)) (ho:LOk r.es r.last) (hx:Ze x = .oref (r.jr+1) 0):∀ (k:Nat) (e:PE),e∈r.es→Zi8 r.es e.p.id < k→g58 (G58 k) x e.p.id rows=Xa (ints (srt (JZ k r.es e.p.id)),rows):=by
 intro k
 induction k with
 | zero => intro e he hab; omega
 | succ k ih =>
  intro e he hab
  have hl:=ho.len
  have hrg:=ho.rng e he
  obtain ⟨pre,post,hs,_,hp⟩:=JX (Jm ho.srt he)
  have hgo:g58 (G58 (k+1)) x e.p.id rows=g58 (F58 (G58 k)).S.g x e.p.id rows:=rfl
  rw [hgo,Zto,VI h (by omega) hx hs hp,Xi]
  dsimp only
  rw [Zc (ne1 (YX r _)),ZL,if_neg (by decide),s59 h ho hx hrg.1,Xi]
  dsimp only
  have hdl:=Zgo ho (k+1) e.p.id
  have hpl:=(Zef (fun c=>KT (JZ k r.es c)) (Jz r.es e.p.id)).length_eq
  have hkl:(Jz r.es e.p.id).length≤64:=by
   unfold Jz
   rw [Xp]
   exact XI (Un _ _) hl
  have loop:∀ (ks pre acc:List Int) (q:Nat),Jz r.es e.p.id=pre++ks→ks.length < q→acc.length+(ks.flatMap fun c=>c::srt (JZ k r.es c)).length≤64→
    Zqb (G58 k) q x (ints acc) (ints (Jz r.es e.p.id)) (pre.length:Int) rows=Xa (ints (srt (acc++ks.flatMap fun c=>c::srt (JZ k r.es c))),rows):=by
   intro ks
   induction ks with
   | nil =>
    intro pre acc q hk hq ha
    obtain ⟨q',rfl⟩:∃ q',q=q'+1:=⟨q-1,by simp at hq;omega⟩
    rw [XK] at hk
    have hlen:((ints (Jz r.es e.p.id)).length:Int)=(pre.length:Int):=by simp [hk]
    have hal:acc.length≤64:=by simp at ha;omega
    rw [ZkG,hlen,if_neg (by simp [cop]),s72 acc (by omega)]
    simp
   | cons c ks ihk =>
    intro pre acc q hk hq ha
    obtain ⟨q',rfl⟩:∃ q',q=q'+1:=⟨q-1,by simp at hq;omega⟩
    have hlen:((ints (Jz r.es e.p.id)).length:Int)=((Jz r.es e.p.id).length:Int):=by simp
    have hz:(Jz r.es e.p.id)[pre.length]? = Xa c:=by rw [hk];simp
    have hlt:=(Xk.1 hz).1
    have hcm:c∈Jz r.es e.p.id:=by rw [hk];simp
    obtain ⟨a,ha2,rfl⟩:=Xj.1 hcm
    rw [Wc] at ha2
    have hap:a.p.parent=e.p.id:=by simpa using ha2.2
    have hpar:=ho.par a ha2.1
    have hab2:=ZjH ha2.1 (show e.p.id < a.p.id by omega)
    have hl1:((pre++[a.p.id]).length:Int)=((pre.length+1:Nat):Int):=by simp
    simp only [UG,XL,Xz,Xu] at ha
    have hsl:=Zas (JZ k r.es a.p.id)
    rw [ZkG,hlen,if_pos (by simp [cop];omega),ZQ hz,Zc (by unfold Jr ZB;simp;omega),ZQ hz,ih a ha2.1 (by omega),Xi]
    dsimp only
    rw [Zc (by unfold Jr ZB;simp;omega),ZaJ (by omega)]
    have e1:(ints acc++(E0++[[AV.val (.int .i64 a.p.id)]]))++ints (srt (JZ k r.es a.p.id))=ints (acc++a.p.id::srt (JZ k r.es a.p.id)):=by simp [ints]
    have:=ihk (pre++[a.p.id]) (acc++a.p.id::srt (JZ k r.es a.p.id)) q' (by rw [hk];simp) (by simp at hq;omega) (by simp only [Xu,Xz];omega)
    rw [hl1] at this
    rw [e1,this]
    simp
  have hlp:=loop (Jz r.es e.p.id) [] [] Jv rfl (by unfold Jv;omega) (by
   have:(JZ (k+1) r.es e.p.id).length=((Jz r.es e.p.id).flatMap fun c=>c::JZ k r.es c).length:=rfl
   simp only [XT]
   omega)
  have hz:((([] : List Int).length:Nat):Int)=0:=rfl
  rw [hz] at hlp
  have hi0:(ints ([] : List Int))=E0:=rfl
  rw [hi0] at hlp
  rw [hlp,XM]
  rw [ZnN (Zef (fun c=>KT (JZ k r.es c)) (Jz r.es e.p.id))]
  rfl
theorem Zi2 {x:LL} (hx':∀ r:RS,Ze x = .oref (r.jr+1) 0→True) {zs:List Int} (hzl:zs.length≤1000):∀ (ks pre:List Int) (rows:LL) (F:Ym) (r:RS) (acc:LL) (q:Nat),zs=pre++ks→ks.length < q→ZD rows (r.frag++F)→LOk r.es r.last→Ze x = .oref (r.jr+1) 0→acc.length+65*ks.length≤100000→
  ∃ rows' ja' G,Zqr q x (ints zs) acc (pre.length:Int) rows=Xa (acc++ZW (Zi (-1) r.es ks).2,0,rows')∧ZD rows' (({ r with ja:=ja',es:=(Zi (-1) r.es ks).1 } : RS).frag++(G++F))
 | [], pre, rows, F, r, acc, q, hz, hq, h, ho, hx, _ => by
  obtain ⟨q',rfl⟩:∃ q',q=q'+1:=⟨q-1,by simp at hq;omega⟩
  have hl:zs.length=pre.length:=by rw [hz,XK]
  have hlen:((ints zs).length:Int)=(zs.length:Int):=by simp
  rw [Zk1,hlen,hl,if_neg (by simp [cop])]
  exact ⟨rows,r.ja,[],by simp [Zi,ZW],h⟩
 | z :: ks, pre, rows, F, r, acc, q, hz, hq, h, ho, hx, hacc => by
  obtain ⟨q',rfl⟩:∃ q',q=q'+1:=⟨q-1,by simp at hq;omega⟩
  have hz1:zs[pre.length]? = Xa z:=by rw [hz];simp
  have hi:=(Xk.1 hz1).1
  have hlen:((ints zs).length:Int)=(zs.length:Int):=by simp
  have hl1:((pre++[z]).length:Int)=((pre.length+1:Nat):Int):=by simp
  have hrl:=ho.len
  rw [Zk1,hlen,if_pos (by simp [cop];omega),Zc (by omega),Zc (by omega),ZQ hz1,ZaJ (by omega)]
  cases hr:J6 r.es z with
  | none =>
   rw [Zrf h hrl hx hr,Xi,Zc (by unfold Jr ZB;simp only [XT];omega)]
   obtain ⟨rows2,ja2,G2,q1,q2⟩:=Zi2 hx' hzl ks (pre++[z]) rows F r acc q' (by rw [hz];simp) (by simp at hq;omega) h ho hx (by simp at hacc;omega)
   rw [hl1] at q1
   have he:Zi (-1) r.es (z::ks)=Zi (-1) r.es ks:=by simp only [Zi,hr]
   rw [he]
   dsimp only
   rw [XK]
   exact ⟨rows2,ja2,G2,q1,q2⟩
  | some e =>
   obtain ⟨rows1,ja1,G1,t1,t2⟩:=s57 h ho hx hr (-1)
   have hel:=ZbM r.es z (-1)
   have hra:(ZW (Y5 r.es z (-1)).2).length≤65:=by simp only [ZW,Xp];omega
   rw [t1,Xi,Zc (ZfM (by omega) (show (ZW (Y5 r.es z (-1)).2).length≤100000 by omega))]
   obtain ⟨rows2,ja2,G2,q1,q2⟩:=Zi2 hx' hzl ks (pre++[z]) rows1 (G1++F) { r with ja:=ja1,es:=(Y5 r.es z (-1)).1 } (acc++ZW (Y5 r.es z (-1)).2) q' (by rw [hz];simp) (by simp at hq;omega) t2 (KM ho) hx (by simp only [Xu,Xz] at hacc ⊢; omega)
   rw [hl1] at q1
   have he:Zi (-1) r.es (z::ks)=((Zi (-1) (Y5 r.es z (-1)).1 ks).1,(Y5 r.es z (-1)).2++(Zi (-1) (Y5 r.es z (-1)).1 ks).2):=by simp only [Zi,hr]
   rw [he]
   refine ⟨rows2,ja2,G2++G1,?_,by rw [Xo];exact q2⟩
   rw [q1]
   simp only [ZW,XN,Xo]
theorem ZiY {x:LL} (target:Int) {zs:List Int} (hzl:zs.length≤1000) (rows:LL):∀ (ks pre:List Int) (b:Bool) (q:Nat),zs=pre++ks→ks.length < q→
  ∃ q',Zlz q x target b (ints zs) (pre.length:Int) rows=Zlz (q'+1) x target (b||decide (target∈ks)) (ints zs) (zs.length:Int) rows
 | [], pre, b, q, hz, hq => by
  obtain ⟨q',rfl⟩:∃ q',q=q'+1:=⟨q-1,by simp at hq;omega⟩
  have hl:zs.length=pre.length:=by rw [hz,XK]
  exact ⟨q',by rw [hl];simp⟩
 | z :: ks, pre, b, q, hz, hq => by
  obtain ⟨q',rfl⟩:∃ q',q=q'+1:=⟨q-1,by simp at hq;omega⟩
  have hz1:zs[pre.length]? = Xa z:=by rw [hz];simp
  have hi:=(Xk.1 hz1).1
  have hlen:((ints zs).length:Int)=(zs.length:Int):=by simp
  have hl1:((pre++[z]).length:Int)=((pre.length+1:Nat):Int):=by simp
  rw [Zkb,hlen,if_pos (by simp [cop];omega),ZaJ (by omega)]
  cases b with
  | true =>
   rw [if_pos rfl]
   obtain ⟨q2,h2⟩:=ZiY (x:=x) target hzl rows ks (pre++[z]) Xb q' (by rw [hz];simp) (by simp at hq;omega)
   rw [hl1] at h2
   exact ⟨q2,by rw [h2];simp⟩
  | false =>
   rw [if_neg (by decide),Zc (by omega),Zc (by omega),ZQ hz1]
   obtain ⟨q2,h2⟩:=ZiY (x:=x) target hzl rows ks (pre++[z]) (cop .eql z target) q' (by rw [hz];simp) (by simp at hq;omega)
   rw [hl1] at h2
   refine ⟨q2,?_⟩
   rw [h2]
   congr 1
   by_cases hzt:z=target
   ·simp [cop,hzt]
   ·simp [cop,hzt,Ne.symm hzt]
theorem Zhu (ho:LOk es last) (id:Int):Zi8 es id≤64:=XI (Un _ _) ho.len
theorem ZjN {e:PE} (hs:es.Pairwise fun a b=>a.p.id < b.p.id) (he:e∈es):KG es e.p.id=srt (JZ 128 es e.p.id):=by
 unfold KG
 rw [Jm hs he]
theorem s39 {x:LL} (h:ZD rows (r.frag++F)) (ho:LOk r.es r.last) (hx:Ze x = .oref (r.jr+1) 0) (id target:Int) :
  ∃ rows' ja' G,g39 x id target rows=Xa (ZW (VD r.es id target).1.2,(VD r.es id target).2,rows')∧ZD rows' (({ r with ja:=ja',es:=(VD r.es id target).1.1 } : RS).frag++(G++F)):=by
 have hl:=ho.len
 rw [ZtB]
 unfold VD
 cases hf:J6 r.es id with
 | none =>
  rw [VT h (by omega) hx hf,Xi]
  dsimp only
  rw [Zc (ne1 Kn),Vu,if_pos (by decide)]
  exact ⟨rows,r.ja,[],rfl,h⟩
 | some e =>
  obtain ⟨hfe,hen⟩:=Je hf
  obtain ⟨pre,post,hs,rfl,hp⟩:=JX hfe
  have hem:e∈r.es:=by rw [hs];simp
  rw [KQ h (by omega) hx hs hp hen,Xi]
  dsimp only
  rw [Zc (ne1 (YX r _)),ZL,if_neg (by decide)]
  cases ht:J6 r.es target with
  | none =>
   rw [VT h (by omega) hx ht,Xi]
   dsimp only
   rw [Zc (ne1 Kn),Vu,if_pos (by decide)]
   exact ⟨rows,r.ja,[],rfl,h⟩
  | some t =>
   obtain ⟨htf,hten⟩:=Je ht
   obtain ⟨pre2,post2,hs2,rfl,hp2⟩:=JX htf
   have htm:t∈r.es:=by rw [hs2];simp
   have ha1:=Zhu ho e.p.id
   have ha2:=Zhu ho t.p.id
   rw [KQ h (by omega) hx hs2 hp2 hten,Xi]
   dsimp only
   rw [Zc (ne1 (YX r _)),ZL,if_neg (by decide),s58 h ho hx 128 e hem (by omega),Xi]
   dsimp only
   have hd1:=Zgo ho 128 e.p.id
   have hd2:=Zgo ho 128 t.p.id
   have hs1l:=Zas (JZ 128 r.es e.p.id)
   have hs2l:=Zas (JZ 128 r.es t.p.id)
   obtain ⟨q',hq'⟩:=ZiY (x:=x) t.p.id (zs:=srt (JZ 128 r.es e.p.id)) (by omega) rows (srt (JZ 128 r.es e.p.id)) [] (cop .eql e.p.id t.p.id) Jv rfl (by unfold Jv;omega)
   have hz:((([] : List Int).length:Nat):Int)=0:=rfl
   rw [hz] at hq'
   have hlen:((ints (srt (JZ 128 r.es e.p.id))).length:Int)=((srt (JZ 128 r.es e.p.id)).length:Int):=by simp
   rw [hq',Zkb,hlen,if_neg (by simp [cop]),ZjN ho.srt hem,ZjN ho.srt htm]
   by_cases hmay:t.p.id=e.p.id∨t.p.id∈srt (JZ 128 r.es e.p.id)
   ·have hb:(cop .eql e.p.id t.p.id||decide (t.p.id∈srt (JZ 128 r.es e.p.id)))=Xb:=by
     rcases hmay with h1 | h1
     ·simp [cop,h1]
     ·simp [h1]
    rw [hb,if_neg (by decide),if_pos hmay,s58 h ho hx 128 t htm (by omega),Xi]
    dsimp only
    obtain ⟨rows1,ja1,G1,t1,t2⟩:=s57 h ho hx ht (-1)
    have hel:=ZbM r.es t.p.id (-1)
    have hra:(ZW (Y5 r.es t.p.id (-1)).2).length≤65:=by simp only [ZW,Xp];omega
    rw [t1,Xi]
    dsimp only
    obtain ⟨rows2,ja2,G2,q1,q2⟩:=Zi2 (x:=x) (fun _ _=>trivial) (zs:=srt (JZ 128 r.es t.p.id)) (by omega) (srt (JZ 128 r.es t.p.id)) [] rows1 (G1++F) { r with ja:=ja1,es:=(Y5 r.es t.p.id (-1)).1 } (ZW (Y5 r.es t.p.id (-1)).2) Jv rfl (by unfold Jv;omega) t2 (KM ho) hx (by omega)
    rw [hz] at q1
    have he:Zi (-1) r.es (t.p.id::srt (JZ 128 r.es t.p.id))=((Zi (-1) (Y5 r.es t.p.id (-1)).1 (srt (JZ 128 r.es t.p.id))).1,(Y5 r.es t.p.id (-1)).2++(Zi (-1) (Y5 r.es t.p.id (-1)).1 (srt (JZ 128 r.es t.p.id))).2):=by simp only [Zi,ht]
    rw [he]
    refine ⟨rows2,ja2,G2++G1,?_,by rw [Xo];exact q2⟩
    rw [q1]
    simp only [ZW,XN]
   ·have hb:(cop .eql e.p.id t.p.id||decide (t.p.id∈srt (JZ 128 r.es e.p.id)))=Xc:=by
     have h1:¬ (e.p.id=t.p.id):=fun hh=>hmay (.inl hh.symm)
     have h2:t.p.id∉srt (JZ 128 r.es e.p.id):=fun hh=>hmay (.inr hh)
     simp [cop,h1,h2]
    rw [hb,if_pos (by decide),if_neg hmay]
    exact ⟨rows,r.ja,[],rfl,h⟩
end
section
open Go Go.AM Go.Proofs.Ytpjnmgjphfnmmaa
set_option maxRecDepth 100000
variable {rows:LL} {F:Ym} {r:RS} {es:List PE} {last:Int}
theorem Zjd {x:LL} {zs:List Int} (hzl:zs.length≤1000):∀ (ks pre:List Int) (rows:LL) (F:Ym) (r:RS) (acc:LL) (q:Nat),zs=pre++ks→ks.length < q→ZD rows (r.frag++F)→LOk r.es r.last→Ze x = .oref (r.jr+1) 0→acc.length+65*ks.length≤100000→
  ∃ rows' ja' G,ZmZ q x (ints zs) acc (pre.length:Int) rows=Xa (acc++ZW (Zi (-2) r.es ks).2,0,rows')∧ZD rows' (({ r with ja:=ja',es:=(Zi (-2) r.es ks).1 } : RS).frag++(G++F))
 | [], pre, rows, F, r, acc, q, hz, hq, h, ho, hx, _ => by
  obtain ⟨q',rfl⟩:∃ q',q=q'+1:=⟨q-1,by simp at hq;omega⟩
  have hl:zs.length=pre.length:=by rw [hz,XK]
  have hlen:((ints zs).length:Int)=(zs.length:Int):=by simp
  rw [Zk6,hlen,hl,if_neg (by simp [cop])]
  exact ⟨rows,r.ja,[],by simp [Zi,ZW],h⟩
 | z :: ks, pre, rows, F, r, acc, q, hz, hq, h, ho, hx, hacc => by
  obtain ⟨q',rfl⟩:∃ q',q=q'+1:=⟨q-1,by simp at hq;omega⟩
  have hz1:zs[pre.length]? = Xa z:=by rw [hz];simp
  have hi:=(Xk.1 hz1).1
  have hlen:((ints zs).length:Int)=(zs.length:Int):=by simp
  have hl1:((pre++[z]).length:Int)=((pre.length+1:Nat):Int):=by simp
  have hrl:=ho.len
  rw [Zk6,hlen,if_pos (by simp [cop];omega),Zc (by omega),Zc (by omega),ZQ hz1,ZaJ (by omega)]
  cases hr:J6 r.es z with
  | none =>
   rw [Zrf h hrl hx hr,Xi,Zc (by unfold Jr ZB;simp only [XT];omega)]
   obtain ⟨rows2,ja2,G2,q1,q2⟩:=Zjd hzl ks (pre++[z]) rows F r acc q' (by rw [hz];simp) (by simp at hq;omega) h ho hx (by simp at hacc;omega)
   rw [hl1] at q1
   have he:Zi (-2) r.es (z::ks)=Zi (-2) r.es ks:=by simp only [Zi,hr]
   rw [he]
   dsimp only
   rw [XK]
   exact ⟨rows2,ja2,G2,q1,q2⟩
  | some e =>
   obtain ⟨rows1,ja1,G1,t1,t2⟩:=s57 h ho hx hr (-2)
   have hel:=ZbM r.es z (-2)
   have hra:(ZW (Y5 r.es z (-2)).2).length≤65:=by simp only [ZW,Xp];omega
   rw [t1,Xi,Zc (ZfM (by omega) (show (ZW (Y5 r.es z (-2)).2).length≤100000 by omega))]
   obtain ⟨rows2,ja2,G2,q1,q2⟩:=Zjd hzl ks (pre++[z]) rows1 (G1++F) { r with ja:=ja1,es:=(Y5 r.es z (-2)).1 } (acc++ZW (Y5 r.es z (-2)).2) q' (by rw [hz];simp) (by simp at hq;omega) t2 (KM ho) hx (by simp only [Xu,Xz] at hacc ⊢; omega)
   rw [hl1] at q1
   have he:Zi (-2) r.es (z::ks)=((Zi (-2) (Y5 r.es z (-2)).1 ks).1,(Y5 r.es z (-2)).2++(Zi (-2) (Y5 r.es z (-2)).1 ks).2):=by simp only [Zi,hr]
   rw [he]
   refine ⟨rows2,ja2,G2++G1,?_,by rw [Xo];exact q2⟩
   rw [q1]
   simp only [ZW,XN,Xo]
def ZbT (core:Int) (es:List PE):List Int:=(es.filter fun e=>!e.p.ended&&decide (wo core e.p.cores = [])).map fun e=>e.p.id
theorem Zri (rec0:List V→Option (LL×Int×LL)) {x:LL} {e:PE} {pre post:List PE} (h:ZD rows (r.frag++F)) (hs:r.es=pre++e::post) (core:Int) (hl:e.p.cores.length≤100) (acc:List Int) (ha:acc.length≤100) (i:Nat) (hi:i≤100):∀ (ks ps:List Int) (q:Nat),e.p.cores=ps++ks→ks.length < q→
  Zoj rec0 q x core (ints acc) (i:Int) (rn r pre.length) (ints (wo core ps)) (ps.length:Int) rows =
   rec0 [.l x,.i core,.l (ints (if e.p.ended=Xc∧wo core e.p.cores = [] then acc++[e.p.id] else acc)),.i ((i+1:Nat):Int),.l (Zd .set rows 0 (Zd (.padd 3) (rn r pre.length) 0 E0 []) [.slice Xc 1 (ints (wo core e.p.cores))])]
 | [], ps, q, hc, hq => by
  obtain ⟨q',rfl⟩:∃ q',q=q'+1:=⟨q-1,by simp at hq;omega⟩
  rw [XK] at hc
  have hlen:((ints e.p.cores).length:Int)=(e.p.cores.length:Int):=by simp
  have hset:=Zez (r:=r) (e':=JS core e) h hs (o:=3) (c:=.slice Xc 1 (ints (wo core e.p.cores))) (by decide) rfl
  have hge:=YS (r:={ r with es:=pre++JS core e::post }) hset (pre:=pre) (post:=post) (e:=JS core e) rfl (o:=4) (c:=B e.p.ended) rfl
  have hgi:=YS (r:={ r with es:=pre++JS core e::post }) hset (pre:=pre) (post:=post) (e:=JS core e) rfl (o:=0) (c:=I e.p.id) rfl
  have hrn:rn ({ r with es:=pre++JS core e::post } : RS) pre.length=rn r pre.length:=rfl
  rw [hrn] at hge hgi
  have hwl:((ints (wo core e.p.cores)).length:Int)=((wo core e.p.cores).length:Int):=by simp
  rw [ZjJ,Zc (ne1 (ZL r _)),Zc (ne1 (ZL r _)),YS h hs (c:=.slice Xc 1 (ints e.p.cores)) rfl,V8,hlen,← hc,if_neg (by simp [cop]),Zc (ne1 (ZL r _)),Zc (ne1 (ZL r _)),Zc (by simp),Zc (ne1 (ZL r _)),Zc (ne1 (ZL r _)),hge,JR,ZaJ (by omega)]
  cases hen:e.p.ended with
  | true =>
   rw [if_neg (by decide),if_neg (by simp)]
  | false =>
   rw [if_pos (by decide),hwl]
   by_cases hw:wo core e.p.cores = []
   ·rw [if_pos (by rw [hw];rfl),Zc (ne1 (ZL r _)),Zc (ne1 (ZL r _)),hgi,ZJ,Zc (by unfold Jr ZB;simp;omega),if_pos ⟨rfl,hw⟩]
    have:ints acc++(E0++[[AV.val (.int .i64 e.p.id)]])=ints (acc++[e.p.id]):=by simp [ints]
    rw [this]
   ·rw [if_neg (by simp [cop,hw]),if_neg (by simp [hw])]
 | z :: ks, ps, q, hc, hq => by
  obtain ⟨q',rfl⟩:∃ q',q=q'+1:=⟨q-1,by simp at hq;omega⟩
  have hz:e.p.cores[ps.length]? = Xa z:=by rw [hc];simp
  have hi2:=(Xk.1 hz).1
  have hlen:((ints e.p.cores).length:Int)=(e.p.cores.length:Int):=by simp
  have hl1:((ps++[z]).length:Int)=((ps.length+1:Nat):Int):=by simp
  have ih:=Zri rec0 (x:=x) h hs core hl acc ha i hi ks (ps++[z]) q' (by rw [hc];simp) (by simp at hq;omega)
  rw [hl1] at ih
  have hwp:=ZoN core ps
  rw [ZjJ,Zc (ne1 (ZL r _)),Zc (ne1 (ZL r _)),YS h hs (c:=.slice Xc 1 (ints e.p.cores)) rfl,V8,hlen,if_pos (by simp [cop];omega),Zc (ne1 (ZL r _)),Zc (ne1 (ZL r _)),V8,ZQ hz,ZaJ (by omega)]
  by_cases hk:z=core
  ·have e1:wo core (ps++[z])=wo core ps:=by
    unfold wo
    rw [UL,X9 (by simp [hk])]
    simp
   rw [e1] at ih
   rw [if_neg (by simp [cop,hk]),ih]
  ·have e1:wo core (ps++[z])=wo core ps++[z]:=by
    unfold wo
    rw [UL,Wd (by simp [hk])]
    simp
   rw [e1] at ih
   have e2:ints (wo core ps)++(E0++[[AV.val (.int .i64 z)]])=ints (wo core ps++[z]):=by simp [ints]
   rw [if_pos (by simp [cop,hk]),Zc (ne1 (ZL r _)),Zc (ne1 (ZL r _)),V8,ZQ hz,Zc (by unfold Jr ZB;simp;omega),e2,ih]
theorem Zm6 {x:LL} (core:Int):∀ (ks pre:List PE) (rows:LL) (r:RS) (acc:List Int) (q:Nat),r.es=pre++ks→ks.length < q→r.es.length≤64→(∀ e∈ks,e.p.cores.length≤100)→acc.length+ks.length≤64→ZD rows (r.frag++F)→Ze x = .oref (r.jr+1) 0→
  ∃ rows',ZqJ q x core (ints acc) (pre.length:Int) rows=ZmZ Jv x (ints (acc++ZbT core ks)) [] 0 rows'∧ZD rows' (({ r with es:=pre++ks.map (JS core) } : RS).frag++F)
 | [], pre, rows, r, acc, q, hs, hq, hl, _, _, h, hx => by
  obtain ⟨q',rfl⟩:∃ q',q=q'+1:=⟨q-1,by simp at hq;omega⟩
  have hs':=hs
  rw [XK] at hs
  rw [ZkI,Zc (ne1 (ZC hx)),Zc (ne1 (ZC hx)),KB h hx,Zp rfl,Zc (ne1 (Zal _ _)),YG,hs,if_neg (by simp [cop])]
  refine ⟨rows,by simp [ZbT],?_⟩
  have:({ r with es:=pre++([] : List PE).map (JS core) } : RS)=r:=by
   obtain ⟨a,b,c,d⟩:=r
   simp only [XG] at hs' ⊢
   rw [hs']
  rw [this]
  exact h
 | e :: ks, pre, rows, r, acc, q, hs, hq, hl, hcl, ha, h, hx => by
  obtain ⟨q',rfl⟩:∃ q',q=q'+1:=⟨q-1,by simp at hq;omega⟩
  have hel:r.es.length=pre.length+ks.length+1:=by rw [hs];simp;omega
  have hce:=hcl e (by simp)
  have hal:acc.length+ks.length+1≤64:=by simp at ha;omega
  have hin:=Zri (F41.lp [0,1,0] 0 r0 q') (x:=x) h hs core hce acc (by omega) pre.length (by omega) e.p.cores [] Jv rfl (by unfold Jv;omega)
  have hz:((([] : List Int).length:Nat):Int)=0:=rfl
  have hw0:ints (wo core [])=E0:=rfl
  rw [hz,hw0] at hin
  have hset:=Zez (r:=r) (e':=JS core e) h hs (o:=3) (c:=.slice Xc 1 (ints (wo core e.p.cores))) (by decide) rfl
  rw [ZkI,Zc (ne1 (ZC hx)),Zc (ne1 (ZC hx)),KB h hx,Zp rfl,Zc (ne1 (Zal _ _)),YG,if_pos (by simp [cop];omega),Zc (ne1 (ZC hx)),Zc (ne1 (ZC hx)),Zp rfl,Zc (by omega),YG,Zc (by omega),ZhK,hin]
  have hl1:((pre++[JS core e]).length:Int)=((pre.length+1:Nat):Int):=by simp
  obtain ⟨rows',t1,t2⟩:=Zm6 (x:=x) core ks (pre++[JS core e]) _ { r with es:=pre++JS core e::ks } (if e.p.ended=Xc∧wo core e.p.cores = [] then acc++[e.p.id] else acc) q' (by simp) (by simp at hq;omega) (by show (pre++JS core e::ks).length≤64;rw [Xu,Xz];omega) (fun a ha=>hcl a (by simp [ha])) (by split<;>(try simp only [Xu,Xz,XT])<;>omega) hset hx
  rw [hl1] at t1
  refine ⟨rows',?_,?_⟩
  ·show ZqJ q' x core _ _ _=_
   rw [t1]
   congr 2
   unfold ZbT
   by_cases hb:e.p.ended=Xc∧wo core e.p.cores = []
   ·rw [if_pos hb,Wd (by simp [hb.1,hb.2])]
    simp
   ·rw [if_neg hb,X9 (by
     intro hh
     rw [Xs] at hh
     exact hb ⟨by simpa using hh.1,by simpa using hh.2⟩)]
  ·have:({ ({ r with es:=pre++JS core e::ks } : RS) with es:=(pre++[JS core e])++ks.map (JS core) } : RS) = { r with es:=pre++(e::ks).map (JS core) }:=by simp
   rw [this] at t2
   exact t2
theorem VH (ho:LOk es last) (core:Int):LOk (es.map (JS core)) last:=Zi0 ho (fun _=>rfl) fun e he=>ho.par e he
def VK (es:List PE) (core:Int):(List PE×List Ziu)×Int:=
 if 0≤core∧core < 32 then (Zi (-2) (es.map (JS core)) (ZbT core es),0) else ((es,[]),1)
theorem s41 {x:LL} (h:ZD rows (r.frag++F)) (ho:LOk r.es r.last) (hx:Ze x = .oref (r.jr+1) 0) {core:Int} (hcl:∀ e∈r.es,e.p.cores.length≤100) :
  ∃ rows' ja' G,g41 x core rows=Xa (ZW (VK r.es core).1.2,(VK r.es core).2,rows')∧ZD rows' (({ r with ja:=ja',es:=(VK r.es core).1.1 } : RS).frag++(G++F)):=by
 have hl:=ho.len
 rw [ZtK,s54,Xi]
 unfold VK
 by_cases hr:0≤core∧core < 32
 ·rw [decide_eq_true hr,if_neg (by decide),if_pos hr]
  obtain ⟨rows1,t1,t2⟩:=Zm6 (F:=F) (x:=x) core r.es [] rows r [] Jv rfl (by unfold Jv;omega) hl hcl (by simp;omega) h hx
  have hz:((([] : List PE).length:Nat):Int)=0:=rfl
  have hi0:(ints ([] : List Int))=E0:=rfl
  rw [hz,hi0] at t1
  rw [t1]
  rw [XM] at t2 ⊢
  have hbl:(ZbT core r.es).length≤64:=by
   unfold ZbT
   rw [Xp]
   exact XI (Un _ _) hl
  obtain ⟨rows2,ja2,G2,q1,q2⟩:=Zjd (x:=x) (zs:=ZbT core r.es) (by omega) (ZbT core r.es) [] rows1 F { r with es:=r.es.map (JS core) } [] Jv rfl (by unfold Jv;omega) t2 (VH ho core) hx (by simp;omega)
  rw [show ((([] : List Int).length:Nat):Int)=0 from rfl] at q1
  rw [q1]
  exact ⟨rows2,ja2,G2,rfl,q2⟩
 ·rw [decide_eq_false hr,if_pos (by decide),if_neg hr]
  exact ⟨rows,r.ja,[],rfl,h⟩
end
open Go Go.AM Go.Proofs.Ytpjnmgjphfnmmaa
set_option maxRecDepth 100000
structure Rl (a b:PE):Prop where
 id:a.p.id=b.p.id
 parent:a.p.parent=b.p.parent
 ended : a.p.ended = b.p.ended
 status:a.p.status=b.p.status
 waiting:a.p.waiting=b.p.waiting
 cores:a.p.cores.Perm b.p.cores
inductive Sm:List PE→List PE→Prop
 | nil : Sm [] []
 | cons {a b : PE} {l l' : List PE} : Rl a b → Sm l l' → Sm (a :: l) (b :: l')
theorem Zej {es es':List PE} (h:Sm es es') (k:Int):(es.find? (fun e=>decide (e.p.id=k))=Xe∧es'.find? (fun e=>decide (e.p.id=k))=Xe)∨∃ a b,es.find? (fun e=>decide (e.p.id=k))=Xa a∧es'.find? (fun e=>decide (e.p.id=k))=Xa b∧Rl a b:=by
 induction h with
 | nil => exact .inl ⟨rfl, rfl⟩
 | @cons a b l l' hr _ ih =>
  by_cases hk:a.p.id=k
  ·rw [Ta (by simp [hk]),Ta (by rw [← hr.id];simp [hk])]
   exact .inr ⟨a,b,rfl,rfl,hr⟩
  ·rw [Tb (by simp [hk]),Tb (by rw [← hr.id];simp [hk])]
   exact ih
theorem Zmy {es es':List PE} {f g:PE→PE} (h:Sm es es') (hf:∀ a b,Rl a b→Rl (f a) (g b)):Sm (es.map f) (es'.map g):=by
 induction h with
 | nil => exact .nil
 | cons hr _ ih => exact .cons (hf _ _ hr) ih
theorem Zdg {es es':List PE} {p q:PE→Bool} (h:Sm es es') (hp:∀ a b,Rl a b→p a=q b):Sm (es.filter p) (es'.filter q):=by
 induction h with
 | nil => exact .nil
 | @cons a b l l' hr _ ih =>
  by_cases ha:p a=Xb
  ·rw [Wd ha,Wd (by rw [← hp a b hr];exact ha)]
   exact .cons hr ih
  ·rw [X9 ha,X9 (by rw [← hp a b hr];exact ha)]
   exact ih
theorem Zhq {es es':List PE} (h:Sm es es'):(es.map fun e=>e.p.id)=es'.map fun e=>e.p.id:=by
 induction h with
 | nil => rfl
 | cons hr _ ih => rw [Xh, Xh, hr.id, ih]
theorem Zrn {es es':List PE} (h:Sm es es'):es.length=es'.length:=by
 have:=congrArg Xm (Zhq h)
 simpa using this
theorem ZtT {es es' fs fs':List PE} (h:Sm es es') (h2:Sm fs fs'):Sm (es++fs) (es'++fs'):=by
 induction h with
 | nil => exact h2
 | cons hr _ ih => exact .cons hr ih
theorem ZoM {es es':List PE} (h:Sm es es') {b:PE} (hb:b∈es'):∃ a∈es,Rl a b:=by
 induction h with
 | nil => cases hb
 | @cons a b' l l' hr _ ih =>
  rcases Xq.1 hb with rfl | hb
  ·exact ⟨a,by simp,hr⟩
  ·obtain ⟨c,hc,h1⟩:=ih hb
   exact ⟨c,by simp [hc],h1⟩
theorem Zub {es es':List PE} {p:PE→Bool} (h:Sm es es') (hp:∀ a b,Rl a b→p a=p b):es.any p=es'.any p:=by
 induction h with
 | nil => rfl
 | cons hr _ ih => rw [U8, U8, hp _ _ hr, ih]
theorem Zqo {es es':List PE} {p:PE→Bool} (h:Sm es es') (hp:∀ a b,Rl a b→p a=p b):(es.find? p=Xe∧es'.find? p=Xe)∨∃ a b,es.find? p=Xa a∧es'.find? p=Xa b∧Rl a b:=by
 induction h with
 | nil => exact .inl ⟨rfl, rfl⟩
 | @cons a b l l' hr _ ih =>
  by_cases hk:p a=Xb
  ·rw [Ta hk,Ta (by rw [← hp a b hr];exact hk)]
   exact .inr ⟨a,b,rfl,rfl,hr⟩
  ·rw [Tb hk,Tb (by rw [← hp a b hr];exact hk)]
   exact ih
theorem ZsF {es es':List PE} (h:Sm es es') (id:Int):Jz es id=Jz es' id:=by
 unfold Jz
 exact Zhq (Zdg h fun a b hr=>by rw [hr.parent])
theorem ZoP {es es':List PE} (h:Sm es es'):∀ (n:Nat) (id:Int),JZ n es id=JZ n es' id
 | 0, _ => rfl
 | n + 1, id => by
  rw [JZ,JZ,ZsF h]
  congr 1
  funext c
  rw [ZoP h n c]
theorem ZjO {es es':List PE} (h:Sm es es') (id:Int):KG es id=KG es' id:=by
 unfold KG
 rcases Zej h id with ⟨h1,h2⟩ | ⟨a,b,h1,h2,_⟩
 ·rw [h1,h2]
 ·rw [h1,h2,ZoP h]
theorem Zc1 {es es':List PE} (h:Sm es es') (k:Int):(J6 es k=Xe∧J6 es' k=Xe)∨∃ a b,J6 es k=Xa a∧J6 es' k=Xa b∧Rl a b:=by
 unfold J6
 rcases Zej h k with ⟨h1,h2⟩ | ⟨a,b,h1,h2,hr⟩
 ·rw [h1,h2]
  exact .inl ⟨rfl,rfl⟩
 ·rw [h1,h2]
  dsimp only
  rw [← hr.ended]
  split
  ·exact .inl ⟨rfl,rfl⟩
  ·exact .inr ⟨a,b,rfl,rfl,hr⟩
def Eqv {α:Type} (x y:List PE×α):Prop:=Sm x.1 y.1∧x.2=y.2
theorem ZoG {es es':List PE} (h:Sm es es') (k:Int) {f:Pr→Pr} (hf:∀ a b:PE,Rl a b→Rl { a with p:=f a.p } { b with p:=f b.p }):Sm (ZcM k f es) (ZcM k f es'):=by
 refine Zmy h fun a b hr=>?_
 by_cases hk:a.p.id=k
 ·rw [if_pos hk,if_pos (hr.id ▸ hk)]
  exact hf a b hr
 ·rw [if_neg hk,if_neg (hr.id ▸ hk)]
  exact hr
theorem Zo9 {es es':List PE} (h:Sm es es') (k:Int) {f g:PE→PE} (hf:∀ a b:PE,Rl a b→Rl (f a) (g b)):Sm (Yh k f es) (Yh k g es'):=by
 refine Zmy h fun a b hr=>?_
 by_cases hk:a.p.id=k
 ·rw [if_pos hk,if_pos (hr.id ▸ hk)]
  exact hf a b hr
 ·rw [if_neg hk,if_neg (hr.id ▸ hk)]
  exact hr
theorem Zro {es es':List PE} (h:Sm es es') (k:Int):Sm (V7 k es) (V7 k es'):=Zdg h fun a b hr=>by rw [hr.id]
theorem ZnP {es es':List PE} (h:Sm es es') (par:Int) {c c':Pr} (h1:c.id=c'.id) (h2:c.status=c'.status):Eqv (Yj es par c) (Yj es' par c'):=by
 unfold Yj
 rcases Zej h par with ⟨q1,q2⟩ | ⟨a,b,q1,q2,hr⟩
 ·rw [q1,q2]
  exact ⟨h,rfl⟩
 ·rw [q1,q2]
  dsimp only
  rw [← hr.waiting]
  split
  ·refine ⟨?_,by dsimp only;rw [h1,h2]⟩
   dsimp only
   rw [h1]
   exact Zro (ZoG h par fun a b hr=>⟨hr.id,hr.parent,hr.ended,hr.status,rfl,hr.cores⟩) _
  ·exact ⟨h,rfl⟩
theorem Zsl {es es':List PE} (h:Sm es es') (pid k:Int):Eqv (ZN pid es k) (ZN pid es' k):=by
 unfold ZN
 rcases Zej h k with ⟨q1,q2⟩ | ⟨a,b,q1,q2,hr⟩
 ·rw [q1,q2]
  exact ⟨h,rfl⟩
 ·rw [q1,q2]
  dsimp only
  rw [← hr.parent,← hr.ended]
  have hu:=ZoG h k (f:=fun q=>{ q with parent:=1 }) fun a b hr=>⟨hr.id,rfl,hr.ended,hr.status,hr.waiting,hr.cores⟩
  split
  ·split
   ·exact ZnP hu 1 hr.id hr.status
   ·exact ⟨hu,rfl⟩
  ·exact ⟨h,rfl⟩
theorem Zn4 (pid:Int):∀ (ks:List Int) {es es':List PE},Sm es es'→Eqv (ZT pid es ks) (ZT pid es' ks)
 | [], _, _, h => ⟨h, rfl⟩
 | k :: ks, es, es', h => by
  obtain ⟨h1,h2⟩:=Zsl h pid k
  obtain ⟨h3,h4⟩:=Zn4 pid ks h1
  exact ⟨h3,by simp only [ZT,h2,h4]⟩
theorem ZqV {es es':List PE} (h:Sm es es') (pid st:Int):Eqv (Y5 es pid st) (Y5 es' pid st):=by
 unfold Y5
 rcases Zej h pid with ⟨q1,q2⟩ | ⟨a,b,q1,q2,hr⟩
 ·rw [q1,q2]
  exact ⟨h,rfl⟩
 ·rw [q1,q2]
  dsimp only
  have hu:Sm (Yh pid (Yb st) es) (Yh pid (Yb st) es'):=Zo9 h pid fun a b hr=>⟨hr.id,hr.parent,rfl,rfl,rfl,List.Perm.refl _⟩
  split
  ·exact ⟨hu,rfl⟩
  ·rw [← Zhq h,← hr.parent]
   obtain ⟨h1,h2⟩:=Zn4 pid (es.map fun e=>e.p.id) hu
   obtain ⟨h3,h4⟩:=ZnP h1 a.p.parent (c:=(Yb st a).p) (c':=(Yb st b).p) hr.id rfl
   exact ⟨h3,by dsimp only;rw [h2,h4]⟩
theorem Zbj (st:Int):∀ (zs:List Int) {es es':List PE},Sm es es'→Eqv (Zi st es zs) (Zi st es' zs)
 | [], _, _, h => ⟨h, rfl⟩
 | z :: zs, es, es', h => by
  rcases Zc1 h z with ⟨q1,q2⟩ | ⟨a,b,q1,q2,hr⟩
  ·simp only [Zi,q1,q2]
   exact Zbj st zs h
  ·simp only [Zi,q1,q2]
   obtain ⟨h1,h2⟩:=ZqV h z st
   obtain ⟨h3,h4⟩:=Zbj st zs h1
   exact ⟨h3,by dsimp only;rw [h2,h4]⟩
theorem Zsv {es es':List PE} (h:Sm es es') (k st:Int):Eqv (K4 es k st).1 (K4 es' k st).1∧(K4 es k st).2=(K4 es' k st).2:=by
 unfold K4
 rcases Zc1 h k with ⟨q1,q2⟩ | ⟨a,b,q1,q2,hr⟩
 ·rw [q1,q2]
  exact ⟨⟨h,rfl⟩,rfl⟩
 ·rw [q1,q2]
  dsimp only
  split
  ·exact ⟨⟨h,rfl⟩,rfl⟩
  ·split
   ·exact ⟨⟨h,rfl⟩,rfl⟩
   ·exact ⟨ZqV h k st,rfl⟩
theorem ZrA {es es':List PE} (h:Sm es es') (id t:Int):Eqv (VD es id t).1 (VD es' id t).1∧(VD es id t).2=(VD es' id t).2:=by
 unfold VD
 rcases Zc1 h id with ⟨q1,q2⟩ | ⟨a,b,q1,q2,hr⟩
 ·rw [q1,q2]
  exact ⟨⟨h,rfl⟩,rfl⟩
 ·rw [q1,q2]
  dsimp only
  rcases Zc1 h t with ⟨q1,q2⟩ | ⟨a,b,q1,q2,hr⟩
  ·rw [q1,q2]
   exact ⟨⟨h,rfl⟩,rfl⟩
  ·rw [q1,q2]
   dsimp only
   rw [← ZjO h id,← ZjO h t]
   split
   ·exact ⟨Zbj (-1) _ h,rfl⟩
   ·exact ⟨⟨h,rfl⟩,rfl⟩
theorem ZrQ {es es':List PE} (h:Sm es es') (k:Int):Eqv (Y2 es k) (Y2 es' k):=by
 unfold Y2
 rcases Zc1 h k with ⟨q1,q2⟩ | ⟨a,b,q1,q2,hr⟩
 ·rw [q1,q2]
  exact ⟨h,rfl⟩
 ·rw [q1,q2]
  dsimp only
  rw [← hr.waiting]
  split
  ·exact ⟨h,rfl⟩
  ·rcases Zqo h (p:=fun e=>decide (e.p.parent=k)&&e.p.ended) (fun a b hr=>by rw [hr.parent,hr.ended]) with ⟨q1,q2⟩ | ⟨c,d,q1,q2,hc⟩
   ·rw [q1,q2]
    dsimp only
    rw [← Zub h (p:=fun e=>decide (e.p.parent=k)) fun a b hr=>by rw [hr.parent]]
    split
    ·exact ⟨ZoG h k (f:=fun q=>{ q with waiting:=Xb }) fun a b hr=>⟨hr.id,hr.parent,hr.ended,hr.status,rfl,hr.cores⟩,rfl⟩
    ·exact ⟨h,rfl⟩
   ·rw [q1,q2]
    dsimp only
    rw [← hc.id,← hc.status]
    exact ⟨Zro h _,rfl⟩
theorem ZfO {es es':List PE} (h:Sm es es') (parent core:Int) (nm:Bool):YL es parent core nm=YL es' parent core nm:=by
 unfold YL
 rcases Zc1 h parent with ⟨q1,q2⟩ | ⟨a,b,q1,q2,hr⟩
 ·rw [q1,q2]
 ·rw [q1,q2,Zrn h]
theorem Ziz {es es':List PE} (h:Sm es es') (k core:Int):VB es k core=VB es' k core:=by
 unfold VB
 rcases Zc1 h k with ⟨q1,q2⟩ | ⟨a,b,q1,q2,hr⟩
 ·rw [q1,q2]
 ·rw [q1,q2]
  dsimp only
  simp only [hr.cores.mem_iff]
theorem Zqj {es es':List PE} (h:Sm es es') (k core:Int) (L:Nat):Sm (Yh k (ZaK L core) es) (Yh k (ZnJ core) es'):=
 Zo9 h k fun a b hr=>⟨hr.id,hr.parent,hr.ended,hr.status,hr.waiting,(KT _).trans (hr.cores.append_right _)⟩
theorem Zml {core:Int} {a b:List Int} (h:a.Perm b):(wo core a).Perm (wo core b):=h.filter _
theorem Zun {es es':List PE} (h:Sm es es') (core:Int):Sm (es.map (JS core)) (es'.map (JS core)):=
 Zmy h fun a b hr=>⟨hr.id,hr.parent,hr.ended,hr.status,hr.waiting,Zml hr.cores⟩
theorem Zpj {es es':List PE} (h:Sm es es') (core:Int):ZbT core es=ZbT core es':=by
 unfold ZbT
 refine Zhq (Zdg h fun a b hr=>?_)
 have hw:wo core a.p.cores = []↔wo core b.p.cores = []:=by
  have:=(Zml (core:=core) hr.cores).length_eq
  rw [← Ty,← Ty,this]
 rw [hr.ended,decide_eq_decide.2 hw]
def Org (es es':List PE):Prop:=∀ e'∈es',∃ e∈es,e.p.id=e'.p.id∧(e.p.ended=Xb→e'.p.ended=Xb)
theorem VA (es:List PE):Org es es:=fun e he=>⟨e,he,rfl,id⟩
theorem Kz {a b c:List PE} (h:Org a b) (h2:Org b c):Org a c:=fun e he=>by
 obtain ⟨d,hd,h3,h4⟩:=h2 e he
 obtain ⟨f,hf,h5,h6⟩:=h d hd
 exact ⟨f,hf,h5.trans h3,fun hh=>h4 (h6 hh)⟩
theorem Zm9 (es:List PE) (k:Int) {f:Pr→Pr} (hid:∀ q,(f q).id=q.id) (hen:∀ q,q.ended=Xb→(f q).ended=Xb):Org es (ZcM k f es):=fun e he=>by
 obtain ⟨a,ha,rfl⟩:=Xj.1 he
 refine ⟨a,ha,?_⟩
 split
 ·exact ⟨(hid a.p).symm,hen a.p⟩
 ·exact ⟨rfl,id⟩
theorem Zjz (es:List PE) (k st:Int):Org es (Yh k (Yb st) es):=fun e he=>by
 obtain ⟨a,ha,rfl⟩:=Xj.1 he
 refine ⟨a,ha,?_⟩
 split
 ·exact ⟨rfl,fun _=>rfl⟩
 ·exact ⟨rfl,id⟩
theorem Zs1 (es:List PE) (k:Int):Org es (V7 k es):=fun e he=>⟨e,(Wc.1 he).1,rfl,id⟩
theorem Zfy (es:List PE) (par:Int) (c:Pr):Org es (Yj es par c).1:=by
 unfold Yj
 split
 ·split
  ·exact Kz (Zm9 es par (f:=fun q=>{ q with waiting:=Xc }) (fun _=>rfl) fun _ h=>h) (Zs1 _ _)
  ·exact VA es
 ·exact VA es
theorem Zp8 (es:List PE) (pid k:Int):Org es (ZN pid es k).1:=by
 unfold ZN
 split
 ·split
  ·have hu:=Zm9 es k (f:=fun q=>{ q with parent:=1 }) (fun _=>rfl) fun _ h=>h
   split
   ·exact Kz hu (Zfy _ _ _)
   ·exact hu
  ·exact VA es
 ·exact VA es
theorem ZgR (pid:Int):∀ (ks:List Int) (es:List PE),Org es (ZT pid es ks).1
 | [], es => VA es
 | k :: ks, es => Kz (Zp8 es pid k) (ZgR pid ks _)
theorem Znp (es:List PE) (pid st:Int):Org es (Y5 es pid st).1:=by
 unfold Y5
 split
 ·split
  ·exact Zjz es pid st
  ·exact Kz (Zjz es pid st) (Kz (ZgR pid _ _) (Zfy _ _ _))
 ·exact VA es
theorem ZcD {es es':List PE} (hs:es.Pairwise fun a b=>a.p.id < b.p.id) (h:Org es es') {z:Int} (hz:J6 es z=Xe):J6 es' z=Xe:=by
 unfold J6
 cases hf:es'.find? (fun e=>decide (e.p.id=z)) with
 | none => rfl
 | some e' =>
  dsimp only
  obtain ⟨e,he,h1,h2⟩:=h e' (Ws hf)
  have hid:e'.p.id=z:=by have:=Wh hf;simpa using this
  have hfe:=Jm hs he
  rw [h1,hid] at hfe
  unfold J6 at hz
  rw [hfe] at hz
  dsimp only at hz
  have:e.p.ended=Xb:=by
   cases hen:e.p.ended with
   | true => rfl
   | false => rw [hen] at hz; simp at hz
  rw [if_pos (h2 this)]
theorem VL {last st:Int} {p:Int→Bool} : ∀ (zs:List Int) (es:List PE),LOk es last→(∀ z∈zs,p z=Xc→J6 es z=Xe)→Zi st es (zs.filter p)=Zi st es zs
 | [], _, _, _ => rfl
 | z :: zs, es, ho, h => by
  by_cases hp:p z=Xb
  ·rw [Wd hp]
   cases hr:J6 es z with
   | none =>
    simp only [Zi,hr]
    exact VL zs es ho fun y hy=>h y (by simp [hy])
   | some e =>
    have ih:=VL (st:=st) zs (Y5 es z st).1 (KM ho) fun y hy hpy=>ZcD ho.srt (Znp es z st) (h y (by simp [hy]) hpy)
    simp only [Zi,hr,ih]
  ·rw [X9 hp]
   have hr:=h z (by simp) (by simpa using hp)
   have ih:=VL (st:=st) zs es ho fun y hy=>h y (by simp [hy])
   rw [ih]
   simp only [Zi,hr]
theorem del_run {es:List PE} (hs:es.Pairwise fun a b=>a.p.id < b.p.id) (core:Int) {e:PE} (he:e∈es) (hen:e.p.ended=Xb):J6 (es.map (JS core)) e.p.id=Xe:=by
 have hs2:(es.map (JS core)).Pairwise fun a b=>a.p.id < b.p.id:=by
  rw [U9]
  exact hs
 have:=Jm hs2 (e:=JS core e) (Xj.2 ⟨e,he,rfl⟩)
 unfold J6
 have hid:(JS core e).p.id=e.p.id:=rfl
 rw [hid] at this
 rw [this]
 dsimp only
 rw [if_pos (by exact hen)]
theorem Znd {es:List PE} {last:Int} (ho:LOk es last) (core:Int):Yk es core=VK es core:=by
 unfold Yk VK
 split
 ·congr 1
  have hb:ZbT core es=(V4 core es).filter fun z=>(J6 es z).isSome:=by
   unfold V4 ZbT
   rw [List.filter_map,List.filter_filter]
   congr 1
   refine List.filter_congr fun e he=>?_
   have hf:=Jm ho.srt he
   have:(J6 es e.p.id).isSome = !e.p.ended:=by
    unfold J6
    rw [hf]
    dsimp only
    cases e.p.ended<;>rfl
   show _=((J6 es e.p.id).isSome&&decide (wo core e.p.cores = []))
   rw [this]
  rw [hb]
  refine (VL (last:=last) _ _ (VH ho core) fun z hz hp=>?_).symm
  obtain ⟨e,he,rfl⟩:=Xj.1 hz
  rw [Wc] at he
  have hf:=Jm ho.srt he.1
  refine del_run ho.srt core he.1 ?_
  cases hen:e.p.ended with
  | true => rfl
  | false =>
   unfold J6 at hp
   rw [hf] at hp
   dsimp only at hp
   rw [hen] at hp
   simp at hp
 ·rfl
section
open Go Go.AM Go.Proofs.Ytpjnmgjphfnmmaa
set_option maxRecDepth 100000
def FR (K:List Int) (st:Int) (e e':PE):Prop:=e.p.id=e'.p.id∧((e'.p.ended=e.p.ended∧e'.p.status=e.p.status∧e'.p.cores=e.p.cores)∨(e.p.id∈K∧e.p.ended=Xc∧e'.p.ended=Xb∧e'.p.status=st∧e'.p.cores = []))
def Fra (K:List Int) (st:Int) (es es':List PE):Prop:=∀ e'∈es',∃ e∈es,FR K st e e'
def Frb (K:List Int) (es es':List PE):Prop:=∀ e∈es,e.p.ended=Xc→e.p.id∉K→∃ e'∈es',e'.p.id=e.p.id
variable {st last:Int} {es es' es2:List PE} {K K':List Int}
theorem FR.refl (e:PE):FR K st e e:=⟨rfl,.inl ⟨rfl,rfl,rfl⟩⟩
theorem Ku (es:List PE):Fra K st es es:=fun e he=>⟨e,he,FR.refl e⟩
theorem ZcC (h:Fra K st es es') (hk:∀ z∈K,z∈K'):Fra K' st es es':=fun e he=>by
 obtain ⟨d,hd,h1,h2⟩:=h e he
 exact ⟨d,hd,h1,h2.imp id fun ⟨a,b⟩=>⟨hk _ a,b⟩⟩
theorem K9 (h:Fra K st es es') (h2:Fra K st es' es2):Fra K st es es2:=fun e he=>by
 obtain ⟨d,hd,h3,h4⟩:=h2 e he
 obtain ⟨f,hf,h5,h6⟩:=h d hd
 refine ⟨f,hf,h5.trans h3,?_⟩
 rcases h4 with ⟨a,b,c⟩ | ⟨a,b,c⟩
 ·rcases h6 with ⟨p,q,r⟩ | ⟨p,q,r,s,t⟩
  ·exact .inl ⟨a.trans p,b.trans q,c.trans r⟩
  ·exact .inr ⟨p,q,a.trans r,b.trans s,c.trans t⟩
 ·rcases h6 with ⟨p,q,r⟩ | ⟨p,q,r,s,t⟩
  ·exact .inr ⟨by rw [h5];exact a,by rw [← p];exact b,c⟩
  ·rw [r] at b
   cases b
theorem ZsD (hs:es.Pairwise fun a b=>a.p.id < b.p.id) {a b:PE} (ha:a∈es) (hb:b∈es) (h:a.p.id=b.p.id):a=b:=by
 have h1:=Jm hs ha
 have h2:=Jm hs hb
 rw [h,h2] at h1
 exact (Option.some.inj h1).symm
theorem W0 (es:List PE):Frb K es es:=fun e he _ _=>⟨e,he,rfl⟩
theorem Zf8 (h:Frb K es es') (hk:∀ z∈K,z∈K'):Frb K' es es':=fun e he h1 h2=>h e he h1 fun hh=>h2 (hk _ hh)
theorem WK (hs:es.Pairwise fun a b=>a.p.id < b.p.id) (ha:Fra K st es es') (h:Frb K es es') (h2:Frb K es' es2):Frb K es es2:=fun e he h3 h4=>by
 obtain ⟨d,hd,h5⟩:=h e he h3 h4
 obtain ⟨f,hf,h6,h7⟩:=ha d hd
 have:f=e:=ZsD hs hf he (h6.trans h5)
 subst this
 have hdr:d.p.ended=Xc:=by
  rcases h7 with ⟨a,_⟩ | ⟨a,_⟩
  ·rw [a];exact h3
  ·exact absurd a h4
 obtain ⟨g,hg,h8⟩:=h2 d hd hdr (by rw [h5];exact h4)
 exact ⟨g,hg,h8.trans h5⟩
theorem ZdY (es:List PE) (k:Int) {f:Pr→Pr} (h:∀ q,(f q).id=q.id∧(f q).ended=q.ended∧(f q).status=q.status∧(f q).cores=q.cores):Fra K st es (ZcM k f es):=fun e he=>by
 obtain ⟨a,ha,rfl⟩:=Xj.1 he
 refine ⟨a,ha,?_⟩
 split
 ·obtain ⟨h1,h2,h3,h4⟩:=h a.p
  exact ⟨h1.symm,.inl ⟨h2,h3,h4⟩⟩
 ·exact FR.refl a
theorem Zsw (es:List PE) (k:Int) {f:Pr→Pr} (h:∀ q,(f q).id=q.id):Frb K es (ZcM k f es):=fun e he _ _=>by
 refine ⟨_,Xj.2 ⟨e,he,rfl⟩,?_⟩
 split
 ·exact h e.p
 ·rfl
theorem ZnX (es:List PE) (k:Int):Fra K st es (V7 k es):=fun e he=>⟨e,(Wc.1 he).1,FR.refl e⟩
theorem Zlb (es:List PE) (par:Int) (c:Pr):Fra K st es (Yj es par c).1:=by
 unfold Yj
 split
 ·split
  ·exact K9 (ZdY es par (f:=fun q=>{ q with waiting:=Xc }) fun _=>⟨rfl,rfl,rfl,rfl⟩) (ZnX _ _)
  ·exact Ku es
 ·exact Ku es
theorem Zk4 (par:Int) (c:Pr) (hc:∀ e∈es,e.p.id=c.id→e.p.ended=Xb∨e.p.id∈K):Frb K es (Yj es par c).1:=by
 unfold Yj
 split
 ·split
  ·intro e he h1 h2
   refine ⟨if e.p.id=par then { e with p:={ e.p with waiting:=Xc } } else e,Wc.2 ⟨Xj.2 ⟨e,he,rfl⟩,?_⟩,by split<;>rfl⟩
   have hne:e.p.id≠c.id:=fun hh=>by
    rcases hc e he hh with h3 | h3
    ·rw [h1] at h3;cases h3
    ·exact h2 h3
   split<;>simp [hne]
  ·exact W0 es
 ·exact W0 es
theorem ZkC (es:List PE) (pid k:Int):Fra K st es (ZN pid es k).1:=by
 unfold ZN
 split
 ·split
  ·have hu:=ZdY (K:=K) (st:=st) es k (f:=fun q=>{ q with parent:=1 }) fun _=>⟨rfl,rfl,rfl,rfl⟩
   split
   ·exact K9 hu (Zlb _ _ _)
   ·exact hu
  ·exact Ku es
 ·exact Ku es
theorem Zqa (hs:es.Pairwise fun a b=>a.p.id < b.p.id) (pid k:Int):Frb K es (ZN pid es k).1:=by
 unfold ZN
 split
 ·rename_i c hc
  have hck:c.p.id=k:=by have:=Wh hc;simpa using this
  have hcm:=Ws hc
  split
  ·have hu:=ZdY (K:=K) (st:=0) es k (f:=fun q=>{ q with parent:=1 }) fun _=>⟨rfl,rfl,rfl,rfl⟩
   have hb:=Zsw (K:=K) es k (f:=fun q=>{ q with parent:=1 }) fun _=>rfl
   split
   ·rename_i hen
    refine WK (st:=0) hs hu hb (Zk4 1 _ fun e he hid=>.inl ?_)
    obtain ⟨a,ha,h1,h2⟩:=ZdY (K:=[]) (st:=0) es k (f:=fun q=>{ q with parent:=1 }) (fun _=>⟨rfl,rfl,rfl,rfl⟩) e he
    have:a=c:=ZsD hs ha hcm (h1.trans hid)
    subst this
    rcases h2 with ⟨h3,_⟩ | ⟨h3,_⟩
    ·rw [h3];exact hen
    ·cases h3
   ·exact hb
  ·exact W0 es
 ·exact W0 es
theorem ZfQ (pid:Int):∀ (ks:List Int) (es:List PE),Fra K st es (ZT pid es ks).1
 | [], es => Ku es
 | k :: ks, es => K9 (ZkC es pid k) (ZfQ pid ks _)
theorem ZjB {pid:Int} (hp:1≤pid):∀ (ks:List Int) (es:List PE),LOk es last→Frb K es (ZT pid es ks).1
 | [], es, _ => W0 es
 | k :: ks, es, ho => WK (st := 0) ho.srt (ZkC es pid k) (Zqa ho.srt pid k) (ZjB hp ks _ (Zgk ho hp))
theorem Zgf (ho:LOk es last) {k:Int} {e:PE} (hr:J6 es k=Xa e) (st:Int):Fra [k] st es (Y5 es k st).1:=by
 obtain ⟨hf,hen⟩:=Je hr
 have hem:=Ws hf
 have hek:e.p.id=k:=by have:=Wh hf;simpa using this
 have hu:Fra [k] st es (Yh k (Yb st) es):=fun a ha=>by
  obtain ⟨b,hb,rfl⟩:=Xj.1 ha
  refine ⟨b,hb,?_⟩
  split
  ·rename_i hbk
   have:b=e:=ZsD ho.srt hb hem (hbk.trans hek.symm)
   subst this
   exact ⟨rfl,.inr ⟨by simp [hbk],hen,rfl,rfl,rfl⟩⟩
  ·exact FR.refl b
 unfold Y5
 rw [hf]
 dsimp only
 split
 ·exact hu
 ·exact K9 hu (K9 (ZfQ k _ _) (Zlb _ _ _))
theorem ZsY (ho:LOk es last) {k:Int} {e:PE} (hr:J6 es k=Xa e) (st:Int):Frb [k] es (Y5 es k st).1:=by
 obtain ⟨hf,hen⟩:=Je hr
 have hem:=Ws hf
 have hek:e.p.id=k:=by have:=Wh hf;simpa using this
 have hu:Fra [k] st es (Yh k (Yb st) es):=fun a ha=>by
  obtain ⟨b,hb,rfl⟩:=Xj.1 ha
  refine ⟨b,hb,?_⟩
  split
  ·rename_i hbk
   have:b=e:=ZsD ho.srt hb hem (hbk.trans hek.symm)
   subst this
   exact ⟨rfl,.inr ⟨by simp [hbk],hen,rfl,rfl,rfl⟩⟩
  ·exact FR.refl b
 have hub:Frb [k] es (Yh k (Yb st) es):=fun a ha _ _=>by
  refine ⟨_,Xj.2 ⟨a,ha,rfl⟩,?_⟩
  split<;>rfl
 have hlu:LOk (Yh k (Yb st) es) last:=Zbt ho (fun _=>rfl) fun _=>rfl
 have hrg:=ho.rng e hem
 unfold Y5
 rw [hf]
 dsimp only
 split
 ·exact hub
 ·refine WK (st:=st) ho.srt hu hub (WK (st:=st) hlu.srt (ZfQ k _ _) (ZjB (by omega) _ _ hlu) (Zk4 _ _ fun a ha hid=>.inr ?_))
  have:a.p.id=e.p.id:=hid
  rw [this,hek]
  simp
theorem ZrT (ho:LOk es last) (k st:Int):J6 (Y5 es k st).1 k=Xe:=by
 unfold Y5
 cases hf:es.find? (fun e=>decide (e.p.id=k)) with
 | none =>
  dsimp only
  unfold J6
  rw [hf]
 | some e =>
  dsimp only
  have hek:e.p.id=k:=by have:=Wh hf;simpa using this
  have hlu:LOk (Yh k (Yb st) es) last:=Zbt ho (fun _=>rfl) fun _=>rfl
  have hu:J6 (Yh k (Yb st) es) k=Xe:=by
   have:=ZdZ (k:=k) (f:=Yb st) (fun _=>rfl) hf
   rw [if_pos hek] at this
   unfold J6
   rw [this]
   rfl
  split
  ·exact hu
  ·exact ZcD hlu.srt (Kz (ZgR k _ _) (Zfy _ _ _)) hu
theorem W6 (st:Int):∀ (zs:List Int) (es:List PE),Org es (Zi st es zs).1
 | [], es => VA es
 | z :: zs, es => by
  unfold Zi
  split
  ·exact Kz (Znp es z st) (W6 st zs _)
  ·exact W6 st zs es
theorem Yx (st:Int):∀ (zs:List Int) (es:List PE),LOk es last→Fra zs st es (Zi st es zs).1
 | [], es, _ => Ku es
 | z :: zs, es, ho => by
  cases hr:J6 es z with
  | none =>
   simp only [Zi,hr]
   exact ZcC (Yx st zs es ho) fun y hy=>by simp [hy]
  | some e =>
   simp only [Zi,hr]
   exact K9 (ZcC (Zgf ho hr st) fun y hy=>by simp at hy;simp [hy]) (ZcC (Yx st zs _ (KM ho)) fun y hy=>by simp [hy])
theorem Zb7 (st:Int):∀ (zs:List Int) (es:List PE),LOk es last→Frb zs es (Zi st es zs).1
 | [], es, _ => W0 es
 | z :: zs, es, ho => by
  cases hr:J6 es z with
  | none =>
   simp only [Zi,hr]
   exact Zf8 (Zb7 st zs es ho) fun y hy=>by simp [hy]
  | some e =>
   simp only [Zi,hr]
   exact WK (st:=st) ho.srt (ZcC (Zgf ho hr st) fun y hy=>by simp at hy;simp [hy]) (Zf8 (ZsY ho hr st) fun y hy=>by simp at hy;simp [hy]) (Zf8 (Zb7 st zs _ (KM ho)) fun y hy=>by simp [hy])
theorem W9 (st:Int):∀ (zs:List Int) (es:List PE),LOk es last→∀ z∈zs,J6 (Zi st es zs).1 z=Xe
 | [], _, _, _, h => by cases h
 | y :: zs, es, ho, z, hz => by
  cases hr:J6 es y with
  | none =>
   simp only [Zi,hr]
   rcases Xq.1 hz with rfl | hz
   ·exact ZcD ho.srt (W6 st zs es) hr
   ·exact W9 st zs es ho z hz
  | some e =>
   simp only [Zi,hr]
   rcases Xq.1 hz with rfl | hz
   ·exact ZcD (KM ho).srt (W6 st zs _) (ZrT ho z st)
   ·exact W9 st zs _ (KM ho) z hz
end
section
open Go Go.AM Go.Proofs.Ytpjnmgjphfnmmaa
set_option maxRecDepth 100000
variable {rows:LL} {F:Ym}
theorem ZdV (x:Int) {n:Int} (m0:0 < n) (m1:n≤1073741824):∃ a,g9 x n=Xa a∧0≤a∧a < n:=by
 have hr:iop .rem .i64 x n=Int.tmod x n:=rfl
 have h1:=Int.tmod_lt_of_pos x m0
 have h2 : -n < Int.tmod x n:=by
  have:=Int.tmod_lt_of_pos (-x) m0
  rw [Int.neg_tmod] at this
  omega
 rw [Zvz,hr,Zc (by omega)]
 by_cases hn:Int.tmod x n < 0
 ·rw [if_pos (by simp [cop,hn]),Znx (by omega) (by omega)]
  exact ⟨_,rfl,by omega,by omega⟩
 ·rw [if_neg (by simp [cop];omega)]
  exact ⟨_,rfl,by omega,by omega⟩
def CO (es:List PE):Prop:=∀ e∈es,e.p.cores.Pairwise (fun a b=>a < b)∧∀ z∈e.p.cores,0≤z∧z < 32
theorem Znv:∀ (l:List Int) (a:Int),l.Pairwise (fun a b=>a < b)→(∀ z∈l,a≤z∧z < 32)→a≤32→(l.length:Int)≤32-a
 | [], a, _, _, ha => by simp; omega
 | z :: l, a, hs, hr, ha => by
  rw [Ug] at hs
  have h1:=hr z (by simp)
  have:=Znv l (z+1) hs.2 (fun y hy=>⟨by have:=hs.1 y hy;omega,(hr y (by simp [hy])).2⟩) (by omega)
  simp only [Xz]
  omega
theorem Zkq {es:List PE} (h:CO es):∀ e∈es,e.p.cores.length≤32:=fun e he=>by
 obtain ⟨h1,h2⟩:=h e he
 have:=Znv _ 0 h1 h2 (by decide)
 omega
theorem Zh2 {K:List Int} {st:Int} {es es':List PE} (h:CO es) (hf:Fra K st es es'):CO es':=fun e he=>by
 obtain ⟨a,ha,_,h1⟩:=hf e he
 rcases h1 with ⟨_,_,h1⟩ | ⟨_,_,_,_,h1⟩
 ·rw [h1];exact h a ha
 ·rw [h1];exact ⟨List.Pairwise.nil,fun z hz=>by cases hz⟩
theorem Zrq {es:List PE} (h:CO es) (core:Int):CO (es.map (JS core)):=fun e he=>by
 obtain ⟨a,ha,rfl⟩:=Xj.1 he
 obtain ⟨h1,h2⟩:=h a ha
 exact ⟨h1.filter _,fun z hz=>h2 z (Wc.1 hz).1⟩
theorem ZrV {zs:List Int} (h:zs.Nodup):(srt zs).Pairwise fun a b=>a < b:=by
 have h1:=WV zs
 have h2:(srt zs).Pairwise (fun a b=>a≠b):=by
  have:=(KT zs).nodup_iff.2 h
  exact Tv.1 this
 exact (h1.and h2).imp fun ⟨a,b⟩=>by omega
inductive Stp (es:List PE) (last:Int):List PE→Int→Prop
 | same : Stp es last es last
 | spawn (e' p : PE) (parent core : Int) (nm : ByteArray) : J6 es parent = Xa p → (0 ≤ core ∧ core < 32) → e'.p = ⟨last + 1, parent, nm, [core], Xc, 0, Xc⟩ → Stp es last (es ++ [e']) (last + 1)
 | span (k core : Int) (L : Nat) (e : PE) : J6 es k = Xa e → core ∉ e.p.cores → (0 ≤ core ∧ core < 32) → Stp es last (Yh k (ZaK L core) es) last
 | exit (k st : Int) (e : PE) : J6 es k = Xa e → Stp es last (Y5 es k st).1 last
 | kill (zs : List Int) : Stp es last (Zi (-1) es zs).1 last
 | wait (k : Int) : Stp es last (Y2 es k).1 last
 | depart (core : Int) : (0 ≤ core ∧ core < 32) → Stp es last (Zi (-2) (es.map (JS core)) (V4 core es)).1 last
theorem ZpI {es:List PE} {last:Int} (h:LOk es last) (k:Int):LOk (Y2 es k).1 last:=by
 unfold Y2
 cases hr:J6 es k with
 | none => exact h
 | some p =>
  obtain ⟨hf,_⟩:=Je hr
  have hpk:p.p.id=k:=by have:=Wh hf;simpa using this
  have hpr:=h.rng p (Ws hf)
  dsimp only
  split
  ·exact h
  ·split
   ·rename_i c hc
    have hcm:=Ws hc
    have hcp:c.p.parent=k:=by
     have:=Wh hc
     rw [Xs] at this
     simpa using this.1
    have:=h.par c hcm
    exact Zjp h (by omega)
   ·split
    ·exact Zdp (f:=fun q=>{ q with waiting:=Xb }) h (fun _=>rfl) fun e he _=>h.par e he
    ·exact h
theorem Zj0 (es:List PE) (k:Int) {K:List Int} {st:Int} : Fra K st es (Y2 es k).1:=by
 unfold Y2
 split
 ·exact Ku es
 ·split
  ·exact Ku es
  ·split
   ·exact ZnX _ _
   ·split
    ·exact ZdY es k (f:=fun q=>{ q with waiting:=Xb }) fun _=>⟨rfl,rfl,rfl,rfl⟩
    ·exact Ku es
theorem Zsp {es es':List PE} {last last':Int} (h:LOk es last) (s:Stp es last es' last'):∃ e∈es',e.p.id=1:=by
 cases s with
 | same => exact h.one
 | spawn e' p parent core nm _ _ _ =>
  obtain ⟨e,he,h1⟩:=h.one
  exact ⟨e,by simp [he],h1⟩
 | span k core L e _ _ _ => exact (Zbt (f := ZaK L core) h (fun _ => rfl) fun _ => rfl).one
 | exit k st e _ => exact (KM h).one
 | kill zs => exact (Y0 zs _ h).one
 | wait k => exact (ZpI h k).one
 | depart core _ => exact (Y0 _ _ (VH h core)).one
theorem ZtU {es es':List PE} {last last':Int} (h:LOk es last) (hc:CO es) (s:Stp es last es' last'):CO es':=by
 cases s with
 | same => exact hc
 | spawn e' p parent core nm _ h1 h2 =>
  intro e he
  rcases Xv.1 he with he | he
  ·exact hc e he
  ·rw [XF] at he
   rw [he,h2]
   exact ⟨Tw _ _,fun z hz=>by rw [XF] at hz;omega⟩
 | span k core L e h1 h2 h3 =>
  intro a ha
  obtain ⟨b,hb,rfl⟩:=Xj.1 ha
  split
  ·rename_i hbk
   obtain ⟨hf,_⟩:=Je h1
   have hek:e.p.id=k:=by have:=Wh hf;simpa using this
   have:b=e:=ZsD h.srt hb (Ws hf) (hbk.trans hek.symm)
   subst this
   obtain ⟨c1,c2⟩:=hc b hb
   refine ⟨ZrV ?_,fun z hz=>?_⟩
   ·rw [List.nodup_append]
    refine ⟨Tv.2 (c1.imp fun hh=>by omega),by simp,fun x hx y hy=>?_⟩
    rw [XF] at hy
    intro hh
    rw [hy] at hh
    exact h2 (hh ▸ hx)
   ·have:=(KT (b.p.cores++[core])).mem_iff.1 hz
    rcases Xv.1 this with hz | hz
    ·exact c2 z hz
    ·rw [XF] at hz
     omega
  ·exact hc b hb
 | exit k st e h1 => exact Zh2 hc (Zgf h h1 st)
 | kill zs => exact Zh2 hc (Yx (-1) zs es h)
 | wait k => exact Zh2 (K := []) (st := 0) hc (Zj0 es k)
 | depart core _ => exact Zh2 (Zrq hc core) (Yx (-2) _ _ (VH h core))
structure Bo (rows:LL) (m:MS) (r:RS) (F:Ym):Prop where
 h:ZD rows (m.frag++(r.frag++F))
 ok:m.Ok
 sm:Sm m.es r.es
 lst:m.last=r.last
 lok:LOk m.es m.last
 co:CO m.es
theorem Zrv {m:MS} (hm:m.Ok) (h:∃ e∈m.es,e.p.id=1):LOk m.es m.last:=⟨hm.srt,hm.rng,hm.par,hm.len,hm.lst,h⟩
theorem Zrj {es es':List PE} {last:Int} (h:LOk es last) (s:Sm es es'):LOk es' last:=by
 have hids:=Zhq s
 refine ⟨?_,fun b hb=>?_,fun b hb=>?_,by rw [← Zrn s];exact h.len,h.lst,?_⟩
 ·have h1:=h.srt
  rw [← U9 (f:=fun e:PE=>e.p.id) (R:=fun a b=>a < b)] at h1 ⊢
  rw [← hids]
  exact h1
 ·obtain ⟨a,ha,hr⟩:=ZoM s hb
  rw [← hr.id]
  exact h.rng a ha
 ·obtain ⟨a,ha,hr⟩:=ZoM s hb
  rw [← hr.id,← hr.parent]
  exact h.par a ha
 ·obtain ⟨a,ha,h1⟩:=h.one
  have:(1:Int)∈es'.map fun e=>e.p.id:=by
   rw [← hids]
   exact Xj.2 ⟨a,ha,h1⟩
  obtain ⟨b,hb,h2⟩:=Xj.1 this
  exact ⟨b,hb,h2⟩
theorem mvR {A R F1 F:Ym} (h:ZD rows (A++(F1++(R++F)))):ZD rows (R++(A++(F1++F))):=by
 rw [← Xo] at h
 have:=h.perm (Uh (A++F1) R F)
 rw [Xo] at this
 exact this
theorem mvM {A R G F:Ym} (h:ZD rows (R++(G++(A++F)))):ZD rows (A++(R++(G++F))):=mvR h
theorem Bo.step {m m':MS} {r r':RS} {F F':Ym} {rows rows':LL} (b:Bo rows m r F) (h:ZD rows' (m'.frag++(r'.frag++F'))) (hm:m'.Ok) (hs:Sm m'.es r'.es) (hl:m'.last=r'.last) (st:Stp m.es m.last m'.es m'.last):Bo rows' m' r' F':=
 ⟨h,hm,hs,hl,Zrv hm (Zsp b.lok st),ZtU b.lok b.co st⟩
theorem Zfj {γ:Type} {l:List Ziu} {i:Nat} {a:Ziu} (h:l[i]? = Xa a) (k:Int×Int×Int→Option γ):Zl (ZW l) (i:Int) [.int .i64,.int .i64,.int .i64] k=k (a.1,a.2.1,a.2.2):=
 YH (l:=ZW l) (sh:=[.int .i64,.int .i64,.int .i64]) (cs:=[I a.1,I a.2.1,I a.2.2]) (r:=(a.1,a.2.1,a.2.2)) k (by omega) (by rw [Wr];simp only [ZW,Xl,h,Xw]) rfl
theorem Zjw (l:List Ziu) (hl:l.length≤1000000):∀ (d i k:Nat),i+d=l.length→d < k→ZqL k (ZW l) (ZW l) (i:Int)=Xa Xb
 | 0, i, k, hd, hk => by
  obtain ⟨k',rfl⟩:∃ k',k=k'+1:=⟨k-1,by omega⟩
  have hlen:((ZW l).length:Int)=(l.length:Int):=by simp [ZW]
  rw [ZjC,hlen,if_neg (by simp [cop];omega)]
 | d + 1, i, k, hd, hk => by
  obtain ⟨k',rfl⟩:∃ k',k=k'+1:=⟨k-1,by omega⟩
  have hlen:((ZW l).length:Int)=(l.length:Int):=by simp [ZW]
  have hi:i < l.length:=by omega
  have hz:=Xr hi
  rw [ZjC,hlen,if_pos (by simp [cop];omega),Zfj hz,Zfj hz,ZaJ (by omega),if_neg (by simp [cop])]
  exact Zjw l hl d (i+1) k' (by omega) (by omega)
theorem s38 (l:List Ziu) (hl:l.length≤1000000):g38 (ZW l) (ZW l)=Xa Xb:=by
 rw [Zut,if_neg (by simp [cop])]
 exact Zjw l hl l.length 0 Jv (by omega) (by unfold Jv;omega)
theorem W4 (st:Int):∀ (zs:List Int) (es:List PE) (last:Int),LOk es last→(Zi st es zs).2.length≤65*zs.length
 | [], _, _, _ => XA _
 | z :: zs, es, last, ho => by
  have hl:=ho.len
  cases hr:J6 es z with
  | none =>
   simp only [Zi,hr,Xz]
   have:=W4 st zs es last ho
   omega
  | some e =>
   simp only [Zi,hr,Xz,Xu]
   have:=W4 st zs _ last (KM (pid:=z) (st:=st) ho)
   have:=ZbM es z st
   omega
theorem s33 (a b c d:Int) (raw:Bool) (nm:ByteArray):∃ p q u v w,g33 a b c d raw nm=Xa (p,q,u,v,w)∧ByteArray.size w≤60:=by
 obtain ⟨y1,e1,_,_⟩:=ZdV b (n:=8) (by decide) (by decide)
 obtain ⟨y2,e2,_,_⟩:=ZdV c (n:=8) (by decide) (by decide)
 obtain ⟨y3,e3,_,_⟩:=ZdV d (n:=3) (by decide) (by decide)
 obtain ⟨y4,e4,_,_⟩:=ZdV c (n:=256) (by decide) (by decide)
 rw [ZtS,e1,e2,e3,e4]
 cases raw with
 | false => exact ⟨_, _, _, _, _, rfl, by decide⟩
 | true =>
  rw [if_pos rfl]
  by_cases h:nm.size≤60
  ·rw [if_pos (by simp [cop];omega)]
   exact ⟨_,_,_,_,_,rfl,h⟩
  ·rw [if_neg (by simp [cop];omega)]
   exact ⟨_,_,_,_,_,rfl,by decide⟩
theorem p10 {m:MS} {r:RS} (b:Bo rows m r F) {x y:LL} (hx:Ze x = .oref (m.jm+1) 0) (hy:Ze y = .oref (r.jr+1) 0) (hlast:m.last < 1048576) (parent core:Int) {nm:ByteArray} (hn:nm.size≤60) :
  ∃ v e rows1 rows2 m' r' F',g10 x parent nm core rows=Xa (v,e,rows1)∧g34 y parent nm core rows1=Xa (v,e,rows2)∧Bo rows2 m' r' F'∧m'.jm=m.jm∧r'.jr=r.jr∧m'.last≤m.last+1∧Stp m.es m.last m'.es m'.last:=by
 have h28:=s28 nm (by omega)
 have h56:=s56 nm (by omega)
 have hlr:=Zrj b.lok b.sm
 by_cases hc:YL m.es parent core (ZgK nm)=0
 ·have hc2:YL r.es parent core (ZgK nm)=0:=by rw [← ZfO b.sm];exact hc
  obtain ⟨rows1,e',q1,q2,q3,q4⟩:=s10 b.h b.ok hx h28 hc hlast
  have hr1:=q3.perm (Uh _ _ _)
  have hne:r.es≠[]:=by
   obtain ⟨e,he,_⟩:=hlr.one
   intro hh
   rw [hh] at he
   cases he
  have hl1 : -1000≤r.last∧r.last < 1048576:=by
   obtain ⟨e,he,h1⟩:=hlr.one
   have:=hlr.rng e he
   have:=b.lst
   omega
  obtain ⟨rows2,ja2,G,t1,t2⟩:=s34 hr1 hne hlr.len hy h56 hc2 hl1
  have hrun:∃ p,J6 m.es parent=Xa p:=by
   unfold YL at hc
   cases hp:J6 m.es parent with
   | none => rw [hp] at hc; exact absurd hc (by show ¬ ((17 : Int) = 0); decide)
   | some p => exact ⟨p, rfl⟩
  obtain ⟨p,hp⟩:=hrun
  have hcore:0≤core∧core < 32:=by
   unfold YL at hc
   rw [hp] at hc
   dsimp only at hc
   by_cases h1:ZgK nm=Xb
   ·rw [if_pos h1] at hc
    by_cases h2:0≤core∧core < 32
    ·exact h2
    ·rw [if_neg h2] at hc
     exact absurd hc (by decide)
   ·rw [if_neg h1] at hc
    exact absurd hc (by decide)
  have st:Stp m.es m.last (m.es++[e']) (m.last+1):=.spawn e' p parent core nm hp hcore q2
  refine ⟨_,_,rows1,rows2,_,_,_,q1,by rw [b.lst];exact t1,b.step (m':={ m with es:=m.es++[e'],last:=m.last+1 }) (mvM t2) q4 (ZtT b.sm (.cons ⟨?_,?_,?_,?_,?_,?_⟩ .nil)) (by show m.last+1=r.last+1;rw [b.lst]) st,rfl,rfl,Int.le_refl _,st⟩
  ·rw [q2,b.lst]
  ·rw [q2]
  ·rw [q2]
  ·rw [q2]
  ·rw [q2]
  ·rw [q2]
 ·have hc2:YL r.es parent core (ZgK nm)≠0:=by rw [← ZfO b.sm];exact hc
  have q1:=ZtH b.h hx h28 hc
  have t1:=Zur (b.h.perm (Uh _ _ _)) hlr.len hy h56 hc2
  rw [← ZfO b.sm] at t1
  exact ⟨_,_,rows,rows,m,r,F,q1,t1,b,rfl,rfl,by omega,.same⟩
end
section
open Go Go.AM Go.Proofs.Ytpjnmgjphfnmmaa
set_option maxRecDepth 100000
variable {rows:LL} {F:Ym}
theorem Zr0 (z:Int):cop .eql z z=Xb:=by simp [cop]
theorem Zp6 {m:MS} {r:RS} (b:Bo rows m r F) (zs:List Int) (st:Int) (hz:zs.length≤100):(Zi st m.es zs).2.length≤1000000:=by
 have:=W4 st zs m.es m.last b.lok
 omega
theorem s17 {m:MS} {r:RS} (b:Bo rows m r F) {x y:LL} (hx:Ze x = .oref (m.jm+1) 0) (hy:Ze y = .oref (r.jr+1) 0) (hlast:m.last < 1048576) (k0 k1 k2 k3:Int) (raw:Bool) (nm:ByteArray) :
  ∃ rows2 m' r' F',g17 x y k0 k1 k2 k3 raw nm rows=Xa (Xb,rows2)∧Bo rows2 m' r' F'∧m'.jm=m.jm∧r'.jr=r.jr∧m'.last≤m.last+1∧Stp m.es m.last m'.es m'.last:=by
 obtain ⟨id,other,core,status,name,h33,hn⟩:=s33 k0 k1 k2 k3 raw nm
 obtain ⟨kd,hk,hk0,hk1⟩:=ZdV k0 (n:=7) (by decide) (by decide)
 have hlr:=Zrj b.lok b.sm
 have hlr':LOk r.es r.last:=by rw [← b.lst];exact hlr
 have hcl:∀ e∈m.es,e.p.cores.length≤100:=fun e he=>XI (Zkq b.co e he) (by decide)
 have hcr:∀ e∈r.es,e.p.cores.length≤100:=fun e he=>by
  obtain ⟨a,ha,h1⟩:=ZoM b.sm he
  rw [← h1.cores.length_eq]
  exact hcl a ha
 rw [ZtA,h33,Xi]
 dsimp only
 rw [hk,Xi]
 have spawn:∃ rows2 m' r' F',((g10 x id name core rows).bind fun (r15:Int×Int×LL)=>(g34 y id name core r15.2.2).bind fun (r18:Int×Int×LL)=>if (cop .eql r15.1 r18.1)=Xb then Xa ((cop .eql r15.2.1 r18.2.1),r18.2.2) else Xa (Xc,r18.2.2))=Xa (Xb,rows2)∧Bo rows2 m' r' F'∧m'.jm=m.jm∧r'.jr=r.jr∧m'.last≤m.last+1∧Stp m.es m.last m'.es m'.last:=by
  obtain ⟨v,e,rows1,rows2,m',r',F',q1,q2,q3,q4,q5,q6,q7⟩:=p10 b hx hy hlast id core hn
  refine ⟨rows2,m',r',F',?_,q3,q4,q5,q6,q7⟩
  rw [q1,Xi]
  dsimp only
  rw [q2,Xi]
  dsimp only
  rw [if_pos (Zr0 _),Zr0]
 by_cases c0:kd=0
 ·rw [if_pos (by simp [cop,c0])]
  exact spawn
 rw [if_neg (by simp [cop,c0])]
 by_cases c1:kd=1
 ·rw [if_pos (by simp [cop,c1])]
  exact spawn
 rw [if_neg (by simp [cop,c1])]
 by_cases c2:kd=2
 ·rw [if_pos (by simp [cop,c2])]
  by_cases hc:VB m.es id core=0
  ·have hc2:VB r.es id core=0:=by rw [← Ziz b.sm];exact hc
   obtain ⟨rows1,F1,L,q1,q2,q3⟩:=s35 b.h b.ok hx hcl hc
   obtain ⟨rows2,es',t1,t2,t3,_⟩:=s36 (mvR q2) hlr.srt hlr.len hy (k:=id) (core:=core) hcr
   rw [t3 hc2] at t2
   have st:Stp m.es m.last (Yh id (ZaK L core) m.es) m.last:=by
    unfold VB at hc
    cases hp:J6 m.es id with
    | none => rw [hp] at hc; exact absurd hc (by show ¬ ((17 : Int) = 0); decide)
    | some p =>
     rw [hp] at hc
     dsimp only at hc
     by_cases h2:0≤core∧core < 32
     ·rw [if_pos h2] at hc
      by_cases h3:core∈p.p.cores
      ·rw [if_pos h3] at hc
       exact absurd hc (by decide)
      ·exact .span id core L p hp h3 h2
     ·rw [if_neg h2] at hc
      exact absurd hc (by decide)
   refine ⟨rows2,_,_,_,?_,b.step (m':={ m with es:=Yh id (ZaK L core) m.es }) (r':={ r with es:=Yh id (ZnJ core) r.es }) (t2.perm (Uh _ _ _)) q3 (Zqj b.sm id core L) b.lst st,rfl,rfl,by show m.last≤m.last+1;omega,st⟩
   rw [q1,Xi]
   dsimp only
   rw [t1,Xi,hc2]
   rfl
  ·have hc2:VB r.es id core≠0:=by rw [← Ziz b.sm];exact hc
   have q1:=ZuG b.h b.ok hx hcl hc
   obtain ⟨rows2,es',t1,t2,_,t3⟩:=s36 (b.h.perm (Uh _ _ _)) hlr.srt hlr.len hy (k:=id) (core:=core) hcr
   rw [t3 hc2] at t2
   refine ⟨rows2,m,r,F,?_,b.step (t2.perm (Uh _ _ _)) b.ok b.sm b.lst .same,rfl,rfl,by omega,.same⟩
   rw [q1,Xi]
   dsimp only
   rw [t1,Xi,Ziz b.sm,Zr0]
 rw [if_neg (by simp [cop,c2])]
 by_cases c3:kd=3
 ·rw [if_pos (by simp [cop,c3])]
  obtain ⟨rows1,F1,q1,q2,q3⟩:=s13 b.h b.ok hx id status
  obtain ⟨rows2,ja2,G,t1,t2⟩:=s37 (mvR q2) hlr' hy id status
  obtain ⟨⟨g1,g2⟩,g3⟩:=Zsv b.sm id status
  have hrl:(K4 m.es id status).1.2.length≤1000000:=by
   unfold K4
   split
   ·simp
   ·split
    ·simp
    ·split
     ·simp
     ·have:=ZbM m.es id status
      have:=b.lok.len
      dsimp only
      omega
  have st:Stp m.es m.last (K4 m.es id status).1.1 m.last:=by
   unfold K4
   split
   ·exact .same
   ·rename_i e he
    split
    ·exact .same
    ·split
     ·exact .same
     ·exact .exit id status e he
  refine ⟨rows2,_,_,_,?_,b.step (m':={ m with es:=(K4 m.es id status).1.1 }) (mvM t2) q3 g1 b.lst st,rfl,rfl,by show m.last≤m.last+1;omega,st⟩
  rw [q1,Xi]
  dsimp only
  rw [t1,Xi]
  dsimp only
  rw [← g2,s38 _ hrl,Xi,if_pos rfl,g3,Zr0]
 rw [if_neg (by simp [cop,c3])]
 by_cases c4:kd=4
 ·rw [if_pos (by simp [cop,c4])]
  obtain ⟨rows1,F1,q1,q2,q3⟩:=s21 b.h b.ok hx id other
  obtain ⟨rows2,ja2,G,t1,t2⟩:=s39 (mvR q2) hlr' hy id other
  obtain ⟨⟨g1,g2⟩,g3⟩:=ZrA b.sm id other
  have hdl:=Zf6 b.ok other
  have hrl:(VD m.es id other).1.2.length≤1000000:=by
   unfold VD
   split
   ·simp
   ·split
    ·simp
    ·split
     ·exact Zp6 b _ _ (by simp;omega)
     ·simp
  have st:Stp m.es m.last (VD m.es id other).1.1 m.last:=by
   unfold VD
   split
   ·exact .same
   ·split
    ·exact .same
    ·split
     ·exact .kill _
     ·exact .same
  refine ⟨rows2,_,_,_,?_,b.step (m':={ m with es:=(VD m.es id other).1.1 }) (mvM t2) q3 g1 b.lst st,rfl,rfl,by show m.last≤m.last+1;omega,st⟩
  rw [q1,Xi]
  dsimp only
  rw [t1,Xi]
  dsimp only
  rw [← g2,s38 _ hrl,Xi,if_pos rfl,g3,Zr0]
 rw [if_neg (by simp [cop,c4])]
 by_cases c5:kd=5
 ·rw [if_pos (by simp [cop,c5])]
  obtain ⟨rows1,F1,q1,q2,q3⟩:=s11 b.h b.ok hx id
  obtain ⟨rows2,ja2,G,t1,t2⟩:=s40 (mvR q2) hlr' hy id
  obtain ⟨g1,g2⟩:=ZrQ b.sm id
  have st:Stp m.es m.last (Y2 m.es id).1 m.last:=.wait id
  refine ⟨rows2,_,_,_,?_,b.step (m':={ m with es:=(Y2 m.es id).1 }) (mvM t2) q3 g1 b.lst st,rfl,rfl,by show m.last≤m.last+1;omega,st⟩
  rw [q1,Xi]
  dsimp only
  rw [t1,Xi]
  dsimp only
  rw [← g2,if_pos (by simp [cop]),if_pos (by simp),Zr0]
 rw [if_neg (by simp [cop,c5])]
 obtain ⟨rows1,F1,q1,q2,q3⟩:=s23 b.h b.ok hx (core:=core) hcl
 obtain ⟨rows2,ja2,G,t1,t2⟩:=s41 (mvR q2) hlr' hy (core:=core) hcr
 have hbl:(V4 core m.es).length≤64:=by
  unfold V4
  rw [Xp]
  exact XI (Un _ _) b.lok.len
 have hge:Eqv (Yk m.es core).1 (VK r.es core).1∧(Yk m.es core).2=(VK r.es core).2:=by
  rw [Znd b.lok]
  unfold VK
  split
  ·rw [← Zpj b.sm]
   exact ⟨Zbj (-2) _ (Zun b.sm core),rfl⟩
  ·exact ⟨⟨b.sm,rfl⟩,rfl⟩
 obtain ⟨⟨g1,g2⟩,g3⟩:=hge
 have hrl:(Yk m.es core).1.2.length≤1000000:=by
  unfold Yk
  split
  ·have:=W4 (-2) (V4 core m.es) _ m.last (VH b.lok core)
   dsimp only
   omega
  ·simp
 have st:Stp m.es m.last (Yk m.es core).1.1 m.last:=by
  unfold Yk
  split
  ·rename_i hcr
   exact .depart core hcr
  ·exact .same
 refine ⟨rows2,_,_,_,?_,b.step (m':={ m with es:=(Yk m.es core).1.1 }) (mvM t2) q3 g1 b.lst st,rfl,rfl,by show m.last≤m.last+1;omega,st⟩
 rw [q1,Xi]
 dsimp only
 rw [t1,Xi]
 dsimp only
 rw [← g2,s38 _ hrl,Xi,if_pos rfl,g3,Zr0]
theorem ZqK {es:List PE} {p:Pr} (h:es.map PE.p = [p]):∃ j c,es = [⟨j,c,p⟩]:=by
 match es,h with
 | [e], h =>
  rw [Xh,XG,List.cons.injEq] at h
  exact ⟨e.j,e.c,by rw [← h.1]⟩
theorem s16 (h:ZD rows F) (core:Int):∃ rows' m r F' j c z,g16 core rows=Xa ([[.oref (m.jm+1) 0]],[[.oref (r.jr+1) 0]],Xb,rows')∧Bo rows' m r F'∧m.es = [⟨j,c,WH z⟩]∧m.last=1∧(0≤z∧z < 32):=by
 obtain ⟨z,hz,z0,z1⟩:=ZdV core (n:=3) (by decide) (by decide)
 obtain ⟨m,r1,q1,q2,q3,q4,q5⟩:=s8 (z:=z) (by omega) h
 obtain ⟨j,c,hes⟩:=ZqK q4
 obtain ⟨r,r2,t1,t2,t3,t4⟩:=s32 (z:=z) (by omega) q2
 refine ⟨r2,m,r,F,j,c,z,?_,⟨t2.perm (Uh _ _ _),q3,?_,by rw [q5,t4],Zrv q3 ⟨_,by rw [hes];exact XF.2 rfl,rfl⟩,?_⟩,hes,q5,by omega⟩
 ·rw [Zt2,hz,Xi,q1,Xi]
  dsimp only
  rw [t1,Xi]
  dsimp only
  rw [if_pos (by decide),if_pos (by decide),Zc (by simp [Zd,Ze,ZP,okL])]
  rfl
 ·rw [hes,t3]
  exact .cons ⟨rfl,rfl,rfl,rfl,rfl,List.Perm.refl _⟩ .nil
 ·intro e he
  rw [hes,XF] at he
  rw [he]
  exact ⟨Tw _ _,fun y hy=>by
   have:y=z:=by simpa [WH] using hy
   omega⟩
end
section
open Go Go.AM Go.Proofs.Ytpjnmgjphfnmmaa
set_option maxRecDepth 100000
variable {rows:LL} {F:Ym} {m:MS}
theorem Zse {es:List PE} {p:Pr} (h:es.map PE.p = [p]):∃ j c,es = [⟨j,c,p⟩]:=by
 match es,h with
 | [e], h =>
  rw [Xh,XG,List.cons.injEq] at h
  exact ⟨e.j,e.c,by rw [← h.1]⟩
theorem Zvd {e:PE} {p:Pr} (h:e.p=p):∃ j c,e=⟨j,c,p⟩:=⟨e.j,e.c,by rw [← h]⟩
theorem ZuR:ZgK ⟨#[97]⟩=Xb:=by decide
theorem ZoJ {γ:Type} (a:Ziu) (k:Int×Int×Int→Option γ):Zl (ZW [a]) 0 [.int .i64,.int .i64,.int .i64] k=k (a.1,a.2.1,a.2.2):=YH (l:=ZW [a]) (sh:=[.int .i64,.int .i64,.int .i64]) (cs:=[I a.1,I a.2.1,I a.2.2]) (r:=(a.1,a.2.1,a.2.2)) k (by decide:(0:Int)≤0) rfl rfl
theorem s15 (h:ZD rows F):∃ rows',g15 rows=Xa (Xb,rows'):=by
 obtain ⟨m,r1,q1,q2,q3,q4,q5⟩:=s8 (z:=0) (by decide) h
 obtain ⟨j0,c0,hes⟩:=Zse q4
 have hx:Ze [[.oref (m.jm+1) 0]] = .oref (m.jm+1) 0:=rfl
 have hn:g28 ⟨#[97]⟩=Xa Xb:=by rw [s28 _ (by decide),ZuR]
 obtain ⟨r2,e1,t1,t2,t3,t4⟩:=s10 q2 q3 hx (parent:=1) (core:=0) hn (by rw [hes];rfl) (by rw [q5];decide)
 rw [q5] at t1 t2
 obtain ⟨j1,c1,rfl⟩:=Zvd t2
 obtain ⟨r3,F3,u1,u2,u3⟩:=s11 t3 t4 hx 1
 have hw:Y2 ({ m with es:=m.es++[⟨j1,c1,⟨1+1,1,⟨#[97]⟩,[0],Xc,0,Xc⟩⟩],last:=m.last+1 } : MS).es 1=([⟨j0,c0,⟨1,0,Zbv,[0],Xc,0,Xb⟩⟩,⟨j1,c1,⟨2,1,⟨#[97]⟩,[0],Xc,0,Xc⟩⟩],0,0,0,Xc,0):=by
  show Y2 (m.es++_) 1=_
  rw [hes]
  rfl
 rw [hw] at u1 u2 u3
 obtain ⟨r4,F4,v1,v2,v3⟩:=s13 u2 u3 hx 2 7
 have he:K4 [⟨j0,c0,⟨1,0,Zbv,[0],Xc,0,Xb⟩⟩,⟨j1,c1,⟨2,1,⟨#[97]⟩,[0],Xc,0,Xc⟩⟩] 2 7=(([⟨j0,c0,⟨1,0,Zbv,[0],Xc,0,Xc⟩⟩],[(1,2,7)]),0):=rfl
 have he2:K4 ({ m with es:=[⟨j0,c0,⟨1,0,Zbv,[0],Xc,0,Xb⟩⟩,⟨j1,c1,⟨2,1,⟨#[97]⟩,[0],Xc,0,Xc⟩⟩],last:=m.last+1 } : MS).es 2 7=(([⟨j0,c0,⟨1,0,Zbv,[0],Xc,0,Xc⟩⟩],[(1,2,7)]),0):=he
 rw [he2] at v1 v2 v3
 obtain ⟨r5,F5,w1,w2⟩:=s14 v2 v3 hx (fun e he=>by
  rw [XF] at he
  subst he
  show (1:Nat)≤100000
  decide)
 refine ⟨r5,?_⟩
 rw [ZuQ,q1,Xi]
 dsimp only
 rw [if_neg (by decide),Zc (by simp [Zd,Ze,ZP,okL]),if_neg (by simp [Zd,Ze,ZP,okL,cop]),t1,Xi]
 dsimp only
 rw [u1,Xi]
 dsimp only
 rw [v1,Xi]
 dsimp only
 rw [if_pos (by decide),if_pos (by decide),if_pos (by decide),if_pos (by decide),if_pos (by decide),if_pos (by decide)]
 rw [ZoJ,if_pos (by decide),w1]
 rfl
end
end Go.W
