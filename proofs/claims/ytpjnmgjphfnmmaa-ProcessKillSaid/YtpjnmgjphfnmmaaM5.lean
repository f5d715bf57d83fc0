import Derived.Test.YtpjnmgjphfnmmaaM4
import Derived.Test.YtpjnmgjphfnmmaaFWh
import Derived.Test.YtpjnmgjphfnmmaaFWe
open Option renaming some→Xa,none→Xe,bind_some→Xh,map_some→Xv
open Bool renaming true→Xb,false→Xc,and_eq_true→Xs,true_and→X8,false_eq_true→UA
open List renaming replicate→Xg,map_cons→Xi,getElem?_eq_some_iff→Xj,mem_map→Xk,getElem?_map→Xl,length→Xn,append_assoc→Xo,length_map→Xp,mem_cons→Xq,getElem?_eq_getElem→Xr,length_append→Xu,mem_append→Xw,getElem?_append_left→Xx,getElem?_append_right→Xy,length_cons→XA,all_eq_true→XD,map_nil→XF,mem_singleton→XG,append_nil→XI,cons_append→XL,nil_append→XM,map_append→XN,length_take→XS,length_nil→XT,flatten_cons→X4,getElem?_set_self→Wa,filter_cons_of_neg→Wb,nodup_cons→Wd,map_map→We,filter_cons_of_pos→Wf,getElem?_eq_none→Wh,find?_some→Wj,map_congr_left→Wn,ext_getElem?→Wt,mem_filter→Wu,mem_of_find?_eq_some→Ua,pairwise_append→Ub,sum_cons→Uc,perm_append_comm_assoc→Ug,mem_cons_of_mem→Ul,pairwise_cons→Um,length_filter_le→Un,take_of_length_le→Uo,mem_append_left→UB,flatMap_cons→UF,filter_append→UK,length_set→UN,filter_eq_self→UT,find?_cons→UU,perm_middle→UV,mem_append_right→U6,any_cons→U8,pairwise_map→U9,find?_cons_of_pos→Ta,find?_cons_of_neg→Tb,take_length→Th,find?_eq_none→Tk,find?_eq_some_iff_append→Tl,filterMap_cons_some→Tu,nodup_iff_pairwise_ne→Tv,pairwise_singleton→Tw,set_append_right→Tx,length_eq_zero_iff→Ty,take_append_of_le_length→Tz
open Nat renaming le_refl→Xz,zero_add→XH,le_trans→XJ,zero_le→X7,mul_one→Wl,sub_self→Uz,add_sub_cancel_left→UL
open Int renaming toNat_natCast→Wo
open Function renaming comp→U4
set_option linter.unusedVariables false
set_option linter.unusedSimpArgs false
set_option linter.defProp false
namespace Go.W
section
open Go Go.AM Go.Proofs.Ytpjnmgjphfnmmaa
set_option maxRecDepth 100000
structure Pr where
 id:Int
 parent:Int
 name:ByteArray
 cores:List Int
 ended : Bool
 status:Int
 waiting:Bool
structure PE where
 j:Nat
 c:Option (Nat×Nat)
 p:Pr
def PE.core (e:PE):AV:=match e.c with | none=>.osl 0 0 0 | some q=>.osl 3 (q.1+1) e.p.cores.length
def PE.row (e:PE):List AV:=[I e.p.id,I e.p.parent,.val (.string e.p.name),e.core,B e.p.ended,I e.p.status,B e.p.waiting]
def PE.arr (e:PE) (k:Nat):List AV:=e.p.cores.map (fun z=>I z)++Xg k (I 0)
def PE.frag (e:PE):Ym:=(e.j,e.row)::(match e.c with | none=>[] | some q=>[(q.1,e.arr q.2)])
def PE.ok (e:PE):Prop:=match e.c with | none=>e.p.cores = [] | some q=>e.p.cores.length+q.2≠0
structure MS where
 jm:Nat
 jq:Nat
 es:List PE
 last:Int
def PE.kv (e:PE):List AV:=[I e.p.id,.oref (e.j+1) 0]
def MS.head (m:MS):List AV:=[.omap (m.jq+1),I m.last]
def MS.map (m:MS):List AV:=ZY (m.es.map PE.kv)
def MS.frag (m:MS):Ym:=(m.jm,m.head)::(m.jq,m.map)::m.es.flatMap PE.frag
def MS.find (m:MS) (k:Int):Option PE:=m.es.find? fun e=>decide (e.p.id=k)
def nmE (o:Option PE):LL:=match o with | none=>[[.oref 0 0]] | some e=>[[.oref (e.j+1) 0]]
variable {rows:LL} {F:Ym} {m:MS}
theorem head_at (h:ZB rows (m.frag++F)):rows[m.jm]? = Xa m.head:=h.get (by simp [MS.frag])
theorem map_at (h:ZB rows (m.frag++F)):rows[m.jq]? = Xa m.map:=h.get (by simp [MS.frag])
theorem ZlA (h:ZB rows (m.frag++F)) {e:PE} (he:e∈m.es):rows[e.j]? = Xa e.row:=h.get (by
 simp only [MS.frag,XL,Xq,Xw,List.mem_flatMap]
 exact .inr (.inr (.inl ⟨e,he,by simp [PE.frag]⟩)))
theorem Zcq {x:LL} {k:Int} (h:ZB rows (m.frag++F)) (hx:Ze x = .omap (m.jq+1)):Zd .mget rows k x []=nmE (m.find k):=by
 simp only [Zd,hx,ZoR,ZsT,Ji (map_at h),MS.map,ZY,Kj]
 have:(m.es.map PE.kv).find? (fun r=>ZX r == Xa k)=(m.find k).map PE.kv:=by
  unfold MS.find
  induction m.es with
  | nil => rfl
  | cons e es ih =>
   have hk:(ZX e.kv == Xa k)=decide (e.p.id=k):=by
    show (Xa e.p.id == Xa k)=_
    by_cases hd:e.p.id=k<;>simp [hd]
   simp only [Xi,UU,hk]
   cases hd:decide (e.p.id=k) with
   | true => rfl
   | false => exact ih
 rw [this]
 cases m.find k with
 | none => rfl
 | some e => rfl
theorem Vv {x:LL} (h:ZB rows (m.frag++F)) (hx:Ze x = .omap (m.jq+1)):Zd .mchk rows 0 x [] = [[]]:=by
 simp only [Zd,hx,ZtV,Ji (map_at h),MS.map,ZY,Yq,okL]
theorem Jq {k:Int} {e:PE} (h:m.find k=Xa e):e∈m.es∧e.p.id=k:=by
 unfold MS.find at h
 refine ⟨Ua h,?_⟩
 have:=Wj h
 simpa using this
def MS.run (m:MS) (k:Int):Option PE:=match m.find k with | some e=>if e.p.ended=Xb then Xe else Xa e | none=>Xe
theorem Zp {γ:Type} {c:AV} (hc:ZN c=Xb) (k:LL→Option γ):Zl [[c]] 0 [.cel] k=k [[c]]:=by
 refine YL (l:=[[c]]) (sh:=[.cel]) (cs:=[c]) (r:=([[c]] : LL)) k (by decide:(0:Int)≤0) rfl ?_
 show (if ZN c=Xb then Xa [[c]] else Xe)=Xa [[c]]
 rw [if_pos hc]
theorem JQ {γ:Type} (b:Bool) (k:Bool→Option γ):Zl [[B b]] 0 [.bool] k=k b:=YL (l:=[[B b]]) (sh:=[.bool]) (cs:=[B b]) (r:=(b:Bool)) k (by decide:(0:Int)≤0) rfl rfl
theorem ZF {γ:Type} (z:Int) (k:Int→Option γ):Zl [[I z]] 0 [.int .i64] k=k z:=YL (l:=[[I z]]) (sh:=[.int .i64]) (cs:=[I z]) (r:=(z:Int)) k (by decide:(0:Int)≤0) rfl rfl
theorem ne1 {l:LL} (h:l = [[]]):l≠[]:=by rw [h];simp
theorem YW {x:LL} (h:ZB rows (m.frag++F)) (hx:Ze x = .oref (m.jm+1) 0):Zd (.get 1) rows 0 (Zd (.padd 0) x 0 E0 []) [] = [[.omap (m.jq+1)]]:=by
 rw [YO hx]
 exact JG rfl (head_at h) rfl rfl
theorem ZiM {x:LL} (h:ZB rows (m.frag++F)) (hx:Ze x = .oref (m.jm+1) 0):Zd (.get 1) rows 0 (Zd (.padd 1) x 0 E0 []) [] = [[I m.last]]:=by
 rw [YO hx]
 exact JG rfl (head_at h) rfl rfl
theorem Ki (o:Option PE):Zd .pisr (nmE o) 0 E0 [] = [[]]:=by cases o with | none=>exact ZnD rfl | some e=>exact Zq8 rfl
theorem K2:Zd .pnn (nmE Xe) 0 E0 [] = []:=Zrf rfl
theorem Zr (e:PE):Zd .pnn (nmE (Xa e)) 0 E0 [] = [[]]:=ZD rfl
theorem Zdz (e:PE):Ze (nmE (Xa e)) = .oref (e.j+1) 0:=rfl
theorem Kg {e:PE} {o:Nat} {c:AV} (h:ZB rows (m.frag++F)) (he:e∈m.es) (hc:e.row[o]? = Xa c):Zd (.get 1) rows 0 (Zd (.padd o) (nmE (Xa e)) 0 E0 []) [] = [[c]]:=by
 rw [YO (Zdz e),XH]
 exact JG rfl (ZlA h he) rfl hc
theorem s27 {x:LL} (h:ZB rows (m.frag++F)) (hx:Ze x = .oref (m.jm+1) 0) (k:Int):g27 x k rows=Xa (nmE (m.run k),rows):=by
 rw [Zud,Zb (ne1 (ZD hx)),Zb (ne1 (ZD hx)),YW h hx,Zp rfl,Zb (ne1 (Vv h rfl)),Zcq h rfl,Zb (ne1 (Ki _))]
 unfold MS.run
 cases hf:m.find k with
 | none =>
  rw [K2]
  rfl
 | some e =>
  rw [Zb (ne1 (Zr e)),Zb (ne1 (Zr e)),Kg h (Jq hf).1 (c:=B e.p.ended) rfl,JQ,Zr]
  show _=Xa (nmE (if e.p.ended=Xb then Xe else Xa e),rows)
  cases hb:e.p.ended<;>rfl
end
section
open Go Go.AM Go.Proofs.Ytpjnmgjphfnmmaa
set_option maxRecDepth 100000
structure MS.Ok (m:MS):Prop where
 srt:m.es.Pairwise fun a b=>a.p.id < b.p.id
 rng:∀ e∈m.es,1≤e.p.id∧e.p.id≤m.last
 cor:∀ e∈m.es,e.ok
 par:∀ e∈m.es,0≤e.p.parent∧e.p.parent < e.p.id
 len:m.es.length≤64
 lst:m.last≤1048576
variable {rows:LL} {F:Ym} {m:MS}
def MS.ids (m:MS):LL:=m.es.map fun e=>[I e.p.id]
theorem ZsY (es:List PE):(es.map PE.kv).filterMap ZX=es.map fun e=>e.p.id:=by
 induction es with
 | nil => rfl
 | cons e es ih => rw [Xi, Tu (f := ZX) (a := e.kv) (b := e.p.id) rfl, ih, Xi]
theorem ZiB (h:m.es.Pairwise fun a b=>a.p.id < b.p.id):ZdE (m.es.map PE.kv)=m.ids:=by
 unfold ZdE MS.ids
 rw [ZsY,List.mergeSort_of_pairwise,We]
 ·rfl
 ·rw [U9]
  exact h.imp fun hab=>decide_eq_true (by omega)
theorem s51 {x:LL} {rows:LL} (hx:Ze x = .omap (m.jq+1)):g51 x rows=Xa ([[.fnc 69 [rows.length+1]]],rows++[[.omap (m.jq+1)]]):=by
 have hp:Zd .pnew rows 0 E0 [] = [[.oref (rows.length+1) 0]]:=rfl
 rw [Zt0,hp,Zb (by simp [Zd,Ze,ZN,okL]),Zb (ne1 (ZD rfl)),hx]
 rfl
theorem s50 (h:ZB rows (m.frag++F)) (hm:m.Ok):g50 [[.fnc 69 [rows.length+1]]] (rows++[[.omap (m.jq+1)]])=Xa (m.ids,rows++[[.omap (m.jq+1)]]):=by
 have e:g50 [[.fnc 69 [rows.length+1]]] (rows++[[.omap (m.jq+1)]])=ZcV 69 [[.fnc 69 [rows.length+1]]] (rows++[[.omap (m.jq+1)]]):=rfl
 rw [e]
 have hq:(rows++[[.omap (m.jq+1)]])[m.jq]? = Xa m.map:=by
  have:=map_at h
  rw [Xx (Xj.1 this).1]
  exact this
 have hb:Z6 (rows++[[.omap (m.jq+1)]]) (rows.length+1) = [.omap (m.jq+1)]:=Ji (by simp)
 have hr:Z6 (rows++[[.omap (m.jq+1)]]) (m.jq+1)=ZY (m.es.map PE.kv):=Ji hq
 unfold ZcV
 simp only [Ze,ZN,hb]
 rw [hr]
 have hk:Kj (ZY (m.es.map PE.kv))=m.es.map PE.kv:=rfl
 rw [hk,Zb,ZiB hm.srt]
 refine ⟨trivial,rfl,by have:=hm.len;simp;omega,XD.2 fun r hr=>?_⟩
 obtain ⟨e,he,rfl⟩:=Xk.1 hr
 have h1:=hm.rng e he
 have h2:=hm.lst
 show (decide (-9223372036854775808≤e.p.id)&&decide (e.p.id≤9223372036854775807))=Xb
 rw [decide_eq_true (by omega),decide_eq_true (by omega)]
 rfl
theorem s29 {x:LL} (h:ZB rows (m.frag++F)) (hm:m.Ok) (hx:Ze x = .oref (m.jm+1) 0):g29 x rows=Xa (m.ids,rows++[[.omap (m.jq+1)]]):=by
 rw [ZuS,Zb (ne1 (ZD hx)),Zb (ne1 (ZD hx)),YW h hx,Zp rfl,s51 (m:=m) rfl,Xh,s50 h hm]
 rfl
end
section
open Go Go.AM Go.Proofs.Ytpjnmgjphfnmmaa
set_option maxRecDepth 100000
variable {rows:LL} {F:Ym} {m:MS}
def PE.cf (e:PE):Ym:=match e.c with | none=>[] | some q=>[(q.1,e.arr q.2)]
theorem PE.frag_eq (e:PE):e.frag=(e.j,e.row)::e.cf:=rfl
def MS.put (m:MS) (pre:List PE) (e:PE) (post:List PE):MS:={ m with es:=pre++e::post }
theorem Vn (m:MS) {pre post:List PE} {e:PE} (hs:m.es=pre++e::post) :
  (m.frag++F).Perm ((e.j,e.row)::((m.jm,m.head)::(m.jq,m.map)::(pre.flatMap PE.frag++(e.cf++post.flatMap PE.frag))++F)):=by
 have:m.frag++F=((m.jm,m.head)::(m.jq,m.map)::pre.flatMap PE.frag)++((e.j,e.row)::(e.cf++post.flatMap PE.frag++F)):=by
  simp only [MS.frag,hs,List.flatMap_append,UF,PE.frag_eq,XL,Xo]
 rw [this]
 refine List.perm_middle.trans (List.Perm.cons _ ?_)
 simp only [XL,Xo]
 exact List.Perm.refl _
theorem holds_row (h:ZB rows (m.frag++F)) {pre post:List PE} {e e':PE} (hs:m.es=pre++e::post) (hj:e'.j=e.j) (hid:e'.p.id=e.p.id) (hc:e'.cf=e.cf):ZB (rows.set e.j e'.row) ((m.put pre e' post).frag++F):=by
 have h1:=(h.perm (Vn m hs)).set e'.row
 have h2:=(Vn (F:=F) (m.put pre e' post) (pre:=pre) (e:=e') (post:=post) rfl).symm
 refine ZB.perm ?_ h2
 have hm:(m.put pre e' post).map=m.map:=by
  simp only [MS.map,MS.put,hs,XN,Xi,PE.kv,hj,hid]
 have hh:(m.put pre e' post).head=m.head:=rfl
 rw [hm,hh,hj,hc]
 exact h1
theorem W4 {k:Int} {e:PE} (h:m.find k=Xa e):∃ pre post,m.es=pre++e::post∧e.p.id=k∧∀ a∈pre,a.p.id≠k:=by
 obtain ⟨h1,pre,post,h2,h3⟩:=Tl.1 (show m.es.find? (fun e=>decide (e.p.id=k))=Xa e from h)
 exact ⟨pre,post,h2,by simpa using h1,fun a ha=>by simpa using h3 a ha⟩
def MS.del (m:MS) (pre post:List PE):MS:={ m with es:=pre++post }
theorem holds_del (h:ZB rows (m.frag++F)) {pre post:List PE} {e:PE} (hs:m.es=pre++e::post):ZB (rows.set m.jq (m.del pre post).map) ((m.del pre post).frag++(e.frag++F)):=by
 have h0:(m.frag++F).Perm ((m.jq,m.map)::((m.jm,m.head)::((m.del pre post).es.flatMap PE.frag++(e.frag++F)))):=by
  simp only [MS.frag,hs,MS.del,List.flatMap_append,UF,XL,Xo]
  refine (List.Perm.swap _ _ _).trans (List.Perm.cons _ (List.Perm.cons _ (List.Perm.append_left _ ?_)))
  rw [← Xo,← Xo (post.flatMap PE.frag)]
  exact List.Perm.append_right _ List.perm_append_comm
 refine ((h.perm h0).set (m.del pre post).map).perm ?_
 have:(m.del pre post).frag++(e.frag++F)=(m.jm,m.head)::(m.jq,(m.del pre post).map)::((m.del pre post).es.flatMap PE.frag++(e.frag++F)):=rfl
 rw [this]
 exact List.Perm.swap _ _ _
theorem ZiH {pre post:List PE} {e:PE} (h:(pre++e::post).Pairwise fun a b=>a.p.id < b.p.id):Zbd ((pre++e::post).map PE.kv) e.p.id=(pre++post).map PE.kv:=by
 unfold Zbd
 rw [List.filter_map]
 congr 1
 have hk:∀ a:PE,(((fun r=>!(ZX r == Xa e.p.id)) ∘ PE.kv) a) = !decide (a.p.id=e.p.id):=fun a=>by
  show (!(Xa a.p.id == Xa e.p.id))=_
  by_cases hd:a.p.id=e.p.id<;>simp [hd]
 rw [Ub,Um] at h
 obtain ⟨_,⟨h2,_⟩,h3⟩:=h
 rw [UK,Wb (by rw [hk];simp),UT.2 fun a ha=>?_,UT.2 fun a ha=>?_]
 ·rw [hk]
  have:=h2 a ha
  simp
  omega
 ·rw [hk]
  have:=h3 a ha e (by simp)
  simp
  omega
theorem ZjJ (hm:m.Ok) {pre post:List PE} {e e':PE} (hs:m.es=pre++e::post) (hid:e'.p.id=e.p.id) (hok:e'.ok) (hpr:0≤e'.p.parent∧e'.p.parent < e'.p.id):(m.put pre e' post).Ok:=by
 have hsrt:=hm.srt
 rw [hs] at hsrt
 have hmem:∀ a∈pre++e'::post,a=e'∨a∈m.es:=fun a ha=>by
  rw [hs]
  rcases Xw.1 ha with ha | ha
  ·exact .inr (UB _ ha)
  ·rcases Xq.1 ha with rfl | ha
   ·exact .inl rfl
   ·exact .inr (U6 _ (Ul _ ha))
 have he:=hm.rng e (by rw [hs];simp)
 refine ⟨?_,fun a ha=>?_,fun a ha=>?_,fun a ha=>?_,?_,hm.lst⟩
 ·show (pre++e'::post).Pairwise _
  rw [Ub,Um] at hsrt ⊢
  obtain ⟨h1,⟨h2,h3⟩,h4⟩:=hsrt
  refine ⟨h1,⟨fun a ha=>by rw [hid];exact h2 a ha,h3⟩,fun a ha b hb=>?_⟩
  rcases Xq.1 hb with rfl | hb
  ·rw [hid];exact h4 a ha e (by simp)
  ·exact h4 a ha b (by simp [hb])
 ·rcases hmem a ha with rfl | ha
  ·rw [hid];exact he
  ·exact hm.rng a ha
 ·rcases hmem a ha with rfl | ha
  ·exact hok
  ·exact hm.cor a ha
 ·rcases hmem a ha with rfl | ha
  ·exact hpr
  ·exact hm.par a ha
 ·have:=hm.len
  rw [hs] at this
  show (pre++e'::post).length≤64
  simp at this ⊢
  omega
theorem ZtX (hm:m.Ok) {pre post:List PE} {e:PE} (hs:m.es=pre++e::post):(m.del pre post).Ok:=by
 have hsrt:=hm.srt
 rw [hs] at hsrt
 have hmem:∀ a∈pre++post,a∈m.es:=fun a ha=>by
  rw [hs]
  rcases Xw.1 ha with ha | ha
  ·exact UB _ ha
  ·exact U6 _ (Ul _ ha)
 refine ⟨?_,fun a ha=>hm.rng a (hmem a ha),fun a ha=>hm.cor a (hmem a ha),fun a ha=>hm.par a (hmem a ha),?_,hm.lst⟩
 ·show (pre++post).Pairwise _
  rw [Ub,Um] at hsrt
  rw [Ub]
  exact ⟨hsrt.1,hsrt.2.1.2,fun a ha b hb=>hsrt.2.2 a ha b (Ul _ hb)⟩
 ·have:=hm.len
  rw [hs] at this
  show (pre++post).length≤64
  simp at this ⊢
  omega
end
section
open Go Go.AM Go.Proofs.Ytpjnmgjphfnmmaa
set_option maxRecDepth 100000
variable {rows:LL} {F:Ym} {m:MS}
def ZcP (k:Int) (f:Pr→Pr) (es:List PE):List PE:=es.map fun e=>if e.p.id=k then { e with p:=f e.p } else e
def V8 (k:Int) (es:List PE):List PE:=es.filter fun e=>!decide (e.p.id=k)
theorem Za4 {k:Int} {f:Pr→Pr} {pre post:List PE} {e:PE} (h:(pre++e::post).Pairwise fun a b=>a.p.id < b.p.id) (hk:e.p.id=k):ZcP k f (pre++e::post)=pre++{ e with p:=f e.p } :: post:=by
 rw [Ub,Um] at h
 obtain ⟨_,⟨h2,_⟩,h3⟩:=h
 unfold ZcP
 rw [XN,Xi,if_pos hk]
 congr 1
 ·conv=>rhs;rw [← List.map_id pre]
  refine Wn fun a ha=>?_
  have:=h3 a ha e (by simp)
  rw [if_neg (by omega)];rfl
 ·congr 1
  conv=>rhs;rw [← List.map_id post]
  refine Wn fun a ha=>?_
  have:=h2 a ha
  rw [if_neg (by omega)];rfl
theorem ZnN {k:Int} {pre post:List PE} {e:PE} (h:(pre++e::post).Pairwise fun a b=>a.p.id < b.p.id) (hk:e.p.id=k):V8 k (pre++e::post)=pre++post:=by
 rw [Ub,Um] at h
 obtain ⟨_,⟨h2,_⟩,h3⟩:=h
 unfold V8
 rw [UK,Wb (by simp [hk]),UT.2 fun a ha=>?_,UT.2 fun a ha=>?_]
 ·have:=h2 a ha
  simp
  omega
 ·have:=h3 a ha e (by simp)
  simp
  omega
theorem Zq9 {e:PE} {o:Nat} {c:AV} (h:ZB rows (m.frag++F)) (he:e∈m.es) (ho:o < 7):Zd .set rows 0 (Zd (.padd o) (nmE (Xa e)) 0 E0 []) [c]=rows.set e.j (e.row.set o c):=by
 rw [YO (Zdz e),XH]
 exact Zal rfl (ZlA h he) ho
theorem Zm6 {e:PE} {f:Pr→Pr} (h:ZB rows (m.frag++F)) (hm:m.Ok) (he:m.find e.p.id=Xa e) (hid:(f e.p).id=e.p.id) (hc:(f e.p).cores=e.p.cores) (hpr:0≤(f e.p).parent∧(f e.p).parent < e.p.id) :
  ZB (rows.set e.j ({ e with p:=f e.p } : PE).row) (({ m with es:=ZcP e.p.id f m.es } : MS).frag++F)∧({ m with es:=ZcP e.p.id f m.es } : MS).Ok:=by
 obtain ⟨pre,post,hs,_,_⟩:=W4 he
 have hsrt:=hm.srt
 rw [hs] at hsrt
 have hu:({ m with es:=ZcP e.p.id f m.es } : MS)=m.put pre { e with p:=f e.p } post:=by
  simp only [MS.put,hs,Za4 hsrt rfl]
 rw [hu]
 refine ⟨holds_row h hs rfl hid ?_,ZjJ hm hs hid ?_ (by show 0≤(f e.p).parent∧(f e.p).parent < (f e.p).id;rw [hid];exact hpr)⟩
 ·simp only [PE.cf,PE.arr,hc]
 ·have:=hm.cor e (by rw [hs];simp)
  unfold PE.ok at this ⊢
  simp only [hc]
  exact this
theorem ZnG {e:PE} (h:ZB rows (m.frag++F)) (hm:m.Ok) (he:m.find e.p.id=Xa e) {x:LL} (hx:Ze x = .omap (m.jq+1)) :
  ZB (Zd .mdel rows e.p.id x []) (({ m with es:=V8 e.p.id m.es } : MS).frag++(e.frag++F))∧({ m with es:=V8 e.p.id m.es } : MS).Ok:=by
 obtain ⟨pre,post,hs,_,_⟩:=W4 he
 have hsrt:=hm.srt
 rw [hs] at hsrt
 have hu:({ m with es:=V8 e.p.id m.es } : MS)=m.del pre post:=by
  simp only [MS.del,hs,ZnN hsrt rfl]
 rw [hu]
 refine ⟨?_,ZtX hm hs⟩
 have:=holds_del h hs
 have hst:Zd .mdel rows e.p.id x []=rows.set m.jq (m.del pre post).map:=by
  simp only [Zd,hx,Zlt,Ji (map_at h)]
  show rows.set m.jq (ZY (Zbd (m.es.map PE.kv) e.p.id))=_
  rw [hs,ZiH hsrt]
  rfl
 rw [hst]
 exact this
abbrev Zjs:=Int×Int×Int
def ZU (l:List Zjs):LL:=l.map fun r=>[I r.1,I r.2.1,I r.2.2]
def Yi (es:List PE) (par:Int) (c:Pr):List PE×List Zjs:=
 match es.find? fun e=>decide (e.p.id=par) with
 | some p => if p.p.waiting = Xb then (V8 c.id (ZcP par (fun q => { q with waiting := Xc }) es), [(par, c.id, c.status)]) else (es, [])
 | none => (es, [])
theorem ZcM {k k':Int} {f:Pr→Pr} {e:PE} (hid:∀ q,(f q).id=q.id) (h:m.find k'=Xa e):({ m with es:=ZcP k f m.es } : MS).find k'=Xa (if e.p.id=k then { e with p:=f e.p } else e):=by
 unfold MS.find ZcP at *
 dsimp only
 rw [List.find?_map]
 have:((fun e:PE=>decide (e.p.id=k')) ∘ fun e=>if e.p.id=k then { e with p:=f e.p } else e)=fun e=>decide (e.p.id=k'):=by
  funext a
  simp only [U4]
  by_cases ha:a.p.id=k
  ·simp only [if_pos ha,hid]
  ·simp only [if_neg ha]
 rw [this,h]
 rfl
theorem s52 {x:LL} (h:ZB rows (m.frag++F)) (hm:m.Ok) (hx:Ze x = .oref (m.jm+1) 0) {e:PE} (he:m.find e.p.id=Xa e) (par:Int) :
  ∃ rows' F',g52 x par (nmE (Xa e)) rows=Xa (ZU (Yi m.es par e.p).2,rows')∧ZB rows' (({ m with es:=(Yi m.es par e.p).1 } : MS).frag++(F'++F))∧({ m with es:=(Yi m.es par e.p).1 } : MS).Ok:=by
 rw [Ztw,Zb (ne1 (ZD hx)),Zb (ne1 (ZD hx)),YW h hx,Zp rfl,Zb (ne1 (Vv h rfl)),Zcq h rfl,Zb (ne1 (Ki _))]
 unfold Yi
 cases hf:m.find par with
 | none =>
  have hf':m.es.find? (fun e=>decide (e.p.id=par))=Xe:=hf
  rw [hf',K2]
  exact ⟨rows,[],rfl,h,hm⟩
 | some p =>
  have hf':m.es.find? (fun e=>decide (e.p.id=par))=Xa p:=hf
  obtain ⟨hp,hpk⟩:=Jq hf
  subst hpk
  rw [hf',Zb (ne1 (Zr p)),Zb (ne1 (Zr p)),Kg h hp (c:=B p.p.waiting) rfl,JQ,Zr]
  rw [if_neg (by decide)]
  dsimp only
  cases hw:p.p.waiting with
  | false =>
   simp only [UA,if_false]
   exact ⟨rows,[],rfl,h,hm⟩
  | true =>
   simp only [Bool.not_true,UA,if_false,if_true]
   obtain ⟨hu1,hu2⟩:=Zm6 (f:=fun q=>{ q with waiting:=Xc }) h hm (by rw [hf]) rfl rfl (hm.par p hp)
   have hst:Zd .set rows 0 (Zd (.padd 6) (nmE (Xa p)) 0 E0 []) [AV.val (.bool Xc)]=rows.set p.j ({ p with p:={ p.p with waiting:=Xc } } : PE).row:=by rw [Zq9 h hp (by decide)];rfl
   have hfe:=ZcM (k:=p.p.id) (f:=fun q=>{ q with waiting:=Xc }) (fun _=>rfl) he
   obtain ⟨e1,he1⟩:∃ e1,e1=if e.p.id=p.p.id then { e with p:=(fun q:Pr=>{ q with waiting:=Xc }) e.p } else e:=⟨_,rfl⟩
   rw [← he1] at hfe
   have hj:e1.j=e.j:=by rw [he1];split<;>rfl
   have hi:e1.p.id=e.p.id:=by rw [he1];split<;>rfl
   have hs:e1.p.status=e.p.status:=by rw [he1];split<;>rfl
   have hn:nmE (Xa e)=nmE (Xa e1):=by simp only [nmE,hj]
   rw [← hi] at hfe
   rw [hn,hst,Zb (by simp),Zb (by simp),Zb (by simp),Zb (ne1 (ZD hx)),Zb (ne1 (ZD hx))]
   generalize rows.set p.j ({ p with p:={ p.p with waiting:=Xc } } : PE).row=rows1 at hu1 ⊢
   obtain ⟨hv1,hv2⟩:=ZnG hu1 hu2 hfe (x:=[[.omap (m.jq+1)]]) rfl
   rw [YW hu1 hx,Zp rfl,Zb (ne1 (Zr _)),Zb (ne1 (Zr _)),Kg hu1 (Jq hfe).1 (c:=I e1.p.id) rfl,ZF,Zb (ne1 (Vv hu1 rfl)),Zb (ne1 (Zr _)),Zb (ne1 (Zr _))]
   have hr:(Zd .mdel rows1 e1.p.id [[.omap (m.jq+1)]] [])[e1.j]? = Xa e1.row:=hv1.get (by simp [PE.frag])
   rw [YO (Zdz e1),YO (Zdz e1),JG (c:=I e1.p.id) rfl hr rfl rfl,ZF,Zb (ne1 (Zr _)),Zb (ne1 (Zr _)),JG (c:=I e1.p.status) rfl hr rfl rfl,ZF]
   refine ⟨_,e1.frag,?_,by rw [← hi];exact hv1,by rw [← hi];exact hv2⟩
   rw [hi,hs]
   rfl
end
section
open Go Go.AM Go.Proofs.Ytpjnmgjphfnmmaa
set_option maxRecDepth 100000
variable {rows:LL} {F:Ym} {m:MS}
def J8 (st:Int) (e:PE):PE:={ e with c:=Xe,p:={ e.p with ended:=Xb,status:=st,cores:=[],waiting:=Xc } }
def Yh (k:Int) (f:PE→PE) (es:List PE):List PE:=es.map fun e=>if e.p.id=k then f e else e
theorem Vd {k:Int} {f:PE→PE} {pre post:List PE} {e:PE} (h:(pre++e::post).Pairwise fun a b=>a.p.id < b.p.id) (hk:e.p.id=k):Yh k f (pre++e::post)=pre++f e::post:=by
 rw [Ub,Um] at h
 obtain ⟨_,⟨h2,_⟩,h3⟩:=h
 unfold Yh
 rw [XN,Xi,if_pos hk]
 congr 1
 ·conv=>rhs;rw [← List.map_id pre]
  refine Wn fun a ha=>?_
  have:=h3 a ha e (by simp)
  rw [if_neg (by omega)];rfl
 ·congr 1
  conv=>rhs;rw [← List.map_id post]
  refine Wn fun a ha=>?_
  have:=h2 a ha
  rw [if_neg (by omega)];rfl
theorem Zr5 {e:PE} {f:PE→PE} (h:ZB rows (m.frag++F)) (hm:m.Ok) (he:m.find e.p.id=Xa e) (hj:(f e).j=e.j) (hid:(f e).p.id=e.p.id) (hc:(f e).c=Xe) (hok:(f e).ok) (hpr:0≤(f e).p.parent∧(f e).p.parent < e.p.id) :
  ZB (rows.set e.j (f e).row) (({ m with es:=Yh e.p.id f m.es } : MS).frag++(e.cf++F))∧({ m with es:=Yh e.p.id f m.es } : MS).Ok:=by
 obtain ⟨pre,post,hs,_,_⟩:=W4 he
 have hsrt:=hm.srt
 rw [hs] at hsrt
 have hu:({ m with es:=Yh e.p.id f m.es } : MS)=m.put pre (f e) post:=by
  simp only [MS.put,hs,Vd hsrt rfl]
 rw [hu]
 refine ⟨?_,ZjJ hm hs hid hok (by rw [hid];exact hpr)⟩
 have hcf:(f e).cf = []:=by simp only [PE.cf,hc]
 have h1:=(h.perm (Vn m hs)).set (f e).row
 have h2:=(Vn (F:=e.cf++F) (m.put pre (f e) post) (pre:=pre) (e:=f e) (post:=post) rfl).symm
 refine ZB.perm ?_ h2
 have hmm:(m.put pre (f e) post).map=m.map:=by
  simp only [MS.map,MS.put,hs,XN,Xi,PE.kv,hj,hid]
 have hh:(m.put pre (f e) post).head=m.head:=rfl
 rw [hmm,hh,hj,hcf]
 refine h1.perm (List.Perm.cons _ ?_)
 simp only [XL,XM,Xo]
 refine List.Perm.cons _ (List.Perm.cons _ (List.Perm.append_left _ ?_))
 rw [← Xo,← Xo (post.flatMap PE.frag)]
 exact List.Perm.append_right _ List.perm_append_comm
end
section
open Go Go.AM Go.Proofs.Ytpjnmgjphfnmmaa
set_option maxRecDepth 100000
variable {rows:LL} {F:Ym} {m:MS}
abbrev ints (zs:List Int):LL:=zs.map fun z=>[I z]
theorem Z1 {γ:Type} {zs:List Int} {i:Nat} {z:Int} (h:zs[i]? = Xa z) (k:Int→Option γ):Zl (ints zs) (i:Int) [.int .i64] k=k z:=
 YL (l:=ints zs) (sh:=[.int .i64]) (cs:=[I z]) (r:=(z:Int)) k (by omega) (by rw [Wo,Xl,h];rfl) rfl
theorem Y8 (m:MS):m.ids=ints (m.es.map fun e=>e.p.id):=by simp only [MS.ids,ints,We];rfl
def ZO (pid:Int) (es:List PE) (k:Int):List PE×List Zjs:=
 match es.find? fun e=>decide (e.p.id=k) with
 | some c =>
  if c.p.parent=pid then
   (if c.p.ended=Xb then Yi (ZcP k (fun q=>{ q with parent:=1 }) es) 1 { c.p with parent:=1 } else (ZcP k (fun q=>{ q with parent:=1 }) es,[]))
  else (es,[])
 | none => (es, [])
def ZT (pid:Int):List PE→List Int→List PE×List Zjs
 | es, [] => (es, [])
 | es, k :: ks => ((ZT pid (ZO pid es k).1 ks).1, (ZO pid es k).2 ++ (ZT pid (ZO pid es k).1 ks).2)
theorem Zoz {es:List PE} {par:Int} {c:Pr} {k:Int} {e:PE} (hk:k≠c.id) (h:es.find? (fun e=>decide (e.p.id=k))=Xa e):∃ e',(Yi es par c).1.find? (fun e=>decide (e.p.id=k))=Xa e'∧e'.j=e.j∧e'.p.id=e.p.id∧e'.p.parent=e.p.parent∧e'.p.status=e.p.status∧e'.p.ended=e.p.ended:=by
 unfold Yi
 split
 ·rename_i p hp
  split
  ·have h1:=ZcM (m:=⟨0,0,es,0⟩) (k:=par) (k':=k) (f:=fun q=>{ q with waiting:=Xc }) (fun _=>rfl) h
   refine ⟨if e.p.id=par then { e with p:=(fun q:Pr=>{ q with waiting:=Xc }) e.p } else e,?_,?_⟩
   ·show (V8 c.id (ZcP par (fun q=>{ q with waiting:=Xc }) es)).find? (fun e=>decide (e.p.id=k))=Xa (if e.p.id=par then { e with p:=(fun q:Pr=>{ q with waiting:=Xc }) e.p } else e)
    unfold V8
    rw [List.find?_filter]
    have:(fun a:PE=>decide ((!decide (a.p.id=c.id))=Xb∧decide (a.p.id=k)=Xb))=fun a=>decide (a.p.id=k):=by
     funext a
     by_cases ha:a.p.id=k
     ·simp [ha,hk]
     ·simp [ha]
    rw [this]
    exact h1
   ·split<;>exact ⟨rfl,rfl,rfl,rfl,rfl⟩
  ·exact ⟨e,h,rfl,rfl,rfl,rfl,rfl⟩
 ·exact ⟨e,h,rfl,rfl,rfl,rfl,rfl⟩
theorem W7 (es:List PE) (par:Int) (c:Pr):(Yi es par c).2.length≤1:=by
 unfold Yi
 split
 ·split<;>simp
 ·simp
theorem Zgb (pid:Int) (es:List PE) (k:Int):(ZO pid es k).2.length≤1:=by
 unfold ZO
 split
 ·split
  ·split
   ·exact W7 _ _ _
   ·simp
  ·simp
 ·simp
theorem ZaB {i:Nat} (h:i≤1048576):iop .add .i64 (i:Int) 1=((i+1:Nat):Int):=by
 rw [Zi7 (by omega) (by omega)]
 omega
theorem Zgn {a b:LL} (ha:a.length≤100000) (hb:b.length≤1):Jr a b 24:=by
 unfold Jr ZC
 omega
theorem ZpN {x:LL} (h:ZB rows (m.frag++F)) (hm:m.Ok) (hx:Ze x = .oref (m.jm+1) 0) {e c:PE} (he:m.find e.p.id=Xa e) (hc:m.find c.p.id=Xa c) (hc1:e.p.id≠1) {zs:List Int} {i:Nat} (hz:zs[i]? = Xa c.p.id) (hzl:zs.length≤64) {acc:LL} (hacc:acc.length≤100000) (k:Nat) :
  ∃ rows' F',Zf3 (k+1) x (nmE (Xa e)) acc (ints zs) (zs.length:Int) (i:Int) rows=Zf3 k x (nmE (Xa e)) (acc++ZU (ZO e.p.id m.es c.p.id).2) (ints zs) (zs.length:Int) ((i+1:Nat):Int) rows'∧
   ZB rows' (({ m with es:=(ZO e.p.id m.es c.p.id).1 } : MS).frag++(F'++F))∧({ m with es:=(ZO e.p.id m.es c.p.id).1 } : MS).Ok:=by
 have hi:i < zs.length:=(Xj.1 hz).1
 have hem:=(Jq he).1
 have hcm:=(Jq hc).1
 have hc':m.es.find? (fun e=>decide (e.p.id=c.p.id))=Xa c:=hc
 rw [ZjC,if_pos (by simp [cop];omega),Z1 hz,Zb (ne1 (ZD hx)),Zb (ne1 (ZD hx)),YW h hx,Zp rfl,Zb (ne1 (Vv h rfl)),Zcq h rfl,hc,Zb (ne1 (Zr c)),Zb (ne1 (Zr c)),Kg h hcm (c:=I c.p.parent) rfl,ZF,
  Zb (ne1 (Zr e)),Zb (ne1 (Zr e)),Kg h hem (c:=I e.p.id) rfl,ZF,ZaB (by omega)]
 unfold ZO
 rw [hc']
 dsimp only
 by_cases hpar:c.p.parent=e.p.id
 ·rw [if_neg (by simp [cop,hpar]),if_pos hpar,Zb (ne1 (Zr c)),Zb (ne1 (Zr c)),Zb (by simp),Zb (ne1 (Zr c)),Zb (ne1 (Zr c))]
  have hce:=hm.par c hcm
  have hee:=hm.rng e hem
  obtain ⟨hu1,hu2⟩:=Zm6 (f:=fun q=>{ q with parent:=1 }) h hm hc rfl rfl ⟨by show (0:Int)≤1;decide,by show (1:Int) < c.p.id;omega⟩
  have hst:Zd .set rows 0 (Zd (.padd 1) (nmE (Xa c)) 0 E0 []) [AV.val (.int .i64 1)]=rows.set c.j ({ c with p:={ c.p with parent:=1 } } : PE).row:=by rw [Zq9 h hcm (by decide)];rfl
  have hfe:=ZcM (k:=c.p.id) (f:=fun q=>{ q with parent:=1 }) (fun _=>rfl) hc
  rw [if_pos rfl] at hfe
  rw [hst]
  generalize rows.set c.j ({ c with p:={ c.p with parent:=1 } } : PE).row=rows1 at hu1 ⊢
  obtain ⟨c1,hc1'⟩:∃ c1,c1=({ c with p:={ c.p with parent:=1 } } : PE):=⟨_,rfl⟩
  have hfe1:({ m with es:=ZcP c.p.id (fun q=>{ q with parent:=1 }) m.es } : MS).find c1.p.id=Xa c1:=by rw [hc1'];exact hfe
  have hn:nmE (Xa c)=nmE (Xa c1):=by rw [hc1'];rfl
  have hcp:c1.p = { c.p with parent:=1 }:=by rw [hc1']
  rw [hn,Kg hu1 (Jq hfe1).1 (c:=B c1.p.ended) rfl,JQ,hcp]
  dsimp only
  cases hen:c.p.ended with
  | true =>
   obtain ⟨rows2,F',q1,q2,q3⟩:=s52 hu1 hu2 hx hfe1 1
   rw [hcp] at q1 q2 q3
   simp only [if_true]
   rw [q1,Xh,Zb (Zgn hacc (by have:=W7 (ZcP c.p.id (fun q=>{ q with parent:=1 }) m.es) 1 { c.p with parent:=1 }; simp only [ZU,Xp];exact this))]
   exact ⟨rows2,F',rfl,q2,q3⟩
  | false =>
   simp only [UA,if_false]
   exact ⟨rows1,[],by simp [ZU],hu1,hu2⟩
 ·rw [if_pos (by simp [cop,hpar]),if_neg hpar]
  exact ⟨rows,[],by simp [ZU],h,hm⟩
theorem Vk {es:List PE} {pid z k:Int} {e:PE} (hk:k≠z) (h:es.find? (fun e=>decide (e.p.id=k))=Xa e):∃ e',(ZO pid es z).1.find? (fun e=>decide (e.p.id=k))=Xa e'∧e'.j=e.j∧e'.p.id=e.p.id∧e'.p.parent=e.p.parent∧e'.p.status=e.p.status:=by
 unfold ZO
 split
 ·rename_i c hc
  have hcz:c.p.id=z:=by have:=Wj hc;simpa using this
  split
  ·have h1:=ZcM (m:=⟨0,0,es,0⟩) (k:=z) (k':=k) (f:=fun q=>{ q with parent:=1 }) (fun _=>rfl) h
   have hek:e.p.id=k:=by have:=Wj h;simpa using this
   rw [if_neg (by rw [hek];exact hk)] at h1
   split
   ·obtain ⟨e',g1,g2,g3,g4,g5,_⟩:=Zoz (es:=ZcP z (fun q=>{ q with parent:=1 }) es) (par:=1) (c:={ c.p with parent:=1 }) (k:=k) (e:=e) (by show k≠c.p.id;rw [hcz];exact hk) h1
    exact ⟨e',g1,g2,g3,g4,g5⟩
   ·exact ⟨e,h1,rfl,rfl,rfl,rfl⟩
  ·exact ⟨e,h,rfl,rfl,rfl,rfl⟩
 ·exact ⟨e,h,rfl,rfl,rfl,rfl⟩
theorem ZoC {e:PE} (hm:m.Ok) (he:m.find e.p.id=Xa e):ZO e.p.id m.es e.p.id=(m.es,[]):=by
 have he':m.es.find? (fun a=>decide (a.p.id=e.p.id))=Xa e:=he
 unfold ZO
 rw [he']
 have:=hm.par e (Jq he).1
 exact if_neg (by omega)
theorem ZkD {x:LL} {zs:List Int} (hzl:zs.length≤64) {pid:Int} (hp1:pid≠1):∀ (ks pre:List Int) (rows:LL) (F:Ym) (m:MS) (e:PE) (acc:LL) (k:Nat),zs=pre++ks→ks.length < k→ks.Nodup→(∀ z∈ks,∃ c,m.find z=Xa c)→ZB rows (m.frag++F)→m.Ok→Ze x = .oref (m.jm+1) 0→
  m.find pid=Xa e→acc.length+ks.length≤100000→
  ∃ rows' F' k' e',Zf3 k x (nmE (Xa e)) acc (ints zs) (zs.length:Int) (pre.length:Int) rows=Zf3 (k'+1) x (nmE (Xa e)) (acc++ZU (ZT pid m.es ks).2) (ints zs) (zs.length:Int) (zs.length:Int) rows'∧
   ZB rows' (({ m with es:=(ZT pid m.es ks).1 } : MS).frag++(F'++F))∧({ m with es:=(ZT pid m.es ks).1 } : MS).Ok∧({ m with es:=(ZT pid m.es ks).1 } : MS).find pid=Xa e'∧e'.j=e.j∧e'.p.parent=e.p.parent∧e'.p.status=e.p.status
 | [], pre, rows, F, m, e, acc, k, hz, hk, _, _, h, hm, _, he, _ => by
  obtain ⟨k',rfl⟩:∃ k',k=k'+1:=⟨k-1,by simp at hk;omega⟩
  have hl:zs.length=pre.length:=by rw [hz,XI]
  exact ⟨rows,[],k',e,by rw [hl];simp [ZT,ZU],h,hm,he,rfl,rfl,rfl⟩
 | z :: ks, pre, rows, F, m, e, acc, k, hz, hk, hn, hin, h, hm, hx, he, hacc => by
  obtain ⟨k',rfl⟩:∃ k',k=k'+1:=⟨k-1,by simp at hk;omega⟩
  obtain ⟨c,hc⟩:=hin z (by simp)
  have hcz:=(Jq hc).2
  have hep:=(Jq he).2
  subst hcz
  subst hep
  obtain ⟨rows1,F1,q1,q2,q3⟩:=ZpN h hm hx he hc hp1 (zs:=zs) (i:=pre.length) (by rw [hz];simp) hzl (acc:=acc) (by omega) k'
  rw [Wd] at hn
  have hfe:∃ e1,({ m with es:=(ZO e.p.id m.es c.p.id).1 } : MS).find e.p.id=Xa e1∧e1.j=e.j∧e1.p.parent=e.p.parent∧e1.p.status=e.p.status:=by
   by_cases hce:e.p.id=c.p.id
   ·rw [← hce,ZoC hm he]
    exact ⟨e,he,rfl,rfl,rfl⟩
   ·obtain ⟨e1,g1,g2,_,g4,g5⟩:=Vk (pid:=e.p.id) hce he
    exact ⟨e1,g1,g2,g4,g5⟩
  obtain ⟨e1,g1,g2,g4,g5⟩:=hfe
  obtain ⟨rows2,F2,k2,e2,r1,r2,r3,r4,r5,r6,r7⟩:=ZkD hzl hp1 ks (pre++[c.p.id]) rows1 (F1++F) _ e1 (acc++ZU (ZO e.p.id m.es c.p.id).2) k' (by rw [hz];simp) (by simp at hk;omega) hn.2
   (fun z hzk=>by
    obtain ⟨c',hc'⟩:=hin z (by simp [hzk])
    obtain ⟨c1,t1,_⟩:=Vk (pid:=e.p.id) (z:=c.p.id) (fun hh=>hn.1 (by rw [← hh];exact hzk)) hc'
    exact ⟨c1,t1⟩) q2 q3 hx g1 (by have:=Zgb e.p.id m.es c.p.id;simp only [Xu,ZU,Xp,XA] at hacc ⊢; omega)
  have hnm:nmE (Xa e1)=nmE (Xa e):=by simp only [nmE,g2]
  refine ⟨rows2,F2++F1,k2,e2,?_,by rw [Xo];exact r2,r3,r4,r5.trans g2,r6.trans g4,r7.trans g5⟩
  rw [q1]
  rw [hnm] at r1
  have hlen:((pre++[c.p.id]).length:Int)=((pre.length+1:Nat):Int):=by simp
  rw [hlen] at r1
  rw [r1]
  simp only [ZT,ZU,XN,Xo]
end
section
open Go Go.AM Go.Proofs.Ytpjnmgjphfnmmaa
set_option maxRecDepth 100000
variable {rows:LL} {F:Ym} {m:MS}
def Y6 (es:List PE) (pid st:Int):List PE×List Zjs:=
 match es.find? fun e=>decide (e.p.id=pid) with
 | some e =>
  if pid=1 then (Yh pid (J8 st) es,[])
  else
   ((Yi (ZT pid (Yh pid (J8 st) es) (es.map fun e=>e.p.id)).1 e.p.parent (J8 st e).p).1,
    (ZT pid (Yh pid (J8 st) es) (es.map fun e=>e.p.id)).2++(Yi (ZT pid (Yh pid (J8 st) es) (es.map fun e=>e.p.id)).1 e.p.parent (J8 st e).p).2)
 | none => (es, [])
theorem Zel {k k':Int} {f:PE→PE} {es:List PE} {e:PE} (hid:∀ q,(f q).p.id=q.p.id) (h:es.find? (fun e=>decide (e.p.id=k'))=Xa e):(Yh k f es).find? (fun e=>decide (e.p.id=k'))=Xa (if e.p.id=k then f e else e):=by
 unfold Yh
 rw [List.find?_map]
 have:((fun e:PE=>decide (e.p.id=k')) ∘ fun e=>if e.p.id=k then f e else e)=fun e=>decide (e.p.id=k'):=by
  funext a
  simp only [U4]
  by_cases ha:a.p.id=k
  ·simp only [if_pos ha,hid]
  ·simp only [if_neg ha]
 rw [this,h]
 rfl
theorem Zgy {k:Int} {f:PE→PE} {es:List PE} (hid:∀ q,(f q).p.id=q.p.id):(Yh k f es).map (fun e=>e.p.id)=es.map fun e=>e.p.id:=by
 unfold Yh
 rw [We]
 refine Wn fun a _=>?_
 simp only [U4]
 split
 ·exact hid a
 ·rfl
theorem Vw {e:PE} {rows1:LL} {row:List AV} {o:Nat} {c:AV} (hr:rows1[e.j]? = Xa row) (ho:o < row.length):Zd .set rows1 0 (Zd (.padd o) (nmE (Xa e)) 0 E0 []) [c]=rows1.set e.j (row.set o c):=by
 rw [YO (Zdz e),XH]
 exact Zal rfl hr ho
theorem Y7 {e:PE} {rows1:LL} {row:List AV} {o:Nat} {c:AV} (hr:rows1[e.j]? = Xa row) (h0:Z2 row=Xb) (hc:row[o]? = Xa c):Zd (.get 1) rows1 0 (Zd (.padd o) (nmE (Xa e)) 0 E0 []) [] = [[c]]:=by
 rw [YO (Zdz e),XH]
 exact JG rfl hr h0 hc
theorem Zfa {es:List PE} {par:Int} {c c':Pr} (h1:c.id=c'.id) (h2:c.status=c'.status):Yi es par c=Yi es par c':=by
 unfold Yi
 rw [h1,h2]
theorem ZcF (pid:Int):∀ (ks:List Int) (es:List PE),(ZT pid es ks).2.length≤ks.length
 | [], _ => Xz _
 | k :: ks, es => by
  have h1:=Zgb pid es k
  have h2:=ZcF pid ks (ZO pid es k).1
  simp only [ZT,Xu,XA]
  omega
theorem s30 {x:LL} (h:ZB rows (m.frag++F)) (hm:m.Ok) (hx:Ze x = .oref (m.jm+1) 0) {e:PE} (he:m.find e.p.id=Xa e) (st:Int) :
  ∃ rows' F',g30 x (nmE (Xa e)) st rows=Xa (ZU (Y6 m.es e.p.id st).2,rows')∧ZB rows' (({ m with es:=(Y6 m.es e.p.id st).1 } : MS).frag++(F'++F))∧({ m with es:=(Y6 m.es e.p.id st).1 } : MS).Ok:=by
 have hem:=(Jq he).1
 have hr:=ZlA h hem
 have hlt:e.j < rows.length:=(Xj.1 hr).1
 have hs4:Zd .set rows 0 (Zd (.padd 4) (nmE (Xa e)) 0 E0 []) [AV.val (.bool Xb)]=rows.set e.j (e.row.set 4 (B Xb)):=Vw hr (by simp [PE.row])
 have hr4:(rows.set e.j (e.row.set 4 (B Xb)))[e.j]? = Xa (e.row.set 4 (B Xb)):=Wa hlt
 have hs5:Zd .set (rows.set e.j (e.row.set 4 (B Xb))) 0 (Zd (.padd 5) (nmE (Xa e)) 0 E0 []) [I st]=rows.set e.j ((e.row.set 4 (B Xb)).set 5 (I st)):=by rw [Vw hr4 (by simp [PE.row]),List.set_set]
 have hr5:(rows.set e.j ((e.row.set 4 (B Xb)).set 5 (I st)))[e.j]? = Xa ((e.row.set 4 (B Xb)).set 5 (I st)):=Wa hlt
 have hs3:Zd .set (rows.set e.j ((e.row.set 4 (B Xb)).set 5 (I st))) 0 (Zd (.padd 3) (nmE (Xa e)) 0 E0 []) [Ze (Zd (.pnil 1) E0 0 E0 [])]=rows.set e.j (((e.row.set 4 (B Xb)).set 5 (I st)).set 3 (.osl 0 0 0)):=by rw [Vw hr5 (by simp [PE.row]),List.set_set];rfl
 have hr3:(rows.set e.j (((e.row.set 4 (B Xb)).set 5 (I st)).set 3 (.osl 0 0 0)))[e.j]? = Xa (((e.row.set 4 (B Xb)).set 5 (I st)).set 3 (.osl 0 0 0)):=Wa hlt
 have hs6:Zd .set (rows.set e.j (((e.row.set 4 (B Xb)).set 5 (I st)).set 3 (.osl 0 0 0))) 0 (Zd (.padd 6) (nmE (Xa e)) 0 E0 []) [AV.val (.bool Xc)]=rows.set e.j (J8 st e).row:=by rw [Vw hr3 (by simp [PE.row]),List.set_set];rfl
 rw [ZuD,Zb (ne1 (Zr e)),Zb (ne1 (Zr e)),Zb (by rw [Y7 hr rfl (c:=B e.p.ended) rfl];simp),Zb (ne1 (Zr e)),Zb (ne1 (Zr e)),hs4,Zb (by rw [Y7 hr4 rfl (c:=I e.p.status) rfl];simp),
  Zb (ne1 (Zr e)),Zb (ne1 (Zr e)),hs5,Zb (by rw [Y7 hr5 rfl (c:=e.core) rfl];simp),Zb (ne1 (Zr e)),Zb (ne1 (Zr e)),hs3,Zb (by rw [Y7 hr3 rfl (c:=B e.p.waiting) rfl];simp),
  Zb (ne1 (Zr e)),Zb (ne1 (Zr e)),hs6]
 have he':m.es.find? (fun a=>decide (a.p.id=e.p.id))=Xa e:=he
 obtain ⟨hu1,hu2⟩:=Zr5 (f:=J8 st) h hm he rfl rfl rfl (by show ([] : List Int) = [];rfl) (hm.par e hem)
 have hfe:=Zel (k:=e.p.id) (f:=J8 st) (fun _=>rfl) he'
 rw [if_pos rfl] at hfe
 have hfe1:({ m with es:=Yh e.p.id (J8 st) m.es } : MS).find e.p.id=Xa (J8 st e):=hfe
 generalize rows.set e.j (J8 st e).row=rows1 at hu1 ⊢
 rw [show nmE (Xa e)=nmE (Xa (J8 st e)) from rfl,Kg hu1 (Jq hfe1).1 (c:=I e.p.id) rfl,ZF]
 unfold Y6
 rw [he']
 dsimp only
 by_cases h1:e.p.id=1
 ·rw [if_pos (by simp [cop,h1]),if_pos h1]
  exact ⟨rows1,e.cf,rfl,hu1,hu2⟩
 ·have hids:({ m with es:=Yh e.p.id (J8 st) m.es } : MS).ids=ints (m.es.map fun e=>e.p.id):=by rw [Y8];exact congrArg ints (Zgy fun _=>rfl)
  rw [if_neg (by simp [cop,h1]),if_neg h1,s29 hu1 hu2 hx,Xh,hids]
  dsimp only
  have hp:=(hu1.push [.omap (m.jq+1)]).tail
  have hl2:(m.es.map fun e=>e.p.id).length≤64:=by rw [Xp];exact hm.len
  have hnod:(m.es.map fun e=>e.p.id).Nodup:=by
   rw [Tv,U9]
   exact hm.srt.imp fun hab hh=>by omega
  have hin:∀ z∈m.es.map fun e=>e.p.id,∃ c,({ m with es:=Yh e.p.id (J8 st) m.es } : MS).find z=Xa c:=fun z hz=>by
   obtain ⟨a,ha,rfl⟩:=Xk.1 hz
   cases hq:({ m with es:=Yh e.p.id (J8 st) m.es } : MS).find a.p.id with
   | some c => exact ⟨c, rfl⟩
   | none =>
    exfalso
    have hz2:a.p.id∈(Yh e.p.id (J8 st) m.es).map fun e=>e.p.id:=by rw [Zgy (f:=J8 st) fun _=>rfl];exact hz
    obtain ⟨b,hb,hbb⟩:=Xk.1 hz2
    have:=Tk.1 hq b hb
    simp [hbb] at this
  have hlen:((ints (m.es.map fun e=>e.p.id)).length:Int)=((m.es.map fun e=>e.p.id).length:Int):=by simp
  rw [hlen]
  obtain ⟨rows2,F2,k2,e2,r1,r2,r3,r4,r5,r6,r7⟩:=ZkD hl2 h1 (m.es.map fun e=>e.p.id) [] _ _ _ (J8 st e) E0 Ju rfl (by unfold Ju;omega) hnod hin hp hu2 hx hfe1 (by simp at hl2 ⊢; omega)
  ·have hz:((([] : List Int).length:Nat):Int)=0:=rfl
   rw [hz] at r1
   have hid2:e2.p.id=e.p.id:=(Jq r4).2
   have hnm:nmE (Xa (J8 st e))=nmE (Xa e2):=by simp only [nmE,r5]
   have hf2:({ m with es:=(ZT e.p.id (Yh e.p.id (J8 st) m.es) (m.es.map fun e=>e.p.id)).1 } : MS).find e2.p.id=Xa e2:=by rw [hid2];exact r4
   rw [r1,hnm,ZjC,if_neg (by simp [cop]),Zb (ne1 (Zr e2)),Zb (ne1 (Zr e2)),Kg r2 (Jq r4).1 (c:=I e2.p.parent) rfl,ZF]
   obtain ⟨rows3,F3,t1,t2,t3⟩:=s52 r2 r3 hx hf2 e2.p.parent
   have hpar:e2.p.parent=e.p.parent:=r6
   have htc:∀ es,Yi es e2.p.parent e2.p=Yi es e.p.parent (J8 st e).p:=fun es=>by rw [hpar];exact Zfa hid2 r7
   rw [htc] at t1 t2 t3
   rw [t1,Xh,Zb (Zgn ?_ ?_)]
   ·refine ⟨rows3,F3++(F2++e.cf),?_,?_,t3⟩
    ·simp only [ZU,XN,XM]
    ·simp only [Xo]
     simp only [Xo] at t2
     exact t2
   ·have:=ZcF e.p.id (m.es.map fun e=>e.p.id) (Yh e.p.id (J8 st) m.es)
    simp only [XM,ZU,Xp] at this hl2 ⊢
    omega
   ·have:=W7 (ZT e.p.id (Yh e.p.id (J8 st) m.es) (m.es.map fun e=>e.p.id)).1 e.p.parent (J8 st e).p
    simp only [ZU,Xp]
    exact this
end
section
open Go Go.AM Go.Proofs.Ytpjnmgjphfnmmaa
set_option maxRecDepth 100000
variable {rows:LL} {F:Ym} {m:MS}
theorem Zgj {a b:LL} (ha:a.length≤100000) (hb:b.length≤100000):Jr a b 24:=by
 unfold Jr ZC
 omega
theorem Zb6 (es:List PE) (pid st:Int):(Y6 es pid st).2.length≤es.length+1:=by
 unfold Y6
 split
 ·split
  ·simp
  ·have h1:=ZcF pid (es.map fun e=>e.p.id) (Yh pid (J8 st) es)
   rename_i e _ _
   have h2:=W7 (ZT pid (Yh pid (J8 st) es) (es.map fun e=>e.p.id)).1 e.p.parent (J8 st e).p
   simp only [Xu,Xp] at h1 ⊢
   omega
 ·simp
def J0 (es:List PE) (z:Int):Option PE:=match es.find? fun e=>decide (e.p.id=z) with | some e=>if e.p.ended=Xb then Xe else Xa e | none=>Xe
theorem Za1 (z:Int):m.run z=J0 m.es z:=rfl
def Zj (st:Int):List PE→List Int→List PE×List Zjs
 | es, [] => (es, [])
 | es, z :: zs =>
  match J0 es z with
  | some _ => ((Zj st (Y6 es z st).1 zs).1, (Y6 es z st).2 ++ (Zj st (Y6 es z st).1 zs).2)
  | none => Zj st es zs
theorem Je {es:List PE} {z:Int} {e:PE} (h:J0 es z=Xa e):es.find? (fun e=>decide (e.p.id=z))=Xa e∧e.p.ended=Xc:=by
 unfold J0 at h
 split at h
 ·split at h
  ·cases h
  ·rename_i e' h1 h2
   cases h
   exact ⟨h1,by simpa using h2⟩
 ·cases h
theorem ZfR {x:LL} {zs:List Int} (hzl:zs.length≤1000) (st:Int):∀ (ks pre:List Int) (rows:LL) (F:Ym) (m:MS) (acc:LL) (k:Nat),zs=pre++ks→ks.length < k→ZB rows (m.frag++F)→m.Ok→Ze x = .oref (m.jm+1) 0→acc.length+65*ks.length≤100000→
  ∃ rows' F',Zjq k x st acc (ints zs) (zs.length:Int) (pre.length:Int) rows=Xa (acc++ZU (Zj st m.es ks).2,rows')∧ZB rows' (({ m with es:=(Zj st m.es ks).1 } : MS).frag++(F'++F))∧({ m with es:=(Zj st m.es ks).1 } : MS).Ok
 | [], pre, rows, F, m, acc, k, hz, hk, h, hm, _, _ => by
  obtain ⟨k',rfl⟩:∃ k',k=k'+1:=⟨k-1,by simp at hk;omega⟩
  have hl:zs.length=pre.length:=by rw [hz,XI]
  rw [Zk1,hl,if_neg (by simp [cop])]
  exact ⟨rows,[],by simp [Zj,ZU],h,hm⟩
 | z :: ks, pre, rows, F, m, acc, k, hz, hk, h, hm, hx, hacc => by
  obtain ⟨k',rfl⟩:∃ k',k=k'+1:=⟨k-1,by simp at hk;omega⟩
  have hz1:zs[pre.length]? = Xa z:=by rw [hz];simp
  have hi:pre.length < zs.length:=(Xj.1 hz1).1
  have hlen:((pre++[z]).length:Int)=((pre.length+1:Nat):Int):=by simp
  rw [Zk1,if_pos (by simp [cop];omega),Z1 hz1,s27 h hx,Xh,Zb (ne1 (Ki _)),ZaB (by omega),Za1]
  have key:∀ (o:Option PE),J0 m.es z=o→∃ rows' F',(if (cop .neq (Xn (Zd .pnn (nmE o) 0 E0 []):Int) 0)=Xb then (g30 x (nmE o) st rows).bind fun (r10:LL×LL)=>Zg (Jr acc r10.1 24)<|Zjq k' x st (acc++r10.1) (ints zs) (zs.length:Int) ((pre.length+1:Nat):Int) r10.2 else Zjq k' x st acc (ints zs) (zs.length:Int) ((pre.length+1:Nat):Int) rows)=Xa (acc++ZU (Zj st m.es (z::ks)).2,rows')∧ZB rows' (({ m with es:=(Zj st m.es (z::ks)).1 } : MS).frag++(F'++F))∧({ m with es:=(Zj st m.es (z::ks)).1 } : MS).Ok:=by
   intro o ho
   cases o with
   | none =>
    rw [K2,if_neg (by decide)]
    obtain ⟨rows',F',q1,q2,q3⟩:=ZfR hzl st ks (pre++[z]) rows F m acc k' (by rw [hz];simp) (by simp at hk;omega) h hm hx (by simp at hacc;omega)
    rw [hlen] at q1
    have he:Zj st m.es (z::ks)=Zj st m.es ks:=by simp only [Zj,ho]
    rw [he]
    exact ⟨rows',F',q1,q2,q3⟩
   | some e =>
    obtain ⟨hf,hen⟩:=Je ho
    have hez:e.p.id=z:=(Jq hf).2
    subst hez
    rw [Zr,if_pos (by decide)]
    obtain ⟨rows1,F1,q1,q2,q3⟩:=s30 h hm hx hf st
    have hl:=Zb6 m.es e.p.id st
    have hml:=hm.len
    have hra:(ZU (Y6 m.es e.p.id st).2).length≤65:=by simp only [ZU,Xp];omega
    rw [q1,Xh,Zb (Zgj (by omega) (show (ZU (Y6 m.es e.p.id st).2).length≤100000 by omega))]
    obtain ⟨rows2,F2,r1,r2,r3⟩:=ZfR hzl st ks (pre++[e.p.id]) rows1 (F1++F) _ (acc++ZU (Y6 m.es e.p.id st).2) k' (by rw [hz];simp) (by simp at hk;omega) q2 q3 hx (by simp only [Xu,XA] at hacc ⊢; omega)
    rw [hlen] at r1
    have he:Zj st m.es (e.p.id::ks)=((Zj st (Y6 m.es e.p.id st).1 ks).1,(Y6 m.es e.p.id st).2++(Zj st (Y6 m.es e.p.id st).1 ks).2):=by simp only [Zj,ho]
    rw [he]
    refine ⟨rows2,F2++F1,?_,by rw [Xo];exact r2,r3⟩
    rw [r1]
    simp only [ZU,XN,Xo]
  exact key _ rfl
end
section
open Go Go.AM Go.Proofs.Ytpjnmgjphfnmmaa
set_option maxRecDepth 100000
variable {rows:LL} {F:Ym} {m:MS}
theorem s45 {x:LL} {zs:List Int} (hzl:zs.length≤1000) (st:Int) (h:ZB rows (m.frag++F)) (hm:m.Ok) (hx:Ze x = .oref (m.jm+1) 0) :
  ∃ rows' F',g45 x (ints zs) st rows=Xa (ZU (Zj st m.es zs).2,rows')∧ZB rows' (({ m with es:=(Zj st m.es zs).1 } : MS).frag++(F'++F))∧({ m with es:=(Zj st m.es zs).1 } : MS).Ok:=by
 obtain ⟨rows',F',q1,q2,q3⟩:=ZfR hzl st zs [] rows F m [] Ju rfl (by unfold Ju;omega) h hm hx (by simp;omega)
 refine ⟨rows',F',?_,q2,q3⟩
 rw [Zuh]
 have hl:((ints zs).length:Int)=(zs.length:Int):=by simp
 rw [hl]
 have hz:((([] : List Int).length:Nat):Int)=0:=rfl
 rw [hz] at q1
 rw [q1,XM]
def K8 (es:List PE) (k st:Int):(List PE×List Zjs)×Int:=
 match J0 es k with
 | none => ((es, []), 17)
 | some _ => if st < 0 then ((es, []), 1) else if 255 < st then ((es, []), 1) else (Y6 es k st, 0)
theorem s13 {x:LL} (h:ZB rows (m.frag++F)) (hm:m.Ok) (hx:Ze x = .oref (m.jm+1) 0) (k st:Int) :
  ∃ rows' F',g13 x k st rows=Xa (ZU (K8 m.es k st).1.2,(K8 m.es k st).2,rows')∧ZB rows' (({ m with es:=(K8 m.es k st).1.1 } : MS).frag++(F'++F))∧({ m with es:=(K8 m.es k st).1.1 } : MS).Ok:=by
 rw [Zuc,s27 h hx,Xh,Zb (ne1 (Ki _)),Za1]
 unfold K8
 cases ho:J0 m.es k with
 | none =>
  rw [K2,if_pos (by decide)]
  exact ⟨rows,[],rfl,h,hm⟩
 | some e =>
  obtain ⟨hf,hen⟩:=Je ho
  have hez:e.p.id=k:=(Jq hf).2
  subst hez
  rw [Zr,if_neg (by decide)]
  dsimp only
  by_cases h1:st < 0
  ·rw [if_pos (by simp [cop,h1]),if_pos h1]
   exact ⟨rows,[],rfl,h,hm⟩
  ·rw [if_neg (by simp [cop];omega),if_neg h1]
   by_cases h2:255 < st
   ·rw [if_pos (by simp [cop,h2]),if_pos h2]
    exact ⟨rows,[],rfl,h,hm⟩
   ·rw [if_neg (by simp [cop];omega),if_neg h2]
    obtain ⟨rows1,F1,q1,q2,q3⟩:=s30 h hm hx hf st
    rw [q1]
    exact ⟨rows1,F1,rfl,q2,q3⟩
theorem s26 (z:Int):g26 z=Xa (decide (0≤z∧z < 32)):=by
 rw [Zut]
 by_cases h1:0≤z
 ·rw [if_pos (by simp [cop,h1])]
  by_cases h2:z < 32<;>simp [cop,h1,h2]
 ·rw [if_neg (by simp [cop];omega)]
  simp [h1]
theorem Ze1 (zs:List Int) (rest:List AV):YF 1 (zs.map (fun z=>I z)++rest) zs.length=ints zs:=by
 unfold YF
 apply Wt
 intro i
 simp only [Xl]
 by_cases hi:i < zs.length
 ·rw [List.getElem?_range hi,Xr hi]
  simp only [Xv,Wl]
  congr 1
  apply Wt
  intro k
  rw [List.getElem?_take]
  cases k with
  | zero =>
   simp only [Nat.lt_one_iff,if_true,List.getElem?_drop,Nat.add_zero]
   rw [Xx (by simpa using hi),Xl,Xr hi]
   rfl
  | succ k => simp
 ·rw [Wh (by simpa using Nat.le_of_not_lt hi),Wh (Nat.le_of_not_lt hi)]
  rfl
theorem Zn0 (h:ZB rows (m.frag++F)) {e:PE} (he:e∈m.es) {q:Nat×Nat} (hq:e.c=Xa q):rows[q.1]? = Xa (e.arr q.2):=h.get (by
 simp only [MS.frag,XL,Xq,Xw,List.mem_flatMap]
 exact .inr (.inr (.inl ⟨e,he,by simp [PE.frag,hq]⟩)))
theorem Zsj (e:PE) (k:Nat):(e.arr k).length=e.p.cores.length+k:=by simp [PE.arr]
theorem Zp0 (e:PE) {k:Nat} (h:e.p.cores.length+k≠0):Z2 (e.arr k)=Xb:=by
 unfold PE.arr
 cases hc:e.p.cores with
 | cons z zs => rfl
 | nil =>
  rw [hc] at h
  cases k with
  | zero => simp at h
  | succ k => rfl
theorem Yf (e:PE):ZN e.core=Xb:=by
 unfold PE.core
 split<;>rfl
theorem Zo2 {x:LL} {e:PE} (hx:Ze x=e.core):Zd .pisl x 0 E0 [] = [[]]:=by
 have:∃ a b c,e.core = .osl a b c:=by
  unfold PE.core
  split<;>exact ⟨_,_,_,rfl⟩
 obtain ⟨a,b,c,he⟩:=this
 simp only [Zd,hx,he,okL]
theorem Zmh (hm:m.Ok) {x:LL} {e:PE} (he:e∈m.es) (hx:Ze x=e.core):Zd .plen x 0 E0 []=Xg e.p.cores.length []:=by
 have hok:=hm.cor e he
 unfold PE.ok at hok
 unfold PE.core at hx
 cases hc:e.c with
 | none =>
  rw [hc] at hx hok
  simp only [Zd,hx,hok]
  rfl
 | some q =>
  rw [hc] at hx
  simp only [Zd,hx]
theorem Zhp (h:ZB rows (m.frag++F)) (hm:m.Ok) {x:LL} {e:PE} (he:e∈m.es) (hx:Ze x=e.core):Zd (.vchk 3 1) rows 0 x [] = [[]]:=by
 have hok:=hm.cor e he
 unfold PE.ok at hok
 unfold PE.core at hx
 cases hc:e.c with
 | none =>
  rw [hc] at hx hok
  simp only [Zd,hx,Zc2,okL]
 | some q =>
  rw [hc] at hx hok
  have hr:=Zn0 h he hc
  simp only [Zd,hx,Zc2,Ji hr,Zp0 e hok,decide_true,X8,Zsj]
  rw [decide_eq_true (by omega)]
  rfl
theorem Zon (h:ZB rows (m.frag++F)) (hm:m.Ok) {x:LL} {e:PE} (he:e∈m.es) (hx:Ze x=e.core):Zd (.view 1) rows 0 x []=ints e.p.cores:=by
 have hok:=hm.cor e he
 unfold PE.ok at hok
 unfold PE.core at hx
 cases hc:e.c with
 | none =>
  rw [hc] at hx hok
  simp only [Zd,hx,Zbh,pJ,pO,hok]
  rfl
 | some q =>
  rw [hc] at hx hok
  have hr:=Zn0 h he hc
  simp only [Zd,hx,Zbh,pJ,pO,Ji hr]
  exact Ze1 _ _
theorem s53 (h:ZB rows (m.frag++F)) (hm:m.Ok) {x:LL} {e:PE} (he:e∈m.es) (hx:Ze x=e.core) (hl:e.p.cores.length≤100000):g53 x rows=Xa (ints e.p.cores,rows):=by
 rw [ZuP,Zb (ne1 (Zo2 hx)),Zmh hm he hx]
 refine Zsc (fun hn=>?_) ?_
 ·have:e.p.cores = []:=by
   cases hc:e.p.cores with
   | nil => rfl
   | cons z zs => rw [hc] at hn; simp at hn
  rw [if_pos rfl,this]
  rfl
 ·rw [if_neg (by decide),Zb (ne1 (Zhp h hm he hx)),Zon h hm he hx,Zb (by unfold Jr ZC;simp only [XT,Xp];omega)]
  rfl
theorem Zoo {γ:Type} {e:PE} (k:Int×Int×ByteArray×LL×Bool×Int×Bool→Option γ):Zl [e.row] 0 [.int .i64,.int .i64,.str,.cel,.bool,.int .i64,.bool] k=k (e.p.id,e.p.parent,e.p.name,[[e.core]],e.p.ended,e.p.status,e.p.waiting):=by
 refine YL (l:=[e.row]) (sh:=[.int .i64,.int .i64,.str,.cel,.bool,.int .i64,.bool]) (cs:=e.row) (r:=(e.p.id,e.p.parent,e.p.name,[[e.core]],e.p.ended,e.p.status,e.p.waiting)) k (by decide) rfl ?_
 unfold PE.row PE.core
 split<;>rfl
def V6 (p:Pr):List AV:=[I p.id,I p.parent,.val (.string p.name),.slice Xc 1 (ints p.cores),B p.ended,I p.status,B p.waiting]
theorem s31 (h:ZB rows (m.frag++F)) (hm:m.Ok) {e:PE} (he:e∈m.es) (hl:e.p.cores.length≤100000):g31 (nmE (Xa e)) rows=Xa (e.p.id,e.p.parent,e.p.name,ints e.p.cores,e.p.ended,e.p.status,e.p.waiting,rows):=by
 rw [Zt2,Zb (ne1 (Zr e)),Ztu (n:=7) (Zdz e) (ZlA h he) rfl rfl,Zoo,Zb (ne1 (Zr e)),Zb (ne1 (Zr e)),Kg h he (c:=e.core) rfl,Zp (Yf e),s53 h hm he (Zl8 (Yf e)) hl]
 rfl
theorem Zkb {x:LL} (h:ZB rows (m.frag++F)) (hm:m.Ok) (hx:Ze x = .oref (m.jm+1) 0) (hl:∀ e∈m.es,e.p.cores.length≤100000):∀ (ks pre:List PE) (k:Nat),m.es=pre++ks→ks.length < k→
  ZqC k x ((pre.map PE.p).map V6) m.ids (m.es.length:Int) (pre.length:Int) rows=Xa ((m.es.map PE.p).map V6,rows)
 | [], pre, k, hs, hk => by
  obtain ⟨k',rfl⟩:∃ k',k=k'+1:=⟨k-1,by simp at hk;omega⟩
  rw [XI] at hs
  rw [Zk4,hs,if_neg (by simp [cop])]
 | e :: ks, pre, k, hs, hk => by
  obtain ⟨k',rfl⟩:∃ k',k=k'+1:=⟨k-1,by simp at hk;omega⟩
  have he:e∈m.es:=by rw [hs];simp
  have hlen:(pre.length:Int) < (m.es.length:Int):=by rw [hs];simp;omega
  have hml:=hm.len
  have hpl:pre.length≤64:=by omega
  have hf:m.find e.p.id=Xa e:=by
   unfold MS.find
   rw [Tl]
   refine ⟨by simp,pre,ks,hs,fun a ha=>?_⟩
   have hsrt:=hm.srt
   rw [hs,Ub] at hsrt
   have:=hsrt.2.2 a ha e (by simp)
   simp;omega
  have hz:(m.es.map fun e=>e.p.id)[pre.length]? = Xa e.p.id:=by rw [hs];simp
  rw [Zk4,if_pos (by simp [cop];omega),Y8,Z1 hz,Zb (ne1 (ZD hx)),Zb (ne1 (ZD hx)),YW h hx,Zp rfl,Zb (ne1 (Vv h rfl)),Zcq h rfl,hf,s31 h hm he (hl e he),Xh,
   Zb (by unfold Jr ZC;simp;omega),ZaB (by omega)]
  have:=Zkb h hm hx hl ks (pre++[e]) k' (by rw [hs];simp) (by simp at hk;omega)
  rw [Y8] at this
  simp only [Xu,XA,XT,XN,Xi,XF] at this
  exact this
theorem s14 {x:LL} (h:ZB rows (m.frag++F)) (hm:m.Ok) (hx:Ze x = .oref (m.jm+1) 0) (hl:∀ e∈m.es,e.p.cores.length≤100000) :
  ∃ rows' F',g14 x rows=Xa ((m.es.map PE.p).map V6,rows')∧ZB rows' (m.frag++(F'++F)):=by
 have hp:=(h.push [.omap (m.jq+1)])
 have hq:ZB (rows++[[.omap (m.jq+1)]]) (m.frag++([(rows.length,[.omap (m.jq+1)])]++F)):=hp.perm (by
  rw [XL,XM]
  exact List.perm_middle.symm)
 refine ⟨rows++[[.omap (m.jq+1)]],[(rows.length,[.omap (m.jq+1)])],?_,hq⟩
 rw [ZtH,s29 h hm hx,Xh]
 have hl2:((m.ids).length:Int)=(m.es.length:Int):=by simp [MS.ids]
 rw [hl2]
 exact Zkb hq hm hx hl m.es [] Ju rfl (by have:=hm.len;unfold Ju;omega)
end
section
open Go Go.AM Go.Proofs.Ytpjnmgjphfnmmaa
set_option maxRecDepth 100000
variable {rows:LL} {F:Ym} {m:MS}
theorem Znb (l:LL) (x:List AV):Z6 (l++[x]) (l.length+1)=x:=Ji (by simp)
theorem Zq6 {x:LL} {j:Nat} {k:Int} {c:AV} {kvs:LL} (hx:Ze x = .omap (j+1)) (hr:rows[j]? = Xa (ZY kvs)):Zd .mput rows k x [c]=rows.set j (ZY (Kf kvs k c)):=by
 simp only [Zd,hx,Zlt,Ji hr]
 rfl
theorem Zlf (l:LL) (a b:List AV):(l++[a]).set l.length b=l++[b]:=by simp
def Zbp:ByteArray:=⟨#[105,110,105,116]⟩
def Zai (z:Int):Pr:=⟨1,0,Zbp,[z],Xc,0,Xc⟩
theorem s8 {z:Int} (hz:0≤z∧z < 32) (h:ZB rows F):∃ m:MS,∃ rows',g8 z rows=Xa ([[.oref (m.jm+1) 0]],0,rows')∧ZB rows' (m.frag++F)∧m.Ok∧m.es.map PE.p = [Zai z]∧m.last=1:=by
 have h1:=h.push [I z]
 have h2:=h1.push [I 1,I 0,.val (.string Zbp),.osl 3 (rows.length+1) 1,B Xc,I 0,B Xc]
 have h3:=h2.push (ZY [[I 1,.oref (rows.length+1+1) 0]])
 have h4:=h3.push [.omap (rows.length+1+1+1),I 1]
 refine ⟨⟨rows.length+3,rows.length+2,[⟨rows.length+1,Xa (rows.length,0),Zai z⟩],1⟩,rows++[[I z]]++[[I 1,I 0,.val (.string Zbp),.osl 3 (rows.length+1) 1,B Xc,I 0,B Xc]]++[ZY [[I 1,.oref (rows.length+1+1) 0]]]++[[.omap (rows.length+1+1+1),I 1]],?_,?_,⟨?_,?_,?_,?_,?_,?_⟩,rfl,rfl⟩
 ·rw [Zvz,s26,Xh,decide_eq_true hz]
  have hn:∀ l:LL,Zd .newm l 0 E0 []=l++[ZY []]:=fun _=>rfl
  have hp:∀ l:LL,Zd .pmap l 0 E0 [] = [[.omap (l.length+1)]]:=fun _=>rfl
  have hw:∀ l:LL,Zd .pnew l 0 E0 [] = [[.oref (l.length+1) 0]]:=fun _=>rfl
  have ha:∀ l:LL,Zd (.parr 3) l 1 E0 [] = [[.osl 3 (l.length+1) 1]]:=fun _=>rfl
  rw [if_neg (by decide),hn,hp,ha,Zb (by simp only [Zd,Ze,ZN,ZtV,Znb];rw [show Yq (ZY [])=Xb from rfl];simp [okL]),hw,Zb (by simp [Zd,Ze,ZN,okL])]
  rw [Zq6 (j:=(rows++[[I z]]++[[I 1,I 0,.val (.string Zbp),.osl 3 (rows.length+1) 1,B Xc,I 0,B Xc]]).length) (kvs:=[]) rfl (by
   have:=List.getElem?_concat_length (l:=rows++[[I z]]++[[I 1,I 0,.val (.string Zbp),.osl 3 (rows.length+1) 1,B Xc,I 0,B Xc]]) (a:=ZY [])
   exact this)]
  have hs:∀ (l:LL) (a b:List AV),(l++[a]).set l.length b=l++[b]:=Zlf
  have e1:∀ l:LL,l=rows++[[I z]]++[[I 1,I 0,.val (.string Zbp),Ze [[.osl 3 (rows.length+1) 1]],B Xc,I 0,B Xc]]→l.length=rows.length+2:=fun l hl=>by rw [hl];simp
  show Xa _=Xa _
  congr 1
  have hl1:(rows++[[I z]]).length=rows.length+1:=by simp
  simp only [Ze,ZN,Zbp,hw,UN,Xu,XA,XT,hl1]
  refine Prod.ext ?_ (Prod.ext rfl ?_)
  ·simp
  ·simp only [Prod.snd]
   congr 1
   have:=Zlf (rows++[[I z]]++[[I 1,I 0,.val (.string Zbp),.osl 3 (rows.length+1) 1,B Xc,I 0,B Xc]]) (ZY []) (ZY [[I 1,.oref (rows.length+1+1) 0]])
   have hl2:(rows++[[I z]]++[[I 1,I 0,.val (.string Zbp),.osl 3 (rows.length+1) 1,B Xc,I 0,B Xc]]).length=rows.length+1+1:=by simp
   rw [hl2] at this
   exact this
 ·simp only [Xu,XA,XT,XH] at h4
  simp only [MS.frag,MS.head,MS.map,PE.kv,PE.frag,PE.row,PE.core,PE.arr,Zai,Xi,XF,UF,List.flatMap_nil,List.replicate_zero,XI,XA,XT,XH,XL,XM]
  exact h4
 ·exact Tw _ _
 ·intro e he
  rw [XG] at he
  subst he
  exact ⟨Int.le_refl _,Int.le_refl _⟩
 ·intro e he
  rw [XG] at he
  subst he
  show (1+0:Nat)≠0
  decide
 ·intro e he
  rw [XG] at he
  subst he
  exact ⟨Int.le_refl _,by show (0:Int) < 1;decide⟩
 ·show (1:Nat)≤64
  decide
 ·show (1:Int)≤1048576
  decide
def YN (es:List PE) (parent core:Int) (nm:Bool):Int:=
 match J0 es parent with
 | none => 17
 | some _ => if nm = Xb then (if 0 ≤ core ∧ core < 32 then (if es.length = 64 then 15 else 0) else 1) else 63
theorem put_new {es:List PE} {k:Int} {c:AV} (h:∀ e∈es,e.p.id < k):Kf (es.map PE.kv) k c=es.map PE.kv++[[I k,c]]:=by
 unfold Kf
 rw [if_neg]
 intro hh
 obtain ⟨r,hr,hk⟩:=List.any_eq_true.1 hh
 obtain ⟨e,he,rfl⟩:=Xk.1 hr
 have:=h e he
 have hk':(Xa e.p.id == Xa k)=Xb:=hk
 simp at hk'
 omega
theorem Zup {x:LL} (h:ZB rows (m.frag++F)) (hx:Ze x = .oref (m.jm+1) 0) {parent core:Int} {name:ByteArray} {nm:Bool} (hn:g28 name=Xa nm) (hc:YN m.es parent core nm≠0) :
  g10 x parent name core rows=Xa (0,YN m.es parent core nm,rows):=by
 rw [Zq0,s27 h hx,Xh,Zb (ne1 (Ki _)),Za1]
 unfold YN at hc ⊢
 cases ho:J0 m.es parent with
 | none =>
  rw [K2,if_pos (by decide)]
 | some e =>
  rw [ho] at hc
  dsimp only at hc ⊢
  rw [Zr,if_neg (by decide),hn,Xh]
  cases nm with
  | false => rfl
  | true =>
   simp only [if_true] at hc ⊢
   rw [if_neg (by decide),s26,Xh]
   by_cases hr:0≤core∧core < 32
   ·rw [if_pos hr] at hc ⊢
    rw [decide_eq_true hr,if_neg (by decide),Zb (ne1 (ZD hx)),Zb (ne1 (ZD hx)),YW h hx,Zp rfl,Zb (ne1 (Vv h rfl))]
    have hrows:Zd .mrows rows 0 [[.omap (m.jq+1)]] []=m.es.map PE.kv:=by
     simp only [Zd,Ze,ZN,ZsT,Ji (map_at h),MS.map,ZY,Kj]
    by_cases hl:m.es.length=64
    ·rw [if_pos hl] at hc ⊢
     rw [hrows,if_pos (by simp [cop,hl])]
    ·rw [if_neg hl] at hc
     exact absurd rfl hc
   ·rw [if_neg hr]
    rw [decide_eq_false hr]
    rfl
theorem s10 {x:LL} (h:ZB rows (m.frag++F)) (hm:m.Ok) (hx:Ze x = .oref (m.jm+1) 0) {parent core:Int} {name:ByteArray} {nm:Bool} (hn:g28 name=Xa nm) (hc:YN m.es parent core nm=0) (hlast:m.last < 1048576) :
  ∃ rows',∃ e':PE,g10 x parent name core rows=Xa (m.last+1,0,rows')∧e'.p=⟨m.last+1,parent,name,[core],Xc,0,Xc⟩∧ZB rows' (({ m with es:=m.es++[e'],last:=m.last+1 } : MS).frag++F)∧({ m with es:=m.es++[e'],last:=m.last+1 } : MS).Ok:=by
 rw [Zq0,s27 h hx,Xh,Zb (ne1 (Ki _)),Za1]
 unfold YN at hc
 cases ho:J0 m.es parent with
 | none => rw [ho] at hc; exact absurd hc (by show ¬ ((17 : Int) = 0); decide)
 | some e =>
  rw [ho] at hc
  dsimp only at hc
  cases nm with
  | false => rw [if_neg (by decide)] at hc; exact absurd hc (by decide)
  | true =>
  rw [if_pos rfl] at hc
  by_cases hr:0≤core∧core < 32
  ·rw [if_pos hr] at hc
   by_cases hl:m.es.length=64
   ·rw [if_pos hl] at hc;exact absurd hc (by decide)
   ·have hrows:Zd .mrows rows 0 [[.omap (m.jq+1)]] []=m.es.map PE.kv:=by
     simp only [Zd,Ze,ZN,ZsT,Ji (map_at h),MS.map,ZY,Kj]
    obtain ⟨hf,_⟩:=Je ho
    have hem:=Jq (m:=m) hf
    have hrg:=hm.rng e hem.1
    have hlst:=hm.lst
    rw [Zr,if_neg (by decide),hn,Xh,if_neg (by decide),s26,Xh,decide_eq_true hr,if_neg (by decide),Zb (ne1 (ZD hx)),Zb (ne1 (ZD hx)),YW h hx,Zp rfl,Zb (ne1 (Vv h rfl)),hrows,if_neg (by simp [cop];omega),
     Zb (ne1 (ZD hx)),Zb (ne1 (ZD hx)),ZiM h hx,ZF,Zb (ne1 (ZD hx)),Zb (ne1 (ZD hx)),Zb (by simp),Zb (ne1 (ZD hx)),Zb (ne1 (ZD hx))]
    have hadd:iop .add .i64 m.last 1=m.last+1:=Zi7 (by omega) (by omega)
    rw [hadd]
    have hs1:Zd .set rows 0 (Zd (.padd 1) x 0 E0 []) [AV.val (.int .i64 (m.last+1))]=rows.set m.jm [.omap (m.jq+1),I (m.last+1)]:=by
     rw [YO hx]
     rw [Zal rfl (head_at h) (by simp [MS.head])]
     rfl
    rw [hs1]
    have h1:ZB (rows.set m.jm [.omap (m.jq+1),I (m.last+1)]) (({ m with last:=m.last+1 } : MS).frag++F):=ZB.set h [.omap (m.jq+1),I (m.last+1)]
    generalize rows.set m.jm [.omap (m.jq+1),I (m.last+1)]=r1 at h1 ⊢
    have h2:=h1.push [I core]
    have h3:=h2.push [I (m.last+1),I parent,.val (.string name),.osl 3 (r1.length+1) 1,B Xc,I 0,B Xc]
    have hw:∀ l:LL,Zd .pnew l 0 E0 [] = [[.oref (l.length+1) 0]]:=fun _=>rfl
    have ha:Zd (.parr 3) r1 1 E0 [] = [[.osl 3 (r1.length+1) 1]]:=rfl
    have hc3:Ze [[AV.osl 3 (r1.length+1) 1]] = .osl 3 (r1.length+1) 1:=rfl
    have hc4:Ze [[AV.oref ((r1++[[AV.val (.int .i64 core)]]).length+1) 0]] = .oref ((r1++[[AV.val (.int .i64 core)]]).length+1) 0:=rfl
    rw [YW (m:={ m with last:=m.last+1 }) h1 hx,Zp rfl,Zb (ne1 (ZD hx)),Zb (ne1 (ZD hx)),ZiM (m:={ m with last:=m.last+1 }) h1 hx,ZF,Zb (ne1 (ZD hx)),Zb (ne1 (ZD hx)),ZF,ha,hc3]
    dsimp only
    generalize hr3:r1++[[AV.val (.int .i64 core)]]++[[AV.val (.int .i64 (m.last+1)),AV.val (.int .i64 parent),AV.val (.string name),AV.osl 3 (r1.length+1) 1,AV.val (.bool Xc),AV.val (.int .i64 0),AV.val (.bool Xc)]]=r3
    have hr3':r1++[[I core]]++[[I (m.last+1),I parent,.val (.string name),.osl 3 (r1.length+1) 1,B Xc,I 0,B Xc]]=r3:=hr3
    rw [hr3'] at h3
    have h3m:=h3.tail.tail
    rw [Zb (ne1 (Vv (m:={ m with last:=m.last+1 }) h3m rfl)),hw,hc4,Zb (by simp [Zd,Ze,ZN,okL]),Zb (ne1 (ZD hx)),Zb (ne1 (ZD hx))]
    rw [Zq6 (j:=m.jq) (kvs:=m.es.map PE.kv) rfl (map_at (m:={ m with last:=m.last+1 }) h3m),put_new (fun a ha=>by have:=hm.rng a ha;omega)]
    have hlen:(r1++[[AV.val (.int .i64 core)]]).length=r1.length+1:=by simp
    have hlen':(r1++[[I core]]).length=r1.length+1:=by simp
    rw [hlen]
    rw [hlen'] at h3
    obtain ⟨e',he'⟩:∃ e':PE,e'=⟨r1.length+1,Xa (r1.length,0),⟨m.last+1,parent,name,[core],Xc,0,Xc⟩⟩:=⟨_,rfl⟩
    have hfr:e'.frag = [(r1.length+1,[I (m.last+1),I parent,.val (.string name),.osl 3 (r1.length+1) 1,B Xc,I 0,B Xc]),(r1.length,[I core])]:=by rw [he'];rfl
    have hkv:e'.kv = [I (m.last+1),.oref (r1.length+1+1) 0]:=by rw [he'];rfl
    have hp1:((r1.length+1,[I (m.last+1),I parent,.val (.string name),.osl 3 (r1.length+1) 1,B Xc,I 0,B Xc])::(r1.length,[I core])::(({ m with last:=m.last+1 } : MS).frag++F)).Perm ((m.jq,m.map)::((m.jm,[.omap (m.jq+1),I (m.last+1)])::((m.es++[e']).flatMap PE.frag++F))):=by
     have:(m.es++[e']).flatMap PE.frag++F=m.es.flatMap PE.frag++(e'.frag++F):=by simp [List.flatMap_append]
     rw [this]
     have h0:(r1.length+1,[I (m.last+1),I parent,.val (.string name),.osl 3 (r1.length+1) 1,B Xc,I 0,B Xc])::(r1.length,[I core])::(({ m with last:=m.last+1 } : MS).frag++F)=e'.frag++(({ m with last:=m.last+1 } : MS).frag++F):=by rw [hfr];rfl
     rw [h0]
     refine (Ug _ _ _).trans ?_
     exact (List.Perm.swap _ _ _)
    have h4:=((h3.perm hp1).set (ZY (m.es.map PE.kv++[e'.kv]))).perm (List.Perm.swap _ _ _)
    have hfin:ZB (r3.set m.jq (ZY (m.es.map PE.kv++[e'.kv]))) (({ m with es:=m.es++[e'],last:=m.last+1 } : MS).frag++F):=by
     have hmap:({ m with es:=m.es++[e'],last:=m.last+1 } : MS).map=ZY (m.es.map PE.kv++[e'.kv]):=by simp [MS.map]
     unfold MS.frag
     rw [hmap]
     exact h4
    rw [hkv] at hfin
    rw [ZiM (m:={ m with es:=m.es++[e'],last:=m.last+1 }) hfin hx,ZF]
    refine ⟨_,e',rfl,by rw [he'],hfin,?_,?_,?_,?_,?_,?_⟩
    ·show (m.es++[e']).Pairwise _
     rw [Ub]
     refine ⟨hm.srt,Tw _ _,fun a ha b hb=>?_⟩
     rw [XG] at hb
     have:=hm.rng a ha
     rw [hb,he']
     show a.p.id < m.last+1
     omega
    ·intro a ha
     show 1≤a.p.id∧a.p.id≤m.last+1
     rcases Xw.1 ha with ha | ha
     ·have:=hm.rng a ha
      omega
     ·rw [XG] at ha
      rw [ha,he']
      dsimp only
      omega
    ·intro a ha
     rcases Xw.1 ha with ha | ha
     ·exact hm.cor a ha
     ·rw [XG] at ha
      rw [ha,he']
      show (1+0:Nat)≠0
      decide
    ·intro a ha
     rcases Xw.1 ha with ha | ha
     ·exact hm.par a ha
     ·rw [XG] at ha
      rw [ha,he']
      show 0≤parent∧parent < m.last+1
      omega
    ·show (m.es++[e']).length≤64
     have:=hm.len
     simp
     omega
    ·show m.last+1≤1048576
     omega
  ·rw [if_neg hr] at hc;exact absurd hc (by decide)
end
section
open Go Go.AM Go.Proofs.Ytpjnmgjphfnmmaa
set_option maxRecDepth 100000
variable {rows:LL} {F:Ym} {m:MS}
def Y2 (es:List PE) (k:Int):List PE×Int×Int×Int×Bool×Int:=
 match J0 es k with
 | none => (es, 0, 0, 0, Xc, 17)
 | some p =>
  if p.p.waiting=Xb then (es,0,0,0,Xc,4)
  else match es.find? fun e=>decide (e.p.parent=k)&&e.p.ended with
   | some c => (V8 c.p.id es, k, c.p.id, c.p.status, Xb, 0)
   | none => if (es.any fun e => decide (e.p.parent = k)) = Xb then (ZcP k (fun q => { q with waiting := Xb }) es, 0, 0, 0, Xc, 0) else (es, 0, 0, 0, Xc, 2)
theorem ZfG (hm:m.Ok) {pre ks:List PE} {e:PE} (hs:m.es=pre++e::ks):m.find e.p.id=Xa e:=by
 unfold MS.find
 rw [Tl]
 refine ⟨by simp,pre,ks,hs,fun a ha=>?_⟩
 have hsrt:=hm.srt
 rw [hs,Ub] at hsrt
 have:=hsrt.2.2 a ha e (by simp)
 simp
 omega
theorem ZfD {x:LL} (h:ZB rows (m.frag++F)) (hm:m.Ok) (hx:Ze x = .oref (m.jm+1) 0) (kk:Int) {p:PE} (hp:p∈m.es):∀ (ks pre:List PE) (k c:Nat),m.es=pre++ks→ks.length < k→c≤pre.length→
  ZmM k x kk 0 0 0 (nmE (Xa p)) (c:Int) m.ids (m.es.length:Int) (pre.length:Int) rows =
   match ks.find? (fun e=>decide (e.p.parent=kk)&&e.p.ended) with
   | some e => Xa (kk, e.p.id, e.p.status, Xb, 0, Zd .mdel rows e.p.id [[.omap (m.jq + 1)]] [])
   | none => if c = 0 ∧ (ks.any fun e => decide (e.p.parent = kk)) = Xc then Xa (0, 0, 0, Xc, 2, rows) else Xa (0, 0, 0, Xc, 0, rows.set p.j (p.row.set 6 (B Xb)))
 | [], pre, k, c, hs, hk, hc => by
  obtain ⟨k',rfl⟩:∃ k',k=k'+1:=⟨k-1,by simp at hk;omega⟩
  rw [XI] at hs
  rw [Zkw,hs,if_neg (by simp [cop])]
  simp only [List.find?_nil,List.any_nil,and_true]
  by_cases h0:c=0
  ·rw [if_pos (by simp [cop,h0]),if_pos h0]
  ·rw [if_neg (by simp [cop];omega),if_neg h0,Zb (ne1 (Zr p)),Zb (ne1 (Zr p)),Zb (by rw [Y7 (ZlA h hp) rfl (c:=B p.p.waiting) rfl];simp),Vw (ZlA h hp) (by simp [PE.row])]
 | e :: ks, pre, k, c, hs, hk, hc => by
  obtain ⟨k',rfl⟩:∃ k',k=k'+1:=⟨k-1,by simp at hk;omega⟩
  have he:e∈m.es:=by rw [hs];simp
  have hlen:(pre.length:Int) < (m.es.length:Int):=by rw [hs];simp;omega
  have hml:=hm.len
  have hpl:pre.length≤64:=by omega
  have hf:=ZfG hm hs
  have hz:(m.es.map fun e=>e.p.id)[pre.length]? = Xa e.p.id:=by rw [hs];simp
  have hl1:((pre++[e]).length:Int)=((pre.length+1:Nat):Int):=by simp
  rw [Zkw,if_pos (by simp [cop];omega),Y8,Z1 hz,Zb (ne1 (ZD hx)),Zb (ne1 (ZD hx)),YW h hx,Zp rfl,Zb (ne1 (Vv h rfl)),Zcq h rfl,hf,Zb (ne1 (Zr e)),Zb (ne1 (Zr e)),Kg h he (c:=I e.p.parent) rfl,ZF,ZaB (by omega)]
  by_cases hpar:e.p.parent=kk
  ·rw [if_neg (by simp [cop,hpar]),Zb (ne1 (Zr e)),Zb (ne1 (Zr e)),Kg h he (c:=B e.p.ended) rfl,JQ]
   cases hen:e.p.ended with
   | true =>
    rw [if_pos rfl,Zb (ne1 (ZD hx)),Zb (ne1 (ZD hx)),Zp rfl,Zb (ne1 (Vv h rfl)),Zb (ne1 (Zr e)),Zb (ne1 (Zr e))]
    have hr:=(ZnG h hm hf (x:=[[.omap (m.jq+1)]]) rfl).1
    have hr2:(Zd .mdel rows e.p.id [[.omap (m.jq+1)]] [])[e.j]? = Xa e.row:=hr.get (by simp [PE.frag])
    rw [Y7 hr2 rfl (c:=I e.p.status) rfl,ZF]
    simp only [UU,hpar,hen,decide_true,X8]
   | false =>
    rw [if_neg (by decide),ZaB (by omega)]
    have ih:=ZfD h hm hx kk hp ks (pre++[e]) k' (c+1) (by rw [hs];simp) (by simp at hk;omega) (by simp;omega)
    rw [Y8,hl1] at ih
    rw [ih]
    simp only [UU,hpar,hen,decide_true,X8,U8,Bool.true_or,Bool.true_eq_false,and_false,if_false,Nat.add_eq_zero_iff,Nat.one_ne_zero,false_and]
  ·rw [if_pos (by simp [cop,hpar])]
   have ih:=ZfD h hm hx kk hp ks (pre++[e]) k' c (by rw [hs];simp) (by simp at hk;omega) (by simp;omega)
   rw [Y8,hl1] at ih
   rw [ih]
   simp only [UU,hpar,decide_false,Bool.false_and,U8,Bool.false_or]
theorem s11 {x:LL} (h:ZB rows (m.frag++F)) (hm:m.Ok) (hx:Ze x = .oref (m.jm+1) 0) (k:Int) :
  ∃ rows' F',g11 x k rows=Xa ((Y2 m.es k).2.1,(Y2 m.es k).2.2.1,(Y2 m.es k).2.2.2.1,(Y2 m.es k).2.2.2.2.1,(Y2 m.es k).2.2.2.2.2,rows')∧ZB rows' (({ m with es:=(Y2 m.es k).1 } : MS).frag++(F'++F))∧({ m with es:=(Y2 m.es k).1 } : MS).Ok:=by
 rw [ZtQ,s27 h hx,Xh,Zb (ne1 (Ki _)),Za1]
 unfold Y2
 cases ho:J0 m.es k with
 | none =>
  rw [K2,if_pos (by decide)]
  exact ⟨rows,[],rfl,h,hm⟩
 | some p =>
  obtain ⟨hf,hen⟩:=Je ho
  obtain ⟨hp,hpk⟩:=Jq (m:=m) hf
  subst hpk
  rw [Zr,if_neg (by decide),Zb (by simp),Zb (by simp),Kg h hp (c:=B p.p.waiting) rfl,JQ]
  dsimp only
  cases hw:p.p.waiting with
  | true =>
   exact ⟨rows,[],rfl,h,hm⟩
  | false =>
   rw [if_neg (by decide),if_neg (by decide),s29 h hm hx,Xh]
   have hp0:=(h.push [.omap (m.jq+1)])
   have hq:ZB (rows++[[.omap (m.jq+1)]]) (m.frag++([(rows.length,[.omap (m.jq+1)])]++F)):=hp0.perm (by
    rw [XL,XM]
    exact List.perm_middle.symm)
   generalize rows++[[.omap (m.jq+1)]]=rows1 at hq ⊢
   have hl2:((m.ids).length:Int)=(m.es.length:Int):=by simp [MS.ids]
   have hlp:=ZfD hq hm hx p.p.id hp m.es [] Ju 0 rfl (by have:=hm.len;unfold Ju;omega) (Xz _)
   rw [hl2]
   have hz:((([] : List PE).length:Nat):Int)=0:=rfl
   rw [hz] at hlp
   have hz2:((0:Nat):Int)=0:=rfl
   rw [hz2] at hlp
   rw [hlp]
   cases hfc:m.es.find? (fun e=>decide (e.p.parent=p.p.id)&&e.p.ended) with
   | some c =>
    have hcm:=Ua hfc
    have hcf:m.find c.p.id=Xa c:=by
     obtain ⟨pre,post,hs⟩:=List.append_of_mem hcm
     exact ZfG hm hs
    obtain ⟨g1,g2⟩:=ZnG hq hm hcf (x:=[[.omap (m.jq+1)]]) rfl
    refine ⟨_,c.frag++[(rows.length,[.omap (m.jq+1)])],rfl,?_,g2⟩
    rw [Xo]
    exact g1
   | none =>
    dsimp only
    cases ha:m.es.any fun e=>decide (e.p.parent=p.p.id) with
    | false =>
     rw [if_pos ⟨rfl,rfl⟩,if_neg (by decide)]
     exact ⟨rows1,_,rfl,hq,hm⟩
    | true =>
     rw [if_neg (by simp),if_pos rfl]
     obtain ⟨g1,g2⟩:=Zm6 (f:=fun q=>{ q with waiting:=Xb }) hq hm hf rfl rfl (hm.par p hp)
     refine ⟨_,[(rows.length,[.omap (m.jq+1)])],rfl,?_,g2⟩
     exact g1
end
section
open Go Go.AM Go.Proofs.Ytpjnmgjphfnmmaa
set_option maxRecDepth 100000
variable {rows:LL} {F:Ym} {m:MS}
def Jw (zs:List Int):List AV:=zs.map fun z=>I z
def IsI (rows:LL) (c:AV) (zs:List Int):Prop:=(c = .osl 0 0 0∧zs = [])∨∃ j rest,c = .osl 3 (j+1) zs.length∧rows[j]? = Xa (Jw zs++rest)∧Jw zs++rest≠[]
theorem ZdD {zs:List Int} {k:Nat} (h:Jw zs++Xg k (I 0)≠[]):Z2 (Jw zs++Xg k (I 0))=Xb:=by
 cases zs with
 | cons z zs => rfl
 | nil =>
  cases k with
  | zero => exact absurd rfl h
  | succ k => rfl
theorem ZfB (h:ZB rows (m.frag++F)) (hm:m.Ok) {e:PE} (he:e∈m.es):IsI rows e.core e.p.cores:=by
 have hok:=hm.cor e he
 unfold PE.ok at hok
 unfold PE.core
 cases hc:e.c with
 | none =>
  rw [hc] at hok
  exact .inl ⟨rfl,hok⟩
 | some q =>
  rw [hc] at hok
  refine .inr ⟨q.1,Xg q.2 (I 0),rfl,Zn0 h he hc,fun hn=>?_⟩
  have:=congrArg Xn hn
  simp [Jw] at this
  exact hok (by simp [this.1,this.2])
theorem KU {c:AV} {zs:List Int} (h:IsI rows c zs) {x:LL} (hx:Ze x=c):Zd .pisl x 0 E0 [] = [[]]:=by
 rcases h with ⟨rfl,_⟩ | ⟨j,rest,rfl,_⟩ <;> simp only [Zd,hx,okL]
theorem YJ {c:AV} {zs:List Int} (h:IsI rows c zs) {x:LL} (hx:Ze x=c):((Zd .plen x 0 E0 []).length:Int)=(zs.length:Int):=by
 rcases h with ⟨rfl,rfl⟩ | ⟨j,rest,rfl,_⟩ <;> simp only [Zd,hx]<;>simp
theorem ZqX {zs:List Int} {rest:List AV} {i:Nat} {z:Int} (h:zs[i]? = Xa z):(Jw zs++rest)[i]? = Xa (I z):=by
 have hi:=(Xj.1 h).1
 rw [Xx (by simpa [Jw] using hi)]
 simp only [Jw,Xl,h,Xv]
theorem Zmd {zs:List Int} {rest:List AV} {i:Nat} {z:Int} (h:zs[i]? = Xa z):Z2 (Jw zs++rest)=Xb:=by
 cases zs with
 | nil => simp at h
 | cons z zs => rfl
theorem Zgi {c:AV} {zs:List Int} (h:IsI rows c zs) {x:LL} (hx:Ze x=c) {i:Nat} {z:Int} (hz:zs[i]? = Xa z):Zd (.get 1) rows 0 (Zd (.pidx 1) x (i:Int) [] []) [] = [[I z]]:=by
 rcases h with ⟨rfl,rfl⟩ | ⟨j,rest,rfl,hr,_⟩
 ·simp at hz
 ·have hp:Zd (.pidx 1) x (i:Int) [] [] = [[.oref (j+1) i]]:=by simp only [Zd,hx,pJ,Wo,Wl]
  rw [hp]
  exact JG rfl hr (Zmd hz) (ZqX hz)
theorem Zk2 {c:AV} {zs:List Int} (h:IsI rows c zs) {x:LL} (hx:Ze x=c) (hl:zs.length≤100000) (k:Int):∀ (ks pre:List Int) (q:Nat),zs=pre++ks→ks.length < q→
  ∃ r:Int,ZqK q x k (zs.length:Int) (pre.length:Int) rows=Xa (r,rows)∧(0≤r↔k∈ks)
 | [], pre, q, hs, hq => by
  obtain ⟨q',rfl⟩:∃ q',q=q'+1:=⟨q-1,by simp at hq;omega⟩
  rw [XI] at hs
  rw [Zkn,hs,if_neg (by simp [cop])]
  exact ⟨-1,rfl,by simp⟩
 | z :: ks, pre, q, hs, hq => by
  obtain ⟨q',rfl⟩:∃ q',q=q'+1:=⟨q-1,by simp at hq;omega⟩
  have hz:zs[pre.length]? = Xa z:=by rw [hs];simp
  have hi:pre.length < zs.length:=(Xj.1 hz).1
  have hl1:((pre++[z]).length:Int)=((pre.length+1:Nat):Int):=by simp
  rw [Zkn,if_pos (by simp [cop];omega),Zb (by omega),YJ h hx,Zb (by omega),Zgi h hx hz,ZF,ZaB (by omega)]
  by_cases hk:k=z
  ·rw [if_pos (by simp [cop,hk])]
   exact ⟨_,rfl,by simp [hk]⟩
  ·rw [if_neg (by simp [cop,hk])]
   obtain ⟨r,h1,h2⟩:=Zk2 h hx hl k ks (pre++[z]) q' (by rw [hs];simp) (by simp at hq;omega)
   rw [hl1] at h1
   exact ⟨r,h1,by rw [h2];simp [hk]⟩
theorem s44 {c:AV} {zs:List Int} (h:IsI rows c zs) {x:LL} (hx:Ze x=c) (hl:zs.length≤100000) (k:Int):g44 x k rows=Xa (decide (k∈zs),rows):=by
 obtain ⟨r,h1,h2⟩:=Zk2 h hx hl k zs [] Ju rfl (by unfold Ju;omega)
 have hz:((([] : List Int).length:Nat):Int)=0:=rfl
 rw [hz] at h1
 rw [ZtM,ZuN,Zb (ne1 (KU h hx)),YJ h hx,h1,Xh]
 simp only [cop,ge_iff_le]
 congr 2
 exact decide_eq_decide.2 h2
def srt (zs:List Int):List Int:=zs.mergeSort fun a b=>decide (a≤b)
theorem Zst (zs:List Int):(Jw zs).filterMap (fun c=>ZX [c])=zs:=by
 unfold Jw
 induction zs with
 | nil => rfl
 | cons z zs ih => rw [Xi, Tu (f := fun c => ZX [c]) (a := I z) (b := z) rfl, ih]
theorem ZgG (zs:List Int):KG (Jw zs)=Jw (srt zs):=by
 unfold KG srt
 rw [Zst]
 rfl
theorem ZbN (zs:List Int):(srt zs).length=zs.length:=List.length_mergeSort _
theorem modify_set {rows:LL} {j:Nat} {row:List AV} (hr:rows[j]? = Xa row) (f:List AV→List AV):rows.modify j f=rows.set j (f row):=by
 have hlt:=(Xj.1 hr).1
 apply Wt
 intro i
 rw [List.getElem?_modify,List.getElem?_set]
 by_cases hij:j=i
 ·subst hij
  rw [if_pos rfl,if_pos hlt,hr]
  simp
 ·rw [if_neg hij]
  simp [hij]
theorem s43 {x:LL} {j:Nat} {zs:List Int} (hx:Ze x = .osl 3 (j+1) zs.length) (hr:rows[j]? = Xa (Jw zs)) (h0:zs≠[]) (hl:zs.length≤100000) :
  g43 x rows=Xa (rows.set j (Jw (srt zs))):=by
 have e:g43 x rows=ZkA x rows:=rfl
 rw [e]
 unfold ZkA
 rw [hx]
 dsimp only
 rw [Ji hr,Zb]
 ·congr 1
  simp only [Zd,ZiF,hx]
  have hlen:(Jw zs).length=zs.length:=by simp [Jw]
  rw [modify_set hr,Uo (by omega),List.drop_eq_nil_of_le (by omega),ZgG,XI]
 ·have hlen:(Jw zs).length=zs.length:=by simp [Jw]
  have hc:Z2 (Jw zs)=Xb:=by
   cases zs with
   | nil => exact absurd rfl h0
   | cons z zs => rfl
  rw [hc,hlen,decide_eq_true rfl,decide_eq_true (show zs.length≤1048576 by omega),decide_eq_true rfl]
  simp only [X8]
  refine XD.2 fun c hc=>?_
  obtain ⟨z,hz,rfl⟩:=Xk.1 hc
  rfl
theorem Zuw {c:AV} {zs:List Int} (h:IsI rows c zs) {x:LL} (hx:Ze x=c) (k:Int) :
  (Zd (.papp 3) rows 0 x [AV.slice Xc 1 (E0++[[AV.val (.int .i64 k)]])] = [[.osl 3 (rows.length+1) (zs.length+1)]])∧
  ∃ rows1,Zd (.app 1) rows 0 x [AV.slice Xc 1 (E0++[[AV.val (.int .i64 k)]])]=rows1++[Jw (zs++[k])]∧((c = .osl 0 0 0∧rows1=rows)∨∃ j n,c = .osl 3 (j+1) n∧rows1=rows.set j []):=by
 rcases h with ⟨rfl,rfl⟩ | ⟨j,rest,rfl,hr,_⟩
 ·refine ⟨?_,rows,?_,.inl ⟨rfl,rfl⟩⟩
  ·simp only [Zd,hx,pO,Zrs];rfl
  ·simp only [Zd,hx,ZhW,Zrs];rfl
 ·refine ⟨?_,rows.set j [],?_,.inr ⟨j,_,rfl,rfl⟩⟩
  ·simp only [Zd,hx,pO,Zrs];rfl
  ·simp only [Zd,hx,ZhW,Zrs,Ji hr]
   congr 2
   have hl:(Jw zs).length=zs.length:=by simp [Jw]
   rw [Wl,List.take_left' hl]
   simp [Jw]
def VY (es:List PE) (k core:Int):Int:=
 match J0 es k with
 | none => 17
 | some e => if 0 ≤ core ∧ core < 32 then (if core ∈ e.p.cores then 56 else 0) else 1
end
section
open Go Go.AM Go.Proofs.Ytpjnmgjphfnmmaa
set_option maxRecDepth 100000
variable {rows:LL} {F:Ym} {m:MS}
def MS.base (m:MS) (pre post:List PE):Ym:=(m.jm,m.head)::(m.jq,m.map)::(pre.flatMap PE.frag++post.flatMap PE.frag)
theorem ZfZ {G:Ym} {pre post:List PE} {e e':PE} (hs:m.es=pre++e::post) (hj:e'.j=e.j) (hid:e'.p.id=e.p.id):((e.j,e'.row)::(e'.cf++(m.base pre post++G))).Perm ((m.put pre e' post).frag++G):=by
 have h2:=(Vn (F:=G) (m.put pre e' post) (pre:=pre) (e:=e') (post:=post) rfl).symm
 have hm:(m.put pre e' post).map=m.map:=by
  simp only [MS.map,MS.put,hs,XN,Xi,PE.kv,hj,hid]
 have hh:(m.put pre e' post).head=m.head:=rfl
 rw [hm,hh,hj] at h2
 refine List.Perm.trans (List.Perm.cons _ ?_) h2
 have e1:(m.base pre post++G)=((m.jm,m.head)::(m.jq,m.map)::pre.flatMap PE.frag)++(post.flatMap PE.frag++G):=by simp [MS.base]
 have e2:((m.put pre e' post).jm,m.head)::((m.put pre e' post).jq,m.map)::(pre.flatMap PE.frag++(e'.cf++post.flatMap PE.frag))++G=((m.jm,m.head)::(m.jq,m.map)::pre.flatMap PE.frag)++(e'.cf++(post.flatMap PE.frag++G)):=by simp [MS.put]
 rw [e1,e2]
 exact Ug _ _ _
theorem ZqH {pre post:List PE} {e:PE} (hs:m.es=pre++e::post):m.put pre e post=m:=by
 unfold MS.put
 rw [← hs]
theorem Zkd (h:ZB rows (m.frag++F)) {pre post:List PE} {e:PE} (hs:m.es=pre++e::post):ZB rows ((e.j,e.row)::(e.cf++(m.base pre post++F))):=by
 refine h.perm ?_
 have:=(ZfZ (m:=m) (G:=F) (e:=e) (e':=e) hs rfl rfl).symm
 rw [ZqH hs] at this
 exact this
def ZaK (L:Nat) (core:Int) (e:PE):PE:={ e with c:=Xa (L,0),p:={ e.p with cores:=srt (e.p.cores++[core]) } }
theorem ZtS {x:LL} (h:ZB rows (m.frag++F)) (hm:m.Ok) (hx:Ze x = .oref (m.jm+1) 0) {k core:Int} (hcl:∀ e∈m.es,e.p.cores.length≤100) (hc:VY m.es k core≠0):g35 x k core rows=Xa (VY m.es k core,rows):=by
 rw [ZqU,s27 h hx,Xh,Zb (ne1 (Ki _)),Za1]
 unfold VY at hc ⊢
 cases ho:J0 m.es k with
 | none =>
  rw [K2,if_pos (by decide)]
 | some e =>
  obtain ⟨hf,_⟩:=Je ho
  have he:=(Jq (m:=m) hf).1
  rw [ho] at hc
  dsimp only at hc ⊢
  rw [Zr,if_neg (by decide),s26,Xh]
  by_cases hr:0≤core∧core < 32
  ·rw [if_pos hr] at hc ⊢
   rw [decide_eq_true hr,if_neg (by decide),Zb (by simp),Zb (by simp),Kg h he (c:=e.core) rfl,Zp (Yf e),s44 (ZfB h hm he) (Zl8 (Yf e)) (by have:=hcl e he;omega),Xh]
   by_cases hi:core∈e.p.cores
   ·rw [if_pos hi]
    dsimp only
    rw [decide_eq_true hi,if_pos rfl]
   ·rw [if_neg hi] at hc
    exact absurd rfl hc
  ·rw [if_neg hr,decide_eq_false hr]
   rfl
theorem s35 {x:LL} (h:ZB rows (m.frag++F)) (hm:m.Ok) (hx:Ze x = .oref (m.jm+1) 0) {k core:Int} (hcl:∀ e∈m.es,e.p.cores.length≤100) (hc:VY m.es k core=0) :
  ∃ rows' F' L,g35 x k core rows=Xa (0,rows')∧ZB rows' (({ m with es:=Yh k (ZaK L core) m.es } : MS).frag++(F'++F))∧({ m with es:=Yh k (ZaK L core) m.es } : MS).Ok:=by
 rw [ZqU,s27 h hx,Xh,Zb (ne1 (Ki _)),Za1]
 unfold VY at hc
 cases ho:J0 m.es k with
 | none => rw [ho] at hc; exact absurd hc (by show ¬ ((17 : Int) = 0); decide)
 | some e =>
  obtain ⟨hf,_⟩:=Je ho
  obtain ⟨he,hek⟩:=Jq (m:=m) hf
  subst hek
  rw [ho] at hc
  dsimp only at hc
  by_cases hr:0≤core∧core < 32
  ·rw [if_pos hr] at hc
   by_cases hi:core∈e.p.cores
   ·rw [if_pos hi] at hc;exact absurd hc (by decide)
   ·have hcle:=hcl e he
    have hcI:=ZfB h hm he
    have hcc:=Zl8 (Yf e)
    rw [Zr,if_neg (by decide),s26,Xh,decide_eq_true hr,if_neg (by decide),Zb (by simp),Zb (by simp),Kg h he (c:=e.core) rfl,Zp (Yf e),s44 hcI hcc (by omega),Xh]
    dsimp only
    have hpl:(Zd .plen [[e.core]] 0 E0 []).length=e.p.cores.length:=by
     have:=YJ hcI hcc
     omega
    rw [decide_eq_false hi,if_neg (by decide),Zb (by simp),Zb (by simp),Kg h he (c:=e.core) rfl,Zp (Yf e),Zb (by simp),Zb (ne1 (Zhp h hm he hcc)),Zb (by unfold Jr ZC;rw [hpl];simp;omega),Zb (by simp),Zb (by simp)]
    obtain ⟨pre,post,hs,_,_⟩:=W4 (m:=m) hf
    obtain ⟨hpa,rows1,hap,hr1⟩:=Zuw hcI hcc core
    have hfr:=Zkd h hs
    -- the old array is gone
    obtain ⟨gar,hg⟩:∃ gar:Ym,ZB rows1 ((e.j,e.row)::(gar++(m.base pre post++F)))∧rows1.length=rows.length:=by
     rcases hr1 with ⟨_,rfl⟩ | ⟨j,n,hcj,rfl⟩
     ·exact ⟨e.cf,hfr,rfl⟩
     ·unfold PE.core at hcj
      cases hec:e.c with
      | none => rw [hec] at hcj; simp at hcj
      | some q =>
       rw [hec] at hcj
       have hjq:j=q.1:=by
        simp only [AV.osl.injEq] at hcj
        omega
       subst hjq
       have hcf:e.cf = [(q.1,e.arr q.2)]:=by simp only [PE.cf,hec]
       rw [hcf] at hfr
       refine ⟨[(q.1,[])],?_,by simp⟩
       exact ((hfr.perm (List.Perm.swap _ _ _)).set []).perm (List.Perm.swap _ _ _)
    obtain ⟨hg1,hgl⟩:=hg
    have hg2:=hg1.push (Jw (e.p.cores++[core]))
    rw [hgl] at hg2
    rw [hap,hpa]
    have hce:Ze [[AV.osl 3 (rows.length+1) (e.p.cores.length+1)]] = .osl 3 (rows.length+1) (e.p.cores.length+1):=rfl
    rw [hce]
    have hg3:=hg2.perm (List.Perm.swap _ _ _)
    have hrj:(rows1++[Jw (e.p.cores++[core])])[e.j]? = Xa e.row:=hg3.get (by simp)
    obtain ⟨e',he'⟩:∃ e':PE,e'=ZaK rows.length core e:=⟨_,rfl⟩
    have hsl:(srt (e.p.cores++[core])).length=e.p.cores.length+1:=by rw [ZbN];simp
    have hrow:e.row.set 3 (.osl 3 (rows.length+1) (e.p.cores.length+1))=e'.row:=by
     rw [he']
     simp only [PE.row,PE.core,ZaK,hsl]
     rfl
    have hst:Zd .set (rows1++[Jw (e.p.cores++[core])]) 0 (Zd (.padd 3) (nmE (Xa e)) 0 E0 []) [AV.osl 3 (rows.length+1) (e.p.cores.length+1)]=(rows1++[Jw (e.p.cores++[core])]).set e.j e'.row:=by
     rw [Vw hrj (by simp [PE.row]),hrow]
    rw [Zb (by rw [Y7 hrj rfl (c:=e.core) rfl];simp),Zb (by simp),Zb (by simp),hst]
    have hg4:=hg3.set e'.row
    have hrj4:((rows1++[Jw (e.p.cores++[core])]).set e.j e'.row)[e.j]? = Xa e'.row:=hg4.get (by simp)
    have hrl4:((rows1++[Jw (e.p.cores++[core])]).set e.j e'.row)[rows.length]? = Xa (Jw (e.p.cores++[core])):=hg4.get (by simp)
    have hec':e'.core = .osl 3 (rows.length+1) (e.p.cores++[core]).length:=by
     rw [he']
     simp only [PE.core,ZaK,hsl,Xu,XA,XT]
    rw [Y7 hrj4 rfl (c:=e'.core) rfl,Zp (Yf e'),s43 (zs:=e.p.cores++[core]) (by rw [Zl8 (Yf e')];exact hec') hrl4 (by simp) (by simp;omega),Xh]
    have hg5:=((hg4.perm (List.Perm.swap _ _ _)).set (Jw (srt (e.p.cores++[core])))).perm (List.Perm.swap _ _ _)
    refine ⟨_,gar,rows.length,rfl,?_,?_⟩
    ·have hup:({ m with es:=Yh e.p.id (ZaK rows.length core) m.es } : MS)=m.put pre e' post:=by
      have hsrt:=hm.srt
      rw [hs] at hsrt
      simp only [MS.put,hs,Vd (f:=ZaK rows.length core) hsrt rfl,he']
     rw [hup]
     have hp:=ZfZ (m:=m) (G:=gar++F) (e:=e) (e':=e') hs (by rw [he'];rfl) (by rw [he'];rfl)
     refine hg5.perm (List.Perm.trans ?_ hp)
     have hcf:e'.cf = [(rows.length,Jw (srt (e.p.cores++[core])))]:=by
      rw [he']
      simp [PE.cf,ZaK,PE.arr,Jw]
     rw [hcf]
     refine List.Perm.cons _ (List.Perm.cons _ ?_)
     exact Ug _ _ _
    ·have hsrt:=hm.srt
     rw [hs] at hsrt
     have hup:({ m with es:=Yh e.p.id (ZaK rows.length core) m.es } : MS)=m.put pre e' post:=by
      simp only [MS.put,hs,Vd (f:=ZaK rows.length core) hsrt rfl,he']
     rw [hup]
     refine ZjJ hm hs (by rw [he'];rfl) ?_ ?_
     ·rw [he']
      show (srt (e.p.cores++[core])).length+0≠0
      rw [hsl]
      omega
     ·rw [he']
      exact hm.par e he
  ·rw [if_neg hr] at hc;exact absurd hc (by decide)
end
section
open Go Go.AM Go.Proofs.Ytpjnmgjphfnmmaa
set_option maxRecDepth 100000
variable {rows:LL} {F:Ym} {m:MS}
def wo (core:Int) (zs:List Int):List Int:=zs.filter fun z=>!decide (z=core)
theorem Zrt (core:Int) (zs:List Int):(wo core zs).length≤zs.length:=Un _ _
theorem s47 {b:Nat} {core z:Int} {x:LL} (hx:Ze x = .oref (b+1) 0) (hb:rows[b]? = Xa [I core]):g47 z x rows=Xa (decide (z=core),rows):=by
 rw [ZtL,JG hx hb rfl (c:=I core) rfl,ZF]
 rfl
theorem Zmp (b:Nat):Zd (.pisf 47 1) [[.fnc 47 [b+1]]] 0 E0 [] = [[]]:=by simp [Zd,Ze,ZN,okL]
theorem ZmJ (b:Nat):Ze (Zd (.pcap 0) [[.fnc 47 [b+1]]] 0 E0 []) = .oref (b+1) 0:=rfl
theorem ZkI {c:AV} {zs:List Int} (h:IsI rows c zs) {x:LL} (hx:Ze x=c) (hl:zs.length≤100000) {b:Nat} {core:Int} (hb:rows[b]? = Xa [I core]):∀ (ks pre:List Int) (q:Nat),zs=pre++ks→ks.length < q→core∉pre→
  ∃ r:Int,Zqy q x [[.fnc 47 [b+1]]] (zs.length:Int) (pre.length:Int) rows=Xa (r,rows)∧((r = -1∧core∉zs)∨∃ p s,r=(Xn p:Int)∧zs=p++core::s∧core∉p)
 | [], pre, q, hs, hq, hn => by
  obtain ⟨q',rfl⟩:∃ q',q=q'+1:=⟨q-1,by simp at hq;omega⟩
  rw [XI] at hs
  rw [ZkG,hs,if_neg (by simp [cop])]
  exact ⟨-1,rfl,.inl ⟨rfl,hn⟩⟩
 | z :: ks, pre, q, hs, hq, hn => by
  obtain ⟨q',rfl⟩:∃ q',q=q'+1:=⟨q-1,by simp at hq;omega⟩
  have hz:zs[pre.length]? = Xa z:=by rw [hs];simp
  have hi:pre.length < zs.length:=(Xj.1 hz).1
  have hl1:((pre++[z]).length:Int)=((pre.length+1:Nat):Int):=by simp
  rw [ZkG,if_pos (by simp [cop];omega),Zb (by omega),YJ h hx,Zb (by omega),Zgi h hx hz,ZF,Zb (ne1 (Zmp b)),s47 (ZmJ b) hb,Xh,ZaB (by omega)]
  dsimp only
  by_cases hk:z=core
  ·rw [decide_eq_true hk,if_pos rfl]
   exact ⟨_,rfl,.inr ⟨pre,ks,rfl,by rw [hs,hk],hn⟩⟩
  ·rw [decide_eq_false hk,if_neg (by decide)]
   obtain ⟨r,h1,h2⟩:=ZkI h hx hl hb ks (pre++[z]) q' (by rw [hs];simp) (by simp at hq;omega) (by simp [hn,Ne.symm hk])
   rw [hl1] at h1
   exact ⟨r,h1,h2⟩
theorem Zfy {x:LL} {qj n b:Nat} {core:Int} {H:Ym} {k:Nat} (hx:Ze x = .osl 3 (qj+1) n) (hn:n≤1000):∀ (ks kept junk:List Int) (rows:LL) (f:Nat),kept.length+junk.length+ks.length=n→junk≠[]→ks.length < f→
  ZB rows ((qj,Jw (kept++(junk++ks))++Xg k (I 0))::(b,[I core])::H)→
  ∃ rows',Znp f x [[.fnc 47 [b+1]]] (kept.length:Int) ((kept.length+junk.length:Nat):Int) rows=Xa ([[.osl 3 (qj+1) (kept++wo core ks).length]],rows')∧
   ZB rows' ((qj,Jw (kept++wo core ks)++Xg (k+(n-(kept++wo core ks).length)) (I 0))::(b,[I core])::H)
 | [], kept, junk, rows, f, hs, hj, hf, h => by
  obtain ⟨f',rfl⟩:∃ f',f=f'+1:=⟨f-1,by simp at hf;omega⟩
  have hI:IsI rows (.osl 3 (qj+1) n) (kept++(junk++[])):=.inr ⟨qj,_,by simp at hs ⊢; omega,h.get (.head _),by simp [Jw];exact fun _ hh=>absurd hh hj⟩
  have hr:=h.get (j:=qj) (.head _)
  have hlen:(kept++(junk++[])).length=n:=by simp at hs ⊢; omega
  rw [ZkY,Zb (ne1 (KU hI hx)),YJ hI hx,hlen,if_neg (by simp [cop];simp at hs;omega)]
  have hv:Zd (.vchk 3 1) rows 0 x [] = [[]]:=by
   have hc:Z2 (Jw (kept++(junk++[]))++Xg k (I 0))=Xb:=ZdD (by simp [Jw];exact fun _ hh=>absurd hh hj)
   simp only [Zd,hx,Zc2,Ji hr,hc,decide_true,X8,Xu,List.length_replicate]
   rw [decide_eq_true (by simp [Jw] at hlen ⊢; omega)]
   rfl
  rw [Zb (ne1 hv),Zb (by omega),Zb (by omega),Zb (ne1 (KU hI hx)),Zb (by omega),Zb (by omega)]
  have hcut:Zd .pcut x (kept.length:Int) [] [] = [[.osl 3 (qj+1) kept.length]]:=by simp only [Zd,hx,pE,pJ,Wo]
  have hclr:Zd (.clr 1) rows (kept.length:Int) x [AV.val (.int .i64 0)]=rows.set qj (Jw kept++Xg (k+(n-kept.length)) (I 0)):=by
   simp only [Zd,hx,Zrx]
   rw [modify_set hr]
   congr 1
   have hkl:(Jw kept).length=kept.length:=by simp [Jw]
   have hal:(Jw (kept++(junk++[]))).length=n:=by rw [← hlen];simp [Jw]
   have e1:Jw (kept++(junk++[]))=Jw kept++Jw (junk++[]):=by simp [Jw]
   rw [Wl,Wl,Wo]
   rw [show (Jw (kept++(junk++[]))++Xg k (I 0)).drop n=Xg k (I 0) from List.drop_left' hal]
   rw [e1,Xo (Jw kept) (Jw (junk++[])),List.take_left' hkl]
   have hfl:∀ q:Nat,(Xg q [AV.val (.int .i64 0)]).flatten=Xg q (I 0):=fun q=>by
    induction q with
    | zero => rfl
    | succ q ih => rw [List.replicate_succ, X4, ih]; rfl
   rw [hfl,Xo,List.replicate_append_replicate,Nat.add_comm]
  rw [hcut,hclr]
  have hw:kept++wo core []=kept:=by simp [wo]
  rw [hw]
  exact ⟨_,rfl,h.set _⟩
 | z :: ks, kept, junk, rows, f, hs, hj, hf, h => by
  obtain ⟨f',rfl⟩:∃ f',f=f'+1:=⟨f-1,by simp at hf;omega⟩
  have hne:Jw (kept++(junk++z::ks))++Xg k (I 0)≠[]:=by simp [Jw]
  have hI:IsI rows (.osl 3 (qj+1) n) (kept++(junk++z::ks)):=.inr ⟨qj,_,by simp at hs ⊢; omega,h.get (.head _),hne⟩
  have hr:=h.get (j:=qj) (.head _)
  have hb:=h.get (j:=b) (row:=[I core]) (by simp)
  have hlen:(kept++(junk++z::ks)).length=n:=by simp at hs ⊢; omega
  have hz:(kept++(junk++z::ks))[kept.length+junk.length]? = Xa z:=by rw [← Xo,← Xu];simp
  obtain ⟨j0,junk',rfl⟩:∃ j0 junk',junk=j0::junk':=by
   cases junk with
   | nil => exact absurd rfl hj
   | cons a b => exact ⟨a, b, rfl⟩
  have hjl:kept.length+(j0::junk').length+(z::ks).length=n:=hs
  have hkl:(z::ks).length=ks.length+1:=rfl
  have ha1:iop .add .i64 ((kept.length+(j0::junk').length:Nat):Int) 1=((kept.length+(j0::junk').length+1:Nat):Int):=ZaB (by omega)
  have ha2:iop .add .i64 (kept.length:Int) 1=((kept.length+1:Nat):Int):=ZaB (by omega)
  rw [ZkY,Zb (ne1 (KU hI hx)),YJ hI hx,hlen,if_pos (by simp only [cop,decide_eq_true_eq];omega),Zb (by omega),Zb (by omega),Zgi hI hx hz,ZF,Zb (ne1 (Zmp b)),s47 (ZmJ b) hb,Xh,ha1,ha2]
  dsimp only
  have hwz:wo core (z::ks)=if z=core then wo core ks else z::wo core ks:=by
   unfold wo
   by_cases hk:z=core
   ·rw [if_pos hk,Wb (by simp [hk])]
   ·rw [if_neg hk,Wf (by simp [hk])]
  by_cases hk:z=core
  ·rw [decide_eq_true hk,if_neg (by decide)]
   obtain ⟨rows',h1,h2⟩:=Zfy hx hn ks kept ((j0::junk')++[z]) rows f' (by simp at hs ⊢; omega) (by simp) (by simp at hf;omega) (by simpa using h)
   rw [hwz,if_pos hk]
   have e1:((kept.length+((j0::junk')++[z]).length:Nat):Int)=((kept.length+(j0::junk').length+1:Nat):Int):=by simp;omega
   rw [e1] at h1
   exact ⟨rows',h1,h2⟩
  ·rw [decide_eq_false hk,if_pos (by decide),Zb (by omega),Zb (by omega)]
   have hp:Zd (.pidx 1) x (kept.length:Int) [] [] = [[.oref (qj+1) kept.length]]:=by simp only [Zd,hx,pJ,Wo,Wl]
   have hlt:kept.length < (Jw (kept++(j0::junk'++z::ks))++Xg k (I 0)).length:=by simp [Jw]
   have hc0:(Jw (kept++(j0::junk'++z::ks))++Xg k (I 0))[kept.length]? = Xa (I j0):=ZqX (by simp)
   have hce:Z2 (Jw (kept++(j0::junk'++z::ks))++Xg k (I 0))=Xb:=ZdD hne
   have hst:Zd .set rows 0 (Zd (.pidx 1) x (kept.length:Int) [] []) [AV.val (.int .i64 z)]=rows.set qj ((Jw (kept++(j0::junk'++z::ks))++Xg k (I 0)).set kept.length (I z)):=by
    rw [hp]
    exact Zal rfl hr hlt
   have hset:(Jw (kept++(j0::junk'++z::ks))++Xg k (I 0)).set kept.length (I z)=Jw ((kept++[z])++((junk'++[z])++ks))++Xg k (I 0):=by
    have e1:Jw (kept++(j0::junk'++z::ks))=Jw kept++(I j0::Jw (junk'++z::ks)):=by simp [Jw]
    have e2:Jw ((kept++[z])++((junk'++[z])++ks))=Jw kept++(I z::Jw (junk'++z::ks)):=by simp [Jw]
    have hkl:kept.length=(Jw kept).length:=by simp [Jw]
    rw [e1,e2,Xo,hkl,Tx _ _ (Xz _),Uz]
    simp
   rw [Zb (by rw [hp,JG rfl hr hce hc0];simp),hst,hset]
   have h':=h.set (Jw ((kept++[z])++((junk'++[z])++ks))++Xg k (I 0))
   obtain ⟨rows',h1,h2⟩:=Zfy hx hn ks (kept++[z]) (junk'++[z]) _ f' (by simp at hs ⊢; omega) (by simp) (by simp at hf;omega) h'
   rw [hwz,if_neg hk]
   have e1:(((kept++[z]).length+(junk'++[z]).length:Nat):Int)=((kept.length+(j0::junk').length+1:Nat):Int):=by simp;omega
   have e2:((kept++[z]).length:Int)=((kept.length+1:Nat):Int):=by simp
   rw [e1,e2] at h1
   have e3:kept++[z]++wo core ks=kept++z::wo core ks:=by simp
   rw [e3] at h1 h2
   exact ⟨rows',h1,h2⟩
def Yk (core:Int) (e:PE):PE:={ e with c:=e.c.map fun q=>(q.1,q.2+(e.p.cores.length-(wo core e.p.cores).length)),p:={ e.p with cores:=wo core e.p.cores } }
theorem ZnI {core:Int} {zs:List Int} (h:core∉zs):wo core zs=zs:=UT.2 fun z hz=>by
 have:z≠core:=fun hh=>h (by rw [← hh];exact hz)
 simp [this]
theorem ZnO {core:Int} {e:PE} (h:core∉e.p.cores):Yk core e=e:=by
 obtain ⟨j,c,p⟩:=e
 unfold Yk
 rw [ZnI h]
 cases c<;>simp
theorem s46 {e:PE} {b:Nat} {core:Int} {H:Ym} (h:ZB rows (e.cf++((b,[I core])::H))) (hok:e.ok) (hl:e.p.cores.length≤100) :
  ∃ rows' y,g46 [[e.core]] [[.fnc 47 [b+1]]] rows=Xa (y,rows')∧Ze y=(Yk core e).core∧ZB rows' ((Yk core e).cf++((b,[I core])::H)):=by
 have hcc:=Zl8 (Yf e)
 have hb:=h.get (j:=b) (row:=[I core]) (by simp)
 have hI:IsI rows e.core e.p.cores:=by
  unfold PE.ok at hok
  unfold PE.core
  cases hc:e.c with
  | none =>
   rw [hc] at hok
   exact .inl ⟨rfl,hok⟩
  | some q =>
   rw [hc] at hok
   refine .inr ⟨q.1,Xg q.2 (I 0),rfl,h.get (by simp [PE.cf,hc];exact .inl rfl),fun hn=>?_⟩
   have:=congrArg Xn hn
   simp [Jw] at this
   exact hok (by simp [this.1,this.2])
 obtain ⟨r,h1,h2⟩:=ZkI hI hcc (by omega) hb e.p.cores [] Ju rfl (by unfold Ju;omega) (by simp)
 have hz:((([] : List Int).length:Nat):Int)=0:=rfl
 rw [hz] at h1
 rw [Zuz,Zur,Zb (ne1 (KU hI hcc)),YJ hI hcc,h1,Xh]
 dsimp only
 rcases h2 with ⟨rfl,hn⟩ | ⟨p,s,rfl,hs,hp⟩
 ·rw [if_pos (by decide),ZnO hn]
  exact ⟨rows,_,rfl,hcc,h⟩
 ·rw [if_neg (by simp [cop])]
  obtain ⟨q,hq⟩:∃ q,e.c=Xa q:=by
   cases hc:e.c with
   | some q => exact ⟨q, rfl⟩
   | none =>
    unfold PE.ok at hok
    rw [hc] at hok
    rw [hok] at hs
    simp at hs
  have hcf:e.cf = [(q.1,e.arr q.2)]:=by simp only [PE.cf,hq]
  rw [hcf] at h
  have hx:Ze [[e.core]] = .osl 3 (q.1+1) e.p.cores.length:=by
   rw [hcc]
   simp only [PE.core,hq]
  have hpl:p.length≤100:=by rw [hs] at hl;simp at hl;omega
  have harr:e.arr q.2=Jw (p++([core]++s))++Xg q.2 (I 0):=by
   unfold PE.arr
   rw [hs]
   rfl
  rw [harr] at h
  obtain ⟨rows',t1,t2⟩:=Zfy hx (by omega) s p [core] rows Ju (by rw [hs];simp;omega) (by simp) (by rw [hs] at hl;simp at hl;unfold Ju;omega) h
  have hwo:wo core e.p.cores=p++wo core s:=by
   rw [hs]
   unfold wo
   rw [UK,Wb (by simp)]
   congr 1
   exact ZnI hp
  have e1:iop .add .i64 (p.length:Int) 1=((p.length + [core].length:Nat):Int):=ZaB (by omega)
  rw [e1,t1]
  refine ⟨rows',_,rfl,?_,?_⟩
  ·simp only [PE.core,Yk,hq,Xv,hwo]
   rfl
  ·have:(Yk core e).cf = [(q.1,Jw (p++wo core s)++Xg (q.2+(e.p.cores.length-(p++wo core s).length)) (I 0))]:=by
    simp only [PE.cf,Yk,hq,Xv,PE.arr,hwo]
    rfl
   rw [this]
   exact t2
theorem ZrA {core:Int} {e:PE} (h:e.ok):(Yk core e).ok:=by
 unfold PE.ok at h ⊢
 unfold Yk
 have:=Zrt core e.p.cores
 cases hc:e.c with
 | none =>
  rw [hc] at h
  dsimp only at h
  simp [h,wo]
 | some q =>
  rw [hc] at h
  dsimp only [Xv] at h ⊢
  omega
def ZgV (core:Int) (es:List PE):List Int:=(es.filter fun e=>decide (wo core e.p.cores = [])).map fun e=>e.p.id
theorem ZkV {x:LL} {b:Nat} {core:Int} (hi:List Int) (hil:hi.length≤64):∀ (ks pre:List PE) (rows:LL) (F:Ym) (m:MS) (acc:List Int) (k:Nat),m.es=pre++ks→hi=m.es.map (fun e=>e.p.id)→ks.length < k→(∀ e∈ks,e.p.cores.length≤100)→acc.length+ks.length≤1000→ZB rows (m.frag++((b,[I core])::F))→m.Ok→Ze x = .oref (m.jm+1) 0→
  ∃ rows',Zlx k x [[.oref (b+1) 0]] (ints acc) (ints hi) (hi.length:Int) (pre.length:Int) rows=(g45 x (ints (acc++ZgV core ks)) (-2) rows').bind (fun r=>Xa (r.1,0,r.2))∧
   ZB rows' (({ m with es:=pre++ks.map (Yk core) } : MS).frag++((b,[I core])::F))∧({ m with es:=pre++ks.map (Yk core) } : MS).Ok
 | [], pre, rows, F, m, acc, k, hs, hh, hk, _, _, h, hm, hx => by
  obtain ⟨k',rfl⟩:∃ k',k=k'+1:=⟨k-1,by simp at hk;omega⟩
  have hl:hi.length=pre.length:=by rw [hh,hs];simp
  rw [Zkm,hl,if_neg (by simp [cop])]
  have:({ m with es:=pre++([] : List PE).map (Yk core) } : MS)=m:=by
   obtain ⟨a,b,c,d⟩:=m
   simp only [XF] at hs ⊢
   rw [hs]
  rw [this]
  refine ⟨rows,?_,h,hm⟩
  simp [ZgV]
 | e :: ks, pre, rows, F, m, acc, k, hs, hh, hk, hcl, hacc, h, hm, hx => by
  obtain ⟨k',rfl⟩:∃ k',k=k'+1:=⟨k-1,by simp at hk;omega⟩
  have he:e∈m.es:=by rw [hs];simp
  have hf:=ZfG hm hs
  have hz:hi[pre.length]? = Xa e.p.id:=by rw [hh,hs];simp
  have hlt:pre.length < hi.length:=(Xj.1 hz).1
  have hpi:Zd .pis0 [[.oref (b+1) 0]] 0 E0 [] = [[]]:=by simp [Zd,Ze,ZN,okL]
  have hpn:Zd .pnn [[.oref (b+1) 0]] 0 E0 [] = [[]]:=by simp [Zd,Ze,ZN,okL]
  have hfn:Zd (.pfnc 47) E0 0 [] [Ze [[.oref (b+1) 0]]] = [[.fnc 47 [b+1]]]:=rfl
  rw [Zkm,if_pos (by simp [cop];omega),Z1 hz,Zb (ne1 (ZD hx)),Zb (ne1 (ZD hx)),YW h hx,Zp rfl,Zb (ne1 (Vv h rfl)),Zcq h rfl,hf,Zb (ne1 (Zr e)),Zb (ne1 (Zr e)),Kg h he (c:=e.core) rfl,Zp (Yf e),Zb (ne1 hpi),Zb (ne1 hpn),hfn]
  have hfr:=Zkd h hs
  have hp1:((e.j,e.row)::(e.cf++(m.base pre ks++((b,[I core])::F)))).Perm (e.cf++((b,[I core])::((e.j,e.row)::(m.base pre ks++F)))):=by
   refine List.perm_middle.symm.trans (List.Perm.append_left _ ?_)
   refine (List.Perm.cons _ UV).trans (List.Perm.swap _ _ _)
  obtain ⟨rows1,y,t1,t2,t3⟩:=s46 (core:=core) (hfr.perm hp1) (hm.cor e he) (hcl e (by simp))
  have hp2:((Yk core e).cf++((b,[I core])::((e.j,e.row)::(m.base pre ks++F)))).Perm ((e.j,e.row)::((Yk core e).cf++(m.base pre ks++((b,[I core])::F)))):=by
   refine List.Perm.trans (List.Perm.append_left _ ?_) UV
   exact (List.Perm.swap _ _ _).trans (List.Perm.cons _ List.perm_middle.symm)
  have hg:=t3.perm hp2
  have hrj:rows1[e.j]? = Xa e.row:=hg.get (by simp)
  have hg2:=hg.set (Yk core e).row
  have hrow:e.row.set 3 (Yk core e).core=(Yk core e).row:=rfl
  have hst:Zd .set rows1 0 (Zd (.padd 3) (nmE (Xa e)) 0 E0 []) [Ze y]=rows1.set e.j (Yk core e).row:=by rw [Vw hrj (by simp [PE.row]),t2,hrow]
  have hrj2:(rows1.set e.j (Yk core e).row)[e.j]? = Xa (Yk core e).row:=hg2.get (by simp)
  have hg3:=hg2.perm (ZfZ (m:=m) (G:=(b,[I core])::F) (e:=e) (e':=Yk core e) hs rfl rfl)
  have hmok:(m.put pre (Yk core e) ks).Ok:=ZjJ hm hs rfl (ZrA (hm.cor e he)) (hm.par e he)
  have hin2:Yk core e∈(m.put pre (Yk core e) ks).es:=by simp [MS.put]
  have hI2:=ZfB hg3 hmok hin2
  have hc2:=Zl8 (Yf (Yk core e))
  rw [t1,Xh]
  dsimp only
  rw [Zb (ne1 (Zr e)),Zb (ne1 (Zr e)),Zb (by rw [Y7 hrj rfl (c:=e.core) rfl];simp),Zb (ne1 (Zr e)),Zb (ne1 (Zr e)),hst,Y7 hrj2 rfl (c:=(Yk core e).core) rfl,Zp (Yf _),Zb (ne1 (KU hI2 hc2)),YJ hI2 hc2,ZaB (by omega)]
  have hih:∀ acc':List Int,acc'.length+ks.length≤1000→∃ rows',Zlx k' x [[.oref (b+1) 0]] (ints acc') (ints hi) (hi.length:Int) ((pre.length+1:Nat):Int) (rows1.set e.j (Yk core e).row)=(g45 x (ints (acc'++ZgV core ks)) (-2) rows').bind (fun r=>Xa (r.1,0,r.2))∧
   ZB rows' (({ m with es:=pre++(e::ks).map (Yk core) } : MS).frag++((b,[I core])::F))∧({ m with es:=pre++(e::ks).map (Yk core) } : MS).Ok:=fun acc' ha=>by
   obtain ⟨rows',u1,u2,u3⟩:=ZkV (x:=x) (b:=b) (core:=core) hi hil ks (pre++[Yk core e]) _ F (m.put pre (Yk core e) ks) acc' k' (by simp [MS.put]) (by rw [hh,hs];simp [MS.put,Yk]) (by simp at hk;omega) (fun a ha=>hcl a (by simp [ha])) ha hg3 hmok hx
   have e1:((pre++[Yk core e]).length:Int)=((pre.length+1:Nat):Int):=by simp
   rw [e1] at u1
   have e2:({ m.put pre (Yk core e) ks with es:=(pre++[Yk core e])++ks.map (Yk core) } : MS) = { m with es:=pre++(e::ks).map (Yk core) }:=by simp [MS.put]
   rw [e2] at u2 u3
   exact ⟨rows',u1,u2,u3⟩
  by_cases hb0:wo core e.p.cores = []
  ·rw [if_pos (by show cop .eql ((wo core e.p.cores).length:Int) 0=Xb;rw [hb0];rfl),Zb (by unfold Jr ZC;simp at hacc ⊢; omega)]
   have e3:ints acc++(E0++[[AV.val (.int .i64 e.p.id)]])=ints (acc++[e.p.id]):=by simp [ints]
   have e4:acc++ZgV core (e::ks)=(acc++[e.p.id])++ZgV core ks:=by
    unfold ZgV
    rw [Wf (by simp [hb0])]
    simp
   rw [e3,e4]
   exact hih (acc++[e.p.id]) (by simp at hacc ⊢; omega)
  ·rw [if_neg (by show ¬ (cop .eql ((wo core e.p.cores).length:Int) 0=Xb);simp [cop,hb0])]
   have e4:acc++ZgV core (e::ks)=acc++ZgV core ks:=by
    unfold ZgV
    rw [Wb (by simp [hb0])]
   rw [e4]
   exact hih acc (by simp at hacc ⊢; omega)
def YH (es:List PE) (core:Int):(List PE×List Zjs)×Int:=
 if 0≤core∧core < 32 then (Zj (-2) (es.map (Yk core)) (ZgV core es),0) else ((es,[]),1)
theorem s23 {x:LL} (h:ZB rows (m.frag++F)) (hm:m.Ok) (hx:Ze x = .oref (m.jm+1) 0) {core:Int} (hcl:∀ e∈m.es,e.p.cores.length≤100) :
  ∃ rows' F',g23 x core rows=Xa (ZU (YH m.es core).1.2,(YH m.es core).2,rows')∧ZB rows' (({ m with es:=(YH m.es core).1.1 } : MS).frag++(F'++F))∧({ m with es:=(YH m.es core).1.1 } : MS).Ok:=by
 have hp0:=(h.push [I core])
 have hq:ZB (rows++[[I core]]) (m.frag++((rows.length,[I core])::F)):=hp0.perm List.perm_middle.symm
 have hpn:Zd .pnew rows 0 E0 [] = [[.oref (rows.length+1) 0]]:=rfl
 have hrl:(rows++[[I core]])[rows.length]? = Xa [I core]:=by simp
 rw [Ztv,hpn,JG rfl hrl rfl (c:=I core) rfl,ZF,s26,Xh]
 unfold YH
 by_cases hr:0≤core∧core < 32
 ·rw [decide_eq_true hr,if_neg (by decide),if_pos hr]
  have hg:=s29 hq hm hx
  rw [hg,Xh]
  dsimp only
  have hq2:=(hq.push [.omap (m.jq+1)])
  have hq3:ZB (rows++[[I core]]++[[.omap (m.jq+1)]]) (m.frag++((rows.length,[I core])::(((rows++[[I core]]).length,[.omap (m.jq+1)])::F))):=hq2.perm (by
   refine List.perm_middle.symm.trans (List.Perm.append_left _ ?_)
   exact List.Perm.swap _ _ _)
  have hml:=hm.len
  have hl2:((m.ids).length:Int)=((m.es.map fun e=>e.p.id).length:Int):=by simp [MS.ids]
  obtain ⟨rows',u1,u2,u3⟩:=ZkV (x:=x) (b:=rows.length) (core:=core) (m.es.map fun e=>e.p.id) (by simpa using hml) m.es [] _ _ m [] Ju rfl rfl (by unfold Ju;omega) hcl (by simp;omega) hq3 hm hx
  have hz:((([] : List PE).length:Nat):Int)=0:=rfl
  rw [hz] at u1
  rw [hl2,Y8]
  have hi0:(ints ([] : List Int))=E0:=rfl
  rw [hi0] at u1
  rw [u1]
  have hbl:(ZgV core m.es).length≤1000:=by
   unfold ZgV
   rw [Xp]
   have:=Un (fun e:PE=>decide (wo core e.p.cores = [])) m.es
   omega
  rw [XM] at u2 u3 ⊢
  obtain ⟨rows2,F2,v1,v2,v3⟩:=s45 hbl (-2) u2 u3 hx
  rw [v1]
  refine ⟨rows2,F2++[(rows.length,[I core]),((rows++[[I core]]).length,[.omap (m.jq+1)])],rfl,?_,v3⟩
  rw [Xo]
  exact v2
 ·rw [decide_eq_false hr,if_pos (by decide),if_neg hr]
  exact ⟨_,[(rows.length,[I core])],rfl,hq,hm⟩
end
section
open Go Go.AM Go.Proofs.Ytpjnmgjphfnmmaa
set_option maxRecDepth 100000
variable {rows:LL} {F:Ym} {m:MS}
def Jz (es:List PE) (id:Int):List Int:=(es.filter fun e=>decide (e.p.parent=id)).map fun e=>e.p.id
def JW:Nat→List PE→Int→List Int
 | 0, _, _ => []
 | n + 1, es, id => (Jz es id).flatMap fun c => c :: JW n es c
def Zjc (es:List PE) (id:Int):Nat:=(es.filter fun e=>decide (id < e.p.id)).length
theorem ZjD {c:AV} {zs:List Int} {k:Nat} (h:(c = .osl 0 0 0∧zs = [])∨∃ j,c = .osl 3 (j+1) zs.length∧rows[j]? = Xa (Jw zs++Xg k (I 0))∧Jw zs++Xg k (I 0)≠[]) {x:LL} (hx:Ze x=c):Zd (.vchk 3 1) rows 0 x [] = [[]]:=by
 rcases h with ⟨rfl,_⟩ | ⟨j,rfl,hr,hn⟩
 ·simp only [Zd,hx,Zc2,okL]
 ·simp only [Zd,hx,Zc2,Ji hr,ZdD hn,decide_true,X8]
  rw [decide_eq_true (by simp [Jw])]
  rfl
theorem Zp9 {c:AV} {zs:List Int} (h:IsI rows c zs) {x:LL} (hx:Ze x=c):Zd (.view 1) rows 0 x []=ints zs:=by
 rcases h with ⟨rfl,rfl⟩ | ⟨j,rest,rfl,hr,_⟩
 ·simp only [Zd,hx,Zbh,pJ,pO];rfl
 ·simp only [Zd,hx,Zbh,pJ,pO,Ji hr]
  exact Ze1 _ _
def JJ (o:Option Nat) (zs:List Int):AV:=match o with | none=>.osl 0 0 0 | some j=>.osl 3 (j+1) zs.length
def ZfN (o:Option Nat) (zs:List Int):Ym:=match o with | none=>[] | some j=>[(j,Jw zs)]
def ook (o:Option Nat) (zs:List Int):Prop:=match o with | none=>zs = [] | some _=>zs≠[]
theorem Ka (o:Option Nat) (zs:List Int):ZN (JJ o zs)=Xb:=by cases o<;>rfl
def KP (m:MS) (b:Nat) (o:Option Nat) (zs:List Int) (F:Ym):Ym:=(b+1,[JJ o zs])::(b,[.oref (m.jm+1) 0])::(b+2,[.fnc 42 [b+1,b+1+1,b+2+1]])::(ZfN o zs++(m.frag++F))
theorem Ztq {b:Nat} {o:Option Nat} {zs:List Int} (h:ZB rows (KP m b o zs F)) (ho:ook o zs):(JJ o zs = .osl 0 0 0∧zs = [])∨∃ j,JJ o zs = .osl 3 (j+1) zs.length∧rows[j]? = Xa (Jw zs++Xg 0 (I 0))∧Jw zs++Xg 0 (I 0)≠[]:=by
 cases o with
 | none => exact .inl ⟨rfl, ho⟩
 | some j =>
  refine .inr ⟨j,rfl,?_,fun hn=>?_⟩
  ·have:=h.get (j:=j) (row:=Jw zs) (by simp [KP,ZfN])
   simpa using this
  ·simp [Jw] at hn
   exact ho hn
theorem Zrr {c:AV} {zs:List Int} {k:Nat} (h:(c = .osl 0 0 0∧zs = [])∨∃ j,c = .osl 3 (j+1) zs.length∧rows[j]? = Xa (Jw zs++Xg k (I 0))∧Jw zs++Xg k (I 0)≠[]):IsI rows c zs:=by
 rcases h with h | ⟨j,h1,h2,h3⟩
 ·exact .inl h
 ·exact .inr ⟨j,_,h1,h2,h3⟩
theorem w_m {b:Nat} {o:Option Nat} {zs:List Int} (h:ZB rows (KP m b o zs F)):ZB rows (m.frag++F):=(ZB.right (A:=ZfN o zs) h.tail.tail.tail)
theorem Zvt {b:Nat} {o:Option Nat} {zs:List Int} (h:ZB rows (KP m b o zs F)) (ho:ook o zs) (k:Int) {x y:LL} (hx:Ze x=JJ o zs) (hy:Ze y = .oref (b+1+1) 0) :
  ∃ F',ZB (Zd .set (Zd (.app 1) rows 0 x [AV.slice Xc 1 (E0++[[AV.val (.int .i64 k)]])]) 0 y [Ze (Zd (.papp 3) rows 0 x [AV.slice Xc 1 (E0++[[AV.val (.int .i64 k)]])])]) (KP m b (Xa rows.length) (zs++[k]) (F'++F))∧Zd (.get 1) (Zd (.app 1) rows 0 x [AV.slice Xc 1 (E0++[[AV.val (.int .i64 k)]])]) 0 y []≠[]:=by
 obtain ⟨hpa,rows1,hap,hr1⟩:=Zuw (Zrr (Ztq h ho)) hx k
 rw [hap,hpa]
 obtain ⟨gar,hg,hgl⟩:∃ gar:Ym,ZB rows1 ((b+1,[JJ o zs])::(b,[.oref (m.jm+1) 0])::(b+2,[.fnc 42 [b+1,b+1+1,b+2+1]])::(m.frag++(gar++F)))∧rows1.length=rows.length:=by
  rcases hr1 with ⟨hc,rfl⟩ | ⟨j,n,hcj,rfl⟩
  ·cases o with
   | none => exact ⟨[], h, rfl⟩
   | some j => simp [JJ] at hc
  ·cases o with
   | none => simp [JJ] at hcj
   | some j' =>
    have hjj:j=j':=by
     simp only [JJ,AV.osl.injEq] at hcj
     omega
    subst hjj
    refine ⟨[(j,[])],?_,by simp⟩
    have hp:(KP m b (Xa j) zs F).Perm ((j,Jw zs)::((b+1,[JJ (Xa j) zs])::(b,[.oref (m.jm+1) 0])::(b+2,[.fnc 42 [b+1,b+1+1,b+2+1]])::(m.frag++F))):=by
     unfold KP ZfN
     exact UV (l₁:=[(b+1,[JJ (Xa j) zs]),(b,[.oref (m.jm+1) 0]),(b+2,[.fnc 42 [b+1,b+1+1,b+2+1]])])
    have h2:=(h.perm hp).set []
    refine h2.perm ?_
    refine List.Perm.symm ?_
    exact UV (l₁:=[(b+1,[JJ (Xa j) zs]),(b,[.oref (m.jm+1) 0]),(b+2,[.fnc 42 [b+1,b+1+1,b+2+1]])]++m.frag) (l₂:=F)
 have h2:=hg.push (Jw (zs++[k]))
 rw [hgl] at h2
 have h3:=h2.perm (List.Perm.swap _ _ _)
 have hrb:(rows1++[Jw (zs++[k])])[b+1]? = Xa [JJ o zs]:=h3.get (.head _)
 have hcn:Ze [[AV.osl 3 (rows.length+1) (zs.length+1)]] = .osl 3 (rows.length+1) (zs.length+1):=rfl
 have hc0:Z2 [JJ o zs]=Xb:=J6 (Ka o zs)
 refine ⟨gar,?_,by rw [JG hy hrb hc0 (c:=JJ o zs) rfl];simp⟩
 rw [hcn,Zal hy hrb (by simp)]
 have h4:=h3.set [.osl 3 (rows.length+1) (zs.length+1)]
 have e1:JJ (Xa rows.length) (zs++[k]) = .osl 3 (rows.length+1) (zs.length+1):=by simp [JJ]
 unfold KP
 rw [e1]
 refine h4.perm (List.Perm.cons _ ?_)
 exact (UV (l₁:=([(b,[.oref (m.jm+1) 0]),(b+2,[.fnc 42 [b+1,b+1+1,b+2+1]])] : Ym))).symm
theorem Kb (e:PE) (es:List PE) (id:Int):Jz (e::es) id=if e.p.parent=id then e.p.id::Jz es id else Jz es id:=by
 unfold Jz
 by_cases h:e.p.parent=id
 ·rw [if_pos h,Wf (by simp [h]),Xi]
 ·rw [if_neg h,Wb (by simp [h])]
theorem Zlh {es:List PE} {id:Int} {e:PE} (he:e∈es) (h:id < e.p.id):Zjc es e.p.id < Zjc es id:=by
 unfold Zjc
 induction es with
 | nil => cases he
 | cons a es ih =>
  have mono:(es.filter fun a=>decide (e.p.id < a.p.id)).length≤(es.filter fun a=>decide (id < a.p.id)).length:=by
   clear ih he
   induction es with
   | nil => exact Xz _
   | cons b es ih =>
    by_cases h1:e.p.id < b.p.id
    ·rw [Wf (by simp [h1]),Wf (by simp;omega)]
     simp;exact ih
    ·rw [Wb (by simp [h1])]
     by_cases h2:id < b.p.id
     ·rw [Wf (by simp [h2])]
      simp;omega
     ·rw [Wb (by simp [h2])]
      exact ih
  rcases Xq.1 he with rfl | he
  ·rw [Wb (by simp),Wf (by simp [h])]
   simp;omega
  ·have:=ih he
   by_cases h1:e.p.id < a.p.id
   ·rw [Wf (by simp [h1]),Wf (by simp;omega)]
    simp;exact this
   ·rw [Wb (by simp [h1])]
    by_cases h2:id < a.p.id
    ·rw [Wf (by simp [h2])]
     simp;omega
    ·rw [Wb (by simp [h2])]
     exact this
theorem s42 (m:MS) (hm:m.Ok) (b:Nat):∀ (k:Nat) (id:Int) (o:Option Nat) (zs:List Int) (rows:LL) (F:Ym),Zjc m.es id < k→zs.length+(JW k m.es id).length≤100000→ZB rows (KP m b o zs F)→ook o zs→
  ∃ rows' F' o',g42 (G42 k) id [[.oref (b+1) 0]] [[.oref (b+1+1) 0]] [[.oref (b+2+1) 0]] rows=Xa rows'∧ZB rows' (KP m b o' (zs++JW k m.es id) (F'++F))∧ook o' (zs++JW k m.es id):=by
 intro k
 induction k with
 | zero => intro id o zs rows F h; omega
 | succ k ih =>
  intro id o zs rows F hab hlen h ho
  have loop:∀ (ks pre:List PE) (q:Nat) (o:Option Nat) (zs:List Int) (rows:LL) (F:Ym),m.es=pre++ks→ks.length < q→zs.length+((Jz ks id).flatMap fun c=>c::JW k m.es c).length≤100000→ZB rows (KP m b o zs F)→ook o zs→
    ∃ rows' F' o',Znw (G42 k) q id [[.oref (b+1) 0]] [[.oref (b+1+1) 0]] [[.oref (b+2+1) 0]] m.ids (m.es.length:Int) (pre.length:Int) rows=Xa rows'∧ZB rows' (KP m b o' (zs++(Jz ks id).flatMap fun c=>c::JW k m.es c) (F'++F))∧ook o' (zs++(Jz ks id).flatMap fun c=>c::JW k m.es c):=by
   intro ks
   induction ks with
   | nil =>
    intro pre q o zs rows F hs hq hl h ho
    obtain ⟨q',rfl⟩:∃ q',q=q'+1:=⟨q-1,by simp at hq;omega⟩
    rw [XI] at hs
    rw [Zla,hs,if_neg (by simp [cop])]
    refine ⟨rows,[],o,rfl,?_,?_⟩
    ·simpa [Jz] using h
    ·simpa [Jz] using ho
   | cons e ks ihk =>
    intro pre q o zs rows F hs hq hl h ho
    obtain ⟨q',rfl⟩:∃ q',q=q'+1:=⟨q-1,by simp at hq;omega⟩
    have hmF:=w_m h
    have he:e∈m.es:=by rw [hs];simp
    have hlt:(pre.length:Int) < (m.es.length:Int):=by rw [hs];simp;omega
    have hml:=hm.len
    have hf:=ZfG hm hs
    have hz:(m.es.map fun e=>e.p.id)[pre.length]? = Xa e.p.id:=by rw [hs];simp
    have hl1:((pre++[e]).length:Int)=((pre.length+1:Nat):Int):=by simp
    have hrx:rows[b]? = Xa [.oref (m.jm+1) 0]:=h.get (.tail _ (.head _))
    have hx:Ze [[AV.oref (m.jm+1) 0]] = .oref (m.jm+1) 0:=rfl
    rw [Zla,if_pos (by simp [cop];omega),Y8,Z1 hz,JG (j:=b) (o:=0) rfl hrx rfl (c:=.oref (m.jm+1) 0) rfl,Zp rfl,Zb (ne1 (ZD hx)),Zb (ne1 (ZD hx)),YW hmF hx,Zp rfl,Zb (ne1 (Vv hmF rfl)),Zcq hmF rfl,hf,Zb (ne1 (Zr e)),Zb (ne1 (Zr e)),Kg hmF he (c:=I e.p.parent) rfl,ZF,ZaB (by omega)]
    rw [Kb] at hl ⊢
    by_cases hp:e.p.parent=id
    ·rw [if_pos hp] at hl ⊢
     rw [if_pos (by simp [cop,hp])]
     have hro:rows[b+1]? = Xa [JJ o zs]:=h.get (.head _)
     have hco:Z2 [JJ o zs]=Xb:=J6 (Ka o zs)
     have hI:=Ztq h ho
     have hcx:Ze [[JJ o zs]]=JJ o zs:=Zl8 (Ka o zs)
     have hpl:(Zd .plen [[JJ o zs]] 0 E0 []).length=zs.length:=by
      have:=YJ (Zrr hI) hcx
      omega
     simp only [UF,XL,XA,Xu] at hl
     obtain ⟨F1,ha1,ha2⟩:=Zvt h ho e.p.id (x:=[[JJ o zs]]) (y:=[[.oref (b+1+1) 0]]) hcx rfl
     rw [JG (j:=b+1) (o:=0) rfl hro hco (c:=JJ o zs) rfl,Zp (Ka o zs),Zb (by simp),Zb (ne1 (ZjD hI hcx)),Zb (by unfold Jr ZC;rw [hpl];simp;omega),Zb ha2]
     have hrw:=ha1.get (j:=b+2) (row:=[.fnc 42 [b+1,b+1+1,b+2+1]]) (.tail _ (.tail _ (.head _)))
     rw [JG (j:=b+2) (o:=0) rfl hrw rfl (c:=.fnc 42 [b+1,b+1+1,b+2+1]) rfl,Zp rfl,Zb (by simp [Zd,Ze,ZN,okL])]
     have hc0:Zd (.pcap 0) [[AV.fnc 42 [b+1,b+1+1,b+2+1]]] 0 E0 [] = [[.oref (b+1) 0]]:=rfl
     have hc1:Zd (.pcap 1) [[AV.fnc 42 [b+1,b+1+1,b+2+1]]] 0 E0 [] = [[.oref (b+1+1) 0]]:=rfl
     have hc2:Zd (.pcap 2) [[AV.fnc 42 [b+1,b+1+1,b+2+1]]] 0 E0 [] = [[.oref (b+2+1) 0]]:=rfl
     rw [hc0,hc1,hc2]
     have hep:=hm.par e he
     have hab2:=Zlh he (show id < e.p.id by omega)
     obtain ⟨rows2,F2,o2,t1,t2,t3⟩:=ih e.p.id (Xa rows.length) (zs++[e.p.id]) _ (F1++F) (by omega) (by simp;omega) ha1 (by simp [ook])
     rw [t1,Xh]
     obtain ⟨rows3,F3,o3,u1,u2,u3⟩:=ihk (pre++[e]) q' o2 (zs++[e.p.id]++JW k m.es e.p.id) rows2 (F2++(F1++F)) (by rw [hs];simp) (by simp at hq;omega) (by simp at hl ⊢; omega) t2 t3
     rw [Y8,hl1] at u1
     have e1:zs++(e.p.id::Jz ks id).flatMap (fun c=>c::JW k m.es c)=zs++[e.p.id]++JW k m.es e.p.id++(Jz ks id).flatMap fun c=>c::JW k m.es c:=by simp
     rw [e1]
     refine ⟨rows3,F3++(F2++F1),o3,u1,?_,u3⟩
     simp only [Xo] at u2 ⊢
     exact u2
    ·rw [if_neg hp] at hl ⊢
     rw [if_neg (by simp [cop,hp])]
     obtain ⟨rows3,F3,o3,u1,u2,u3⟩:=ihk (pre++[e]) q' o zs rows F (by rw [hs];simp) (by simp at hq;omega) hl h ho
     rw [Y8,hl1] at u1
     exact ⟨rows3,F3,o3,u1,u2,u3⟩
  have hmF:=w_m h
  have hrx:rows[b]? = Xa [.oref (m.jm+1) 0]:=h.get (.tail _ (.head _))
  have hp0:=(h.push [.omap (m.jq+1)])
  have hq:ZB (rows++[[.omap (m.jq+1)]]) (KP m b o zs ([(rows.length,[.omap (m.jq+1)])]++F)):=hp0.perm (by
   have:KP m b o zs ([(rows.length,[.omap (m.jq+1)])]++F)=([(b+1,[JJ o zs]),(b,[.oref (m.jm+1) 0]),(b+2,[.fnc 42 [b+1,b+1+1,b+2+1]])]++ZfN o zs++m.frag)++(rows.length,[.omap (m.jq+1)])::F:=by simp [KP]
   rw [this]
   have h2:KP m b o zs F=([(b+1,[JJ o zs]),(b,[.oref (m.jm+1) 0]),(b+2,[.fnc 42 [b+1,b+1+1,b+2+1]])]++ZfN o zs++m.frag)++F:=by simp [KP]
   rw [h2]
   exact List.perm_middle.symm)
  have hx:Ze [[AV.oref (m.jm+1) 0]] = .oref (m.jm+1) 0:=rfl
  have hgo:g42 (G42 (k+1)) id [[.oref (b+1) 0]] [[.oref (b+1+1) 0]] [[.oref (b+2+1) 0]] rows=g42 (F42 (G42 k)).S.g id [[.oref (b+1) 0]] [[.oref (b+1+1) 0]] [[.oref (b+2+1) 0]] rows:=rfl
  rw [hgo,Zui,JG (j:=b) (o:=0) rfl hrx rfl (c:=.oref (m.jm+1) 0) rfl,Zp rfl,s29 hmF hm hx,Xh]
  have hl2:((m.ids).length:Int)=(m.es.length:Int):=by simp [MS.ids]
  obtain ⟨rows3,F3,o3,u1,u2,u3⟩:=loop m.es [] Ju o zs _ _ rfl (by have:=hm.len;unfold Ju;omega) hlen hq ho
  rw [hl2]
  refine ⟨rows3,F3++[(rows.length,[.omap (m.jq+1)])],o3,u1,?_,u3⟩
  rw [Xo]
  exact u2
end
section
open Go Go.AM Go.Proofs.Ytpjnmgjphfnmmaa
set_option maxRecDepth 100000
variable {rows:LL} {F:Ym} {m:MS}
def up (es:List PE):Nat→Int→Int→Nat
 | 0, _, _ => 0
 | n + 1, k, id => match es.find? (fun e => decide (e.p.id = k)) with | none => 0 | some e => (if e.p.parent = id then 1 else 0) + up es n e.p.parent id
theorem ZkP {α β:Type} (f:α→β→Nat) (l2:List β):∀ l1:List α,(l1.map fun a=>(l2.map fun b=>f a b).sum).sum=(l2.map fun b=>(l1.map fun a=>f a b).sum).sum
 | [] => by
  induction l2 with
  | nil => rfl
  | cons b l2 ih => simpa using ih
 | a :: l1 => by
  rw [Xi,Uc,ZkP f l2 l1]
  induction l2 with
  | nil => rfl
  | cons b l2 ih =>
   simp only [Xi,Uc] at ih ⊢
   omega
theorem Zi2 {α:Type} (f g:α→Nat):∀ l:List α,(l.map fun a=>f a+g a).sum=(l.map f).sum+(l.map g).sum
 | [] => rfl
 | a :: l => by
  simp only [Xi,Uc,Zi2 f g l]
  omega
theorem ZnT {α:Type} (f:α→Nat):∀ l:List α,(∀ a∈l,f a≤1)→(l.map f).sum≤l.length
 | [], _ => Xz _
 | a :: l, h => by
  have h1:=h a (by simp)
  have h2:=ZnT f l fun b hb=>h b (by simp [hb])
  simp only [Xi,Uc,XA]
  omega
theorem WQ {α:Type} (f g:α→Nat):∀ l:List α,(∀ a∈l,f a=g a)→(l.map f).sum=(l.map g).sum
 | [], _ => rfl
 | a :: l, h => by
  have h2:=WQ f g l fun b hb=>h b (by simp [hb])
  simp only [Xi,Uc,h2,h a (by simp)]
theorem ZlJ {es:List PE} (hs:es.Pairwise fun a b=>a.p.id < b.p.id) (q id:Int):((Jz es id).map fun c=>if q=c then 1 else 0).sum=match es.find? (fun e=>decide (e.p.id=q)) with | none=>0 | some e=>if e.p.parent=id then 1 else 0:=by
 induction es with
 | nil => rfl
 | cons a es ih =>
  rw [Um] at hs
  rw [Kb]
  by_cases haq:a.p.id=q
  ·have h0:((Jz es id).map fun c=>if q=c then 1 else 0).sum=0:=by
    rw [ih hs.2,Tk.2 fun e he=>?_]
    have:=hs.1 e he
    simp
    omega
   rw [Ta (by simp [haq])]
   by_cases hp:a.p.parent=id
   ·rw [if_pos hp,Xi,Uc,h0,if_pos haq.symm]
    simp [hp]
   ·rw [if_neg hp,h0]
    simp [hp]
  ·rw [Tb (by simp [haq])]
   by_cases hp:a.p.parent=id
   ·rw [if_pos hp,Xi,Uc,if_neg (fun h=>haq h.symm),XH]
    exact ih hs.2
   ·rw [if_neg hp]
    exact ih hs.2
theorem ZoF {es:List PE} (hs:es.Pairwise fun a b=>a.p.id < b.p.id) (id:Int):∀ (n:Nat) (k:Int),((Jz es id).map fun c=>up es n k c).sum=match es.find? (fun e=>decide (e.p.id=k)) with | none=>0 | some e=>up es n e.p.parent id
 | 0, k => by
  have h0:((Jz es id).map fun c=>up es 0 k c).sum=0:=by
   induction Jz es id with
   | nil => rfl
   | cons c l ih => rw [Xi, Uc, ih]; rfl
  rw [h0]
  split<;>rfl
 | n + 1, k => by
  cases hf:es.find? (fun e=>decide (e.p.id=k)) with
  | none =>
   have h0:∀ c,up es (n+1) k c=0:=fun c=>by simp only [up,hf]
   dsimp only
   rw [WQ _ (fun _=>0) _ fun c _=>h0 c]
   induction Jz es id with
   | nil => rfl
   | cons c l ih => rw [Xi, Uc, ih]
  | some e =>
   have h0:∀ c,up es (n+1) k c=(if e.p.parent=c then 1 else 0)+up es n e.p.parent c:=fun c=>by simp only [up,hf]
   dsimp only
   rw [WQ _ (fun c=>(if e.p.parent=c then 1 else 0)+up es n e.p.parent c) _ fun c _=>h0 c,Zi2,ZlJ hs,ZoF hs id n e.p.parent]
   rw [up]
   cases es.find? (fun a=>decide (a.p.id=e.p.parent)) with
   | none => rfl
   | some e' => rfl
theorem Jn {es:List PE} (hs:es.Pairwise fun a b=>a.p.id < b.p.id) {e:PE} (he:e∈es):es.find? (fun a=>decide (a.p.id=e.p.id))=Xa e:=by
 obtain ⟨pre,post,rfl⟩:=List.append_of_mem he
 rw [Tl]
 refine ⟨by simp,pre,post,rfl,fun a ha=>?_⟩
 rw [Ub] at hs
 have:=hs.2.2 a ha e (by simp)
 simp
 omega
theorem ZpK (es:List PE) (id:Int):(Jz es id).length=(es.map fun e=>if e.p.parent=id then 1 else 0).sum:=by
 induction es with
 | nil => rfl
 | cons a es ih =>
  rw [Kb,Xi,Uc,← ih]
  by_cases hp:a.p.parent=id
  ·rw [if_pos hp,if_pos hp,XA];omega
  ·rw [if_neg hp,if_neg hp];omega
theorem Zky (f:Int→List Int):∀ l:List Int,(l.flatMap fun c=>c::f c).length=l.length+(l.map fun c=>(f c).length).sum
 | [] => rfl
 | c :: l => by
  rw [UF,Xu,XA,Zky f l,XA,Xi,Uc]
  omega
theorem Zgr {es:List PE} (hs:es.Pairwise fun a b=>a.p.id < b.p.id):∀ (n:Nat) (id:Int),(JW n es id).length=(es.map fun e=>up es n e.p.id id).sum
 | 0, id => by
  show 0=_
  have:∀ l:List PE,(l.map fun e=>up es 0 e.p.id id).sum=0:=fun l=>by
   induction l with
   | nil => rfl
   | cons c l ih => rw [Xi, Uc, ih]; rfl
  rw [this]
 | n + 1, id => by
  rw [JW,Zky,WQ _ (fun c=>(es.map fun e=>up es n e.p.id c).sum) _ fun c _=>Zgr hs n c,ZkP,ZpK,← Zi2]
  refine WQ _ _ _ fun e he=>?_
  rw [ZoF hs,up,Jn hs he]
theorem ZrO {es:List PE} (hp:∀ e∈es,e.p.parent < e.p.id):∀ (n:Nat) (k id:Int),up es n k id≤if id < k then 1 else 0
 | 0, k, id => X7 _
 | n + 1, k, id => by
  rw [up]
  cases hf:es.find? (fun e=>decide (e.p.id=k)) with
  | none => exact X7 _
  | some e =>
   have h1:=hp e (Ua hf)
   have h2:e.p.id=k:=by have:=Wj hf;simpa using this
   have h3:=ZrO hp n e.p.parent id
   dsimp only
   by_cases hpi:e.p.parent=id
   ·rw [if_pos hpi,if_pos (by omega)]
    rw [if_neg (by omega)] at h3
    omega
   ·rw [if_neg hpi]
    by_cases h4:id < e.p.parent
    ·rw [if_pos h4] at h3
     rw [if_pos (by omega)]
     omega
    ·rw [if_neg h4] at h3
     omega
theorem ZmL (hm:m.Ok) (n:Nat) (id:Int):(JW n m.es id).length≤64:=by
 rw [Zgr hm.srt]
 refine XJ (ZnT _ _ fun e _=>?_) hm.len
 have:=ZrO (es:=m.es) (fun a ha=>(hm.par a ha).2) n e.p.id id
 split at this<;>omega
theorem Zpw (hm:m.Ok) (id:Int):Zjc m.es id≤64:=XJ (Un _ _) hm.len
def Yz (es:List PE) (id:Int):List Int:=match es.find? (fun e=>decide (e.p.id=id)) with | none=>[] | some _=>srt (JW 128 es id)
theorem s19 {x:LL} (h:ZB rows (m.frag++F)) (hm:m.Ok) (hx:Ze x = .oref (m.jm+1) 0) (id:Int) :
  ∃ rows' F' c,g19 x id rows=Xa ([[c]],rows')∧ZN c=Xb∧IsI rows' c (Yz m.es id)∧((c = .osl 0 0 0)∨∃ j,c = .osl 3 (j+1) (Yz m.es id).length∧rows'[j]? = Xa (Jw (Yz m.es id))∧Yz m.es id≠[]∧(j,Jw (Yz m.es id))∈F')∧ZB rows' (m.frag++(F'++F)):=by
 have hw:∀ l:LL,Zd .pnew l 0 E0 [] = [[.oref (l.length+1) 0]]:=fun _=>rfl
 have hn1:Ze (Zd (.pnil 1) E0 0 E0 []) = .osl 0 0 0:=rfl
 have hn3:Ze (Zd (.pnil 3) E0 0 E0 []) = .fnc 0 []:=rfl
 have hlb1:(rows++[[AV.oref (m.jm+1) 0]]).length=rows.length+1:=by simp
 have hlb2:(rows++[[AV.oref (m.jm+1) 0]]++[[AV.osl 0 0 0]]).length=rows.length+2:=by simp
 have hfc:Ze (Zd (.pfnc 42) E0 0 [] [Ze [[AV.oref (rows.length+1) 0]],Ze [[AV.oref (rows.length+1+1) 0]],Ze [[AV.oref (rows.length+2+1) 0]]]) = .fnc 42 [rows.length+1,rows.length+1+1,rows.length+2+1]:=rfl
 have hp1:=h.push [.oref (m.jm+1) 0]
 have hp2:=hp1.push [.osl 0 0 0]
 have hp3:=hp2.push [.fnc 0 []]
 rw [hlb1] at hp3 hp2
 rw [hlb2] at hp3
 have hp4:=hp3.set [.fnc 42 [rows.length+1,rows.length+1+1,rows.length+2+1]]
 have hrw:(rows++[[AV.oref (m.jm+1) 0]]++[[AV.osl 0 0 0]]++[[AV.fnc 0 []]])[rows.length+2]? = Xa [AV.fnc 0 []]:=hp3.get (.head _)
 have hst:Zd .set (rows++[[AV.oref (m.jm+1) 0]]++[[AV.osl 0 0 0]]++[[AV.fnc 0 []]]) 0 [[AV.oref (rows.length+2+1) 0]] [.fnc 42 [rows.length+1,rows.length+1+1,rows.length+2+1]]=(rows++[[AV.oref (m.jm+1) 0]]++[[AV.osl 0 0 0]]++[[AV.fnc 0 []]]).set (rows.length+2) [.fnc 42 [rows.length+1,rows.length+1+1,rows.length+2+1]]:=by
  rw [Zal (o:=0) rfl hrw (by simp)]
  rfl
 rw [ZtT,hx,hn1,hn3,hw,hw,hw,hlb1,hlb2,hfc,hst]
 rw [Zb (by simp [Zd,Ze,ZN,okL]),Zb (by simp [Zd,Ze,ZN,okL]),Zb (by simp [Zd,Ze,ZN,okL]),Zb (by simp [Zd,Ze,ZN,okL]),Zb (by simp [Zd,Ze,ZN,okL]),Zb (by simp [Zd,Ze,ZN,okL]),
  Zb (by rw [JG (j:=rows.length+2) (o:=0) rfl hrw rfl (c:=.fnc 0 []) rfl];simp)]
 generalize (rows++[[AV.oref (m.jm+1) 0]]++[[AV.osl 0 0 0]]++[[AV.fnc 0 []]]).set (rows.length+2) [.fnc 42 [rows.length+1,rows.length+1+1,rows.length+2+1]]=r4 at hp4 ⊢
 have hwf:ZB r4 (KP m rows.length Xe [] F):=hp4.perm (by
  unfold KP ZfN JJ
  rw [XM]
  exact (List.Perm.swap _ _ _).trans (List.Perm.cons _ (List.Perm.swap _ _ _)))
 have hmF:=w_m hwf
 have hrx:r4[rows.length]? = Xa [.oref (m.jm+1) 0]:=hwf.get (.tail _ (.head _))
 have hx':Ze [[AV.oref (m.jm+1) 0]] = .oref (m.jm+1) 0:=rfl
 rw [JG (j:=rows.length) (o:=0) rfl hrx rfl (c:=.oref (m.jm+1) 0) rfl,Zp rfl,Zb (ne1 (ZD hx')),Zb (ne1 (ZD hx')),YW hmF hx',Zp rfl,Zb (ne1 (Vv hmF rfl)),Zcq hmF rfl,Zb (ne1 (Ki _))]
 have hfd:m.es.find? (fun e=>decide (e.p.id=id))=m.find id:=rfl
 unfold Yz
 rw [hfd]
 cases hf:m.find id with
 | none =>
  have hro:r4[rows.length+1]? = Xa [.osl 0 0 0]:=hwf.get (.head _)
  rw [K2,if_neg (by decide),JG (j:=rows.length+1) (o:=0) rfl hro rfl (c:=.osl 0 0 0) rfl,Zp rfl]
  have hs:g43 [[.osl 0 0 0]] r4=Xa r4:=rfl
  rw [hs,Xh,JG (j:=rows.length+1) (o:=0) rfl hro rfl (c:=.osl 0 0 0) rfl,Zp rfl]
  refine ⟨r4,[(rows.length+2,[.fnc 42 [rows.length+1,rows.length+1+1,rows.length+2+1]]),(rows.length+1,[.osl 0 0 0]),(rows.length,[.oref (m.jm+1) 0])],_,rfl,rfl,.inl ⟨rfl,rfl⟩,.inl rfl,?_⟩
  exact hp4.perm ((Ug [(rows.length+2,[AV.fnc 42 [rows.length+1,rows.length+1+1,rows.length+2+1]]),(rows.length+1,[AV.osl 0 0 0]),(rows.length,[AV.oref (m.jm+1) 0])] m.frag F))
 | some e =>
  have hrw4:=hwf.get (j:=rows.length+2) (row:=[.fnc 42 [rows.length+1,rows.length+1+1,rows.length+2+1]]) (.tail _ (.tail _ (.head _)))
  rw [Zr,if_pos (by decide),JG (j:=rows.length+2) (o:=0) rfl hrw4 rfl (c:=.fnc 42 [rows.length+1,rows.length+1+1,rows.length+2+1]) rfl,Zp rfl,Zb (by simp [Zd,Ze,ZN,okL])]
  have hc0:Zd (.pcap 0) [[AV.fnc 42 [rows.length+1,rows.length+1+1,rows.length+2+1]]] 0 E0 [] = [[.oref (rows.length+1) 0]]:=rfl
  have hc1:Zd (.pcap 1) [[AV.fnc 42 [rows.length+1,rows.length+1+1,rows.length+2+1]]] 0 E0 [] = [[.oref (rows.length+1+1) 0]]:=rfl
  have hc2:Zd (.pcap 2) [[AV.fnc 42 [rows.length+1,rows.length+1+1,rows.length+2+1]]] 0 E0 [] = [[.oref (rows.length+2+1) 0]]:=rfl
  have hab:=Zpw hm id
  have hdl:=ZmL hm 128 id
  obtain ⟨r5,F5,o5,t1,t2,t3⟩:=s42 m hm rows.length 128 id Xe [] r4 F (by omega) (by simp;omega) hwf rfl
  rw [XM] at t2 t3
  rw [hc0,hc1,hc2,t1,Xh]
  have hro:r5[rows.length+1]? = Xa [JJ o5 (JW 128 m.es id)]:=t2.get (.head _)
  have hco:Z2 [JJ o5 (JW 128 m.es id)]=Xb:=J6 (Ka o5 _)
  rw [JG (j:=rows.length+1) (o:=0) rfl hro hco (c:=JJ o5 (JW 128 m.es id)) rfl,Zp (Ka o5 _)]
  have hcx:Ze [[JJ o5 (JW 128 m.es id)]]=JJ o5 (JW 128 m.es id):=Zl8 (Ka o5 _)
  cases o5 with
  | none =>
   have hd0:JW 128 m.es id = []:=t3
   have hs:g43 [[JJ Xe (JW 128 m.es id)]] r5=Xa r5:=rfl
   rw [hs,Xh,JG (j:=rows.length+1) (o:=0) rfl hro hco (c:=JJ Xe (JW 128 m.es id)) rfl,Zp rfl]
   have hsr:srt (JW 128 m.es id) = []:=by rw [hd0];simp [srt]
   dsimp only
   refine ⟨r5,[(rows.length+1,[AV.osl 0 0 0]),(rows.length,[AV.oref (m.jm+1) 0]),(rows.length+2,[AV.fnc 42 [rows.length+1,rows.length+1+1,rows.length+2+1]])]++F5,_,rfl,rfl,.inl ⟨rfl,hsr⟩,.inl rfl,?_⟩
   rw [Xo]
   exact t2.perm (Ug [(rows.length+1,[AV.osl 0 0 0]),(rows.length,[AV.oref (m.jm+1) 0]),(rows.length+2,[AV.fnc 42 [rows.length+1,rows.length+1+1,rows.length+2+1]])] m.frag (F5++F))
  | some j =>
   have hd0:JW 128 m.es id≠[]:=t3
   have hrj:r5[j]? = Xa (Jw (JW 128 m.es id)):=t2.get (by simp [KP,ZfN])
   rw [s43 (j:=j) (zs:=JW 128 m.es id) hcx hrj hd0 (by omega),Xh]
   have hp:(KP m rows.length (Xa j) (JW 128 m.es id) (F5++F)).Perm ((j,Jw (JW 128 m.es id))::((rows.length+1,[JJ (Xa j) (JW 128 m.es id)])::(rows.length,[.oref (m.jm+1) 0])::(rows.length+2,[.fnc 42 [rows.length+1,rows.length+1+1,rows.length+2+1]])::(m.frag++(F5++F)))):=by
    unfold KP ZfN
    exact UV (l₁:=[(rows.length+1,[JJ (Xa j) (JW 128 m.es id)]),(rows.length,[.oref (m.jm+1) 0]),(rows.length+2,[.fnc 42 [rows.length+1,rows.length+1+1,rows.length+2+1]])])
   have h6:=(t2.perm hp).set (Jw (srt (JW 128 m.es id)))
   have hro6:=h6.get (j:=rows.length+1) (row:=[JJ (Xa j) (JW 128 m.es id)]) (.tail _ (.head _))
   rw [JG (j:=rows.length+1) (o:=0) rfl hro6 hco (c:=JJ (Xa j) (JW 128 m.es id)) rfl,Zp (Ka _ _)]
   have hsl:=ZbN (JW 128 m.es id)
   have hsn:srt (JW 128 m.es id)≠[]:=fun hh=>by
    rw [hh] at hsl
    exact hd0 (Ty.1 hsl.symm)
   have hoc:JJ (Xa j) (JW 128 m.es id) = .osl 3 (j+1) (srt (JW 128 m.es id)).length:=by rw [hsl];rfl
   dsimp only
   refine ⟨_,(j,Jw (srt (JW 128 m.es id)))::(rows.length+1,[JJ (Xa j) (JW 128 m.es id)])::(rows.length,[.oref (m.jm+1) 0])::(rows.length+2,[.fnc 42 [rows.length+1,rows.length+1+1,rows.length+2+1]])::F5,_,rfl,rfl,.inr ⟨j,[],hoc,?_,?_⟩,.inr ⟨j,hoc,?_,hsn,.head _⟩,?_⟩
   ·rw [XI]
    exact h6.get (.head _)
   ·rw [XI]
    intro hh
    exact hsn (List.map_eq_nil_iff.1 hh)
   ·exact h6.get (.head _)
   ·exact h6.perm (Ug [(j,Jw (srt (JW 128 m.es id))),(rows.length+1,[JJ (Xa j) (JW 128 m.es id)]),(rows.length,[.oref (m.jm+1) 0]),(rows.length+2,[.fnc 42 [rows.length+1,rows.length+1+1,rows.length+2+1]])] m.frag (F5++F))
theorem Zbl (hm:m.Ok) (id:Int):(Yz m.es id).length≤64:=by
 unfold Yz
 split
 ·exact X7 _
 ·rw [ZbN]
  exact ZmL hm 128 id
def J2 (es:List PE) (id target:Int):(List PE×List Zjs)×Int:=
 match J0 es id with
 | none => ((es, []), 17)
 | some _ =>
  match J0 es target with
  | none => ((es, []), 17)
  | some _ => if target = id ∨ target ∈ Yz es id then (Zj (-1) es (target :: Yz es target), 0) else ((es, []), 8)
theorem s21 {x:LL} (h:ZB rows (m.frag++F)) (hm:m.Ok) (hx:Ze x = .oref (m.jm+1) 0) (id target:Int) :
  ∃ rows' F',g21 x id target rows=Xa (ZU (J2 m.es id target).1.2,(J2 m.es id target).2,rows')∧ZB rows' (({ m with es:=(J2 m.es id target).1.1 } : MS).frag++(F'++F))∧({ m with es:=(J2 m.es id target).1.1 } : MS).Ok:=by
 rw [ZtA,s27 h hx,Xh,Zb (ne1 (Ki _)),Za1]
 unfold J2
 cases ho:J0 m.es id with
 | none =>
  rw [K2,if_pos (by decide)]
  exact ⟨rows,[],rfl,h,hm⟩
 | some e =>
  rw [Zr,if_neg (by decide)]
  dsimp only
  rw [s27 h hx,Xh,Zb (ne1 (Ki _)),Za1]
  cases ht:J0 m.es target with
  | none =>
   rw [K2,if_pos (by decide)]
   exact ⟨rows,[],rfl,h,hm⟩
  | some t =>
   rw [Zr,if_neg (by decide)]
   dsimp only
   -- the end of it
   have fin:∀ (r1:LL) (F1:Ym),ZB r1 (m.frag++(F1++F))→∃ rows' F',((g19 x target r1).bind fun (r12:LL×LL)=>
     Zg ((Zd (.vchk 3 1) r12.2 0 r12.1 [])≠[])<|
     Zg (Jr (E0++[[AV.val (.int .i64 target)]]) (Zd (.view 1) r12.2 0 r12.1 []) 8)<|
     (g45 x ((E0++[[AV.val (.int .i64 target)]])++(Zd (.view 1) r12.2 0 r12.1 [])) (-1) r12.2).bind fun (r14:LL×LL)=>
     Xa (r14.1,(0:Int),r14.2))=Xa (ZU (Zj (-1) m.es (target::Yz m.es target)).2,0,rows')∧ZB rows' (({ m with es:=(Zj (-1) m.es (target::Yz m.es target)).1 } : MS).frag++(F'++F))∧({ m with es:=(Zj (-1) m.es (target::Yz m.es target)).1 } : MS).Ok:=fun r1 F1 h1=>by
    obtain ⟨r2,F2,c,q1,q2,q3,q4,q5⟩:=s19 h1 hm hx target
    have hdl:=Zbl hm target
    rw [q1,Xh]
    dsimp only
    have hcx:Ze [[c]]=c:=Zl8 q2
    have hv:Zd (.vchk 3 1) r2 0 [[c]] [] = [[]]:=by
     rcases q4 with rfl | ⟨j,rfl,hr,hn⟩
     ·simp [Zd,Ze,ZN,Zc2,okL]
     ·refine ZjD (k:=0) (zs:=Yz m.es target) (.inr ⟨j,rfl,by simpa using hr,fun hh=>?_⟩) rfl
      simp [Jw] at hh
      exact hn.1 hh
    have hint:(E0++[[AV.val (.int .i64 target)]])++ints (Yz m.es target)=ints (target::Yz m.es target):=rfl
    rw [Zb (ne1 hv),Zp9 q3 hcx,Zb (by unfold Jr ZC;simp;omega),hint]
    obtain ⟨r3,F3,t1,t2,t3⟩:=s45 (zs:=target::Yz m.es target) (by simp;omega) (-1) q5 hm hx
    rw [t1]
    refine ⟨r3,F3++(F2++F1),rfl,?_,t3⟩
    simp only [Xo] at t2 ⊢
    exact t2
   by_cases hti:target=id
   ·rw [if_neg (by simp [cop,hti]),if_pos (.inl hti)]
    exact fin rows [] h
   ·rw [if_pos (by simp [cop,hti])]
    obtain ⟨r2,F2,c,q1,q2,q3,q4,q5⟩:=s19 h hm hx id
    have hdl:=Zbl hm id
    have hcx:Ze [[c]]=c:=Zl8 q2
    rw [q1,Xh]
    dsimp only
    rw [s44 q3 hcx (by omega) target,Xh]
    dsimp only
    by_cases hin:target∈Yz m.es id
    ·rw [decide_eq_true hin,if_neg (by decide),if_pos (.inr hin)]
     exact fin r2 F2 q5
    ·rw [decide_eq_false hin,if_pos (by decide),if_neg (fun hh=>hh.elim hti hin)]
     exact ⟨r2,F2,rfl,q5,hm⟩
end
open Go Go.AM Go.Proofs.Ytpjnmgjphfnmmaa
set_option maxRecDepth 100000
def Zer (z:Int):Bool:=decide (97≤z∧z≤122∨65≤z∧z≤90∨z=95)
def Zip (z:Int):Bool:=decide (48≤z∧z≤57)
def chr (s:ByteArray) (i:Nat):Int:=((s.data.toList.getD i 0).toNat:Int)
def ZiV (s:ByteArray):Nat→Nat→Bool
 | _, 0 => Xb
 | i, n + 1 => (Zer (chr s i) || Zip (chr s i)) && ZiV s (i + 1) n
def Zpd (s:ByteArray):Nat→Nat→Nat
 | i, 0 => i
 | i, n + 1 => if (Zer (chr s i) || Zip (chr s i)) = Xb then Zpd s (i + 1) n else i
def ZfC (s:ByteArray):Bool:=decide (s.size≠0)&&(Zer (chr s 0)&&(ZiV s 0 s.size&&decide (s.size≤24)))
theorem Zk7 (z:Int):(if (cop .geq z 97)=Xb then
 if (cop .leq z 122)=Xb then
 Xa (Xb)
 else
 if (cop .geq z 65)=Xb then
 if (cop .leq z 90)=Xb then
 Xa (Xb)
 else
 Xa ((cop .eql z 95))
 else
 Xa ((cop .eql z 95))
 else
 if (cop .geq z 65)=Xb then
 if (cop .leq z 90)=Xb then
 Xa (Xb)
 else
 Xa ((cop .eql z 95))
 else
 Xa ((cop .eql z 95)))=Xa (Zer z):=by
  unfold Zer
  simp only [cop,decide_eq_true_eq]
  by_cases h1:97≤z<;>by_cases h2:z≤122<;>by_cases h3:65≤z<;>by_cases h4:z≤90<;>by_cases h5:z=95<;>simp [h1,h2,h3,h4,h5]<;>omega
theorem Zkf (z:Int):(if (cop .geq z 48)=Xb then
 Xa ((cop .leq z 57))
 else
 Xa (Xc))=Xa (Zip z):=by
  unfold Zip
  simp only [cop,decide_eq_true_eq]
  by_cases h1:48≤z<;>by_cases h2:z≤57<;>simp [h1,h2]
theorem s66 (z:Int):g66 z=Xa (Zer z):=by rw [Zuy];exact Zk7 z
theorem s86 (z:Int):g86 z=Xa (Zer z):=by rw [Zum];exact Zk7 z
theorem s84 (z:Int):g84 z=Xa (Zip z):=by rw [Ztn];exact Zkf z
theorem s87 (z:Int):g87 z=Xa (Zip z):=by rw [Zto];exact Zkf z
theorem ZuR {i:Nat} (h:i≤1048576):iop .add .i64 (i:Int) 1=((i+1:Nat):Int):=by
 rw [Zi7 (by omega) (by omega)]
 omega
theorem ZjW (s:ByteArray) (hs:s.size≤1000000):∀ (n i k:Nat),i+n=s.size→n < k→ZmK k s (i:Int)=Xa ((Zpd s i n:Nat):Int)
 | 0, i, k, hi, hk => by
  obtain ⟨k',rfl⟩:∃ k',k=k'+1:=⟨k-1,by omega⟩
  rw [ZkZ,if_neg (by simp [cop];omega)]
  rfl
 | n + 1, i, k, hi, hk => by
  obtain ⟨k',rfl⟩:∃ k',k=k'+1:=⟨k-1,by omega⟩
  have ih:=ZjW s hs n (i+1) k' (by omega) (by omega)
  rw [ZkZ,if_pos (by simp [cop];omega),Zb (by omega),Zb (by omega),s66,Xh,ZuR (by omega),ih,Zb (by omega),Zb (by omega),s84,Xh,Wo]
  rw [show Zpd s i (n+1)=if (Zer (chr s i)||Zip (chr s i))=Xb then Zpd s (i+1) n else i from rfl]
  show (if Zer (chr s i)=Xb then _ else if Zip (chr s i)=Xb then _ else _)=_
  cases Zer (chr s i)<;>cases Zip (chr s i)<;>rfl
theorem Zkz (s:ByteArray) (hs:s.size≤1000000):∀ (n i k:Nat),i+n=s.size→n < k→ZlK k s (i:Int)=Xa (ZiV s i n)
 | 0, i, k, hi, hk => by
  obtain ⟨k',rfl⟩:∃ k',k=k'+1:=⟨k-1,by omega⟩
  rw [Zj1,if_neg (by simp [cop];omega)]
  rfl
 | n + 1, i, k, hi, hk => by
  obtain ⟨k',rfl⟩:∃ k',k=k'+1:=⟨k-1,by omega⟩
  have ih:=Zkz s hs n (i+1) k' (by omega) (by omega)
  rw [Zj1,if_pos (by simp [cop];omega),Zb (by omega),Zb (by omega),s86,Xh,ZuR (by omega),ih,Zb (by omega),Zb (by omega),s87,Xh,Wo]
  rw [show ZiV s i (n+1)=((Zer (chr s i)||Zip (chr s i))&&ZiV s (i+1) n) from rfl]
  show (if (!Zer (chr s i))=Xb then (if (!Zip (chr s i))=Xb then _ else _) else _)=_
  cases Zer (chr s i)<;>cases Zip (chr s i)<;>rfl
theorem Znj (s:ByteArray):∀ (n i:Nat),i≤Zpd s i n∧(Zpd s i n=i+n↔ZiV s i n=Xb)
 | 0, i => ⟨Xz _, by simp [Zpd, ZiV]⟩
 | n + 1, i => by
  obtain ⟨h1,h2⟩:=Znj s n (i+1)
  rw [show Zpd s i (n+1)=if (Zer (chr s i)||Zip (chr s i))=Xb then Zpd s (i+1) n else i from rfl,show ZiV s i (n+1)=((Zer (chr s i)||Zip (chr s i))&&ZiV s (i+1) n) from rfl]
  cases (Zer (chr s i)||Zip (chr s i)) with
  | true =>
   simp only [if_true,X8]
   exact ⟨by omega,by rw [← h2];omega⟩
  | false => simp
theorem Zh0 (s:ByteArray):(ByteArray.toList s == ByteArray.toList (⟨#[]⟩:ByteArray))=decide (s.size=0):=by
 rw [ByteArray.toList_eq,ByteArray.toList_eq]
 have:s.size=s.data.toList.length:=rfl
 rw [this]
 cases s.data.toList<;>simp
theorem s28 (s:ByteArray) (hs:s.size≤1000000):g28 s=Xa (ZfC s):=by
 have h67:g67 s=Xa ((Zpd s 0 s.size:Nat):Int):=by
  rw [ZtG]
  exact ZjW s hs s.size 0 Ju (by omega) (by unfold Ju;omega)
 obtain ⟨h1,h2⟩:=Znj s s.size 0
 rw [Zua,Zub,Zh0]
 unfold ZfC
 by_cases h0:s.size=0
 ·rw [if_neg (by simp [h0])]
  simp [h0]
 ·rw [if_pos (by simp [h0]),Zb (by decide),Zb (by omega),s66,Xh,h67]
  show (if Zer (chr s 0)=Xb then _ else _:Option Bool).bind _=_
  rw [decide_eq_true h0,X8]
  cases Zer (chr s 0) with
  | false => rfl
  | true =>
   rw [if_pos rfl,Xh,Xh,X8]
   cases ha:ZiV s 0 s.size with
   | true =>
    have:=h2.2 ha
    rw [if_pos (by simp [cop];omega),X8]
    congr 1
    simp [cop]
    omega
   | false =>
    rw [if_neg]
    ·rfl
    ·intro hh
     simp [cop] at hh
     rw [h2.1 (by omega)] at ha
     cases ha
theorem s56 (s:ByteArray) (hs:s.size≤1000000):g56 s=Xa (ZfC s):=by
 rw [Ztd,Zux,Zh0]
 unfold ZfC
 by_cases h0:s.size=0
 ·rw [if_pos (by simp [h0])]
  simp [h0]
 ·have h70:ZlK Ju s 1=Xa (ZiV s 1 (s.size-1)):=Zkz s hs (s.size-1) 1 Ju (by omega) (by unfold Ju;omega)
  rw [if_neg (by simp [h0]),Zb (by decide),Zb (by omega),s86,Xh,h70]
  show (if (!Zer (chr s 0))=Xb then _ else _:Option Bool).bind _=_
  rw [decide_eq_true h0,X8]
  have ha:Zer (chr s 0)=Xb→ZiV s 0 s.size=ZiV s 1 (s.size-1):=fun hl=>by
   obtain ⟨n,hn⟩:∃ n,s.size=n+1:=⟨s.size-1,by omega⟩
   rw [hn]
   show ((Zer (chr s 0)||Zip (chr s 0))&&ZiV s 1 n)=_
   rw [hl]
   simp
  cases hl:Zer (chr s 0) with
  | false => rfl
  | true =>
   rw [if_neg (by decide),Xh,X8,ha hl]
   cases ZiV s 1 (s.size-1) with
   | true =>
    rw [if_pos rfl,X8]
    congr 1
    simp [cop]
    omega
   | false => rfl
section
open Go Go.AM Go.Proofs.Ytpjnmgjphfnmmaa
set_option maxRecDepth 100000
variable {rows:LL} {F:Ym}
def Vy (e:PE):List AV:=[I e.p.id,I e.p.parent,.val (.string e.p.name),.slice Xc 1 (ints e.p.cores),B e.p.ended,I e.p.status,B e.p.waiting]
structure RS where
 jr:Nat
 ja:Nat
 es:List PE
 last:Int
variable {r:RS}
def RS.head (r:RS):List AV:=[.osl 57 (r.ja+1) r.es.length,I r.last]
def RS.arr (r:RS):List AV:=(r.es.map Vy).flatten
def RS.frag (r:RS):Ym:=[(r.jr,r.head),(r.ja,r.arr)]
structure LOk (es:List PE) (last:Int):Prop where
 srt:es.Pairwise fun a b=>a.p.id < b.p.id
 rng:∀ e∈es,1≤e.p.id∧e.p.id≤last
 par:∀ e∈es,0≤e.p.parent∧e.p.parent < e.p.id
 len:es.length≤64
 lst:last≤1048576
 one:∃ e∈es,e.p.id=1
theorem ZfV (e:PE):(Vy e).length=7:=rfl
theorem KL (es:List PE):(es.map Vy).flatten.length=es.length*7:=by
 induction es with
 | nil => rfl
 | cons e es ih => rw [Xi, X4, Xu, ih, ZfV, XA]; omega
theorem Zbj (es:List PE) {pre post:List PE} {e:PE} (hs:es=pre++e::post):(es.map Vy).flatten=(pre.map Vy).flatten++(Vy e++(post.map Vy).flatten):=by
 rw [hs,XN,Xi,List.flatten_append,X4]
theorem ZaO {es:List PE} (h:es≠[]):Z2 (es.map Vy).flatten=Xb:=by
 cases es with
 | nil => exact absurd rfl h
 | cons e es => rfl
theorem Zmi (h:ZB rows (r.frag++F)):rows[r.jr]? = Xa r.head:=h.get (by simp [RS.frag])
theorem Zo8 (h:ZB rows (r.frag++F)):rows[r.ja]? = Xa r.arr:=h.get (by simp [RS.frag])
theorem KB {x:LL} (h:ZB rows (r.frag++F)) (hx:Ze x = .oref (r.jr+1) 0):Zd (.get 1) rows 0 (Zd (.padd 0) x 0 E0 []) [] = [[.osl 57 (r.ja+1) r.es.length]]:=by
 rw [YO hx]
 exact JG rfl (Zmi h) rfl rfl
theorem ZnL {x:LL} (h:ZB rows (r.frag++F)) (hx:Ze x = .oref (r.jr+1) 0):Zd (.get 1) rows 0 (Zd (.padd 1) x 0 E0 []) [] = [[I r.last]]:=by
 rw [YO hx]
 exact JG rfl (Zmi h) rfl rfl
theorem Zan (a n:Nat):Zd .pisl [[.osl 57 (a+1) n]] 0 E0 [] = [[]]:=by simp [Zd,Ze,ZN,okL]
theorem YE (a n:Nat):((Zd .plen [[.osl 57 (a+1) n]] 0 E0 []).length:Int)=(n:Int):=by simp [Zd,Ze,ZN]
theorem Zg3 (a n i:Nat):Zd (.pidx 7) [[.osl 57 (a+1) n]] (i:Int) [] [] = [[.oref (a+1) (i*7)]]:=by simp [Zd,Ze,ZN,pJ]
abbrev rn (r:RS) (i:Nat):LL:=[[.oref (r.ja+1) (i*7)]]
theorem ZM (r:RS) (i:Nat):Zd .pnn (rn r i) 0 E0 [] = [[]]:=ZD rfl
theorem Y3 (r:RS) (i:Nat):Zd .pisr (rn r i) 0 E0 [] = [[]]:=Zq8 rfl
theorem Kt:Zd .pisr [[.oref 0 0]] 0 E0 [] = [[]]:=ZnD rfl
theorem VR:Zd .pnn [[.oref 0 0]] 0 E0 [] = []:=Zrf rfl
theorem ZsD {es pre post:List PE} {e:PE} (hs:es=pre++e::post) {o:Nat} {c:AV} (hc:(Vy e)[o]? = Xa c):((es.map Vy).flatten)[pre.length*7+o]? = Xa c:=by
 rw [Zbj es hs]
 have hl:=KL pre
 have ho:o < (Vy e).length:=(Xj.1 hc).1
 rw [Xy (by omega),hl,UL,Xx ho,hc]
theorem YX (h:ZB rows (r.frag++F)) {pre post:List PE} {e:PE} (hs:r.es=pre++e::post) {o:Nat} {c:AV} (hc:(Vy e)[o]? = Xa c):Zd (.get 1) rows 0 (Zd (.padd o) (rn r pre.length) 0 E0 []) [] = [[c]]:=by
 rw [YO (j:=r.ja+1) (o:=pre.length*7) rfl]
 exact JG rfl (Zo8 h) (ZaO (by rw [hs];simp)) (ZsD hs hc)
theorem Zue (h:ZB rows (r.frag++F)) {pre post:List PE} {e:PE} (hs:r.es=pre++e::post):Zd (.get 7) rows 0 (rn r pre.length) [] = [Vy e]:=by
 have hl:=KL pre
 have hc:Z2 r.arr=Xb:=ZaO (by rw [hs];simp)
 have hrl:r.arr.length=r.es.length*7:=KL r.es
 have hel:r.es.length=pre.length+post.length+1:=by rw [hs];simp;omega
 simp only [Zd,Ze,ZN,Zmu,Ji (Zo8 h),hc,X8]
 rw [decide_eq_true (by omega)]
 dsimp only
 have:(r.arr.drop (pre.length*7)).take 7=Vy e:=by
  unfold RS.arr
  rw [Zbj r.es hs,List.drop_left' hl,List.take_left' (ZfV e)]
 rw [this]
theorem ZeF (h:ZB rows (r.frag++F)) {pre post:List PE} {e e':PE} (hs:r.es=pre++e::post) {o:Nat} {c:AV} (ho:o < 7) (he:(Vy e).set o c=Vy e') :
  ZB (Zd .set rows 0 (Zd (.padd o) (rn r pre.length) 0 E0 []) [c]) (({ r with es:=pre++e'::post } : RS).frag++F):=by
 rw [YO (j:=r.ja+1) (o:=pre.length*7) rfl]
 have hl:=KL pre
 have hrl:r.arr.length=r.es.length*7:=KL r.es
 have hel:r.es.length=pre.length+post.length+1:=by rw [hs];simp;omega
 rw [Zal rfl (Zo8 h) (by omega)]
 have hset:r.arr.set (pre.length*7+o) c=({ r with es:=pre++e'::post } : RS).arr:=by
  unfold RS.arr
  rw [Zbj r.es hs,Zbj (pre++e'::post) rfl,Tx _ _ (by omega),hl,UL,List.set_append_left _ _ (by rw [ZfV];exact ho),he]
 rw [hset]
 have hh:({ r with es:=pre++e'::post } : RS).head=r.head:=by
  unfold RS.head
  rw [hs]
  simp
 have h2:=(h.perm (List.Perm.swap _ _ _)).set ({ r with es:=pre++e'::post } : RS).arr
 refine (h2.perm (List.Perm.swap _ _ _)).perm ?_
 have:({ r with es:=pre++e'::post } : RS).frag++F=(r.jr,({ r with es:=pre++e'::post } : RS).head)::(r.ja,({ r with es:=pre++e'::post } : RS).arr)::F:=rfl
 rw [this,hh]
 exact List.Perm.refl _
theorem ZfA {x:LL} (h:ZB rows (r.frag++F)) (hl:r.es.length≤100) (hx:Ze x = .oref (r.jr+1) 0) (k:Int):∀ (ks pre:List PE) (q:Nat),r.es=pre++ks→ks.length < q→
  (∀ p e s,ks=p++e::s→e.p.id=k→(∀ a∈p,a.p.id≠k)→ZnS q x k (pre.length:Int) rows=Xa (rn r (pre++p).length,rows))∧((∀ a∈ks,a.p.id≠k)→ZnS q x k (pre.length:Int) rows=Xa ([[.oref 0 0]],rows))
 | [], pre, q, hs, hq => by
  obtain ⟨q',rfl⟩:∃ q',q=q'+1:=⟨q-1,by simp at hq;omega⟩
  rw [XI] at hs
  refine ⟨fun p e s hh=>by simp at hh,fun _=>?_⟩
  rw [Zk6,Zb (ne1 (ZD hx)),Zb (ne1 (ZD hx)),KB h hx,Zp rfl,Zb (ne1 (Zan _ _)),YE,hs,if_neg (by simp [cop])]
  rfl
 | a :: ks, pre, q, hs, hq => by
  obtain ⟨q',rfl⟩:∃ q',q=q'+1:=⟨q-1,by simp at hq;omega⟩
  have hel:r.es.length=pre.length+ks.length+1:=by rw [hs];simp;omega
  have hl1:((pre++[a]).length:Int)=((pre.length+1:Nat):Int):=by simp
  obtain ⟨ih1,ih2⟩:=ZfA h hl hx k ks (pre++[a]) q' (by rw [hs];simp) (by simp at hq;omega)
  rw [hl1] at ih1 ih2
  rw [Zk6,Zb (ne1 (ZD hx)),Zb (ne1 (ZD hx)),KB h hx,Zp rfl,Zb (ne1 (Zan _ _)),YE,if_pos (by simp [cop];omega),Zb (ne1 (ZD hx)),Zb (ne1 (ZD hx)),Zp rfl,Zb (by omega),YE,Zb (by omega),Zg3,Zb (ne1 (ZM r _)),YX h hs (c:=I a.p.id) rfl,ZF,ZaB (by omega)]
  by_cases hk:a.p.id=k
  ·rw [if_pos (by simp [cop,hk]),Zb (ne1 (ZD hx)),Zb (ne1 (ZD hx)),Zp rfl,Zb (by omega),YE,Zb (by omega),Zg3]
   refine ⟨fun p e s hh hek hp=>?_,fun hh=>absurd hk (hh a (by simp))⟩
   cases p with
   | nil => simp
   | cons b p =>
    rw [XL,List.cons.injEq] at hh
    exact absurd (hh.1 ▸ hk) (hp b (by simp))
  ·rw [if_neg (by simp [cop,hk])]
   refine ⟨fun p e s hh hek hp=>?_,fun hh=>ih2 fun b hb=>hh b (by simp [hb])⟩
   cases p with
   | nil =>
    rw [XM,List.cons.injEq] at hh
    exact absurd hek (hh.1 ▸ hk)
   | cons b p =>
    rw [XL,List.cons.injEq] at hh
    have:=ih1 p e s hh.2 hek fun c hc=>hp c (by simp [hc])
    rw [hh.1] at this
    rw [this]
    simp
theorem Zlc {x:LL} (h:ZB rows (r.frag++F)) (hl:r.es.length≤100) (hx:Ze x = .oref (r.jr+1) 0) {k:Int} (hf:r.es.find? (fun e=>decide (e.p.id=k))=Xe):g60 x k rows=Xa ([[.oref 0 0]],rows):=by
 rw [ZqP]
 exact (ZfA h hl hx k r.es [] Ju rfl (by unfold Ju;omega)).2 fun a ha=>by simpa using Tk.1 hf a ha
theorem VA {x:LL} (h:ZB rows (r.frag++F)) (hl:r.es.length≤100) (hx:Ze x = .oref (r.jr+1) 0) {pre post:List PE} {e:PE} (hs:r.es=pre++e::post) (hp:∀ a∈pre,a.p.id≠e.p.id):g60 x e.p.id rows=Xa (rn r pre.length,rows):=by
 rw [ZqP]
 have:=(ZfA h hl hx e.p.id r.es [] Ju rfl (by unfold Ju;omega)).1 pre e post hs rfl hp
 simpa using this
theorem JZ {es:List PE} {k:Int} {e:PE} (h:es.find? (fun e=>decide (e.p.id=k))=Xa e):∃ pre post,es=pre++e::post∧e.p.id=k∧∀ a∈pre,a.p.id≠e.p.id:=by
 obtain ⟨h1,pre,post,h2,h3⟩:=Tl.1 h
 have h1':e.p.id=k:=by simpa using h1
 exact ⟨pre,post,h2,h1',fun a ha=>by have:=h3 a ha;rw [h1'];simpa using this⟩
theorem VB {x:LL} (h:ZB rows (r.frag++F)) (hl:r.es.length≤100) (hx:Ze x = .oref (r.jr+1) 0) {k:Int} (hf:J0 r.es k=Xe):g55 x k rows=Xa ([[.oref 0 0]],rows):=by
 unfold J0 at hf
 rw [Zry]
 cases hq:r.es.find? (fun e=>decide (e.p.id=k)) with
 | none =>
  rw [Zlc h hl hx hq,Xh]
  dsimp only
  rw [Zb (ne1 Kt),VR]
  rfl
 | some e =>
  obtain ⟨pre,post,hs,rfl,hp⟩:=JZ hq
  rw [hq] at hf
  dsimp only at hf
  have hen:e.p.ended=Xb:=by
   cases he:e.p.ended with
   | true => rfl
   | false => rw [he] at hf; simp at hf
  rw [VA h hl hx hs hp,Xh]
  dsimp only
  rw [Zb (ne1 (Y3 r _)),ZM,if_pos (by decide),Zb (by simp),Zb (by simp),YX h hs (c:=B e.p.ended) rfl,JQ,hen]
  rfl
theorem KZ {x:LL} (h:ZB rows (r.frag++F)) (hl:r.es.length≤100) (hx:Ze x = .oref (r.jr+1) 0) {pre post:List PE} {e:PE} (hs:r.es=pre++e::post) (hp:∀ a∈pre,a.p.id≠e.p.id) (hen:e.p.ended=Xc):g55 x e.p.id rows=Xa (rn r pre.length,rows):=by
 rw [Zry,VA h hl hx hs hp,Xh]
 dsimp only
 rw [Zb (ne1 (Y3 r _)),ZM,if_pos (by decide),Zb (by simp),Zb (by simp),YX h hs (c:=B e.p.ended) rfl,JQ,hen]
 rfl
theorem s54 (z:Int):g54 z=Xa (decide (0≤z∧z < 32)):=by
 rw [ZtP]
 by_cases h1:0≤z
 ·rw [if_pos (by simp [cop,h1])]
  by_cases h2:z < 32<;>simp [cop,h1,h2]
 ·rw [if_neg (by simp [cop];omega)]
  simp [h1]
theorem s32 {z:Int} (hz:0≤z∧z < 32) (h:ZB rows F):∃ r:RS,∃ rows',g32 z rows=Xa ([[.oref (r.jr+1) 0]],0,rows')∧ZB rows' (r.frag++F)∧r.es = [⟨0,Xe,Zai z⟩]∧r.last=1:=by
 have h1:=h.push (Vy ⟨0,Xe,Zai z⟩)
 have h2:=h1.push [.osl 57 (rows.length+1) 1,I 1]
 refine ⟨⟨rows.length+1,rows.length,[⟨0,Xe,Zai z⟩],1⟩,rows++[Vy ⟨0,Xe,Zai z⟩]++[[.osl 57 (rows.length+1) 1,I 1]],?_,?_,rfl,rfl⟩
 ·rw [Zti,s54,Xh,decide_eq_true hz,if_neg (by decide)]
  have hl:(rows++[Vy ⟨0,Xe,Zai z⟩]).length=rows.length+1:=by simp
  have hw:Zd .pnew (rows++[Vy ⟨0,Xe,Zai z⟩]) 0 E0 [] = [[.oref (rows.length+1+1) 0]]:=by
   show [[AV.oref ((rows++[Vy ⟨0,Xe,Zai z⟩]).length+1) 0]]=_
   rw [hl]
  show Xa (Zd .pnew (rows++[Vy ⟨0,Xe,Zai z⟩]) 0 E0 [],_)=_
  rw [hw]
  rfl
 ·have hl:(rows++[Vy ⟨0,Xe,Zai z⟩]).length=rows.length+1:=by simp
  rw [hl] at h2
  have e1:(⟨rows.length+1,rows.length,[⟨0,Xe,Zai z⟩],1⟩:RS).frag++F=(rows.length+1,[.osl 57 (rows.length+1) 1,I 1])::(rows.length,Vy ⟨0,Xe,Zai z⟩)::F:=by
   simp [RS.frag,RS.head,RS.arr]
  rw [e1]
  exact h2
end
section
open Go Go.AM Go.Proofs.Ytpjnmgjphfnmmaa
set_option maxRecDepth 100000
variable {rows:LL} {F:Ym} {r:RS}
theorem Ztk {x:LL} (h:ZB rows (r.frag++F)) (hl:r.es.length≤64) (hx:Ze x = .oref (r.jr+1) 0) {parent core:Int} {name:ByteArray} {nm:Bool} (hn:g56 name=Xa nm) (hc:YN r.es parent core nm≠0) :
  g34 x parent name core rows=Xa (0,YN r.es parent core nm,rows):=by
 rw [ZqZ]
 unfold YN at hc ⊢
 cases ho:J0 r.es parent with
 | none =>
  rw [VB h (by omega) hx ho,Xh]
  dsimp only
  rw [Zb (ne1 Kt),VR,if_pos (by decide)]
 | some e =>
  obtain ⟨hf,hen⟩:=Je ho
  obtain ⟨pre,post,hs,rfl,hp⟩:=JZ hf
  rw [ho] at hc
  dsimp only at hc ⊢
  rw [KZ h (by omega) hx hs hp hen,Xh]
  dsimp only
  rw [Zb (ne1 (Y3 r _)),ZM,if_neg (by decide),hn,Xh]
  cases nm with
  | false => rfl
  | true =>
   simp only [if_true] at hc ⊢
   rw [if_neg (by decide),s54,Xh]
   by_cases hr:0≤core∧core < 32
   ·rw [if_pos hr] at hc ⊢
    rw [decide_eq_true hr,if_neg (by decide),Zb (ne1 (ZD hx)),Zb (ne1 (ZD hx)),KB h hx,Zp rfl,Zb (ne1 (Zan _ _)),YE]
    by_cases hl:r.es.length=64
    ·rw [if_pos hl] at hc ⊢
     rw [if_pos (by simp [cop,hl])]
    ·rw [if_neg hl] at hc
     exact absurd rfl hc
   ·rw [if_neg hr]
    rw [decide_eq_false hr]
    rfl
theorem Ztp (h:ZB rows (r.frag++F)) (hne:r.es≠[]):Zd (.vchk 57 7) rows 0 [[.osl 57 (r.ja+1) r.es.length]] [] = [[]]:=by
 have hc:Z2 r.arr=Xb:=ZaO hne
 have hrl:r.arr.length=r.es.length*7:=KL r.es
 simp only [Zd,Ze,ZN,Zc2,Ji (Zo8 h),hc,decide_true,X8]
 rw [decide_eq_true (by omega)]
 rfl
theorem Zws {α:Type} (a b c:α) (l:List α):(a::b::c::l).Perm (c::a::b::l):=UV (l₁:=[a,b])
theorem s34 {x:LL} (h:ZB rows (r.frag++F)) (hne:r.es≠[]) (hl:r.es.length≤64) (hx:Ze x = .oref (r.jr+1) 0) {parent core:Int} {name:ByteArray} {nm:Bool} (hn:g56 name=Xa nm) (hc:YN r.es parent core nm=0) (hlast : -1000≤r.last∧r.last < 1048576) :
  ∃ rows' ja' G,g34 x parent name core rows=Xa (r.last+1,0,rows')∧ZB rows' (({ r with ja:=ja',es:=r.es++[⟨0,Xe,⟨r.last+1,parent,name,[core],Xc,0,Xc⟩⟩],last:=r.last+1 } : RS).frag++(G++F)):=by
 rw [ZqZ]
 unfold YN at hc
 cases ho:J0 r.es parent with
 | none => rw [ho] at hc; exact absurd hc (by show ¬ ((17 : Int) = 0); decide)
 | some e =>
  obtain ⟨hf,hen⟩:=Je ho
  obtain ⟨pre,post,hs,rfl,hp⟩:=JZ hf
  rw [ho] at hc
  dsimp only at hc
  cases nm with
  | false => rw [if_neg (by decide)] at hc; exact absurd hc (by decide)
  | true =>
  rw [if_pos rfl] at hc
  by_cases hr:0≤core∧core < 32
  ·rw [if_pos hr] at hc
   by_cases hl64:r.es.length=64
   ·rw [if_pos hl64] at hc;exact absurd hc (by decide)
   ·rw [KZ h (by omega) hx hs hp hen,Xh]
    dsimp only
    rw [Zb (ne1 (Y3 r _)),ZM,if_neg (by decide),hn,Xh,if_neg (by decide),s54,Xh,decide_eq_true hr,if_neg (by decide),Zb (ne1 (ZD hx)),Zb (ne1 (ZD hx)),KB h hx,Zp rfl,Zb (ne1 (Zan _ _)),YE,if_neg (by simp [cop];omega),
     Zb (ne1 (ZD hx)),Zb (ne1 (ZD hx)),ZnL h hx,ZF,Zb (ne1 (ZD hx)),Zb (ne1 (ZD hx)),Zb (by simp),Zb (ne1 (ZD hx)),Zb (ne1 (ZD hx))]
    have hadd:iop .add .i64 r.last 1=r.last+1:=Zi7 (by omega) (by omega)
    rw [hadd]
    have hs1:Zd .set rows 0 (Zd (.padd 1) x 0 E0 []) [AV.val (.int .i64 (r.last+1))]=rows.set r.jr [.osl 57 (r.ja+1) r.es.length,I (r.last+1)]:=by
     rw [YO hx]
     rw [Zal rfl (Zmi h) (by simp [RS.head])]
     rfl
    rw [hs1]
    have h1:ZB (rows.set r.jr [.osl 57 (r.ja+1) r.es.length,I (r.last+1)]) (({ r with last:=r.last+1 } : RS).frag++F):=ZB.set h [.osl 57 (r.ja+1) r.es.length,I (r.last+1)]
    generalize rows.set r.jr [.osl 57 (r.ja+1) r.es.length,I (r.last+1)]=r1 at h1 ⊢
    have hh0:=KB (r:={ r with last:=r.last+1 }) h1 hx
    have hh1:=ZnL (r:={ r with last:=r.last+1 }) h1 hx
    dsimp only at hh0 hh1
    rw [hh0,Zp rfl,Zb (ne1 (ZD hx)),Zb (ne1 (ZD hx)),hh1,ZF,Zb (by simp),Zb (ne1 (Ztp (r:={ r with last:=r.last+1 }) h1 hne))]
    have hpl:=YE r.ja r.es.length
    rw [Zb (by unfold Jr ZC;simp only [Xu,XA,XT];omega),Zb (ne1 (ZD hx)),Zb (ne1 (ZD hx))]
    have hrl:r.arr.length=r.es.length*7:=KL r.es
    have happ:∀ row:List AV,Zd (.app 7) r1 0 [[.osl 57 (r.ja+1) r.es.length]] [AV.slice Xc 7 (E0++[row])]=r1.set r.ja []++[r.arr++row]:=fun row=>by
     have hra:=Zo8 (r:={ r with last:=r.last+1 }) h1
     have hra':r1[r.ja]? = Xa r.arr:=hra
     simp only [Zd,Ze,ZN,ZhW,Zrs,Ji hra']
     rw [Uo (by omega)]
     simp
    have hpap:∀ row:List AV,Zd (.papp 57) r1 0 [[.osl 57 (r.ja+1) r.es.length]] [AV.slice Xc 7 (E0++[row])] = [[.osl 57 (r1.length+1) (r.es.length+1)]]:=fun row=>by
     simp only [Zd,Ze,ZN,pO,Zrs];rfl
    rw [happ,hpap]
    have hcn:Ze [[AV.osl 57 (r1.length+1) (r.es.length+1)]] = .osl 57 (r1.length+1) (r.es.length+1):=rfl
    rw [hcn]
    have hp1:=((h1.perm (List.Perm.swap _ _ _)).set []).push (r.arr++Vy ⟨0,Xe,⟨r.last+1,e.p.id,name,[core],Xc,0,Xc⟩⟩)
    have hlen:(r1.set r.ja []).length=r1.length:=by simp
    have hp2:=hp1.perm (Zws _ _ _ _)
    have hrow:r1.set r.ja []++[r.arr++[AV.val (.int .i64 (r.last+1)),AV.val (.int .i64 e.p.id),AV.val (.string name),AV.slice Xc 1 (E0++[[AV.val (.int .i64 core)]]),AV.val (.bool Xc),AV.val (.int .i64 0),AV.val (.bool Xc)]]=r1.set r.ja []++[r.arr++Vy ⟨0,Xe,⟨r.last+1,e.p.id,name,[core],Xc,0,Xc⟩⟩]:=rfl
    rw [hrow]
    generalize r1.set r.ja []++[r.arr++Vy ⟨0,Xe,⟨r.last+1,e.p.id,name,[core],Xc,0,Xc⟩⟩]=r3 at hp2 ⊢
    have hrj:r3[r.jr]? = Xa [.osl 57 (r.ja+1) r.es.length,I (r.last+1)]:=hp2.get (.head _)
    have hst:Zd .set r3 0 (Zd (.padd 0) x 0 E0 []) [AV.osl 57 (r1.length+1) (r.es.length+1)]=r3.set r.jr [.osl 57 (r1.length+1) (r.es.length+1),I (r.last+1)]:=by
     rw [YO hx,Zal rfl hrj (by simp)]
     rfl
    have hg0:Zd (.get 1) r3 0 (Zd (.padd 0) x 0 E0 []) [] = [[.osl 57 (r.ja+1) r.es.length]]:=by
     rw [YO hx]
     exact JG rfl hrj rfl rfl
    have hp3:=hp2.set [.osl 57 (r1.length+1) (r.es.length+1),I (r.last+1)]
    have hrj3:(r3.set r.jr [.osl 57 (r1.length+1) (r.es.length+1),I (r.last+1)])[r.jr]? = Xa [.osl 57 (r1.length+1) (r.es.length+1),I (r.last+1)]:=hp3.get (.head _)
    have hg1:Zd (.get 1) (r3.set r.jr [.osl 57 (r1.length+1) (r.es.length+1),I (r.last+1)]) 0 (Zd (.padd 1) x 0 E0 []) [] = [[I (r.last+1)]]:=by
     rw [YO hx]
     exact JG rfl hrj3 rfl rfl
    rw [Zb (by rw [hg0];simp),Zb (ne1 (ZD hx)),Zb (ne1 (ZD hx)),hst,hg1,ZF]
    refine ⟨_,r1.length,[(r.ja,[])],rfl,?_⟩
    have e1:(({ r with ja:=r1.length,es:=r.es++[⟨0,Xe,⟨r.last+1,e.p.id,name,[core],Xc,0,Xc⟩⟩],last:=r.last+1 } : RS).frag++([(r.ja,[])]++F))=(r.jr,[.osl 57 (r1.length+1) (r.es.length+1),I (r.last+1)])::(r1.length,r.arr++Vy ⟨0,Xe,⟨r.last+1,e.p.id,name,[core],Xc,0,Xc⟩⟩)::(r.ja,[])::F:=by
     simp [RS.frag,RS.head,RS.arr]
    rw [e1]
    rw [hlen] at hp3
    exact hp3
  ·rw [if_neg hr] at hc;exact absurd hc (by decide)
theorem WG {γ:Type} (l:LL) (k:LL→Option γ):Zl [[.slice Xc 1 l]] 0 [.slice 1] k=k l:=by
 refine YL (l:=[[.slice Xc 1 l]]) (sh:=[.slice 1]) (cs:=[.slice Xc 1 l]) (r:=(l:LL)) k (by decide:(0:Int)≤0) rfl ?_
 rfl
def ZnH (core:Int) (e:PE):PE:={ e with p:={ e.p with cores:=e.p.cores++[core] } }
theorem ZjV {e:PE} {pre post:List PE} (h:ZB rows (r.frag++F)) (hs:r.es=pre++e::post) (core:Int) (hl:e.p.cores.length≤1000):∀ (ks ps:List Int) (q:Nat),e.p.cores=ps++ks→ks.length < q→core∉ps→
  Zp3 q core (rn r pre.length) (ps.length:Int) rows=if core∈ks then Xa (56,rows) else Xa (0,Zd .set rows 0 (Zd (.padd 3) (rn r pre.length) 0 E0 []) [.slice Xc 1 (ints (e.p.cores++[core]))])
 | [], ps, q, hc, hq, hn => by
  obtain ⟨q',rfl⟩:∃ q',q=q'+1:=⟨q-1,by simp at hq;omega⟩
  rw [XI] at hc
  have hlen:((ints e.p.cores).length:Int)=(e.p.cores.length:Int):=by simp
  have hln:(ints e.p.cores).length=e.p.cores.length:=by simp
  rw [Zj8,Zb (ne1 (ZM r _)),Zb (ne1 (ZM r _)),YX h hs (c:=.slice Xc 1 (ints e.p.cores)) rfl,WG,hlen,← hc,if_neg (by simp [cop]),Zb (ne1 (ZM r _)),Zb (ne1 (ZM r _)),WG,Zb (by unfold Jr ZC;rw [hln];simp;omega),Zb (by unfold Jr ZC;rw [hln];simp;omega),Zb (ne1 (ZM r _)),Zb (ne1 (ZM r _)),Zb (by simp),if_neg (by simp)]
  have:ints e.p.cores++(E0++[[AV.val (.int .i64 core)]])=ints (e.p.cores++[core]):=by simp [ints]
  rw [this]
 | z :: ks, ps, q, hc, hq, hn => by
  obtain ⟨q',rfl⟩:∃ q',q=q'+1:=⟨q-1,by simp at hq;omega⟩
  have hz:e.p.cores[ps.length]? = Xa z:=by rw [hc];simp
  have hi:=(Xj.1 hz).1
  have hlen:((ints e.p.cores).length:Int)=(e.p.cores.length:Int):=by simp
  have hl1:((ps++[z]).length:Int)=((ps.length+1:Nat):Int):=by simp
  rw [Zj8,Zb (ne1 (ZM r _)),Zb (ne1 (ZM r _)),YX h hs (c:=.slice Xc 1 (ints e.p.cores)) rfl,WG,hlen,if_pos (by simp [cop];omega),Zb (ne1 (ZM r _)),Zb (ne1 (ZM r _)),WG,Z1 hz,ZaB (by omega)]
  by_cases hk:z=core
  ·rw [if_pos (by simp [cop,hk]),if_pos (by simp [hk])]
  ·rw [if_neg (by simp [cop,hk])]
   have ih:=ZjV h hs core hl ks (ps++[z]) q' (by rw [hc];simp) (by simp at hq;omega) (by simp [hn,Ne.symm hk])
   rw [hl1] at ih
   rw [ih]
   simp [Ne.symm hk]
theorem s36 {x:LL} (h:ZB rows (r.frag++F)) (hsrt:r.es.Pairwise fun a b=>a.p.id < b.p.id) (hl:r.es.length≤64) (hx:Ze x = .oref (r.jr+1) 0) {k core:Int} (hcl:∀ e∈r.es,e.p.cores.length≤100) :
  ∃ rows' es',g36 x k core rows=Xa (VY r.es k core,rows')∧ZB rows' (({ r with es:=es' } : RS).frag++F)∧(VY r.es k core=0→es'=Yh k (ZnH core) r.es)∧(VY r.es k core≠0→es'=r.es):=by
 rw [ZtU]
 cases ho:J0 r.es k with
 | none =>
  have hsp:VY r.es k core=17:=by unfold VY;rw [ho]
  rw [hsp,VB h (by omega) hx ho,Xh]
  dsimp only
  rw [Zb (ne1 Kt),VR,if_pos (by decide)]
  exact ⟨rows,r.es,rfl,h,fun hh=>(by cases hh),fun _=>rfl⟩
 | some e =>
  obtain ⟨hf,hen⟩:=Je ho
  obtain ⟨pre,post,hs,rfl,hp⟩:=JZ hf
  have hce:=hcl e (by rw [hs];simp)
  have hsp:VY r.es e.p.id core=if 0≤core∧core < 32 then (if core∈e.p.cores then 56 else 0) else 1:=by unfold VY;rw [ho]
  rw [hsp,KZ h (by omega) hx hs hp hen,Xh]
  dsimp only
  rw [Zb (ne1 (Y3 r _)),ZM,if_neg (by decide),s54,Xh]
  by_cases hr:0≤core∧core < 32
  ·simp only [if_pos hr]
   rw [decide_eq_true hr,if_neg (by decide)]
   have:=ZjV h hs core (by omega) e.p.cores [] Ju rfl (by unfold Ju;omega) (by simp)
   have hz:((([] : List Int).length:Nat):Int)=0:=rfl
   rw [hz] at this
   rw [this]
   by_cases hi:core∈e.p.cores
   ·simp only [if_pos hi]
    exact ⟨rows,r.es,rfl,h,fun hh=>(by cases hh),fun _=>rfl⟩
   ·simp only [if_neg hi]
    have hset:=ZeF (r:=r) (e':=ZnH core e) h hs (o:=3) (c:=.slice Xc 1 (ints (e.p.cores++[core]))) (by decide) rfl
    refine ⟨_,_,rfl,hset,fun _=>?_,fun hh=>absurd rfl hh⟩
    rw [hs] at hsrt
    rw [hs,Vd (f:=ZnH core) hsrt rfl]
  ·simp only [if_neg hr]
   rw [decide_eq_false hr]
   exact ⟨rows,r.es,rfl,h,fun hh=>(by cases hh),fun _=>rfl⟩
end
section
open Go Go.AM Go.Proofs.Ytpjnmgjphfnmmaa
set_option maxRecDepth 100000
variable {rows:LL} {F:Ym} {r:RS} {es:List PE} {last:Int}
theorem Zjj (h:LOk es last) {f:PE→PE} (hid:∀ e,(f e).p.id=e.p.id) (hp:∀ e∈es,0≤(f e).p.parent∧(f e).p.parent < e.p.id):LOk (es.map f) last:=by
 refine ⟨?_,fun e he=>?_,fun e he=>?_,by rw [Xp];exact h.len,h.lst,?_⟩
 ·rw [U9]
  exact h.srt.imp fun hab=>by rw [hid,hid];exact hab
 ·obtain ⟨a,ha,rfl⟩:=Xk.1 he
  rw [hid]
  exact h.rng a ha
 ·obtain ⟨a,ha,rfl⟩:=Xk.1 he
  rw [hid]
  exact hp a ha
 ·obtain ⟨a,ha,h1⟩:=h.one
  exact ⟨f a,Xk.2 ⟨a,ha,rfl⟩,by rw [hid];exact h1⟩
theorem ZdX (h:LOk es last) {k:Int} {f:Pr→Pr} (hid:∀ q,(f q).id=q.id) (hp:∀ e∈es,e.p.id=k→0≤(f e.p).parent∧(f e.p).parent < e.p.id):LOk (ZcP k f es) last:=by
 refine Zjj h (fun e=>?_) fun e he=>?_
 ·split
  ·exact hid e.p
  ·rfl
 ·split
  ·exact hp e he ‹_›
  ·exact h.par e he
theorem Zbg (h:LOk es last) {k:Int} {f:PE→PE} (hid:∀ q,(f q).p.id=q.p.id) (hp:∀ e,(f e).p.parent=e.p.parent):LOk (Yh k f es) last:=by
 refine Zjj h (fun e=>?_) fun e he=>?_
 ·split
  ·exact hid e
  ·rfl
 ·split
  ·rw [hp];exact h.par e he
  ·exact h.par e he
theorem ZiT (h:LOk es last) {k:Int} (hk:k≠1):LOk (V8 k es) last:=by
 refine ⟨h.srt.filter _,fun e he=>h.rng e (Wu.1 he).1,fun e he=>h.par e (Wu.1 he).1,XJ (Un _ _) h.len,h.lst,?_⟩
 obtain ⟨a,ha,h1⟩:=h.one
 exact ⟨a,Wu.2 ⟨ha,by simp [h1,Ne.symm hk]⟩,h1⟩
theorem Zk8 (h:LOk es last) {par:Int} {c:Pr} (hc:c.id≠1):LOk (Yi es par c).1 last:=by
 unfold Yi
 split
 ·split
  ·exact ZiT (ZdX (f:=fun q=>{ q with waiting:=Xc }) h (fun _=>rfl) fun e he _=>h.par e he) hc
  ·exact h
 ·exact h
theorem ZfX (h:LOk es last) {pid k:Int} (hp:1≤pid):LOk (ZO pid es k).1 last:=by
 unfold ZO
 split
 ·rename_i c hc
  have hcm:=Ua hc
  have hck:c.p.id=k:=by have:=Wj hc;simpa using this
  split
  ·rename_i hpar
   have hpc:=h.par c hcm
   have hu:LOk (ZcP k (fun q=>{ q with parent:=1 }) es) last:=ZdX h (fun _=>rfl) fun e he hek=>⟨by show (0:Int)≤1;decide,by show (1:Int) < e.p.id;omega⟩
   split
   ·exact Zk8 hu (by show c.p.id≠1;omega)
   ·exact hu
  ·exact h
 ·exact h
theorem Zf8 {pid:Int} (hp:1≤pid):∀ (ks:List Int) (es:List PE),LOk es last→LOk (ZT pid es ks).1 last
 | [], _, h => h
 | _ :: ks, _, h => Zf8 hp ks _ (ZfX h hp)
theorem KD (h:LOk es last) {pid st:Int} : LOk (Y6 es pid st).1 last:=by
 unfold Y6
 split
 ·rename_i e he
  have hem:=Ua he
  have hid:e.p.id=pid:=by have:=Wj he;simpa using this
  have hr:=h.rng e hem
  have hu:LOk (Yh pid (J8 st) es) last:=Zbg h (fun _=>rfl) fun _=>rfl
  split
  ·exact hu
  ·exact Zk8 (Zf8 (by omega) _ _ hu) (by show e.p.id≠1;omega)
 ·exact h
theorem Vj {st:Int} : ∀ (zs:List Int) (es:List PE),LOk es last→LOk (Zj st es zs).1 last
 | [], _, h => h
 | z :: zs, es, h => by
  unfold Zj
  split
  ·exact Vj zs _ (KD h)
  ·exact Vj zs _ h
theorem Zrw (h:LOk es last) {k:Int} (hk:k≠1):V8 k es≠[]:=by
 obtain ⟨a,ha,_⟩:=(ZiT h hk).one
 intro hh
 rw [hh] at ha
 cases ha
theorem ZnM {γ:Type} {e:PE} (k:Int×Int×ByteArray×LL×Bool×Int×Bool→Option γ):Zl [Vy e] 0 [.int .i64,.int .i64,.str,.slice 1,.bool,.int .i64,.bool] k=k (e.p.id,e.p.parent,e.p.name,ints e.p.cores,e.p.ended,e.p.status,e.p.waiting):=by
 refine YL (l:=[Vy e]) (sh:=[.int .i64,.int .i64,.str,.slice 1,.bool,.int .i64,.bool]) (cs:=Vy e) (r:=(e.p.id,e.p.parent,e.p.name,ints e.p.cores,e.p.ended,e.p.status,e.p.waiting)) k (by decide) rfl ?_
 rfl
theorem ZkQ {x:LL} (h:ZB rows (r.frag++F)) (hl:r.es.length≤64) (hx:Ze x = .oref (r.jr+1) 0) (k:Int):∀ (ks pre:List PE) (q:Nat),r.es=pre++ks→ks.length < q→V8 k r.es≠[]→
  ZoN q x k ((V8 k pre).map Vy) (pre.length:Int) rows=Xa (Zd .set (Zd .push rows 0 ((V8 k r.es).map Vy) []) 0 (Zd (.padd 0) x 0 E0 []) [.osl 57 (rows.length+1) (V8 k r.es).length])
 | [], pre, q, hs, hq, hne => by
  obtain ⟨q',rfl⟩:∃ q',q=q'+1:=⟨q-1,by simp at hq;omega⟩
  rw [XI] at hs
  have hn:Ze (Zd (.parr 57) rows (((V8 k r.es).map Vy).length:Int) [] []) = .osl 57 (rows.length+1) (V8 k r.es).length:=by simp [Zd,Ze,ZN]
  rw [ZkT,Zb (ne1 (ZD hx)),Zb (ne1 (ZD hx)),KB h hx,Zp rfl,Zb (ne1 (Zan _ _)),YE,← hs,if_neg (by simp [cop]),Zb (ne1 (ZD hx)),Zb (ne1 (ZD hx)),Zb (by intro hh;exact hne (List.map_eq_nil_iff.1 hh)),Zb (by simp),hn]
 | e :: ks, pre, q, hs, hq, hne => by
  obtain ⟨q',rfl⟩:∃ q',q=q'+1:=⟨q-1,by simp at hq;omega⟩
  have hel:r.es.length=pre.length+ks.length+1:=by rw [hs];simp;omega
  have hl1:((pre++[e]).length:Int)=((pre.length+1:Nat):Int):=by simp
  have ih:=ZkQ h hl hx k ks (pre++[e]) q' (by rw [hs];simp) (by simp at hq;omega) hne
  rw [hl1] at ih
  have hpl:(V8 k pre).length≤pre.length:=Un _ _
  rw [ZkT,Zb (ne1 (ZD hx)),Zb (ne1 (ZD hx)),KB h hx,Zp rfl,Zb (ne1 (Zan _ _)),YE,if_pos (by simp [cop];omega),Zb (ne1 (ZD hx)),Zb (ne1 (ZD hx)),Zp rfl,Zb (by omega),YE,Zb (by omega),Zg3,Zb (ne1 (ZM r _)),YX h hs (c:=I e.p.id) rfl,ZF,ZaB (by omega)]
  by_cases hk:e.p.id=k
  ·rw [if_neg (by simp [cop,hk])]
   have e1:V8 k (pre++[e])=V8 k pre:=by
    unfold V8
    rw [UK,Wb (by simp [hk])]
    simp
   rw [e1] at ih
   exact ih
  ·rw [if_pos (by simp [cop,hk]),Zb (ne1 (ZD hx)),Zb (ne1 (ZD hx)),Zp rfl,Zb (by omega),YE,Zb (by omega),Zg3,Zue h hs,ZnM,Zb (by unfold Jr ZC;simp;omega)]
   have e1:V8 k (pre++[e])=V8 k pre++[e]:=by
    unfold V8
    rw [UK,Wf (by simp [hk])]
    simp
   rw [e1,XN] at ih
   exact ih
theorem s61 {x:LL} (h:ZB rows (r.frag++F)) (hl:r.es.length≤64) (hx:Ze x = .oref (r.jr+1) 0) {k:Int} (hne:V8 k r.es≠[]) :
  ∃ rows' ja',g61 x k rows=Xa rows'∧ZB rows' (({ r with ja:=ja',es:=V8 k r.es } : RS).frag++([(r.ja,r.arr)]++F)):=by
 have hlp:=ZkQ h hl hx k r.es [] Ju rfl (by unfold Ju;omega) hne
 have hz:((([] : List PE).length:Nat):Int)=0:=rfl
 have hz2:(V8 k []).map Vy = []:=rfl
 rw [hz,hz2] at hlp
 rw [Ztc,hlp]
 have hpush:Zd .push rows 0 ((V8 k r.es).map Vy) []=rows++[((V8 k r.es).map Vy).flatten]:=rfl
 have hp1:=h.push ((V8 k r.es).map Vy).flatten
 have hp2:=hp1.perm (List.Perm.swap _ _ _)
 have hrj:(rows++[((V8 k r.es).map Vy).flatten])[r.jr]? = Xa r.head:=hp2.get (.head _)
 rw [hpush,YO hx,Zal rfl hrj (by simp [RS.head])]
 refine ⟨_,rows.length,rfl,?_⟩
 exact hp2.set (r.head.set (0+0) (.osl 57 (rows.length+1) (V8 k r.es).length))
theorem s71 {x:LL} (h:ZB rows (r.frag++F)) (ho:LOk r.es r.last) (hx:Ze x = .oref (r.jr+1) 0) {c:PE} (hc:r.es.find? (fun e=>decide (e.p.id=c.p.id))=Xa c) (hc1:c.p.id≠1) :
  ∃ rows' ja' G,g71 x c.p.id rows=Xa (ZU (Yi r.es c.p.parent c.p).2,rows')∧ZB rows' (({ r with ja:=ja',es:=(Yi r.es c.p.parent c.p).1 } : RS).frag++(G++F)):=by
 obtain ⟨pre,post,hs,_,hp⟩:=JZ hc
 have hl:=ho.len
 rw [ZuU,VA h (by omega) hx hs hp,Xh]
 dsimp only
 rw [Zb (ne1 (Y3 r _)),ZM,if_neg (by decide),if_neg (by simp [cop,hc1]),Zb (by simp),Zb (by simp),YX h hs (c:=I c.p.parent) rfl,ZF,Zb (by simp),Zb (by simp),YX h hs (c:=I c.p.status) rfl,ZF,Zb (by simp),Zb (by simp),ZF]
 unfold Yi
 cases hpf:r.es.find? (fun e=>decide (e.p.id=c.p.parent)) with
 | none =>
  rw [Zlc h (by omega) hx hpf,Xh]
  dsimp only
  rw [Zb (ne1 Kt),VR,if_pos (by decide)]
  exact ⟨rows,r.ja,[],rfl,h⟩
 | some p =>
  obtain ⟨pre2,post2,hs2,hpk,hp2⟩:=JZ hpf
  have h60:=VA h (by omega) hx hs2 hp2
  rw [hpk] at h60
  rw [h60,Xh]
  dsimp only
  rw [Zb (ne1 (Y3 r _)),ZM,if_neg (by decide),Zb (by simp),Zb (by simp),YX h hs2 (c:=B p.p.waiting) rfl,JQ]
  cases hw:p.p.waiting with
  | false =>
   rw [if_pos (by decide),if_neg (by decide)]
   exact ⟨rows,r.ja,[],rfl,h⟩
  | true =>
   rw [if_neg (by decide),if_pos rfl,Zb (by simp),Zb (by simp),Zb (by simp)]
   have hset:=ZeF (r:=r) (e':={ p with p:={ p.p with waiting:=Xc } }) h hs2 (o:=6) (c:=B Xc) (by decide) rfl
   have hsrt:=ho.srt
   rw [hs2] at hsrt
   have hup:=Za4 (f:=fun q=>{ q with waiting:=Xc }) hsrt hpk
   rw [← hs2] at hup
   rw [← hup] at hset
   have hu:LOk (ZcP c.p.parent (fun q=>{ q with waiting:=Xc }) r.es) r.last:=ZdX ho (fun _=>rfl) fun e he _=>ho.par e he
   obtain ⟨rows2,ja2,q1,q2⟩:=s61 (x:=x) (k:=c.p.id) hset hu.len hx (Zrw hu hc1)
   rw [q1]
   exact ⟨rows2,ja2,_,rfl,q2⟩
theorem ZcS (a b:List PE) (id:Int):Jz (a++b) id=Jz a id++Jz b id:=by
 unfold Jz
 rw [UK,XN]
theorem ZjM {x:LL} (h:ZB rows (r.frag++F)) (ho:LOk r.es r.last) (hx:Ze x = .oref (r.jr+1) 0) {id:Int} (hid:1≤id):∀ (ks pre:List PE) (q:Nat),r.es=pre++ks→ks.length < q→
  Zl9 q x id (ints (Jz pre id)) (pre.length:Int) rows=Xa (ints (Jz r.es id),rows)
 | [], pre, q, hs, hq => by
  obtain ⟨q',rfl⟩:∃ q',q=q'+1:=⟨q-1,by simp at hq;omega⟩
  rw [XI] at hs
  rw [Zjy,Zb (ne1 (ZD hx)),Zb (ne1 (ZD hx)),KB h hx,Zp rfl,Zb (ne1 (Zan _ _)),YE,← hs,if_neg (by simp [cop])]
 | e :: ks, pre, q, hs, hq => by
  obtain ⟨q',rfl⟩:∃ q',q=q'+1:=⟨q-1,by simp at hq;omega⟩
  have hl:=ho.len
  have hel:r.es.length=pre.length+ks.length+1:=by rw [hs];simp;omega
  have hl1:((pre++[e]).length:Int)=((pre.length+1:Nat):Int):=by simp
  have ih:=ZjM h ho hx hid ks (pre++[e]) q' (by rw [hs];simp) (by simp at hq;omega)
  rw [hl1,ZcS,Kb] at ih
  have hkl:(Jz pre id).length≤pre.length:=by
   unfold Jz
   rw [Xp]
   exact Un _ _
  rw [Zjy,Zb (ne1 (ZD hx)),Zb (ne1 (ZD hx)),KB h hx,Zp rfl,Zb (ne1 (Zan _ _)),YE,if_pos (by simp [cop];omega),Zb (ne1 (ZD hx)),Zb (ne1 (ZD hx)),Zp rfl,Zb (by omega),YE,Zb (by omega),Zg3,Zb (ne1 (ZM r _)),YX h hs (c:=I e.p.parent) rfl,ZF,ZaB (by omega)]
  by_cases hp:e.p.parent=id
  ·have hpe:=ho.par e (by rw [hs];simp)
   rw [if_pos hp] at ih
   rw [if_pos (by simp [cop,hp]),Zb (ne1 (ZD hx)),Zb (ne1 (ZD hx)),Zp rfl,Zb (by omega),YE,Zb (by omega),Zg3,Zb (ne1 (ZM r _)),YX h hs (c:=I e.p.id) rfl,ZF,if_pos (by simp [cop];omega),Zb (ne1 (ZD hx)),Zb (ne1 (ZD hx)),Zp rfl,Zb (by omega),YE,Zb (by omega),Zg3,Zb (ne1 (ZM r _)),YX h hs (c:=I e.p.id) rfl,ZF,Zb (by unfold Jr ZC;simp;omega)]
   have e1:ints (Jz pre id)++(E0++[[AV.val (.int .i64 e.p.id)]])=ints (Jz pre id++e.p.id::Jz [] id):=by simp [ints,Jz]
   rw [e1]
   exact ih
  ·rw [if_neg hp] at ih
   rw [if_neg (by simp [cop,hp])]
   have e1:Jz pre id++Jz [] id=Jz pre id:=by simp [Jz]
   rw [e1] at ih
   exact ih
theorem s59 {x:LL} (h:ZB rows (r.frag++F)) (ho:LOk r.es r.last) (hx:Ze x = .oref (r.jr+1) 0) {id:Int} (hid:1≤id):g59 x id rows=Xa (ints (Jz r.es id),rows):=by
 rw [ZuJ]
 exact ZjM h ho hx hid r.es [] Ju rfl (by have:=ho.len;unfold Ju;omega)
end
section
open Go Go.AM Go.Proofs.Ytpjnmgjphfnmmaa
set_option maxRecDepth 100000
variable {rows:LL} {F:Ym} {r:RS} {es:List PE} {last:Int}
def pz (pid:Int) (es:List PE) (z:Int):Bool:=match es.find? (fun e=>decide (e.p.id=z)) with | none=>Xc | some c=>decide (c.p.parent=pid)
theorem ZdF {pid:Int} : ∀ (ks:List Int) (es:List PE),ks.Nodup→(∀ z∈ks,∃ c,es.find? (fun e=>decide (e.p.id=z))=Xa c)→ZT pid es ks=ZT pid es (ks.filter (pz pid es))
 | [], _, _, _ => rfl
 | z :: ks, es, hn, hin => by
  rw [Wd] at hn
  obtain ⟨c,hc⟩:=hin z (by simp)
  by_cases hz:pz pid es z=Xb
  ·rw [Wf hz]
   have ih:=ZdF (pid:=pid) ks (ZO pid es z).1 hn.2 fun y hy=>by
    obtain ⟨c',hc'⟩:=hin y (by simp [hy])
    obtain ⟨c1,t1,_⟩:=Vk (pid:=pid) (z:=z) (k:=y) (fun hh=>hn.1 (hh ▸ hy)) hc'
    exact ⟨c1,t1⟩
   have hcg:ks.filter (pz pid (ZO pid es z).1)=ks.filter (pz pid es):=by
    refine List.filter_congr fun y hy=>?_
    obtain ⟨c',hc'⟩:=hin y (by simp [hy])
    obtain ⟨c1,t1,_,_,t4,_⟩:=Vk (pid:=pid) (z:=z) (k:=y) (fun hh=>hn.1 (hh ▸ hy)) hc'
    unfold pz
    rw [t1,hc']
    dsimp only
    rw [t4]
   rw [hcg] at ih
   simp only [ZT,ih]
  ·rw [Wb hz]
   have hst:ZO pid es z=(es,[]):=by
    unfold pz at hz
    rw [hc] at hz
    unfold ZO
    rw [hc]
    dsimp only at hz ⊢
    rw [if_neg (by simpa using hz)]
   have ih:=ZdF (pid:=pid) ks es hn.2 fun y hy=>hin y (by simp [hy])
   simp only [ZT,hst,XM]
   rw [ih]
theorem Zhe (hs:es.Pairwise fun a b=>a.p.id < b.p.id):(es.map fun e=>e.p.id).Nodup:=by
 rw [Tv,U9]
 exact hs.imp fun hab hh=>by omega
theorem ZoL (hs:es.Pairwise fun a b=>a.p.id < b.p.id) {z:Int} (hz:z∈es.map fun e=>e.p.id):∃ c,es.find? (fun e=>decide (e.p.id=z))=Xa c:=by
 obtain ⟨e,he,rfl⟩:=Xk.1 hz
 exact ⟨e,Jn hs he⟩
theorem ZjK (hs:es.Pairwise fun a b=>a.p.id < b.p.id) (pid:Int):(es.map fun e=>e.p.id).filter (pz pid es)=Jz es pid:=by
 rw [List.filter_map]
 unfold Jz
 congr 1
 refine List.filter_congr fun e he=>?_
 simp only [U4,pz,Jn hs he]
theorem Zmn (hs:es.Pairwise fun a b=>a.p.id < b.p.id) (pid:Int):ZT pid es (es.map fun e=>e.p.id)=ZT pid es (Jz es pid):=by
 rw [ZdF _ _ (Zhe hs) fun z hz=>ZoL hs hz,ZjK hs]
theorem ZjU {x:LL} {zs:List Int} (hzl:zs.length≤64) {pid:Int} (hp1:1≤pid):∀ (ks pre:List Int) (rows:LL) (F:Ym) (r:RS) (e:PE) (acc:LL) (q:Nat),zs=pre++ks→ks.length < q→ks.Nodup→pid∉ks→(∀ z∈ks,∃ c,r.es.find? (fun e=>decide (e.p.id=z))=Xa c∧c.p.parent=pid)→ZB rows (r.frag++F)→LOk r.es r.last→Ze x = .oref (r.jr+1) 0→
  r.es.find? (fun e=>decide (e.p.id=pid))=Xa e→acc.length+ks.length≤100000→
  ∃ rows' ja' G q' e',ZhY q x pid acc (ints zs) (pre.length:Int) rows=ZhY (q'+1) x pid (acc++ZU (ZT pid r.es ks).2) (ints zs) (zs.length:Int) rows'∧
   ZB rows' (({ r with ja:=ja',es:=(ZT pid r.es ks).1 } : RS).frag++(G++F))∧(ZT pid r.es ks).1.find? (fun e=>decide (e.p.id=pid))=Xa e'∧e'.p.id=e.p.id∧e'.p.parent=e.p.parent∧e'.p.status=e.p.status
 | [], pre, rows, F, r, e, acc, q, hz, hq, _, _, _, h, _, _, he, _ => by
  obtain ⟨q',rfl⟩:∃ q',q=q'+1:=⟨q-1,by simp at hq;omega⟩
  have hl:zs.length=pre.length:=by rw [hz,XI]
  exact ⟨rows,r.ja,[],q',e,by rw [hl];simp [ZT,ZU],h,he,rfl,rfl,rfl⟩
 | z :: ks, pre, rows, F, r, e, acc, q, hz, hq, hn, hpn, hin, h, ho, hx, he, hacc => by
  obtain ⟨q',rfl⟩:∃ q',q=q'+1:=⟨q-1,by simp at hq;omega⟩
  rw [Wd] at hn
  obtain ⟨c,hc,hcp⟩:=hin z (by simp)
  obtain ⟨cpre,cpost,hs,rfl,hp⟩:=JZ hc
  have hz1:zs[pre.length]? = Xa c.p.id:=by rw [hz];simp
  have hlt:=(Xj.1 hz1).1
  have hl:=ho.len
  have hlen:((ints zs).length:Int)=(zs.length:Int):=by simp
  have hl1:((pre++[c.p.id]).length:Int)=((pre.length+1:Nat):Int):=by simp
  have hcm:c∈r.es:=by rw [hs];simp
  have hcpar:=ho.par c hcm
  obtain ⟨c1,hc1'⟩:∃ c1,c1=({ c with p:={ c.p with parent:=1 } } : PE):=⟨_,rfl⟩
  have hset:=ZeF (r:=r) (e':=c1) h hs (o:=1) (c:=I 1) (by decide) (by rw [hc1'];rfl)
  have hsrt:=ho.srt
  have hup:ZcP c.p.id (fun q=>{ q with parent:=1 }) r.es=cpre++c1::cpost:=by
   rw [hs] at hsrt
   rw [hs,Za4 (f:=fun q=>{ q with parent:=1 }) hsrt rfl,hc1']
  have hu:LOk (cpre++c1::cpost) r.last:=by
   rw [← hup]
   exact ZdX ho (fun _=>rfl) fun a ha hac=>⟨by show (0:Int)≤1;decide,by show (1:Int) < a.p.id;omega⟩
  have hpne:pid≠c.p.id:=fun hh=>hpn (by simp [hh])
  have hfe:∃ e1,(ZO pid r.es c.p.id).1.find? (fun a=>decide (a.p.id=pid))=Xa e1∧e1.p.id=e.p.id∧e1.p.parent=e.p.parent∧e1.p.status=e.p.status:=by
   obtain ⟨e1,g1,_,g3,g4,g5⟩:=Vk (pid:=pid) hpne he
   exact ⟨e1,g1,g3,g4,g5⟩
  obtain ⟨e1,g1,g3,g4,g5⟩:=hfe
  have hin':∀ y∈ks,∃ c',(ZO pid r.es c.p.id).1.find? (fun e=>decide (e.p.id=y))=Xa c'∧c'.p.parent=pid:=fun y hy=>by
   obtain ⟨c',hc',hcp'⟩:=hin y (by simp [hy])
   obtain ⟨c2,t1,_,_,t4,_⟩:=Vk (pid:=pid) (z:=c.p.id) (k:=y) (fun hh=>hn.1 (hh ▸ hy)) hc'
   exact ⟨c2,t1,t4.trans hcp'⟩
  -- one turn
  have key:∃ rows1 ja1 G1,ZhY (q'+1) x pid acc (ints zs) (pre.length:Int) rows=ZhY q' x pid (acc++ZU (ZO pid r.es c.p.id).2) (ints zs) ((pre.length+1:Nat):Int) rows1∧ZB rows1 (({ r with ja:=ja1,es:=(ZO pid r.es c.p.id).1 } : RS).frag++(G1++F)):=by
   rw [Zj5,hlen,if_pos (by simp [cop];omega),Z1 hz1,VA h (by omega) hx hs hp,Xh]
   dsimp only
   rw [Zb (ne1 (ZM r _)),Zb (ne1 (ZM r _)),Zb (by rw [YX h hs (c:=I c.p.parent) rfl];simp),Zb (ne1 (ZM r _)),Zb (ne1 (ZM r _))]
   have hge:=YX (r:={ r with es:=cpre++c1::cpost }) hset (pre:=cpre) (post:=cpost) (e:=c1) rfl (o:=4) (c:=B c1.p.ended) rfl
   have hrn:rn ({ r with es:=cpre++c1::cpost } : RS) cpre.length=rn r cpre.length:=rfl
   rw [hrn] at hge
   rw [hge,JQ,ZaB (by omega)]
   have hcen:c1.p.ended=c.p.ended:=by rw [hc1']
   rw [hcen]
   have hstep:ZO pid r.es c.p.id=if c.p.ended=Xb then Yi (cpre++c1::cpost) 1 c1.p else (cpre++c1::cpost,[]):=by
    unfold ZO
    rw [hc]
    dsimp only
    rw [if_pos hcp,hup,show c1.p = { c.p with parent:=1 } from by rw [hc1']]
   rw [hstep]
   cases hen:c.p.ended with
   | true =>
    rw [if_pos rfl,if_pos rfl,Z1 hz1]
    have hfc1:({ r with es:=cpre++c1::cpost } : RS).es.find? (fun e=>decide (e.p.id=c1.p.id))=Xa c1:=Jn hu.srt (by simp)
    have hci:c1.p.id=c.p.id:=by rw [hc1']
    have hcp1:c1.p.parent=1:=by rw [hc1']
    obtain ⟨rows2,ja2,G2,t1,t2⟩:=s71 (r:={ r with es:=cpre++c1::cpost }) hset hu hx hfc1 (by omega)
    rw [hcp1] at t1 t2
    rw [hci] at t1
    dsimp only at t1 t2
    rw [t1,Xh,Zb (Zgn (by omega) (by simp only [ZU,Xp];exact W7 _ _ _))]
    exact ⟨rows2,ja2,G2,rfl,t2⟩
   | false =>
    rw [if_neg (by decide),if_neg (by decide)]
    exact ⟨_,r.ja,[],by simp [ZU],hset⟩
  obtain ⟨rows1,ja1,G1,k1,k2⟩:=key
  have hst:LOk (ZO pid r.es c.p.id).1 r.last:=ZfX ho hp1
  obtain ⟨rows2,ja2,G2,q2,e2,r1,r2,r4,r5,r6,r7⟩:=ZjU hzl hp1 ks (pre++[c.p.id]) rows1 (G1++F) { r with ja:=ja1,es:=(ZO pid r.es c.p.id).1 } e1 (acc++ZU (ZO pid r.es c.p.id).2) q' (by rw [hz];simp) (by simp at hq;omega) hn.2 (fun hh=>hpn (by simp [hh])) hin' k2 hst hx g1 (by have:=Zgb pid r.es c.p.id;simp only [Xu,ZU,Xp,XA] at hacc ⊢; omega)
  refine ⟨rows2,ja2,G2++G1,q2,e2,?_,by rw [Xo];exact r2,r4,r5.trans g3,r6.trans g4,r7.trans g5⟩
  rw [k1]
  rw [hl1] at r1
  rw [r1]
  simp only [ZT,ZU,XN,Xo]
theorem Zq1 {x:LL} (h:ZB rows (r.frag++F)) (hl:r.es.length≤64) (hx:Ze x = .oref (r.jr+1) 0) {k st:Int} (hf:J0 r.es k=Xe):g57 x k st rows=Xa ([],rows):=by
 rw [Zra,VB h (by omega) hx hf,Xh]
 dsimp only
 rw [Zb (ne1 Kt),VR,if_pos (by decide)]
theorem s57 {x:LL} (h:ZB rows (r.frag++F)) (ho:LOk r.es r.last) (hx:Ze x = .oref (r.jr+1) 0) {e:PE} {k:Int} (hf:J0 r.es k=Xa e) (st:Int) :
  ∃ rows' ja' G,g57 x k st rows=Xa (ZU (Y6 r.es k st).2,rows')∧ZB rows' (({ r with ja:=ja',es:=(Y6 r.es k st).1 } : RS).frag++(G++F)):=by
 obtain ⟨hfe,hen⟩:=Je hf
 obtain ⟨pre,post,hs,rfl,hp⟩:=JZ hfe
 have hl:=ho.len
 rw [Zra,KZ h (by omega) hx hs hp hen,Xh]
 dsimp only
 obtain ⟨e1,he1⟩:∃ e1,e1=({ e with p:={ e.p with ended:=Xb } } : PE):=⟨_,rfl⟩
 obtain ⟨e2,he2⟩:∃ e2,e2=({ e with p:={ e.p with ended:=Xb,cores:=[] } } : PE):=⟨_,rfl⟩
 obtain ⟨e3,he3⟩:∃ e3,e3=({ e with p:={ e.p with ended:=Xb,cores:=[],waiting:=Xc } } : PE):=⟨_,rfl⟩
 have h1:=ZeF (r:=r) (e':=e1) h hs (o:=4) (c:=B Xb) (by decide) (by rw [he1];rfl)
 have h2:=ZeF (r:={ r with es:=pre++e1::post }) (e':=e2) h1 (pre:=pre) (post:=post) (e:=e1) rfl (o:=3) (c:=.slice Xc 1 []) (by decide) (by rw [he1,he2];rfl)
 have h3:=ZeF (r:={ r with es:=pre++e2::post }) (e':=e3) h2 (pre:=pre) (post:=post) (e:=e2) rfl (o:=6) (c:=B Xc) (by decide) (by rw [he2,he3];rfl)
 have h4:=ZeF (r:={ r with es:=pre++e3::post }) (e':=J8 st e) h3 (pre:=pre) (post:=post) (e:=e3) rfl (o:=5) (c:=I st) (by decide) (by rw [he3];rfl)
 have g1:=YX (r:={ r with es:=pre++e1::post }) h1 (pre:=pre) (post:=post) (e:=e1) rfl (o:=3) (c:=.slice Xc 1 (ints e1.p.cores)) rfl
 have g2:=YX (r:={ r with es:=pre++e2::post }) h2 (pre:=pre) (post:=post) (e:=e2) rfl (o:=6) (c:=B e2.p.waiting) rfl
 have g3:=YX (r:={ r with es:=pre++e3::post }) h3 (pre:=pre) (post:=post) (e:=e3) rfl (o:=5) (c:=I e3.p.status) rfl
 have hn1:rn ({ r with es:=pre++e1::post } : RS) pre.length=rn r pre.length:=rfl
 have hn2:rn ({ r with es:=pre++e2::post } : RS) pre.length=rn r pre.length:=rfl
 have hn3:rn ({ r with es:=pre++e3::post } : RS) pre.length=rn r pre.length:=rfl
 rw [hn1] at g1 h2
 rw [hn2] at g2 h3
 rw [hn3] at g3 h4
 rw [Zb (ne1 (Y3 r _)),ZM,if_neg (by decide),Zb (by simp),Zb (by simp),Zb (by rw [YX h hs (c:=B e.p.ended) rfl];simp),Zb (by simp),Zb (by simp),Zb (by rw [g1];simp),Zb (by simp),Zb (by simp),Zb (by rw [g2];simp),Zb (by simp),Zb (by simp),Zb (by rw [g3];simp)]
 have hsrt:=ho.srt
 have hup:Yh e.p.id (J8 st) r.es=pre++J8 st e::post:=by
  rw [hs] at hsrt
  rw [hs,Vd (f:=J8 st) hsrt rfl]
 unfold Y6
 rw [hfe]
 dsimp only at h4 ⊢
 rw [← hup] at h4
 have hu:LOk (Yh e.p.id (J8 st) r.es) r.last:=Zbg ho (fun _=>rfl) fun _=>rfl
 by_cases hid:e.p.id=1
 ·rw [if_pos (by simp [cop,hid]),if_pos hid]
  exact ⟨_,r.ja,[],rfl,h4⟩
 ·have hem:e∈r.es:=by rw [hs];simp
  have hrg:=ho.rng e hem
  rw [if_neg (by simp [cop,hid]),if_neg hid,s59 (r:={ r with es:=Yh e.p.id (J8 st) r.es }) h4 hu hx hrg.1,Xh]
  dsimp only
  have hids:(r.es.map fun e=>e.p.id)=(Yh e.p.id (J8 st) r.es).map fun e=>e.p.id:=(Zgy (f:=J8 st) fun _=>rfl).symm
  rw [hids,Zmn hu.srt]
  have hkm:∀ z∈Jz (Yh e.p.id (J8 st) r.es) e.p.id,∃ c,(Yh e.p.id (J8 st) r.es).find? (fun e=>decide (e.p.id=z))=Xa c∧c.p.parent=e.p.id:=fun z hz=>by
   obtain ⟨c,hc,rfl⟩:=Xk.1 hz
   rw [Wu] at hc
   exact ⟨c,Jn hu.srt hc.1,by simpa using hc.2⟩
  have hkl:(Jz (Yh e.p.id (J8 st) r.es) e.p.id).length≤64:=by
   unfold Jz
   rw [Xp]
   exact XJ (Un _ _) hu.len
  have hkn:(Jz (Yh e.p.id (J8 st) r.es) e.p.id).Nodup:=by
   rw [← ZjK hu.srt]
   exact (Zhe hu.srt).filter _
  have hkp:e.p.id∉Jz (Yh e.p.id (J8 st) r.es) e.p.id:=fun hh=>by
   obtain ⟨c,hc,hcp⟩:=hkm _ hh
   have hcm:=Ua hc
   have hci:c.p.id=e.p.id:=by have:=Wj hc;simpa using this
   have:=hu.par c hcm
   omega
  have hfe2:=Zel (k:=e.p.id) (f:=J8 st) (fun _=>rfl) hfe
  rw [if_pos rfl] at hfe2
  obtain ⟨rows2,ja2,G2,q2,e5,r1,r2,r4,r5,r6,r7⟩:=ZjU hkl hrg.1 (Jz (Yh e.p.id (J8 st) r.es) e.p.id) [] _ F { r with es:=Yh e.p.id (J8 st) r.es } (J8 st e) [] Ju rfl (by unfold Ju;omega) hkn hkp hkm h4 hu hx hfe2 (by simp;omega)
  have hz:((([] : List Int).length:Nat):Int)=0:=rfl
  rw [hz] at r1
  dsimp only at r1 r2 r4
  have hlen:((ints (Jz (Yh e.p.id (J8 st) r.es) e.p.id)).length:Int)=((Jz (Yh e.p.id (J8 st) r.es) e.p.id).length:Int):=by simp
  have hlk:LOk (ZT e.p.id (Yh e.p.id (J8 st) r.es) (Jz (Yh e.p.id (J8 st) r.es) e.p.id)).1 r.last:=Zf8 hrg.1 _ _ hu
  have h5id:e5.p.id=e.p.id:=r5
  have r4':(ZT e.p.id (Yh e.p.id (J8 st) r.es) (Jz (Yh e.p.id (J8 st) r.es) e.p.id)).1.find? (fun a=>decide (a.p.id=e5.p.id))=Xa e5:=by rw [h5id];exact r4
  obtain ⟨rows3,ja3,G3,t1,t2⟩:=s71 (r:={ r with ja:=ja2,es:=(ZT e.p.id (Yh e.p.id (J8 st) r.es) (Jz (Yh e.p.id (J8 st) r.es) e.p.id)).1 }) r2 hlk hx (c:=e5) r4' (by omega)
  dsimp only at t1 t2
  have htc:∀ es,Yi es e5.p.parent e5.p=Yi es e.p.parent (J8 st e).p:=fun es=>by
   rw [show e5.p.parent=e.p.parent from r6]
   exact Zfa h5id r7
  rw [htc] at t1 t2
  rw [h5id] at t1
  rw [r1,Zj5,hlen,if_neg (by simp [cop]),t1,Xh,Zb (Zgn ?_ ?_)]
  ·refine ⟨rows3,ja3,G3++G2,?_,by rw [Xo];exact t2⟩
   simp only [ZU,XN,XM]
  ·have:=ZcF e.p.id (Jz (Yh e.p.id (J8 st) r.es) e.p.id) (Yh e.p.id (J8 st) r.es)
   simp only [XM,ZU,Xp] at this ⊢
   omega
  ·simp only [ZU,Xp]
   exact W7 _ _ _
theorem s37 {x:LL} (h:ZB rows (r.frag++F)) (ho:LOk r.es r.last) (hx:Ze x = .oref (r.jr+1) 0) (k st:Int) :
  ∃ rows' ja' G,g37 x k st rows=Xa (ZU (K8 r.es k st).1.2,(K8 r.es k st).2,rows')∧ZB rows' (({ r with ja:=ja',es:=(K8 r.es k st).1.1 } : RS).frag++(G++F)):=by
 have hl:=ho.len
 rw [ZtJ]
 unfold K8
 cases hf:J0 r.es k with
 | none =>
  rw [VB h (by omega) hx hf,Xh]
  dsimp only
  rw [Zb (ne1 Kt),VR,if_pos (by decide)]
  exact ⟨rows,r.ja,[],rfl,h⟩
 | some e =>
  obtain ⟨hfe,hen⟩:=Je hf
  obtain ⟨pre,post,hs,rfl,hp⟩:=JZ hfe
  rw [KZ h (by omega) hx hs hp hen,Xh]
  dsimp only
  rw [Zb (ne1 (Y3 r _)),ZM,if_neg (by decide)]
  by_cases h1:st < 0
  ·rw [if_pos (by simp [cop,h1]),if_pos h1]
   exact ⟨rows,r.ja,[],rfl,h⟩
  ·rw [if_neg (by simp [cop];omega),if_neg h1]
   by_cases h2:255 < st
   ·rw [if_pos (by simp [cop,h2]),if_pos h2]
    exact ⟨rows,r.ja,[],rfl,h⟩
   ·rw [if_neg (by simp [cop];omega),if_neg h2]
    obtain ⟨rows1,ja1,G1,q1,q2⟩:=s57 h ho hx hf st
    rw [q1]
    exact ⟨rows1,ja1,G1,rfl,q2⟩
end
section
open Go Go.AM Go.Proofs.Ytpjnmgjphfnmmaa
set_option maxRecDepth 100000
variable {rows:LL} {F:Ym} {r:RS} {es:List PE} {last:Int}
theorem Zf7 {x:LL} (h:ZB rows (r.frag++F)) (ho:LOk r.es r.last) (hx:Ze x = .oref (r.jr+1) 0) (id:Int) {pp pq:List PE} {p:PE} (hpp:r.es=pp++p::pq):∀ (ks pre:List PE) (q:Nat),r.es=pre++ks→ks.length < q→
  ZpJ q x id 0 0 0 (rn r pp.length) (ints (Jz r.es id)) ((Jz pre id).length:Int) rows =
   match ks.find? (fun e=>decide (e.p.parent=id)&&e.p.ended) with
   | some c => (g61 x c.p.id rows).bind fun r16 => Xa (id, c.p.id, c.p.status, Xb, 0, r16)
   | none => Xa (0, 0, 0, Xc, 0, Zd .set rows 0 (Zd (.padd 6) (rn r pp.length) 0 E0 []) [B Xb])
 | [], pre, q, hs, hq => by
  obtain ⟨q',rfl⟩:∃ q',q=q'+1:=⟨q-1,by simp at hq;omega⟩
  rw [XI] at hs
  have hlen:((ints (Jz r.es id)).length:Int)=((Jz r.es id).length:Int):=by simp
  rw [Zk3,hlen,← hs,if_neg (by simp [cop]),Zb (ne1 (ZM r _)),Zb (ne1 (ZM r _)),Zb (by rw [YX h hpp (c:=B p.p.waiting) rfl];simp)]
  rfl
 | e :: ks, pre, q, hs, hq => by
  have hl:=ho.len
  by_cases hp:e.p.parent=id
  ·obtain ⟨q',rfl⟩:∃ q',q=q'+1:=⟨q-1,by simp at hq;omega⟩
   have hlen:((ints (Jz r.es id)).length:Int)=((Jz r.es id).length:Int):=by simp
   have hke:Jz r.es id=Jz pre id++e.p.id::Jz ks id:=by rw [hs,ZcS,Kb,if_pos hp]
   have hz:(Jz r.es id)[(Jz pre id).length]? = Xa e.p.id:=by rw [hke];simp
   have hlt:=(Xj.1 hz).1
   have hkl:(Jz r.es id).length≤64:=by
    unfold Jz
    rw [Xp]
    exact XJ (Un _ _) hl
   have hem:e∈r.es:=by rw [hs];simp
   obtain ⟨pre2,post2,hs2,_,hp2⟩:=JZ (Jn ho.srt hem)
   rw [Zk3,hlen,if_pos (by simp [cop];omega),Z1 hz,VA h (by omega) hx hs2 hp2,Xh]
   dsimp only
   rw [Zb (ne1 (ZM r _)),Zb (ne1 (ZM r _)),YX h hs2 (c:=B e.p.ended) rfl,JQ]
   cases hen:e.p.ended with
   | true =>
    rw [if_pos rfl,Zb (ne1 (ZM r _)),Zb (ne1 (ZM r _)),YX h hs2 (c:=I e.p.id) rfl,ZF,Zb (ne1 (ZM r _)),Zb (ne1 (ZM r _)),YX h hs2 (c:=I e.p.status) rfl,ZF,Zb (ne1 (ZM r _)),Zb (ne1 (ZM r _)),ZF]
    simp only [UU,hp,hen,decide_true,X8]
   | false =>
    have ih:=Zf7 h ho hx id hpp ks (pre++[e]) q' (by rw [hs];simp) (by simp at hq;omega)
    have hk1:((Jz (pre++[e]) id).length:Int)=(((Jz pre id).length+1:Nat):Int):=by rw [ZcS,Kb,if_pos hp];simp [Jz]
    rw [hk1] at ih
    rw [if_neg (by decide),ZaB (by omega),ih]
    simp only [UU,hp,hen,decide_true,X8]
  ·have ih:=Zf7 h ho hx id hpp ks (pre++[e]) q (by rw [hs];simp) (by simp at hq;omega)
   have hk1:Jz (pre++[e]) id=Jz pre id:=by rw [ZcS,Kb,if_neg hp];simp [Jz]
   rw [hk1] at ih
   rw [ih]
   simp only [UU,hp,decide_false,Bool.false_and]
theorem Zkt (es:List PE) (id:Int):(es.any fun e=>decide (e.p.parent=id))=Xb↔Jz es id≠[]:=by
 induction es with
 | nil => simp [Jz]
 | cons e es ih =>
  rw [U8,Kb]
  by_cases hp:e.p.parent=id
  ·simp [hp]
  ·rw [if_neg hp,← ih]
   simp [hp]
theorem s40 {x:LL} (h:ZB rows (r.frag++F)) (ho:LOk r.es r.last) (hx:Ze x = .oref (r.jr+1) 0) (k:Int) :
  ∃ rows' ja' G,g40 x k rows=Xa ((Y2 r.es k).2.1,(Y2 r.es k).2.2.1,(Y2 r.es k).2.2.2.1,(Y2 r.es k).2.2.2.2.1,(Y2 r.es k).2.2.2.2.2,rows')∧ZB rows' (({ r with ja:=ja',es:=(Y2 r.es k).1 } : RS).frag++(G++F)):=by
 have hl:=ho.len
 rw [ZtE]
 unfold Y2
 cases hf:J0 r.es k with
 | none =>
  rw [VB h (by omega) hx hf,Xh]
  dsimp only
  rw [Zb (ne1 Kt),VR,if_pos (by decide)]
  exact ⟨rows,r.ja,[],rfl,h⟩
 | some p =>
  obtain ⟨hfe,hen⟩:=Je hf
  obtain ⟨pre,post,hs,rfl,hp⟩:=JZ hfe
  have hpm:p∈r.es:=by rw [hs];simp
  have hrg:=ho.rng p hpm
  rw [KZ h (by omega) hx hs hp hen,Xh]
  dsimp only
  rw [Zb (ne1 (Y3 r _)),ZM,if_neg (by decide),Zb (by simp),Zb (by simp),YX h hs (c:=B p.p.waiting) rfl,JQ]
  cases hw:p.p.waiting with
  | true => exact ⟨rows, r.ja, [], rfl, h⟩
  | false =>
   rw [if_neg (by decide),if_neg (by decide),s59 h ho hx hrg.1,Xh]
   dsimp only
   by_cases hk:Jz r.es p.p.id = []
   ·have hany:(r.es.any fun e=>decide (e.p.parent=p.p.id))=Xc:=by
     have:=Zkt r.es p.p.id
     rw [hk] at this
     simpa using this
    have hfn:r.es.find? (fun e=>decide (e.p.parent=p.p.id)&&e.p.ended)=Xe:=by
     rw [Tk]
     intro a ha
     have:=List.any_eq_false.1 hany a ha
     simp at this ⊢
     intro hh
     exact absurd hh this
    rw [hk,if_pos (by decide),hfn]
    dsimp only
    rw [if_neg (by rw [hany];decide)]
    exact ⟨rows,r.ja,[],rfl,h⟩
   ·have hany:(r.es.any fun e=>decide (e.p.parent=p.p.id))=Xb:=(Zkt r.es p.p.id).2 hk
    have hlen:((ints (Jz r.es p.p.id)).length:Int)=((Jz r.es p.p.id).length:Int):=by simp
    have hlp:=Zf7 h ho hx p.p.id hs r.es [] Ju rfl (by unfold Ju;omega)
    have hz:(((Jz [] p.p.id).length:Nat):Int)=0:=rfl
    rw [hz] at hlp
    rw [hlen,if_neg (by simp [cop,hk]),hlp]
    cases hfc:r.es.find? (fun e=>decide (e.p.parent=p.p.id)&&e.p.ended) with
    | some c =>
     have hcm:=Ua hfc
     have hcp:c.p.parent=p.p.id:=by
      have:=Wj hfc
      rw [Xs] at this
      simpa using this.1
     have hcpar:=ho.par c hcm
     obtain ⟨rows2,ja2,q1,q2⟩:=s61 (x:=x) (k:=c.p.id) h hl hx (Zrw ho (by omega))
     dsimp only
     rw [q1]
     exact ⟨rows2,ja2,_,rfl,q2⟩
    | none =>
     dsimp only
     rw [if_pos hany]
     have hset:=ZeF (r:=r) (e':={ p with p:={ p.p with waiting:=Xb } }) h hs (o:=6) (c:=B Xb) (by decide) rfl
     have hsrt:=ho.srt
     rw [hs] at hsrt
     have hup:=Za4 (f:=fun q=>{ q with waiting:=Xb }) hsrt rfl
     rw [← hs] at hup
     rw [← hup] at hset
     exact ⟨_,r.ja,[],rfl,hset⟩
theorem Zb7:∀ (a b:List Int),a.Pairwise (fun x y=>x≤y)→b.Pairwise (fun x y=>x≤y)→a.Perm b→a=b
 | [], b, _, _, h => (List.nil_perm.1 h).symm
 | x :: a, b, ha, hb, h => by
  cases b with
  | nil => exact (List.perm_nil.1 h)
  | cons y b =>
   have ha':=Um.1 ha
   have hb':=Um.1 hb
   have h1:x∈y::b:=h.mem_iff.1 (by simp)
   have h2:y∈x::a:=h.mem_iff.2 (by simp)
   have h3:y≤x:=by
    rcases Xq.1 h1 with rfl | h1
    ·omega
    ·exact hb'.1 _ h1
   have h4:x≤y:=by
    rcases Xq.1 h2 with rfl | h2
    ·omega
    ·exact ha'.1 _ h2
   have:x=y:=by omega
   subst this
   rw [Zb7 a b ha'.2 hb'.2 (List.perm_cons x |>.1 h)]
theorem KT (l:List Int):(srt l).Perm l:=List.mergeSort_perm l _
theorem W5 (l:List Int):(srt l).Pairwise (fun x y=>x≤y):=by
 have:=List.pairwise_mergeSort (le:=fun a b:Int=>decide (a≤b)) (fun a b c h1 h2=>by simp at *; omega) (fun a b=>by simp;omega) l
 exact this.imp fun h=>by simpa using h
theorem Zoe {a b:List Int} (h:a.Perm b):srt a=srt b:=Zb7 _ _ (W5 a) (W5 b) ((KT a).trans (h.trans (KT b).symm))
theorem ZjT (l:List Int) (w:Nat) (hw:w < l.length) (z:Int):Jg (ints l) w 0 [AV.val (.int .i64 z)]=ints (l.set w z):=by
 have:(ints l)[w]? = Xa [I l[w]]:=by unfold ints;rw [Xl,Xr hw];rfl
 have hm:=modify_set this (fun x=>setCells x 0 [AV.val (.int .i64 z)])
 rw [show Jg (ints l) w 0 [AV.val (.int .i64 z)]=(ints l).modify w (fun x=>setCells x 0 [AV.val (.int .i64 z)]) from rfl,hm]
 unfold ints
 rw [List.map_set]
 rfl
theorem ZsH (rec0:List V→Option LL) (i:Nat) (hi:i < 50000):∀ (j fuel:Nat) (A:List Int) (x:Int) (Bs D:List Int),j < fuel→A.length=j→(A++Bs).Pairwise (fun x y=>x≤y)→(∀ b∈Bs,x≤b)→A.length+Bs.length=i→
  ∃ X:List Int,X.Perm (A++x::(Bs++D))∧(X.take (i+1)).Pairwise (fun x y=>x≤y)∧Zqc rec0 fuel (ints (A++x::(Bs++D))) (i:Int) (j:Int)=rec0 [.l (ints X),.i ((i+1:Nat):Int)]:=by
 intro j
 induction j with
 | zero =>
  intro fuel A x Bs D hf hA hs hx hl
  obtain ⟨f,rfl⟩:∃ f,fuel=f+1:=⟨fuel-1,by omega⟩
  obtain rfl:=Ty.1 hA
  refine ⟨_,List.Perm.refl _,?_,?_⟩
  ·have hBi:Bs.length=i:=by simpa using hl
   have:List.take (i+1) ([]++x::(Bs++D))=x::Bs:=by
    rw [XM,List.take_succ_cons,Tz (by omega),← hBi,Th]
   rw [this]
   exact Um.2 ⟨hx,hs⟩
  ·rw [Zlg,if_neg (by simp [cop]),ZaB (by omega)]
 | succ j ih =>
  intro fuel A x Bs D hf hA hs hx hl
  obtain ⟨f,rfl⟩:∃ f,fuel=f+1:=⟨fuel-1,by omega⟩
  obtain ⟨A',a,rfl⟩:∃ A' a,A=A'++[a]:=⟨A.dropLast,A.getLast (fun h=>by rw [h] at hA;simp at hA),(List.dropLast_concat_getLast _).symm⟩
  have hA':A'.length=j:=by simpa using hA
  have hform:(A'++[a])++x::(Bs++D)=A'++a::x::(Bs++D):=by simp
  have hli:A'.length+1+Bs.length=i:=by simpa using hl
  rw [hform]
  have hsub:iop .sub .i64 ((j+1:Nat):Int) 1=(j:Int):=by rw [ZvE (by omega) (by omega)];omega
  have e1:(A'++a::x::(Bs++D))[j+1]? = Xa x:=by rw [Xy (by omega),hA'];simp
  have e0:(A'++a::x::(Bs++D))[j]? = Xa a:=by rw [Xy (by omega),hA'];simp
  have hXl:(A'++a::x::(Bs++D)).length=j+2+Bs.length+D.length:=by simp;omega
  have hlen:∀ l:List Int,((ints l).length:Int)=(l.length:Int):=fun l=>by simp
  rw [Zlg,if_pos (by simp [cop]),hsub,Zb (by omega),hlen,Zb (by omega),Z1 e1,Zb (by omega),Zb (by omega),Z1 e0]
  by_cases hlt:x < a
  ·rw [if_pos (by simp [cop,hlt]),Zb (by omega),Zb (by omega),Z1 e1,Zb (by omega),Zb (by omega),Z1 e0,Zb (by omega),Zb (by omega),Zb (by omega),Zb (by omega),Wo,Wo,ZjT _ _ (by omega),hlen,UN,Zb (by omega),Zb (by omega),Zb (by omega),Zb (by omega),ZjT _ _ (by rw [UN];omega)]
   have hsw:((A'++a::x::(Bs++D)).set (j+1) a).set j x=A'++x::((a::Bs)++D):=by
    rw [Tx _ _ (by omega),Tx _ _ (by omega),hA',Uz,show j+1-j=1 by omega]
    rfl
   rw [hsw]
   obtain ⟨X,h1,h2,h3⟩:=ih f A' x (a::Bs) D (by omega) hA' (by
     have:A'++a::Bs=(A'++[a])++Bs:=by simp
     rw [this];exact hs) (fun b hb=>by
     rcases Xq.1 hb with rfl | hb
     ·omega
     ·exact hx b hb) (by rw [XA];omega)
   exact ⟨X,h1.trans (List.Perm.append_left _ (List.Perm.swap a x (Bs++D))),h2,h3⟩
  ·rw [if_neg (by simp [cop];omega),ZaB (by omega)]
   refine ⟨_,List.Perm.refl _,?_,rfl⟩
   have:List.take (i+1) (A'++a::x::(Bs++D))=(A'++[a])++x::Bs:=by
    have h2:A'++a::x::(Bs++D)=((A'++[a])++x::Bs)++D:=by simp
    have h3:((A'++[a])++x::Bs).length=i+1:=by simp;omega
    rw [h2,Tz (by omega),← h3,Th]
   rw [this]
   obtain ⟨h1,h2,h3⟩:=Ub.1 hs
   obtain ⟨h4,_,h5⟩:=Ub.1 h1
   refine Ub.2 ⟨h1,Um.2 ⟨hx,h2⟩,fun y hy b hb=>?_⟩
   have hya:y≤a:=by
    rcases Xw.1 hy with hy | hy
    ·exact h5 y hy a (by simp)
    ·rw [XG] at hy;omega
   rcases Xq.1 hb with rfl | hb
   ·omega
   ·have:=hx b hb;omega
theorem Zld:∀ (d i k:Nat) (X:List Int),i+d=X.length→1≤i→d < k→X.length < 50000→(X.take i).Pairwise (fun x y=>x≤y)→∃ Y:List Int,Y.Perm X∧Y.Pairwise (fun x y=>x≤y)∧ZsK k (ints X) (i:Int)=Xa (ints Y)
 | 0, i, k, X, hd, h1, hk, hl, hs => by
  obtain ⟨k',rfl⟩:∃ k',k=k'+1:=⟨k-1,by omega⟩
  have hlen:((ints X).length:Int)=(X.length:Int):=by simp
  rw [ZgP,hlen,if_neg (by simp [cop];omega)]
  have:X.take i=X:=Uo (by omega)
  rw [this] at hs
  exact ⟨X,List.Perm.refl _,hs,rfl⟩
 | d + 1, i, k, X, hd, h1, hk, hl, hs => by
  obtain ⟨k',rfl⟩:∃ k',k=k'+1:=⟨k-1,by omega⟩
  have hlen:((ints X).length:Int)=(X.length:Int):=by simp
  have hi:i < X.length:=by omega
  have hform:X=X.take i++X[i]::([]++X.drop (i+1)):=by
   rw [XM,List.getElem_cons_drop,List.take_append_drop]
  obtain ⟨Y,p1,p2,p3⟩:=ZsH (F72.lp [2] 0 r0 k') i (by omega) i Ju (X.take i) X[i] [] (X.drop (i+1)) (by unfold Ju;omega) (by rw [XS];omega) (by rw [XI];exact hs) (fun b hb=>by cases hb) (by rw [XS];simp;omega)
  rw [← hform] at p1 p3
  have hYl:Y.length=X.length:=p1.length_eq
  obtain ⟨Z,q1,q2,q3⟩:=Zld d (i+1) k' Y (by omega) (by omega) (by omega) (by omega) p2
  rw [ZgP,hlen,if_pos (by simp [cop];omega),p3]
  exact ⟨Z,q1.trans p1,q2,q3⟩
theorem s72 (zs:List Int) (hl:zs.length < 50000):g72 (ints zs)=Xa (ints (srt zs)):=by
 rw [ZuA,Zb (by unfold Jr ZC;simp;omega)]
 have fin:∀ Y:List Int,Y.Perm zs→Y.Pairwise (fun x y=>x≤y)→Y=srt zs:=fun Y h1 h2=>Zb7 _ _ h2 (W5 zs) (h1.trans (KT zs).symm)
 cases zs with
 | nil =>
  have h0:srt [] = []:=by simp [srt]
  rw [show Ju=1208925819614629174706175+1 from rfl,ZgP,if_neg (by decide),h0]
 | cons z zs =>
  obtain ⟨Y,h1,h2,h3⟩:=Zld zs.length 1 Ju (z::zs) (by simp;omega) (by omega) (by simp at hl;unfold Ju;omega) hl (by simp)
  have h1c:((1:Nat):Int)=1:=rfl
  rw [h1c] at h3
  rw [h3,fin Y h1 h2]
end
section
open Go Go.AM Go.Proofs.Ytpjnmgjphfnmmaa
set_option maxRecDepth 100000
variable {rows:LL} {F:Ym} {r:RS} {es:List PE} {last:Int}
theorem ZfH (ho:LOk es last) (n:Nat) (id:Int):(JW n es id).length≤64:=by
 rw [Zgr ho.srt]
 refine XJ (ZnT _ _ fun e _=>?_) ho.len
 have:=ZrO (es:=es) (fun a ha=>(ho.par a ha).2) n e.p.id id
 split at this<;>omega
theorem Zdi {f g:Int→List Int} (h:∀ c,(f c).Perm (g c)):∀ l:List Int,(l.flatMap fun c=>c::f c).Perm (l.flatMap fun c=>c::g c)
 | [] => List.Perm.refl _
 | c :: l => by
  rw [UF,UF]
  exact List.Perm.append (List.Perm.cons _ (h c)) (Zdi h l)
theorem s58 {x:LL} (h:ZB rows (r.frag++F)) (ho:LOk r.es r.last) (hx:Ze x = .oref (r.jr+1) 0):∀ (k:Nat) (e:PE),e∈r.es→Zjc r.es e.p.id < k→g58 (G58 k) x e.p.id rows=Xa (ints (srt (JW k r.es e.p.id)),rows):=by
 intro k
 induction k with
 | zero => intro e he hab; omega
 | succ k ih =>
  intro e he hab
  have hl:=ho.len
  have hrg:=ho.rng e he
  obtain ⟨pre,post,hs,_,hp⟩:=JZ (Jn ho.srt he)
  have hgo:g58 (G58 (k+1)) x e.p.id rows=g58 (F58 (G58 k)).S.g x e.p.id rows:=rfl
  rw [hgo,Zts,VA h (by omega) hx hs hp,Xh]
  dsimp only
  rw [Zb (ne1 (Y3 r _)),ZM,if_neg (by decide),s59 h ho hx hrg.1,Xh]
  dsimp only
  have hdl:=ZfH ho (k+1) e.p.id
  have hpl:=(Zdi (fun c=>KT (JW k r.es c)) (Jz r.es e.p.id)).length_eq
  have hkl:(Jz r.es e.p.id).length≤64:=by
   unfold Jz
   rw [Xp]
   exact XJ (Un _ _) hl
  have loop:∀ (ks pre acc:List Int) (q:Nat),Jz r.es e.p.id=pre++ks→ks.length < q→acc.length+(ks.flatMap fun c=>c::srt (JW k r.es c)).length≤64→
    Zqx (G58 k) q x (ints acc) (ints (Jz r.es e.p.id)) (pre.length:Int) rows=Xa (ints (srt (acc++ks.flatMap fun c=>c::srt (JW k r.es c))),rows):=by
   intro ks
   induction ks with
   | nil =>
    intro pre acc q hk hq ha
    obtain ⟨q',rfl⟩:∃ q',q=q'+1:=⟨q-1,by simp at hq;omega⟩
    rw [XI] at hk
    have hlen:((ints (Jz r.es e.p.id)).length:Int)=(pre.length:Int):=by simp [hk]
    have hal:acc.length≤64:=by simp at ha;omega
    rw [Zks,hlen,if_neg (by simp [cop]),s72 acc (by omega)]
    simp
   | cons c ks ihk =>
    intro pre acc q hk hq ha
    obtain ⟨q',rfl⟩:∃ q',q=q'+1:=⟨q-1,by simp at hq;omega⟩
    have hlen:((ints (Jz r.es e.p.id)).length:Int)=((Jz r.es e.p.id).length:Int):=by simp
    have hz:(Jz r.es e.p.id)[pre.length]? = Xa c:=by rw [hk];simp
    have hlt:=(Xj.1 hz).1
    have hcm:c∈Jz r.es e.p.id:=by rw [hk];simp
    obtain ⟨a,ha2,rfl⟩:=Xk.1 hcm
    rw [Wu] at ha2
    have hap:a.p.parent=e.p.id:=by simpa using ha2.2
    have hpar:=ho.par a ha2.1
    have hab2:=Zlh ha2.1 (show e.p.id < a.p.id by omega)
    have hl1:((pre++[a.p.id]).length:Int)=((pre.length+1:Nat):Int):=by simp
    simp only [UF,XL,XA,Xu] at ha
    have hsl:=ZbN (JW k r.es a.p.id)
    rw [Zks,hlen,if_pos (by simp [cop];omega),Z1 hz,Zb (by unfold Jr ZC;simp;omega),Z1 hz,ih a ha2.1 (by omega),Xh]
    dsimp only
    rw [Zb (by unfold Jr ZC;simp;omega),ZaB (by omega)]
    have e1:(ints acc++(E0++[[AV.val (.int .i64 a.p.id)]]))++ints (srt (JW k r.es a.p.id))=ints (acc++a.p.id::srt (JW k r.es a.p.id)):=by simp [ints]
    have:=ihk (pre++[a.p.id]) (acc++a.p.id::srt (JW k r.es a.p.id)) q' (by rw [hk];simp) (by simp at hq;omega) (by simp only [Xu,XA];omega)
    rw [hl1] at this
    rw [e1,this]
    simp
  have hlp:=loop (Jz r.es e.p.id) [] [] Ju rfl (by unfold Ju;omega) (by
   have:(JW (k+1) r.es e.p.id).length=((Jz r.es e.p.id).flatMap fun c=>c::JW k r.es c).length:=rfl
   simp only [XT]
   omega)
  have hz:((([] : List Int).length:Nat):Int)=0:=rfl
  rw [hz] at hlp
  have hi0:(ints ([] : List Int))=E0:=rfl
  rw [hi0] at hlp
  rw [hlp,XM]
  rw [Zoe (Zdi (fun c=>KT (JW k r.es c)) (Jz r.es e.p.id))]
  rfl
theorem Zjd {x:LL} (hx':∀ r:RS,Ze x = .oref (r.jr+1) 0→True) {zs:List Int} (hzl:zs.length≤1000):∀ (ks pre:List Int) (rows:LL) (F:Ym) (r:RS) (acc:LL) (q:Nat),zs=pre++ks→ks.length < q→ZB rows (r.frag++F)→LOk r.es r.last→Ze x = .oref (r.jr+1) 0→acc.length+65*ks.length≤100000→
  ∃ rows' ja' G,Zpy q x (ints zs) acc (pre.length:Int) rows=Xa (acc++ZU (Zj (-1) r.es ks).2,0,rows')∧ZB rows' (({ r with ja:=ja',es:=(Zj (-1) r.es ks).1 } : RS).frag++(G++F))
 | [], pre, rows, F, r, acc, q, hz, hq, h, ho, hx, _ => by
  obtain ⟨q',rfl⟩:∃ q',q=q'+1:=⟨q-1,by simp at hq;omega⟩
  have hl:zs.length=pre.length:=by rw [hz,XI]
  have hlen:((ints zs).length:Int)=(zs.length:Int):=by simp
  rw [ZjS,hlen,hl,if_neg (by simp [cop])]
  exact ⟨rows,r.ja,[],by simp [Zj,ZU],h⟩
 | z :: ks, pre, rows, F, r, acc, q, hz, hq, h, ho, hx, hacc => by
  obtain ⟨q',rfl⟩:∃ q',q=q'+1:=⟨q-1,by simp at hq;omega⟩
  have hz1:zs[pre.length]? = Xa z:=by rw [hz];simp
  have hi:=(Xj.1 hz1).1
  have hlen:((ints zs).length:Int)=(zs.length:Int):=by simp
  have hl1:((pre++[z]).length:Int)=((pre.length+1:Nat):Int):=by simp
  have hrl:=ho.len
  rw [ZjS,hlen,if_pos (by simp [cop];omega),Zb (by omega),Zb (by omega),Z1 hz1,ZaB (by omega)]
  cases hr:J0 r.es z with
  | none =>
   rw [Zq1 h hrl hx hr,Xh,Zb (by unfold Jr ZC;simp only [XT];omega)]
   obtain ⟨rows2,ja2,G2,q1,q2⟩:=Zjd hx' hzl ks (pre++[z]) rows F r acc q' (by rw [hz];simp) (by simp at hq;omega) h ho hx (by simp at hacc;omega)
   rw [hl1] at q1
   have he:Zj (-1) r.es (z::ks)=Zj (-1) r.es ks:=by simp only [Zj,hr]
   rw [he]
   dsimp only
   rw [XI]
   exact ⟨rows2,ja2,G2,q1,q2⟩
  | some e =>
   obtain ⟨rows1,ja1,G1,t1,t2⟩:=s57 h ho hx hr (-1)
   have hel:=Zb6 r.es z (-1)
   have hra:(ZU (Y6 r.es z (-1)).2).length≤65:=by simp only [ZU,Xp];omega
   rw [t1,Xh,Zb (Zgj (by omega) (show (ZU (Y6 r.es z (-1)).2).length≤100000 by omega))]
   obtain ⟨rows2,ja2,G2,q1,q2⟩:=Zjd hx' hzl ks (pre++[z]) rows1 (G1++F) { r with ja:=ja1,es:=(Y6 r.es z (-1)).1 } (acc++ZU (Y6 r.es z (-1)).2) q' (by rw [hz];simp) (by simp at hq;omega) t2 (KD ho) hx (by simp only [Xu,XA] at hacc ⊢; omega)
   rw [hl1] at q1
   have he:Zj (-1) r.es (z::ks)=((Zj (-1) (Y6 r.es z (-1)).1 ks).1,(Y6 r.es z (-1)).2++(Zj (-1) (Y6 r.es z (-1)).1 ks).2):=by simp only [Zj,hr]
   rw [he]
   refine ⟨rows2,ja2,G2++G1,?_,by rw [Xo];exact q2⟩
   rw [q1]
   simp only [ZU,XN,Xo]
theorem Zi6 {x:LL} (target:Int) {zs:List Int} (hzl:zs.length≤1000) (rows:LL):∀ (ks pre:List Int) (b:Bool) (q:Nat),zs=pre++ks→ks.length < q→
  ∃ q',Zl6 q x target b (ints zs) (pre.length:Int) rows=Zl6 (q'+1) x target (b||decide (target∈ks)) (ints zs) (zs.length:Int) rows
 | [], pre, b, q, hz, hq => by
  obtain ⟨q',rfl⟩:∃ q',q=q'+1:=⟨q-1,by simp at hq;omega⟩
  have hl:zs.length=pre.length:=by rw [hz,XI]
  exact ⟨q',by rw [hl];simp⟩
 | z :: ks, pre, b, q, hz, hq => by
  obtain ⟨q',rfl⟩:∃ q',q=q'+1:=⟨q-1,by simp at hq;omega⟩
  have hz1:zs[pre.length]? = Xa z:=by rw [hz];simp
  have hi:=(Xj.1 hz1).1
  have hlen:((ints zs).length:Int)=(zs.length:Int):=by simp
  have hl1:((pre++[z]).length:Int)=((pre.length+1:Nat):Int):=by simp
  rw [ZkH,hlen,if_pos (by simp [cop];omega),ZaB (by omega)]
  cases b with
  | true =>
   rw [if_pos rfl]
   obtain ⟨q2,h2⟩:=Zi6 (x:=x) target hzl rows ks (pre++[z]) Xb q' (by rw [hz];simp) (by simp at hq;omega)
   rw [hl1] at h2
   exact ⟨q2,by rw [h2];simp⟩
  | false =>
   rw [if_neg (by decide),Zb (by omega),Zb (by omega),Z1 hz1]
   obtain ⟨q2,h2⟩:=Zi6 (x:=x) target hzl rows ks (pre++[z]) (cop .eql z target) q' (by rw [hz];simp) (by simp at hq;omega)
   rw [hl1] at h2
   refine ⟨q2,?_⟩
   rw [h2]
   congr 1
   by_cases hzt:z=target
   ·simp [cop,hzt]
   ·simp [cop,hzt,Ne.symm hzt]
theorem Zhb (ho:LOk es last) (id:Int):Zjc es id≤64:=XJ (Un _ _) ho.len
theorem ZjG {e:PE} (hs:es.Pairwise fun a b=>a.p.id < b.p.id) (he:e∈es):Yz es e.p.id=srt (JW 128 es e.p.id):=by
 unfold Yz
 rw [Jn hs he]
theorem s39 {x:LL} (h:ZB rows (r.frag++F)) (ho:LOk r.es r.last) (hx:Ze x = .oref (r.jr+1) 0) (id target:Int) :
  ∃ rows' ja' G,g39 x id target rows=Xa (ZU (J2 r.es id target).1.2,(J2 r.es id target).2,rows')∧ZB rows' (({ r with ja:=ja',es:=(J2 r.es id target).1.1 } : RS).frag++(G++F)):=by
 have hl:=ho.len
 rw [ZtC]
 unfold J2
 cases hf:J0 r.es id with
 | none =>
  rw [VB h (by omega) hx hf,Xh]
  dsimp only
  rw [Zb (ne1 Kt),VR,if_pos (by decide)]
  exact ⟨rows,r.ja,[],rfl,h⟩
 | some e =>
  obtain ⟨hfe,hen⟩:=Je hf
  obtain ⟨pre,post,hs,rfl,hp⟩:=JZ hfe
  have hem:e∈r.es:=by rw [hs];simp
  rw [KZ h (by omega) hx hs hp hen,Xh]
  dsimp only
  rw [Zb (ne1 (Y3 r _)),ZM,if_neg (by decide)]
  cases ht:J0 r.es target with
  | none =>
   rw [VB h (by omega) hx ht,Xh]
   dsimp only
   rw [Zb (ne1 Kt),VR,if_pos (by decide)]
   exact ⟨rows,r.ja,[],rfl,h⟩
  | some t =>
   obtain ⟨htf,hten⟩:=Je ht
   obtain ⟨pre2,post2,hs2,rfl,hp2⟩:=JZ htf
   have htm:t∈r.es:=by rw [hs2];simp
   have ha1:=Zhb ho e.p.id
   have ha2:=Zhb ho t.p.id
   rw [KZ h (by omega) hx hs2 hp2 hten,Xh]
   dsimp only
   rw [Zb (ne1 (Y3 r _)),ZM,if_neg (by decide),s58 h ho hx 128 e hem (by omega),Xh]
   dsimp only
   have hd1:=ZfH ho 128 e.p.id
   have hd2:=ZfH ho 128 t.p.id
   have hs1l:=ZbN (JW 128 r.es e.p.id)
   have hs2l:=ZbN (JW 128 r.es t.p.id)
   obtain ⟨q',hq'⟩:=Zi6 (x:=x) t.p.id (zs:=srt (JW 128 r.es e.p.id)) (by omega) rows (srt (JW 128 r.es e.p.id)) [] (cop .eql e.p.id t.p.id) Ju rfl (by unfold Ju;omega)
   have hz:((([] : List Int).length:Nat):Int)=0:=rfl
   rw [hz] at hq'
   have hlen:((ints (srt (JW 128 r.es e.p.id))).length:Int)=((srt (JW 128 r.es e.p.id)).length:Int):=by simp
   rw [hq',ZkH,hlen,if_neg (by simp [cop]),ZjG ho.srt hem,ZjG ho.srt htm]
   by_cases hmay:t.p.id=e.p.id∨t.p.id∈srt (JW 128 r.es e.p.id)
   ·have hb:(cop .eql e.p.id t.p.id||decide (t.p.id∈srt (JW 128 r.es e.p.id)))=Xb:=by
     rcases hmay with h1 | h1
     ·simp [cop,h1]
     ·simp [h1]
    rw [hb,if_neg (by decide),if_pos hmay,s58 h ho hx 128 t htm (by omega),Xh]
    dsimp only
    obtain ⟨rows1,ja1,G1,t1,t2⟩:=s57 h ho hx ht (-1)
    have hel:=Zb6 r.es t.p.id (-1)
    have hra:(ZU (Y6 r.es t.p.id (-1)).2).length≤65:=by simp only [ZU,Xp];omega
    rw [t1,Xh]
    dsimp only
    obtain ⟨rows2,ja2,G2,q1,q2⟩:=Zjd (x:=x) (fun _ _=>trivial) (zs:=srt (JW 128 r.es t.p.id)) (by omega) (srt (JW 128 r.es t.p.id)) [] rows1 (G1++F) { r with ja:=ja1,es:=(Y6 r.es t.p.id (-1)).1 } (ZU (Y6 r.es t.p.id (-1)).2) Ju rfl (by unfold Ju;omega) t2 (KD ho) hx (by omega)
    rw [hz] at q1
    have he:Zj (-1) r.es (t.p.id::srt (JW 128 r.es t.p.id))=((Zj (-1) (Y6 r.es t.p.id (-1)).1 (srt (JW 128 r.es t.p.id))).1,(Y6 r.es t.p.id (-1)).2++(Zj (-1) (Y6 r.es t.p.id (-1)).1 (srt (JW 128 r.es t.p.id))).2):=by simp only [Zj,ht]
    rw [he]
    refine ⟨rows2,ja2,G2++G1,?_,by rw [Xo];exact q2⟩
    rw [q1]
    simp only [ZU,XN]
   ·have hb:(cop .eql e.p.id t.p.id||decide (t.p.id∈srt (JW 128 r.es e.p.id)))=Xc:=by
     have h1:¬ (e.p.id=t.p.id):=fun hh=>hmay (.inl hh.symm)
     have h2:t.p.id∉srt (JW 128 r.es e.p.id):=fun hh=>hmay (.inr hh)
     simp [cop,h1,h2]
    rw [hb,if_pos (by decide),if_neg hmay]
    exact ⟨rows,r.ja,[],rfl,h⟩
end
section
open Go Go.AM Go.Proofs.Ytpjnmgjphfnmmaa
set_option maxRecDepth 100000
variable {rows:LL} {F:Ym} {r:RS} {es:List PE} {last:Int}
theorem Zju {x:LL} {zs:List Int} (hzl:zs.length≤1000):∀ (ks pre:List Int) (rows:LL) (F:Ym) (r:RS) (acc:LL) (q:Nat),zs=pre++ks→ks.length < q→ZB rows (r.frag++F)→LOk r.es r.last→Ze x = .oref (r.jr+1) 0→acc.length+65*ks.length≤100000→
  ∃ rows' ja' G,ZmV q x (ints zs) acc (pre.length:Int) rows=Xa (acc++ZU (Zj (-2) r.es ks).2,0,rows')∧ZB rows' (({ r with ja:=ja',es:=(Zj (-2) r.es ks).1 } : RS).frag++(G++F))
 | [], pre, rows, F, r, acc, q, hz, hq, h, ho, hx, _ => by
  obtain ⟨q',rfl⟩:∃ q',q=q'+1:=⟨q-1,by simp at hq;omega⟩
  have hl:zs.length=pre.length:=by rw [hz,XI]
  have hlen:((ints zs).length:Int)=(zs.length:Int):=by simp
  rw [Zk5,hlen,hl,if_neg (by simp [cop])]
  exact ⟨rows,r.ja,[],by simp [Zj,ZU],h⟩
 | z :: ks, pre, rows, F, r, acc, q, hz, hq, h, ho, hx, hacc => by
  obtain ⟨q',rfl⟩:∃ q',q=q'+1:=⟨q-1,by simp at hq;omega⟩
  have hz1:zs[pre.length]? = Xa z:=by rw [hz];simp
  have hi:=(Xj.1 hz1).1
  have hlen:((ints zs).length:Int)=(zs.length:Int):=by simp
  have hl1:((pre++[z]).length:Int)=((pre.length+1:Nat):Int):=by simp
  have hrl:=ho.len
  rw [Zk5,hlen,if_pos (by simp [cop];omega),Zb (by omega),Zb (by omega),Z1 hz1,ZaB (by omega)]
  cases hr:J0 r.es z with
  | none =>
   rw [Zq1 h hrl hx hr,Xh,Zb (by unfold Jr ZC;simp only [XT];omega)]
   obtain ⟨rows2,ja2,G2,q1,q2⟩:=Zju hzl ks (pre++[z]) rows F r acc q' (by rw [hz];simp) (by simp at hq;omega) h ho hx (by simp at hacc;omega)
   rw [hl1] at q1
   have he:Zj (-2) r.es (z::ks)=Zj (-2) r.es ks:=by simp only [Zj,hr]
   rw [he]
   dsimp only
   rw [XI]
   exact ⟨rows2,ja2,G2,q1,q2⟩
  | some e =>
   obtain ⟨rows1,ja1,G1,t1,t2⟩:=s57 h ho hx hr (-2)
   have hel:=Zb6 r.es z (-2)
   have hra:(ZU (Y6 r.es z (-2)).2).length≤65:=by simp only [ZU,Xp];omega
   rw [t1,Xh,Zb (Zgj (by omega) (show (ZU (Y6 r.es z (-2)).2).length≤100000 by omega))]
   obtain ⟨rows2,ja2,G2,q1,q2⟩:=Zju hzl ks (pre++[z]) rows1 (G1++F) { r with ja:=ja1,es:=(Y6 r.es z (-2)).1 } (acc++ZU (Y6 r.es z (-2)).2) q' (by rw [hz];simp) (by simp at hq;omega) t2 (KD ho) hx (by simp only [Xu,XA] at hacc ⊢; omega)
   rw [hl1] at q1
   have he:Zj (-2) r.es (z::ks)=((Zj (-2) (Y6 r.es z (-2)).1 ks).1,(Y6 r.es z (-2)).2++(Zj (-2) (Y6 r.es z (-2)).1 ks).2):=by simp only [Zj,hr]
   rw [he]
   refine ⟨rows2,ja2,G2++G1,?_,by rw [Xo];exact q2⟩
   rw [q1]
   simp only [ZU,XN,Xo]
def Zb1 (core:Int) (es:List PE):List Int:=(es.filter fun e=>!e.p.ended&&decide (wo core e.p.cores = [])).map fun e=>e.p.id
theorem ZqY (rec0:List V→Option (LL×Int×LL)) {x:LL} {e:PE} {pre post:List PE} (h:ZB rows (r.frag++F)) (hs:r.es=pre++e::post) (core:Int) (hl:e.p.cores.length≤100) (acc:List Int) (ha:acc.length≤100) (i:Nat) (hi:i≤100):∀ (ks ps:List Int) (q:Nat),e.p.cores=ps++ks→ks.length < q→
  Zoi rec0 q x core (ints acc) (i:Int) (rn r pre.length) (ints (wo core ps)) (ps.length:Int) rows =
   rec0 [.l x,.i core,.l (ints (if e.p.ended=Xc∧wo core e.p.cores = [] then acc++[e.p.id] else acc)),.i ((i+1:Nat):Int),.l (Zd .set rows 0 (Zd (.padd 3) (rn r pre.length) 0 E0 []) [.slice Xc 1 (ints (wo core e.p.cores))])]
 | [], ps, q, hc, hq => by
  obtain ⟨q',rfl⟩:∃ q',q=q'+1:=⟨q-1,by simp at hq;omega⟩
  rw [XI] at hc
  have hlen:((ints e.p.cores).length:Int)=(e.p.cores.length:Int):=by simp
  have hset:=ZeF (r:=r) (e':=Yk core e) h hs (o:=3) (c:=.slice Xc 1 (ints (wo core e.p.cores))) (by decide) rfl
  have hge:=YX (r:={ r with es:=pre++Yk core e::post }) hset (pre:=pre) (post:=post) (e:=Yk core e) rfl (o:=4) (c:=B e.p.ended) rfl
  have hgi:=YX (r:={ r with es:=pre++Yk core e::post }) hset (pre:=pre) (post:=post) (e:=Yk core e) rfl (o:=0) (c:=I e.p.id) rfl
  have hrn:rn ({ r with es:=pre++Yk core e::post } : RS) pre.length=rn r pre.length:=rfl
  rw [hrn] at hge hgi
  have hwl:((ints (wo core e.p.cores)).length:Int)=((wo core e.p.cores).length:Int):=by simp
  rw [Zle,Zb (ne1 (ZM r _)),Zb (ne1 (ZM r _)),YX h hs (c:=.slice Xc 1 (ints e.p.cores)) rfl,WG,hlen,← hc,if_neg (by simp [cop]),Zb (ne1 (ZM r _)),Zb (ne1 (ZM r _)),Zb (by simp),Zb (ne1 (ZM r _)),Zb (ne1 (ZM r _)),hge,JQ,ZaB (by omega)]
  cases hen:e.p.ended with
  | true =>
   rw [if_neg (by decide),if_neg (by simp)]
  | false =>
   rw [if_pos (by decide),hwl]
   by_cases hw:wo core e.p.cores = []
   ·rw [if_pos (by rw [hw];rfl),Zb (ne1 (ZM r _)),Zb (ne1 (ZM r _)),hgi,ZF,Zb (by unfold Jr ZC;simp;omega),if_pos ⟨rfl,hw⟩]
    have:ints acc++(E0++[[AV.val (.int .i64 e.p.id)]])=ints (acc++[e.p.id]):=by simp [ints]
    rw [this]
   ·rw [if_neg (by simp [cop,hw]),if_neg (by simp [hw])]
 | z :: ks, ps, q, hc, hq => by
  obtain ⟨q',rfl⟩:∃ q',q=q'+1:=⟨q-1,by simp at hq;omega⟩
  have hz:e.p.cores[ps.length]? = Xa z:=by rw [hc];simp
  have hi2:=(Xj.1 hz).1
  have hlen:((ints e.p.cores).length:Int)=(e.p.cores.length:Int):=by simp
  have hl1:((ps++[z]).length:Int)=((ps.length+1:Nat):Int):=by simp
  have ih:=ZqY rec0 (x:=x) h hs core hl acc ha i hi ks (ps++[z]) q' (by rw [hc];simp) (by simp at hq;omega)
  rw [hl1] at ih
  have hwp:=Zrt core ps
  rw [Zle,Zb (ne1 (ZM r _)),Zb (ne1 (ZM r _)),YX h hs (c:=.slice Xc 1 (ints e.p.cores)) rfl,WG,hlen,if_pos (by simp [cop];omega),Zb (ne1 (ZM r _)),Zb (ne1 (ZM r _)),WG,Z1 hz,ZaB (by omega)]
  by_cases hk:z=core
  ·have e1:wo core (ps++[z])=wo core ps:=by
    unfold wo
    rw [UK,Wb (by simp [hk])]
    simp
   rw [e1] at ih
   rw [if_neg (by simp [cop,hk]),ih]
  ·have e1:wo core (ps++[z])=wo core ps++[z]:=by
    unfold wo
    rw [UK,Wf (by simp [hk])]
    simp
   rw [e1] at ih
   have e2:ints (wo core ps)++(E0++[[AV.val (.int .i64 z)]])=ints (wo core ps++[z]):=by simp [ints]
   rw [if_pos (by simp [cop,hk]),Zb (ne1 (ZM r _)),Zb (ne1 (ZM r _)),WG,Z1 hz,Zb (by unfold Jr ZC;simp;omega),e2,ih]
theorem Zn9 {x:LL} (core:Int):∀ (ks pre:List PE) (rows:LL) (r:RS) (acc:List Int) (q:Nat),r.es=pre++ks→ks.length < q→r.es.length≤64→(∀ e∈ks,e.p.cores.length≤100)→acc.length+ks.length≤64→ZB rows (r.frag++F)→Ze x = .oref (r.jr+1) 0→
  ∃ rows',Zp5 q x core (ints acc) (pre.length:Int) rows=ZmV Ju x (ints (acc++Zb1 core ks)) [] 0 rows'∧ZB rows' (({ r with es:=pre++ks.map (Yk core) } : RS).frag++F)
 | [], pre, rows, r, acc, q, hs, hq, hl, _, _, h, hx => by
  obtain ⟨q',rfl⟩:∃ q',q=q'+1:=⟨q-1,by simp at hq;omega⟩
  have hs':=hs
  rw [XI] at hs
  rw [Zkk,Zb (ne1 (ZD hx)),Zb (ne1 (ZD hx)),KB h hx,Zp rfl,Zb (ne1 (Zan _ _)),YE,hs,if_neg (by simp [cop])]
  refine ⟨rows,by simp [Zb1],?_⟩
  have:({ r with es:=pre++([] : List PE).map (Yk core) } : RS)=r:=by
   obtain ⟨a,b,c,d⟩:=r
   simp only [XF] at hs' ⊢
   rw [hs']
  rw [this]
  exact h
 | e :: ks, pre, rows, r, acc, q, hs, hq, hl, hcl, ha, h, hx => by
  obtain ⟨q',rfl⟩:∃ q',q=q'+1:=⟨q-1,by simp at hq;omega⟩
  have hel:r.es.length=pre.length+ks.length+1:=by rw [hs];simp;omega
  have hce:=hcl e (by simp)
  have hal:acc.length+ks.length+1≤64:=by simp at ha;omega
  have hin:=ZqY (F41.lp [0,1,0] 0 r0 q') (x:=x) h hs core hce acc (by omega) pre.length (by omega) e.p.cores [] Ju rfl (by unfold Ju;omega)
  have hz:((([] : List Int).length:Nat):Int)=0:=rfl
  have hw0:ints (wo core [])=E0:=rfl
  rw [hz,hw0] at hin
  have hset:=ZeF (r:=r) (e':=Yk core e) h hs (o:=3) (c:=.slice Xc 1 (ints (wo core e.p.cores))) (by decide) rfl
  rw [Zkk,Zb (ne1 (ZD hx)),Zb (ne1 (ZD hx)),KB h hx,Zp rfl,Zb (ne1 (Zan _ _)),YE,if_pos (by simp [cop];omega),Zb (ne1 (ZD hx)),Zb (ne1 (ZD hx)),Zp rfl,Zb (by omega),YE,Zb (by omega),Zg3,hin]
  have hl1:((pre++[Yk core e]).length:Int)=((pre.length+1:Nat):Int):=by simp
  obtain ⟨rows',t1,t2⟩:=Zn9 (x:=x) core ks (pre++[Yk core e]) _ { r with es:=pre++Yk core e::ks } (if e.p.ended=Xc∧wo core e.p.cores = [] then acc++[e.p.id] else acc) q' (by simp) (by simp at hq;omega) (by show (pre++Yk core e::ks).length≤64;rw [Xu,XA];omega) (fun a ha=>hcl a (by simp [ha])) (by split<;>(try simp only [Xu,XA,XT])<;>omega) hset hx
  rw [hl1] at t1
  refine ⟨rows',?_,?_⟩
  ·show Zp5 q' x core _ _ _=_
   rw [t1]
   congr 2
   unfold Zb1
   by_cases hb:e.p.ended=Xc∧wo core e.p.cores = []
   ·rw [if_pos hb,Wf (by simp [hb.1,hb.2])]
    simp
   ·rw [if_neg hb,Wb (by
     intro hh
     rw [Xs] at hh
     exact hb ⟨by simpa using hh.1,by simpa using hh.2⟩)]
  ·have:({ ({ r with es:=pre++Yk core e::ks } : RS) with es:=(pre++[Yk core e])++ks.map (Yk core) } : RS) = { r with es:=pre++(e::ks).map (Yk core) }:=by simp
   rw [this] at t2
   exact t2
theorem ZdL (ho:LOk es last) (core:Int):LOk (es.map (Yk core)) last:=Zjj ho (fun _=>rfl) fun e he=>ho.par e he
def VK (es:List PE) (core:Int):(List PE×List Zjs)×Int:=
 if 0≤core∧core < 32 then (Zj (-2) (es.map (Yk core)) (Zb1 core es),0) else ((es,[]),1)
theorem s41 {x:LL} (h:ZB rows (r.frag++F)) (ho:LOk r.es r.last) (hx:Ze x = .oref (r.jr+1) 0) {core:Int} (hcl:∀ e∈r.es,e.p.cores.length≤100) :
  ∃ rows' ja' G,g41 x core rows=Xa (ZU (VK r.es core).1.2,(VK r.es core).2,rows')∧ZB rows' (({ r with ja:=ja',es:=(VK r.es core).1.1 } : RS).frag++(G++F)):=by
 have hl:=ho.len
 rw [ZuK,s54,Xh]
 unfold VK
 by_cases hr:0≤core∧core < 32
 ·rw [decide_eq_true hr,if_neg (by decide),if_pos hr]
  obtain ⟨rows1,t1,t2⟩:=Zn9 (F:=F) (x:=x) core r.es [] rows r [] Ju rfl (by unfold Ju;omega) hl hcl (by simp;omega) h hx
  have hz:((([] : List PE).length:Nat):Int)=0:=rfl
  have hi0:(ints ([] : List Int))=E0:=rfl
  rw [hz,hi0] at t1
  rw [t1]
  rw [XM] at t2 ⊢
  have hbl:(Zb1 core r.es).length≤64:=by
   unfold Zb1
   rw [Xp]
   exact XJ (Un _ _) hl
  obtain ⟨rows2,ja2,G2,q1,q2⟩:=Zju (x:=x) (zs:=Zb1 core r.es) (by omega) (Zb1 core r.es) [] rows1 F { r with es:=r.es.map (Yk core) } [] Ju rfl (by unfold Ju;omega) t2 (ZdL ho core) hx (by simp;omega)
  rw [show ((([] : List Int).length:Nat):Int)=0 from rfl] at q1
  rw [q1]
  exact ⟨rows2,ja2,G2,rfl,q2⟩
 ·rw [decide_eq_false hr,if_pos (by decide),if_neg hr]
  exact ⟨rows,r.ja,[],rfl,h⟩
end
open Go Go.AM Go.Proofs.Ytpjnmgjphfnmmaa
set_option maxRecDepth 100000
structure Rl (a b:PE):Prop where
 id:a.p.id=b.p.id
 parent:a.p.parent=b.p.parent
 ended : a.p.ended = b.p.ended
 status:a.p.status=b.p.status
 waiting:a.p.waiting=b.p.waiting
 cores:a.p.cores.Perm b.p.cores
inductive Sm:List PE→List PE→Prop
 | nil : Sm [] []
 | cons {a b : PE} {l l' : List PE} : Rl a b → Sm l l' → Sm (a :: l) (b :: l')
theorem Zeb {es es':List PE} (h:Sm es es') (k:Int):(es.find? (fun e=>decide (e.p.id=k))=Xe∧es'.find? (fun e=>decide (e.p.id=k))=Xe)∨∃ a b,es.find? (fun e=>decide (e.p.id=k))=Xa a∧es'.find? (fun e=>decide (e.p.id=k))=Xa b∧Rl a b:=by
 induction h with
 | nil => exact .inl ⟨rfl, rfl⟩
 | @cons a b l l' hr _ ih =>
  by_cases hk:a.p.id=k
  ·rw [Ta (by simp [hk]),Ta (by rw [← hr.id];simp [hk])]
   exact .inr ⟨a,b,rfl,rfl,hr⟩
  ·rw [Tb (by simp [hk]),Tb (by rw [← hr.id];simp [hk])]
   exact ih
theorem Zmv {es es':List PE} {f g:PE→PE} (h:Sm es es') (hf:∀ a b,Rl a b→Rl (f a) (g b)):Sm (es.map f) (es'.map g):=by
 induction h with
 | nil => exact .nil
 | cons hr _ ih => exact .cons (hf _ _ hr) ih
theorem Zd0 {es es':List PE} {p q:PE→Bool} (h:Sm es es') (hp:∀ a b,Rl a b→p a=q b):Sm (es.filter p) (es'.filter q):=by
 induction h with
 | nil => exact .nil
 | @cons a b l l' hr _ ih =>
  by_cases ha:p a=Xb
  ·rw [Wf ha,Wf (by rw [← hp a b hr];exact ha)]
   exact .cons hr ih
  ·rw [Wb ha,Wb (by rw [← hp a b hr];exact ha)]
   exact ih
theorem ZhN {es es':List PE} (h:Sm es es'):(es.map fun e=>e.p.id)=es'.map fun e=>e.p.id:=by
 induction h with
 | nil => rfl
 | cons hr _ ih => rw [Xi, Xi, hr.id, ih]
theorem Zq2 {es es':List PE} (h:Sm es es'):es.length=es'.length:=by
 have:=congrArg Xn (ZhN h)
 simpa using this
theorem Zte {es es' fs fs':List PE} (h:Sm es es') (h2:Sm fs fs'):Sm (es++fs) (es'++fs'):=by
 induction h with
 | nil => exact h2
 | cons hr _ ih => exact .cons hr ih
theorem ZmU {es es':List PE} (h:Sm es es') {b:PE} (hb:b∈es'):∃ a∈es,Rl a b:=by
 induction h with
 | nil => cases hb
 | @cons a b' l l' hr _ ih =>
  rcases Xq.1 hb with rfl | hb
  ·exact ⟨a,by simp,hr⟩
  ·obtain ⟨c,hc,h1⟩:=ih hb
   exact ⟨c,by simp [hc],h1⟩
theorem ZuO {es es':List PE} {p:PE→Bool} (h:Sm es es') (hp:∀ a b,Rl a b→p a=p b):es.any p=es'.any p:=by
 induction h with
 | nil => rfl
 | cons hr _ ih => rw [U8, U8, hp _ _ hr, ih]
theorem ZpP {es es':List PE} {p:PE→Bool} (h:Sm es es') (hp:∀ a b,Rl a b→p a=p b):(es.find? p=Xe∧es'.find? p=Xe)∨∃ a b,es.find? p=Xa a∧es'.find? p=Xa b∧Rl a b:=by
 induction h with
 | nil => exact .inl ⟨rfl, rfl⟩
 | @cons a b l l' hr _ ih =>
  by_cases hk:p a=Xb
  ·rw [Ta hk,Ta (by rw [← hp a b hr];exact hk)]
   exact .inr ⟨a,b,rfl,rfl,hr⟩
  ·rw [Tb hk,Tb (by rw [← hp a b hr];exact hk)]
   exact ih
theorem Zsl {es es':List PE} (h:Sm es es') (id:Int):Jz es id=Jz es' id:=by
 unfold Jz
 exact ZhN (Zd0 h fun a b hr=>by rw [hr.parent])
theorem ZnY {es es':List PE} (h:Sm es es'):∀ (n:Nat) (id:Int),JW n es id=JW n es' id
 | 0, _ => rfl
 | n + 1, id => by
  rw [JW,JW,Zsl h]
  congr 1
  funext c
  rw [ZnY h n c]
theorem ZjP {es es':List PE} (h:Sm es es') (id:Int):Yz es id=Yz es' id:=by
 unfold Yz
 rcases Zeb h id with ⟨h1,h2⟩ | ⟨a,b,h1,h2,_⟩
 ·rw [h1,h2]
 ·rw [h1,h2,ZnY h]
theorem ZcZ {es es':List PE} (h:Sm es es') (k:Int):(J0 es k=Xe∧J0 es' k=Xe)∨∃ a b,J0 es k=Xa a∧J0 es' k=Xa b∧Rl a b:=by
 unfold J0
 rcases Zeb h k with ⟨h1,h2⟩ | ⟨a,b,h1,h2,hr⟩
 ·rw [h1,h2]
  exact .inl ⟨rfl,rfl⟩
 ·rw [h1,h2]
  dsimp only
  rw [← hr.ended]
  split
  ·exact .inl ⟨rfl,rfl⟩
  ·exact .inr ⟨a,b,rfl,rfl,hr⟩
def Eqv {α:Type} (x y:List PE×α):Prop:=Sm x.1 y.1∧x.2=y.2
theorem Zoc {es es':List PE} (h:Sm es es') (k:Int) {f:Pr→Pr} (hf:∀ a b:PE,Rl a b→Rl { a with p:=f a.p } { b with p:=f b.p }):Sm (ZcP k f es) (ZcP k f es'):=by
 refine Zmv h fun a b hr=>?_
 by_cases hk:a.p.id=k
 ·rw [if_pos hk,if_pos (hr.id ▸ hk)]
  exact hf a b hr
 ·rw [if_neg hk,if_neg (hr.id ▸ hk)]
  exact hr
theorem ZnZ {es es':List PE} (h:Sm es es') (k:Int) {f g:PE→PE} (hf:∀ a b:PE,Rl a b→Rl (f a) (g b)):Sm (Yh k f es) (Yh k g es'):=by
 refine Zmv h fun a b hr=>?_
 by_cases hk:a.p.id=k
 ·rw [if_pos hk,if_pos (hr.id ▸ hk)]
  exact hf a b hr
 ·rw [if_neg hk,if_neg (hr.id ▸ hk)]
  exact hr
theorem Zrh {es es':List PE} (h:Sm es es') (k:Int):Sm (V8 k es) (V8 k es'):=Zd0 h fun a b hr=>by rw [hr.id]
theorem ZoG {es es':List PE} (h:Sm es es') (par:Int) {c c':Pr} (h1:c.id=c'.id) (h2:c.status=c'.status):Eqv (Yi es par c) (Yi es' par c'):=by
 unfold Yi
 rcases Zeb h par with ⟨q1,q2⟩ | ⟨a,b,q1,q2,hr⟩
 ·rw [q1,q2]
  exact ⟨h,rfl⟩
 ·rw [q1,q2]
  dsimp only
  rw [← hr.waiting]
  split
  ·refine ⟨?_,by dsimp only;rw [h1,h2]⟩
   dsimp only
   rw [h1]
   exact Zrh (Zoc h par fun a b hr=>⟨hr.id,hr.parent,hr.ended,hr.status,rfl,hr.cores⟩) _
  ·exact ⟨h,rfl⟩
theorem ZrE {es es':List PE} (h:Sm es es') (pid k:Int):Eqv (ZO pid es k) (ZO pid es' k):=by
 unfold ZO
 rcases Zeb h k with ⟨q1,q2⟩ | ⟨a,b,q1,q2,hr⟩
 ·rw [q1,q2]
  exact ⟨h,rfl⟩
 ·rw [q1,q2]
  dsimp only
  rw [← hr.parent,← hr.ended]
  have hu:=Zoc h k (f:=fun q=>{ q with parent:=1 }) fun a b hr=>⟨hr.id,rfl,hr.ended,hr.status,hr.waiting,hr.cores⟩
  split
  ·split
   ·exact ZoG hu 1 hr.id hr.status
   ·exact ⟨hu,rfl⟩
  ·exact ⟨h,rfl⟩
theorem Zoy (pid:Int):∀ (ks:List Int) {es es':List PE},Sm es es'→Eqv (ZT pid es ks) (ZT pid es' ks)
 | [], _, _, h => ⟨h, rfl⟩
 | k :: ks, es, es', h => by
  obtain ⟨h1,h2⟩:=ZrE h pid k
  obtain ⟨h3,h4⟩:=Zoy pid ks h1
  exact ⟨h3,by simp only [ZT,h2,h4]⟩
theorem Zrv {es es':List PE} (h:Sm es es') (pid st:Int):Eqv (Y6 es pid st) (Y6 es' pid st):=by
 unfold Y6
 rcases Zeb h pid with ⟨q1,q2⟩ | ⟨a,b,q1,q2,hr⟩
 ·rw [q1,q2]
  exact ⟨h,rfl⟩
 ·rw [q1,q2]
  dsimp only
  have hu:Sm (Yh pid (J8 st) es) (Yh pid (J8 st) es'):=ZnZ h pid fun a b hr=>⟨hr.id,hr.parent,rfl,rfl,rfl,List.Perm.refl _⟩
  split
  ·exact ⟨hu,rfl⟩
  ·rw [← ZhN h,← hr.parent]
   obtain ⟨h1,h2⟩:=Zoy pid (es.map fun e=>e.p.id) hu
   obtain ⟨h3,h4⟩:=ZoG h1 a.p.parent (c:=(J8 st a).p) (c':=(J8 st b).p) hr.id rfl
   exact ⟨h3,by dsimp only;rw [h2,h4]⟩
theorem ZaU (st:Int):∀ (zs:List Int) {es es':List PE},Sm es es'→Eqv (Zj st es zs) (Zj st es' zs)
 | [], _, _, h => ⟨h, rfl⟩
 | z :: zs, es, es', h => by
  rcases ZcZ h z with ⟨q1,q2⟩ | ⟨a,b,q1,q2,hr⟩
  ·simp only [Zj,q1,q2]
   exact ZaU st zs h
  ·simp only [Zj,q1,q2]
   obtain ⟨h1,h2⟩:=Zrv h z st
   obtain ⟨h3,h4⟩:=ZaU st zs h1
   exact ⟨h3,by dsimp only;rw [h2,h4]⟩
theorem ZsP {es es':List PE} (h:Sm es es') (k st:Int):Eqv (K8 es k st).1 (K8 es' k st).1∧(K8 es k st).2=(K8 es' k st).2:=by
 unfold K8
 rcases ZcZ h k with ⟨q1,q2⟩ | ⟨a,b,q1,q2,hr⟩
 ·rw [q1,q2]
  exact ⟨⟨h,rfl⟩,rfl⟩
 ·rw [q1,q2]
  dsimp only
  split
  ·exact ⟨⟨h,rfl⟩,rfl⟩
  ·split
   ·exact ⟨⟨h,rfl⟩,rfl⟩
   ·exact ⟨Zrv h k st,rfl⟩
theorem ZrW {es es':List PE} (h:Sm es es') (id t:Int):Eqv (J2 es id t).1 (J2 es' id t).1∧(J2 es id t).2=(J2 es' id t).2:=by
 unfold J2
 rcases ZcZ h id with ⟨q1,q2⟩ | ⟨a,b,q1,q2,hr⟩
 ·rw [q1,q2]
  exact ⟨⟨h,rfl⟩,rfl⟩
 ·rw [q1,q2]
  dsimp only
  rcases ZcZ h t with ⟨q1,q2⟩ | ⟨a,b,q1,q2,hr⟩
  ·rw [q1,q2]
   exact ⟨⟨h,rfl⟩,rfl⟩
  ·rw [q1,q2]
   dsimp only
   rw [← ZjP h id,← ZjP h t]
   split
   ·exact ⟨ZaU (-1) _ h,rfl⟩
   ·exact ⟨⟨h,rfl⟩,rfl⟩
theorem Zr4 {es es':List PE} (h:Sm es es') (k:Int):Eqv (Y2 es k) (Y2 es' k):=by
 unfold Y2
 rcases ZcZ h k with ⟨q1,q2⟩ | ⟨a,b,q1,q2,hr⟩
 ·rw [q1,q2]
  exact ⟨h,rfl⟩
 ·rw [q1,q2]
  dsimp only
  rw [← hr.waiting]
  split
  ·exact ⟨h,rfl⟩
  ·rcases ZpP h (p:=fun e=>decide (e.p.parent=k)&&e.p.ended) (fun a b hr=>by rw [hr.parent,hr.ended]) with ⟨q1,q2⟩ | ⟨c,d,q1,q2,hc⟩
   ·rw [q1,q2]
    dsimp only
    rw [← ZuO h (p:=fun e=>decide (e.p.parent=k)) fun a b hr=>by rw [hr.parent]]
    split
    ·exact ⟨Zoc h k (f:=fun q=>{ q with waiting:=Xb }) fun a b hr=>⟨hr.id,hr.parent,hr.ended,hr.status,rfl,hr.cores⟩,rfl⟩
    ·exact ⟨h,rfl⟩
   ·rw [q1,q2]
    dsimp only
    rw [← hc.id,← hc.status]
    exact ⟨Zrh h _,rfl⟩
theorem ZfF {es es':List PE} (h:Sm es es') (parent core:Int) (nm:Bool):YN es parent core nm=YN es' parent core nm:=by
 unfold YN
 rcases ZcZ h parent with ⟨q1,q2⟩ | ⟨a,b,q1,q2,hr⟩
 ·rw [q1,q2]
 ·rw [q1,q2,Zq2 h]
theorem ZiG {es es':List PE} (h:Sm es es') (k core:Int):VY es k core=VY es' k core:=by
 unfold VY
 rcases ZcZ h k with ⟨q1,q2⟩ | ⟨a,b,q1,q2,hr⟩
 ·rw [q1,q2]
 ·rw [q1,q2]
  dsimp only
  simp only [hr.cores.mem_iff]
theorem Zqj {es es':List PE} (h:Sm es es') (k core:Int) (L:Nat):Sm (Yh k (ZaK L core) es) (Yh k (ZnH core) es'):=
 ZnZ h k fun a b hr=>⟨hr.id,hr.parent,hr.ended,hr.status,hr.waiting,(KT _).trans (hr.cores.append_right _)⟩
theorem ZoD {core:Int} {a b:List Int} (h:a.Perm b):(wo core a).Perm (wo core b):=h.filter _
theorem ZtR {es es':List PE} (h:Sm es es') (core:Int):Sm (es.map (Yk core)) (es'.map (Yk core)):=
 Zmv h fun a b hr=>⟨hr.id,hr.parent,hr.ended,hr.status,hr.waiting,ZoD hr.cores⟩
theorem Zpg {es es':List PE} (h:Sm es es') (core:Int):Zb1 core es=Zb1 core es':=by
 unfold Zb1
 refine ZhN (Zd0 h fun a b hr=>?_)
 have hw:wo core a.p.cores = []↔wo core b.p.cores = []:=by
  have:=(ZoD (core:=core) hr.cores).length_eq
  rw [← Ty,← Ty,this]
 rw [hr.ended,decide_eq_decide.2 hw]
def Org (es es':List PE):Prop:=∀ e'∈es',∃ e∈es,e.p.id=e'.p.id∧(e.p.ended=Xb→e'.p.ended=Xb)
theorem VO (es:List PE):Org es es:=fun e he=>⟨e,he,rfl,id⟩
theorem KI {a b c:List PE} (h:Org a b) (h2:Org b c):Org a c:=fun e he=>by
 obtain ⟨d,hd,h3,h4⟩:=h2 e he
 obtain ⟨f,hf,h5,h6⟩:=h d hd
 exact ⟨f,hf,h5.trans h3,fun hh=>h4 (h6 hh)⟩
theorem Zny (es:List PE) (k:Int) {f:Pr→Pr} (hid:∀ q,(f q).id=q.id) (hen:∀ q,q.ended=Xb→(f q).ended=Xb):Org es (ZcP k f es):=fun e he=>by
 obtain ⟨a,ha,rfl⟩:=Xk.1 he
 refine ⟨a,ha,?_⟩
 split
 ·exact ⟨(hid a.p).symm,hen a.p⟩
 ·exact ⟨rfl,id⟩
theorem Zkp (es:List PE) (k st:Int):Org es (Yh k (J8 st) es):=fun e he=>by
 obtain ⟨a,ha,rfl⟩:=Xk.1 he
 refine ⟨a,ha,?_⟩
 split
 ·exact ⟨rfl,fun _=>rfl⟩
 ·exact ⟨rfl,id⟩
theorem Zsa (es:List PE) (k:Int):Org es (V8 k es):=fun e he=>⟨e,(Wu.1 he).1,rfl,id⟩
theorem ZfE (es:List PE) (par:Int) (c:Pr):Org es (Yi es par c).1:=by
 unfold Yi
 split
 ·split
  ·exact KI (Zny es par (f:=fun q=>{ q with waiting:=Xc }) (fun _=>rfl) fun _ h=>h) (Zsa _ _)
  ·exact VO es
 ·exact VO es
theorem ZpI (es:List PE) (pid k:Int):Org es (ZO pid es k).1:=by
 unfold ZO
 split
 ·split
  ·have hu:=Zny es k (f:=fun q=>{ q with parent:=1 }) (fun _=>rfl) fun _ h=>h
   split
   ·exact KI hu (ZfE _ _ _)
   ·exact hu
  ·exact VO es
 ·exact VO es
theorem Zgc (pid:Int):∀ (ks:List Int) (es:List PE),Org es (ZT pid es ks).1
 | [], es => VO es
 | k :: ks, es => KI (ZpI es pid k) (Zgc pid ks _)
theorem ZnC (es:List PE) (pid st:Int):Org es (Y6 es pid st).1:=by
 unfold Y6
 split
 ·split
  ·exact Zkp es pid st
  ·exact KI (Zkp es pid st) (KI (Zgc pid _ _) (ZfE _ _ _))
 ·exact VO es
theorem ZcT {es es':List PE} (hs:es.Pairwise fun a b=>a.p.id < b.p.id) (h:Org es es') {z:Int} (hz:J0 es z=Xe):J0 es' z=Xe:=by
 unfold J0
 cases hf:es'.find? (fun e=>decide (e.p.id=z)) with
 | none => rfl
 | some e' =>
  dsimp only
  obtain ⟨e,he,h1,h2⟩:=h e' (Ua hf)
  have hid:e'.p.id=z:=by have:=Wj hf;simpa using this
  have hfe:=Jn hs he
  rw [h1,hid] at hfe
  unfold J0 at hz
  rw [hfe] at hz
  dsimp only at hz
  have:e.p.ended=Xb:=by
   cases hen:e.p.ended with
   | true => rfl
   | false => rw [hen] at hz; simp at hz
  rw [if_pos (h2 this)]
theorem VJ {last st:Int} {p:Int→Bool} : ∀ (zs:List Int) (es:List PE),LOk es last→(∀ z∈zs,p z=Xc→J0 es z=Xe)→Zj st es (zs.filter p)=Zj st es zs
 | [], _, _, _ => rfl
 | z :: zs, es, ho, h => by
  by_cases hp:p z=Xb
  ·rw [Wf hp]
   cases hr:J0 es z with
   | none =>
    simp only [Zj,hr]
    exact VJ zs es ho fun y hy=>h y (by simp [hy])
   | some e =>
    have ih:=VJ (st:=st) zs (Y6 es z st).1 (KD ho) fun y hy hpy=>ZcT ho.srt (ZnC es z st) (h y (by simp [hy]) hpy)
    simp only [Zj,hr,ih]
  ·rw [Wb hp]
   have hr:=h z (by simp) (by simpa using hp)
   have ih:=VJ (st:=st) zs es ho fun y hy=>h y (by simp [hy])
   rw [ih]
   simp only [Zj,hr]
theorem del_run {es:List PE} (hs:es.Pairwise fun a b=>a.p.id < b.p.id) (core:Int) {e:PE} (he:e∈es) (hen:e.p.ended=Xb):J0 (es.map (Yk core)) e.p.id=Xe:=by
 have hs2:(es.map (Yk core)).Pairwise fun a b=>a.p.id < b.p.id:=by
  rw [U9]
  exact hs
 have:=Jn hs2 (e:=Yk core e) (Xk.2 ⟨e,he,rfl⟩)
 unfold J0
 have hid:(Yk core e).p.id=e.p.id:=rfl
 rw [hid] at this
 rw [this]
 dsimp only
 rw [if_pos (by exact hen)]
theorem Znu {es:List PE} {last:Int} (ho:LOk es last) (core:Int):YH es core=VK es core:=by
 unfold YH VK
 split
 ·congr 1
  have hb:Zb1 core es=(ZgV core es).filter fun z=>(J0 es z).isSome:=by
   unfold ZgV Zb1
   rw [List.filter_map,List.filter_filter]
   congr 1
   refine List.filter_congr fun e he=>?_
   have hf:=Jn ho.srt he
   have:(J0 es e.p.id).isSome = !e.p.ended:=by
    unfold J0
    rw [hf]
    dsimp only
    cases e.p.ended<;>rfl
   show _=((J0 es e.p.id).isSome&&decide (wo core e.p.cores = []))
   rw [this]
  rw [hb]
  refine (VJ (last:=last) _ _ (ZdL ho core) fun z hz hp=>?_).symm
  obtain ⟨e,he,rfl⟩:=Xk.1 hz
  rw [Wu] at he
  have hf:=Jn ho.srt he.1
  refine del_run ho.srt core he.1 ?_
  cases hen:e.p.ended with
  | true => rfl
  | false =>
   unfold J0 at hp
   rw [hf] at hp
   dsimp only at hp
   rw [hen] at hp
   simp at hp
 ·rfl
section
open Go Go.AM Go.Proofs.Ytpjnmgjphfnmmaa
set_option maxRecDepth 100000
def FR (K:List Int) (st:Int) (e e':PE):Prop:=e.p.id=e'.p.id∧((e'.p.ended=e.p.ended∧e'.p.status=e.p.status∧e'.p.cores=e.p.cores)∨(e.p.id∈K∧e.p.ended=Xc∧e'.p.ended=Xb∧e'.p.status=st∧e'.p.cores = []))
def Fra (K:List Int) (st:Int) (es es':List PE):Prop:=∀ e'∈es',∃ e∈es,FR K st e e'
def Frb (K:List Int) (es es':List PE):Prop:=∀ e∈es,e.p.ended=Xc→e.p.id∉K→∃ e'∈es',e'.p.id=e.p.id
variable {st last:Int} {es es' es2:List PE} {K K':List Int}
theorem FR.refl (e:PE):FR K st e e:=⟨rfl,.inl ⟨rfl,rfl,rfl⟩⟩
theorem Ku (es:List PE):Fra K st es es:=fun e he=>⟨e,he,FR.refl e⟩
theorem ZcH (h:Fra K st es es') (hk:∀ z∈K,z∈K'):Fra K' st es es':=fun e he=>by
 obtain ⟨d,hd,h1,h2⟩:=h e he
 exact ⟨d,hd,h1,h2.imp id fun ⟨a,b⟩=>⟨hk _ a,b⟩⟩
theorem Vm (h:Fra K st es es') (h2:Fra K st es' es2):Fra K st es es2:=fun e he=>by
 obtain ⟨d,hd,h3,h4⟩:=h2 e he
 obtain ⟨f,hf,h5,h6⟩:=h d hd
 refine ⟨f,hf,h5.trans h3,?_⟩
 rcases h4 with ⟨a,b,c⟩ | ⟨a,b,c⟩
 ·rcases h6 with ⟨p,q,r⟩ | ⟨p,q,r,s,t⟩
  ·exact .inl ⟨a.trans p,b.trans q,c.trans r⟩
  ·exact .inr ⟨p,q,a.trans r,b.trans s,c.trans t⟩
 ·rcases h6 with ⟨p,q,r⟩ | ⟨p,q,r,s,t⟩
  ·exact .inr ⟨by rw [h5];exact a,by rw [← p];exact b,c⟩
  ·rw [r] at b
   cases b
theorem Zs7 (hs:es.Pairwise fun a b=>a.p.id < b.p.id) {a b:PE} (ha:a∈es) (hb:b∈es) (h:a.p.id=b.p.id):a=b:=by
 have h1:=Jn hs ha
 have h2:=Jn hs hb
 rw [h,h2] at h1
 exact (Option.some.inj h1).symm
theorem WY (es:List PE):Frb K es es:=fun e he _ _=>⟨e,he,rfl⟩
theorem Zgt (h:Frb K es es') (hk:∀ z∈K,z∈K'):Frb K' es es':=fun e he h1 h2=>h e he h1 fun hh=>h2 (hk _ hh)
theorem WS (hs:es.Pairwise fun a b=>a.p.id < b.p.id) (ha:Fra K st es es') (h:Frb K es es') (h2:Frb K es' es2):Frb K es es2:=fun e he h3 h4=>by
 obtain ⟨d,hd,h5⟩:=h e he h3 h4
 obtain ⟨f,hf,h6,h7⟩:=ha d hd
 have:f=e:=Zs7 hs hf he (h6.trans h5)
 subst this
 have hdr:d.p.ended=Xc:=by
  rcases h7 with ⟨a,_⟩ | ⟨a,_⟩
  ·rw [a];exact h3
  ·exact absurd a h4
 obtain ⟨g,hg,h8⟩:=h2 d hd hdr (by rw [h5];exact h4)
 exact ⟨g,hg,h8.trans h5⟩
theorem Zdk (es:List PE) (k:Int) {f:Pr→Pr} (h:∀ q,(f q).id=q.id∧(f q).ended=q.ended∧(f q).status=q.status∧(f q).cores=q.cores):Fra K st es (ZcP k f es):=fun e he=>by
 obtain ⟨a,ha,rfl⟩:=Xk.1 he
 refine ⟨a,ha,?_⟩
 split
 ·obtain ⟨h1,h2,h3,h4⟩:=h a.p
  exact ⟨h1.symm,.inl ⟨h2,h3,h4⟩⟩
 ·exact FR.refl a
theorem Zsd (es:List PE) (k:Int) {f:Pr→Pr} (h:∀ q,(f q).id=q.id):Frb K es (ZcP k f es):=fun e he _ _=>by
 refine ⟨_,Xk.2 ⟨e,he,rfl⟩,?_⟩
 split
 ·exact h e.p
 ·rfl
theorem Zop (es:List PE) (k:Int):Fra K st es (V8 k es):=fun e he=>⟨e,(Wu.1 he).1,FR.refl e⟩
theorem ZjB (es:List PE) (par:Int) (c:Pr):Fra K st es (Yi es par c).1:=by
 unfold Yi
 split
 ·split
  ·exact Vm (Zdk es par (f:=fun q=>{ q with waiting:=Xc }) fun _=>⟨rfl,rfl,rfl,rfl⟩) (Zop _ _)
  ·exact Ku es
 ·exact Ku es
theorem Zkx (par:Int) (c:Pr) (hc:∀ e∈es,e.p.id=c.id→e.p.ended=Xb∨e.p.id∈K):Frb K es (Yi es par c).1:=by
 unfold Yi
 split
 ·split
  ·intro e he h1 h2
   refine ⟨if e.p.id=par then { e with p:={ e.p with waiting:=Xc } } else e,Wu.2 ⟨Xk.2 ⟨e,he,rfl⟩,?_⟩,by split<;>rfl⟩
   have hne:e.p.id≠c.id:=fun hh=>by
    rcases hc e he hh with h3 | h3
    ·rw [h1] at h3;cases h3
    ·exact h2 h3
   split<;>simp [hne]
  ·exact WY es
 ·exact WY es
theorem Zk9 (es:List PE) (pid k:Int):Fra K st es (ZO pid es k).1:=by
 unfold ZO
 split
 ·split
  ·have hu:=Zdk (K:=K) (st:=st) es k (f:=fun q=>{ q with parent:=1 }) fun _=>⟨rfl,rfl,rfl,rfl⟩
   split
   ·exact Vm hu (ZjB _ _ _)
   ·exact hu
  ·exact Ku es
 ·exact Ku es
theorem ZpY (hs:es.Pairwise fun a b=>a.p.id < b.p.id) (pid k:Int):Frb K es (ZO pid es k).1:=by
 unfold ZO
 split
 ·rename_i c hc
  have hck:c.p.id=k:=by have:=Wj hc;simpa using this
  have hcm:=Ua hc
  split
  ·have hu:=Zdk (K:=K) (st:=0) es k (f:=fun q=>{ q with parent:=1 }) fun _=>⟨rfl,rfl,rfl,rfl⟩
   have hb:=Zsd (K:=K) es k (f:=fun q=>{ q with parent:=1 }) fun _=>rfl
   split
   ·rename_i hen
    refine WS (st:=0) hs hu hb (Zkx 1 _ fun e he hid=>.inl ?_)
    obtain ⟨a,ha,h1,h2⟩:=Zdk (K:=[]) (st:=0) es k (f:=fun q=>{ q with parent:=1 }) (fun _=>⟨rfl,rfl,rfl,rfl⟩) e he
    have:a=c:=Zs7 hs ha hcm (h1.trans hid)
    subst this
    rcases h2 with ⟨h3,_⟩ | ⟨h3,_⟩
    ·rw [h3];exact hen
    ·cases h3
   ·exact hb
  ·exact WY es
 ·exact WY es
theorem Zf5 (pid:Int):∀ (ks:List Int) (es:List PE),Fra K st es (ZT pid es ks).1
 | [], es => Ku es
 | k :: ks, es => Vm (Zk9 es pid k) (Zf5 pid ks _)
theorem ZkE {pid:Int} (hp:1≤pid):∀ (ks:List Int) (es:List PE),LOk es last→Frb K es (ZT pid es ks).1
 | [], es, _ => WY es
 | k :: ks, es, ho => WS (st := 0) ho.srt (Zk9 es pid k) (ZpY ho.srt pid k) (ZkE hp ks _ (ZfX ho hp))
theorem Zi3 (ho:LOk es last) {k:Int} {e:PE} (hr:J0 es k=Xa e) (st:Int):Fra [k] st es (Y6 es k st).1:=by
 obtain ⟨hf,hen⟩:=Je hr
 have hem:=Ua hf
 have hek:e.p.id=k:=by have:=Wj hf;simpa using this
 have hu:Fra [k] st es (Yh k (J8 st) es):=fun a ha=>by
  obtain ⟨b,hb,rfl⟩:=Xk.1 ha
  refine ⟨b,hb,?_⟩
  split
  ·rename_i hbk
   have:b=e:=Zs7 ho.srt hb hem (hbk.trans hek.symm)
   subst this
   exact ⟨rfl,.inr ⟨by simp [hbk],hen,rfl,rfl,rfl⟩⟩
  ·exact FR.refl b
 unfold Y6
 rw [hf]
 dsimp only
 split
 ·exact hu
 ·exact Vm hu (Vm (Zf5 k _ _) (ZjB _ _ _))
theorem ZrF (ho:LOk es last) {k:Int} {e:PE} (hr:J0 es k=Xa e) (st:Int):Frb [k] es (Y6 es k st).1:=by
 obtain ⟨hf,hen⟩:=Je hr
 have hem:=Ua hf
 have hek:e.p.id=k:=by have:=Wj hf;simpa using this
 have hu:Fra [k] st es (Yh k (J8 st) es):=fun a ha=>by
  obtain ⟨b,hb,rfl⟩:=Xk.1 ha
  refine ⟨b,hb,?_⟩
  split
  ·rename_i hbk
   have:b=e:=Zs7 ho.srt hb hem (hbk.trans hek.symm)
   subst this
   exact ⟨rfl,.inr ⟨by simp [hbk],hen,rfl,rfl,rfl⟩⟩
  ·exact FR.refl b
 have hub:Frb [k] es (Yh k (J8 st) es):=fun a ha _ _=>by
  refine ⟨_,Xk.2 ⟨a,ha,rfl⟩,?_⟩
  split<;>rfl
 have hlu:LOk (Yh k (J8 st) es) last:=Zbg ho (fun _=>rfl) fun _=>rfl
 have hrg:=ho.rng e hem
 unfold Y6
 rw [hf]
 dsimp only
 split
 ·exact hub
 ·refine WS (st:=st) ho.srt hu hub (WS (st:=st) hlu.srt (Zf5 k _ _) (ZkE (by omega) _ _ hlu) (Zkx _ _ fun a ha hid=>.inr ?_))
  have:a.p.id=e.p.id:=hid
  rw [this,hek]
  simp
theorem ZsW (ho:LOk es last) (k st:Int):J0 (Y6 es k st).1 k=Xe:=by
 unfold Y6
 cases hf:es.find? (fun e=>decide (e.p.id=k)) with
 | none =>
  dsimp only
  unfold J0
  rw [hf]
 | some e =>
  dsimp only
  have hek:e.p.id=k:=by have:=Wj hf;simpa using this
  have hlu:LOk (Yh k (J8 st) es) last:=Zbg ho (fun _=>rfl) fun _=>rfl
  have hu:J0 (Yh k (J8 st) es) k=Xe:=by
   have:=Zel (k:=k) (f:=J8 st) (fun _=>rfl) hf
   rw [if_pos hek] at this
   unfold J0
   rw [this]
   rfl
  split
  ·exact hu
  ·exact ZcT hlu.srt (KI (Zgc k _ _) (ZfE _ _ _)) hu
theorem Zaf (st:Int):∀ (zs:List Int) (es:List PE),Org es (Zj st es zs).1
 | [], es => VO es
 | z :: zs, es => by
  unfold Zj
  split
  ·exact KI (ZnC es z st) (Zaf st zs _)
  ·exact Zaf st zs es
theorem Ky (st:Int):∀ (zs:List Int) (es:List PE),LOk es last→Fra zs st es (Zj st es zs).1
 | [], es, _ => Ku es
 | z :: zs, es, ho => by
  cases hr:J0 es z with
  | none =>
   simp only [Zj,hr]
   exact ZcH (Ky st zs es ho) fun y hy=>by simp [hy]
  | some e =>
   simp only [Zj,hr]
   exact Vm (ZcH (Zi3 ho hr st) fun y hy=>by simp at hy;simp [hy]) (ZcH (Ky st zs _ (KD ho)) fun y hy=>by simp [hy])
theorem ZbV (st:Int):∀ (zs:List Int) (es:List PE),LOk es last→Frb zs es (Zj st es zs).1
 | [], es, _ => WY es
 | z :: zs, es, ho => by
  cases hr:J0 es z with
  | none =>
   simp only [Zj,hr]
   exact Zgt (ZbV st zs es ho) fun y hy=>by simp [hy]
  | some e =>
   simp only [Zj,hr]
   exact WS (st:=st) ho.srt (ZcH (Zi3 ho hr st) fun y hy=>by simp at hy;simp [hy]) (Zgt (ZrF ho hr st) fun y hy=>by simp at hy;simp [hy]) (Zgt (ZbV st zs _ (KD ho)) fun y hy=>by simp [hy])
theorem Zb4 (st:Int):∀ (zs:List Int) (es:List PE),LOk es last→∀ z∈zs,J0 (Zj st es zs).1 z=Xe
 | [], _, _, _, h => by cases h
 | y :: zs, es, ho, z, hz => by
  cases hr:J0 es y with
  | none =>
   simp only [Zj,hr]
   rcases Xq.1 hz with rfl | hz
   ·exact ZcT ho.srt (Zaf st zs es) hr
   ·exact Zb4 st zs es ho z hz
  | some e =>
   simp only [Zj,hr]
   rcases Xq.1 hz with rfl | hz
   ·exact ZcT (KD ho).srt (Zaf st zs _) (ZsW ho z st)
   ·exact Zb4 st zs _ (KD ho) z hz
end
section
open Go Go.AM Go.Proofs.Ytpjnmgjphfnmmaa
set_option maxRecDepth 100000
variable {rows:LL} {F:Ym}
theorem Zck (x:Int) {n:Int} (m0:0 < n) (m1:n≤1073741824):∃ a,g9 x n=Xa a∧0≤a∧a < n:=by
 have hr:iop .rem .i64 x n=Int.tmod x n:=rfl
 have h1:=Int.tmod_lt_of_pos x m0
 have h2 : -n < Int.tmod x n:=by
  have:=Int.tmod_lt_of_pos (-x) m0
  rw [Int.neg_tmod] at this
  omega
 rw [Zvo,hr,Zb (by omega)]
 by_cases hn:Int.tmod x n < 0
 ·rw [if_pos (by simp [cop,hn]),Zi7 (by omega) (by omega)]
  exact ⟨_,rfl,by omega,by omega⟩
 ·rw [if_neg (by simp [cop];omega)]
  exact ⟨_,rfl,by omega,by omega⟩
def CO (es:List PE):Prop:=∀ e∈es,e.p.cores.Pairwise (fun a b=>a < b)∧∀ z∈e.p.cores,0≤z∧z < 32
theorem Zm0:∀ (l:List Int) (a:Int),l.Pairwise (fun a b=>a < b)→(∀ z∈l,a≤z∧z < 32)→a≤32→(l.length:Int)≤32-a
 | [], a, _, _, ha => by simp; omega
 | z :: l, a, hs, hr, ha => by
  rw [Um] at hs
  have h1:=hr z (by simp)
  have:=Zm0 l (z+1) hs.2 (fun y hy=>⟨by have:=hs.1 y hy;omega,(hr y (by simp [hy])).2⟩) (by omega)
  simp only [XA]
  omega
theorem Znq {es:List PE} (h:CO es):∀ e∈es,e.p.cores.length≤32:=fun e he=>by
 obtain ⟨h1,h2⟩:=h e he
 have:=Zm0 _ 0 h1 h2 (by decide)
 omega
theorem Zhw {K:List Int} {st:Int} {es es':List PE} (h:CO es) (hf:Fra K st es es'):CO es':=fun e he=>by
 obtain ⟨a,ha,_,h1⟩:=hf e he
 rcases h1 with ⟨_,_,h1⟩ | ⟨_,_,_,_,h1⟩
 ·rw [h1];exact h a ha
 ·rw [h1];exact ⟨List.Pairwise.nil,fun z hz=>by cases hz⟩
theorem Ztm {es:List PE} (h:CO es) (core:Int):CO (es.map (Yk core)):=fun e he=>by
 obtain ⟨a,ha,rfl⟩:=Xk.1 he
 obtain ⟨h1,h2⟩:=h a ha
 exact ⟨h1.filter _,fun z hz=>h2 z (Wu.1 hz).1⟩
theorem ZsO {zs:List Int} (h:zs.Nodup):(srt zs).Pairwise fun a b=>a < b:=by
 have h1:=W5 zs
 have h2:(srt zs).Pairwise (fun a b=>a≠b):=by
  have:=(KT zs).nodup_iff.2 h
  exact Tv.1 this
 exact (h1.and h2).imp fun ⟨a,b⟩=>by omega
inductive Stp (es:List PE) (last:Int):List PE→Int→Prop
 | same : Stp es last es last
 | spawn (e' p : PE) (parent core : Int) (nm : ByteArray) : J0 es parent = Xa p → (0 ≤ core ∧ core < 32) → e'.p = ⟨last + 1, parent, nm, [core], Xc, 0, Xc⟩ → Stp es last (es ++ [e']) (last + 1)
 | span (k core : Int) (L : Nat) (e : PE) : J0 es k = Xa e → core ∉ e.p.cores → (0 ≤ core ∧ core < 32) → Stp es last (Yh k (ZaK L core) es) last
 | exit (k st : Int) (e : PE) : J0 es k = Xa e → Stp es last (Y6 es k st).1 last
 | kill (zs : List Int) : Stp es last (Zj (-1) es zs).1 last
 | wait (k : Int) : Stp es last (Y2 es k).1 last
 | depart (core : Int) : (0 ≤ core ∧ core < 32) → Stp es last (Zj (-2) (es.map (Yk core)) (ZgV core es)).1 last
theorem ZpD {es:List PE} {last:Int} (h:LOk es last) (k:Int):LOk (Y2 es k).1 last:=by
 unfold Y2
 cases hr:J0 es k with
 | none => exact h
 | some p =>
  obtain ⟨hf,_⟩:=Je hr
  have hpk:p.p.id=k:=by have:=Wj hf;simpa using this
  have hpr:=h.rng p (Ua hf)
  dsimp only
  split
  ·exact h
  ·split
   ·rename_i c hc
    have hcm:=Ua hc
    have hcp:c.p.parent=k:=by
     have:=Wj hc
     rw [Xs] at this
     simpa using this.1
    have:=h.par c hcm
    exact ZiT h (by omega)
   ·split
    ·exact ZdX (f:=fun q=>{ q with waiting:=Xb }) h (fun _=>rfl) fun e he _=>h.par e he
    ·exact h
theorem Zpz (es:List PE) (k:Int) {K:List Int} {st:Int} : Fra K st es (Y2 es k).1:=by
 unfold Y2
 split
 ·exact Ku es
 ·split
  ·exact Ku es
  ·split
   ·exact Zop _ _
   ·split
    ·exact Zdk es k (f:=fun q=>{ q with waiting:=Xb }) fun _=>⟨rfl,rfl,rfl,rfl⟩
    ·exact Ku es
theorem ZsC {es es':List PE} {last last':Int} (h:LOk es last) (s:Stp es last es' last'):∃ e∈es',e.p.id=1:=by
 cases s with
 | same => exact h.one
 | spawn e' p parent core nm _ _ _ =>
  obtain ⟨e,he,h1⟩:=h.one
  exact ⟨e,by simp [he],h1⟩
 | span k core L e _ _ _ => exact (Zbg (f := ZaK L core) h (fun _ => rfl) fun _ => rfl).one
 | exit k st e _ => exact (KD h).one
 | kill zs => exact (Vj zs _ h).one
 | wait k => exact (ZpD h k).one
 | depart core _ => exact (Vj _ _ (ZdL h core)).one
theorem Ztz {es es':List PE} {last last':Int} (h:LOk es last) (hc:CO es) (s:Stp es last es' last'):CO es':=by
 cases s with
 | same => exact hc
 | spawn e' p parent core nm _ h1 h2 =>
  intro e he
  rcases Xw.1 he with he | he
  ·exact hc e he
  ·rw [XG] at he
   rw [he,h2]
   exact ⟨Tw _ _,fun z hz=>by rw [XG] at hz;omega⟩
 | span k core L e h1 h2 h3 =>
  intro a ha
  obtain ⟨b,hb,rfl⟩:=Xk.1 ha
  split
  ·rename_i hbk
   obtain ⟨hf,_⟩:=Je h1
   have hek:e.p.id=k:=by have:=Wj hf;simpa using this
   have:b=e:=Zs7 h.srt hb (Ua hf) (hbk.trans hek.symm)
   subst this
   obtain ⟨c1,c2⟩:=hc b hb
   refine ⟨ZsO ?_,fun z hz=>?_⟩
   ·rw [List.nodup_append]
    refine ⟨Tv.2 (c1.imp fun hh=>by omega),by simp,fun x hx y hy=>?_⟩
    rw [XG] at hy
    intro hh
    rw [hy] at hh
    exact h2 (hh ▸ hx)
   ·have:=(KT (b.p.cores++[core])).mem_iff.1 hz
    rcases Xw.1 this with hz | hz
    ·exact c2 z hz
    ·rw [XG] at hz
     omega
  ·exact hc b hb
 | exit k st e h1 => exact Zhw hc (Zi3 h h1 st)
 | kill zs => exact Zhw hc (Ky (-1) zs es h)
 | wait k => exact Zhw (K := []) (st := 0) hc (Zpz es k)
 | depart core _ => exact Zhw (Ztm hc core) (Ky (-2) _ _ (ZdL h core))
structure Bo (rows:LL) (m:MS) (r:RS) (F:Ym):Prop where
 h:ZB rows (m.frag++(r.frag++F))
 ok:m.Ok
 sm:Sm m.es r.es
 lst:m.last=r.last
 lok:LOk m.es m.last
 co:CO m.es
theorem ZqN {m:MS} (hm:m.Ok) (h:∃ e∈m.es,e.p.id=1):LOk m.es m.last:=⟨hm.srt,hm.rng,hm.par,hm.len,hm.lst,h⟩
theorem Zq4 {es es':List PE} {last:Int} (h:LOk es last) (s:Sm es es'):LOk es' last:=by
 have hids:=ZhN s
 refine ⟨?_,fun b hb=>?_,fun b hb=>?_,by rw [← Zq2 s];exact h.len,h.lst,?_⟩
 ·have h1:=h.srt
  rw [← U9 (f:=fun e:PE=>e.p.id) (R:=fun a b=>a < b)] at h1 ⊢
  rw [← hids]
  exact h1
 ·obtain ⟨a,ha,hr⟩:=ZmU s hb
  rw [← hr.id]
  exact h.rng a ha
 ·obtain ⟨a,ha,hr⟩:=ZmU s hb
  rw [← hr.id,← hr.parent]
  exact h.par a ha
 ·obtain ⟨a,ha,h1⟩:=h.one
  have:(1:Int)∈es'.map fun e=>e.p.id:=by
   rw [← hids]
   exact Xk.2 ⟨a,ha,h1⟩
  obtain ⟨b,hb,h2⟩:=Xk.1 this
  exact ⟨b,hb,h2⟩
theorem mvR {A R F1 F:Ym} (h:ZB rows (A++(F1++(R++F)))):ZB rows (R++(A++(F1++F))):=by
 rw [← Xo] at h
 have:=h.perm (Ug (A++F1) R F)
 rw [Xo] at this
 exact this
theorem mvM {A R G F:Ym} (h:ZB rows (R++(G++(A++F)))):ZB rows (A++(R++(G++F))):=mvR h
theorem Bo.step {m m':MS} {r r':RS} {F F':Ym} {rows rows':LL} (b:Bo rows m r F) (h:ZB rows' (m'.frag++(r'.frag++F'))) (hm:m'.Ok) (hs:Sm m'.es r'.es) (hl:m'.last=r'.last) (st:Stp m.es m.last m'.es m'.last):Bo rows' m' r' F':=
 ⟨h,hm,hs,hl,ZqN hm (ZsC b.lok st),Ztz b.lok b.co st⟩
theorem ZeY {γ:Type} {l:List Zjs} {i:Nat} {a:Zjs} (h:l[i]? = Xa a) (k:Int×Int×Int→Option γ):Zl (ZU l) (i:Int) [.int .i64,.int .i64,.int .i64] k=k (a.1,a.2.1,a.2.2):=
 YL (l:=ZU l) (sh:=[.int .i64,.int .i64,.int .i64]) (cs:=[I a.1,I a.2.1,I a.2.2]) (r:=(a.1,a.2.1,a.2.2)) k (by omega) (by rw [Wo];simp only [ZU,Xl,h,Xv]) rfl
theorem Zj2 (l:List Zjs) (hl:l.length≤1000000):∀ (d i k:Nat),i+d=l.length→d < k→Zqr k (ZU l) (ZU l) (i:Int)=Xa Xb
 | 0, i, k, hd, hk => by
  obtain ⟨k',rfl⟩:∃ k',k=k'+1:=⟨k-1,by omega⟩
  have hlen:((ZU l).length:Int)=(l.length:Int):=by simp [ZU]
  rw [ZkB,hlen,if_neg (by simp [cop];omega)]
 | d + 1, i, k, hd, hk => by
  obtain ⟨k',rfl⟩:∃ k',k=k'+1:=⟨k-1,by omega⟩
  have hlen:((ZU l).length:Int)=(l.length:Int):=by simp [ZU]
  have hi:i < l.length:=by omega
  have hz:=Xr hi
  rw [ZkB,hlen,if_pos (by simp [cop];omega),ZeY hz,ZeY hz,ZaB (by omega),if_neg (by simp [cop])]
  exact Zj2 l hl d (i+1) k' (by omega) (by omega)
theorem s38 (l:List Zjs) (hl:l.length≤1000000):g38 (ZU l) (ZU l)=Xa Xb:=by
 rw [ZuF,if_neg (by simp [cop])]
 exact Zj2 l hl l.length 0 Ju (by omega) (by unfold Ju;omega)
theorem Zae (st:Int):∀ (zs:List Int) (es:List PE) (last:Int),LOk es last→(Zj st es zs).2.length≤65*zs.length
 | [], _, _, _ => Xz _
 | z :: zs, es, last, ho => by
  have hl:=ho.len
  cases hr:J0 es z with
  | none =>
   simp only [Zj,hr,XA]
   have:=Zae st zs es last ho
   omega
  | some e =>
   simp only [Zj,hr,XA,Xu]
   have:=Zae st zs _ last (KD (pid:=z) (st:=st) ho)
   have:=Zb6 es z st
   omega
theorem s33 (a b c d:Int) (raw:Bool) (nm:ByteArray):∃ p q u v w,g33 a b c d raw nm=Xa (p,q,u,v,w)∧ByteArray.size w≤60:=by
 obtain ⟨y1,e1,_,_⟩:=Zck b (n:=8) (by decide) (by decide)
 obtain ⟨y2,e2,_,_⟩:=Zck c (n:=8) (by decide) (by decide)
 obtain ⟨y3,e3,_,_⟩:=Zck d (n:=3) (by decide) (by decide)
 obtain ⟨y4,e4,_,_⟩:=Zck c (n:=256) (by decide) (by decide)
 rw [Zty,e1,e2,e3,e4]
 cases raw with
 | false => exact ⟨_, _, _, _, _, rfl, by decide⟩
 | true =>
  rw [if_pos rfl]
  by_cases h:nm.size≤60
  ·rw [if_pos (by simp [cop];omega)]
   exact ⟨_,_,_,_,_,rfl,h⟩
  ·rw [if_neg (by simp [cop];omega)]
   exact ⟨_,_,_,_,_,rfl,by decide⟩
theorem p10 {m:MS} {r:RS} (b:Bo rows m r F) {x y:LL} (hx:Ze x = .oref (m.jm+1) 0) (hy:Ze y = .oref (r.jr+1) 0) (hlast:m.last < 1048576) (parent core:Int) {nm:ByteArray} (hn:nm.size≤60) :
  ∃ v e rows1 rows2 m' r' F',g10 x parent nm core rows=Xa (v,e,rows1)∧g34 y parent nm core rows1=Xa (v,e,rows2)∧Bo rows2 m' r' F'∧m'.jm=m.jm∧r'.jr=r.jr∧m'.last≤m.last+1∧Stp m.es m.last m'.es m'.last:=by
 have h28:=s28 nm (by omega)
 have h56:=s56 nm (by omega)
 have hlr:=Zq4 b.lok b.sm
 by_cases hc:YN m.es parent core (ZfC nm)=0
 ·have hc2:YN r.es parent core (ZfC nm)=0:=by rw [← ZfF b.sm];exact hc
  obtain ⟨rows1,e',q1,q2,q3,q4⟩:=s10 b.h b.ok hx h28 hc hlast
  have hr1:=q3.perm (Ug _ _ _)
  have hne:r.es≠[]:=by
   obtain ⟨e,he,_⟩:=hlr.one
   intro hh
   rw [hh] at he
   cases he
  have hl1 : -1000≤r.last∧r.last < 1048576:=by
   obtain ⟨e,he,h1⟩:=hlr.one
   have:=hlr.rng e he
   have:=b.lst
   omega
  obtain ⟨rows2,ja2,G,t1,t2⟩:=s34 hr1 hne hlr.len hy h56 hc2 hl1
  have hrun:∃ p,J0 m.es parent=Xa p:=by
   unfold YN at hc
   cases hp:J0 m.es parent with
   | none => rw [hp] at hc; exact absurd hc (by show ¬ ((17 : Int) = 0); decide)
   | some p => exact ⟨p, rfl⟩
  obtain ⟨p,hp⟩:=hrun
  have hcore:0≤core∧core < 32:=by
   unfold YN at hc
   rw [hp] at hc
   dsimp only at hc
   by_cases h1:ZfC nm=Xb
   ·rw [if_pos h1] at hc
    by_cases h2:0≤core∧core < 32
    ·exact h2
    ·rw [if_neg h2] at hc
     exact absurd hc (by decide)
   ·rw [if_neg h1] at hc
    exact absurd hc (by decide)
  have st:Stp m.es m.last (m.es++[e']) (m.last+1):=.spawn e' p parent core nm hp hcore q2
  refine ⟨_,_,rows1,rows2,_,_,_,q1,by rw [b.lst];exact t1,b.step (m':={ m with es:=m.es++[e'],last:=m.last+1 }) (mvM t2) q4 (Zte b.sm (.cons ⟨?_,?_,?_,?_,?_,?_⟩ .nil)) (by show m.last+1=r.last+1;rw [b.lst]) st,rfl,rfl,Int.le_refl _,st⟩
  ·rw [q2,b.lst]
  ·rw [q2]
  ·rw [q2]
  ·rw [q2]
  ·rw [q2]
  ·rw [q2]
 ·have hc2:YN r.es parent core (ZfC nm)≠0:=by rw [← ZfF b.sm];exact hc
  have q1:=Zup b.h hx h28 hc
  have t1:=Ztk (b.h.perm (Ug _ _ _)) hlr.len hy h56 hc2
  rw [← ZfF b.sm] at t1
  exact ⟨_,_,rows,rows,m,r,F,q1,t1,b,rfl,rfl,by omega,.same⟩
end
section
open Go Go.AM Go.Proofs.Ytpjnmgjphfnmmaa
set_option maxRecDepth 100000
variable {rows:LL} {F:Ym}
theorem ZrR (z:Int):cop .eql z z=Xb:=by simp [cop]
theorem Zqo {m:MS} {r:RS} (b:Bo rows m r F) (zs:List Int) (st:Int) (hz:zs.length≤100):(Zj st m.es zs).2.length≤1000000:=by
 have:=Zae st zs m.es m.last b.lok
 omega
theorem s17 {m:MS} {r:RS} (b:Bo rows m r F) {x y:LL} (hx:Ze x = .oref (m.jm+1) 0) (hy:Ze y = .oref (r.jr+1) 0) (hlast:m.last < 1048576) (k0 k1 k2 k3:Int) (raw:Bool) (nm:ByteArray) :
  ∃ rows2 m' r' F',g17 x y k0 k1 k2 k3 raw nm rows=Xa (Xb,rows2)∧Bo rows2 m' r' F'∧m'.jm=m.jm∧r'.jr=r.jr∧m'.last≤m.last+1∧Stp m.es m.last m'.es m'.last:=by
 obtain ⟨id,other,core,status,name,h33,hn⟩:=s33 k0 k1 k2 k3 raw nm
 obtain ⟨kd,hk,hk0,hk1⟩:=Zck k0 (n:=7) (by decide) (by decide)
 have hlr:=Zq4 b.lok b.sm
 have hlr':LOk r.es r.last:=by rw [← b.lst];exact hlr
 have hcl:∀ e∈m.es,e.p.cores.length≤100:=fun e he=>XJ (Znq b.co e he) (by decide)
 have hcr:∀ e∈r.es,e.p.cores.length≤100:=fun e he=>by
  obtain ⟨a,ha,h1⟩:=ZmU b.sm he
  rw [← h1.cores.length_eq]
  exact hcl a ha
 rw [ZuH,h33,Xh]
 dsimp only
 rw [hk,Xh]
 have spawn:∃ rows2 m' r' F',((g10 x id name core rows).bind fun (r15:Int×Int×LL)=>(g34 y id name core r15.2.2).bind fun (r18:Int×Int×LL)=>if (cop .eql r15.1 r18.1)=Xb then Xa ((cop .eql r15.2.1 r18.2.1),r18.2.2) else Xa (Xc,r18.2.2))=Xa (Xb,rows2)∧Bo rows2 m' r' F'∧m'.jm=m.jm∧r'.jr=r.jr∧m'.last≤m.last+1∧Stp m.es m.last m'.es m'.last:=by
  obtain ⟨v,e,rows1,rows2,m',r',F',q1,q2,q3,q4,q5,q6,q7⟩:=p10 b hx hy hlast id core hn
  refine ⟨rows2,m',r',F',?_,q3,q4,q5,q6,q7⟩
  rw [q1,Xh]
  dsimp only
  rw [q2,Xh]
  dsimp only
  rw [if_pos (ZrR _),ZrR]
 by_cases c0:kd=0
 ·rw [if_pos (by simp [cop,c0])]
  exact spawn
 rw [if_neg (by simp [cop,c0])]
 by_cases c1:kd=1
 ·rw [if_pos (by simp [cop,c1])]
  exact spawn
 rw [if_neg (by simp [cop,c1])]
 by_cases c2:kd=2
 ·rw [if_pos (by simp [cop,c2])]
  by_cases hc:VY m.es id core=0
  ·have hc2:VY r.es id core=0:=by rw [← ZiG b.sm];exact hc
   obtain ⟨rows1,F1,L,q1,q2,q3⟩:=s35 b.h b.ok hx hcl hc
   obtain ⟨rows2,es',t1,t2,t3,_⟩:=s36 (mvR q2) hlr.srt hlr.len hy (k:=id) (core:=core) hcr
   rw [t3 hc2] at t2
   have st:Stp m.es m.last (Yh id (ZaK L core) m.es) m.last:=by
    unfold VY at hc
    cases hp:J0 m.es id with
    | none => rw [hp] at hc; exact absurd hc (by show ¬ ((17 : Int) = 0); decide)
    | some p =>
     rw [hp] at hc
     dsimp only at hc
     by_cases h2:0≤core∧core < 32
     ·rw [if_pos h2] at hc
      by_cases h3:core∈p.p.cores
      ·rw [if_pos h3] at hc
       exact absurd hc (by decide)
      ·exact .span id core L p hp h3 h2
     ·rw [if_neg h2] at hc
      exact absurd hc (by decide)
   refine ⟨rows2,_,_,_,?_,b.step (m':={ m with es:=Yh id (ZaK L core) m.es }) (r':={ r with es:=Yh id (ZnH core) r.es }) (t2.perm (Ug _ _ _)) q3 (Zqj b.sm id core L) b.lst st,rfl,rfl,by show m.last≤m.last+1;omega,st⟩
   rw [q1,Xh]
   dsimp only
   rw [t1,Xh,hc2]
   rfl
  ·have hc2:VY r.es id core≠0:=by rw [← ZiG b.sm];exact hc
   have q1:=ZtS b.h b.ok hx hcl hc
   obtain ⟨rows2,es',t1,t2,_,t3⟩:=s36 (b.h.perm (Ug _ _ _)) hlr.srt hlr.len hy (k:=id) (core:=core) hcr
   rw [t3 hc2] at t2
   refine ⟨rows2,m,r,F,?_,b.step (t2.perm (Ug _ _ _)) b.ok b.sm b.lst .same,rfl,rfl,by omega,.same⟩
   rw [q1,Xh]
   dsimp only
   rw [t1,Xh,ZiG b.sm,ZrR]
 rw [if_neg (by simp [cop,c2])]
 by_cases c3:kd=3
 ·rw [if_pos (by simp [cop,c3])]
  obtain ⟨rows1,F1,q1,q2,q3⟩:=s13 b.h b.ok hx id status
  obtain ⟨rows2,ja2,G,t1,t2⟩:=s37 (mvR q2) hlr' hy id status
  obtain ⟨⟨g1,g2⟩,g3⟩:=ZsP b.sm id status
  have hrl:(K8 m.es id status).1.2.length≤1000000:=by
   unfold K8
   split
   ·simp
   ·split
    ·simp
    ·split
     ·simp
     ·have:=Zb6 m.es id status
      have:=b.lok.len
      dsimp only
      omega
  have st:Stp m.es m.last (K8 m.es id status).1.1 m.last:=by
   unfold K8
   split
   ·exact .same
   ·rename_i e he
    split
    ·exact .same
    ·split
     ·exact .same
     ·exact .exit id status e he
  refine ⟨rows2,_,_,_,?_,b.step (m':={ m with es:=(K8 m.es id status).1.1 }) (mvM t2) q3 g1 b.lst st,rfl,rfl,by show m.last≤m.last+1;omega,st⟩
  rw [q1,Xh]
  dsimp only
  rw [t1,Xh]
  dsimp only
  rw [← g2,s38 _ hrl,Xh,if_pos rfl,g3,ZrR]
 rw [if_neg (by simp [cop,c3])]
 by_cases c4:kd=4
 ·rw [if_pos (by simp [cop,c4])]
  obtain ⟨rows1,F1,q1,q2,q3⟩:=s21 b.h b.ok hx id other
  obtain ⟨rows2,ja2,G,t1,t2⟩:=s39 (mvR q2) hlr' hy id other
  obtain ⟨⟨g1,g2⟩,g3⟩:=ZrW b.sm id other
  have hdl:=Zbl b.ok other
  have hrl:(J2 m.es id other).1.2.length≤1000000:=by
   unfold J2
   split
   ·simp
   ·split
    ·simp
    ·split
     ·exact Zqo b _ _ (by simp;omega)
     ·simp
  have st:Stp m.es m.last (J2 m.es id other).1.1 m.last:=by
   unfold J2
   split
   ·exact .same
   ·split
    ·exact .same
    ·split
     ·exact .kill _
     ·exact .same
  refine ⟨rows2,_,_,_,?_,b.step (m':={ m with es:=(J2 m.es id other).1.1 }) (mvM t2) q3 g1 b.lst st,rfl,rfl,by show m.last≤m.last+1;omega,st⟩
  rw [q1,Xh]
  dsimp only
  rw [t1,Xh]
  dsimp only
  rw [← g2,s38 _ hrl,Xh,if_pos rfl,g3,ZrR]
 rw [if_neg (by simp [cop,c4])]
 by_cases c5:kd=5
 ·rw [if_pos (by simp [cop,c5])]
  obtain ⟨rows1,F1,q1,q2,q3⟩:=s11 b.h b.ok hx id
  obtain ⟨rows2,ja2,G,t1,t2⟩:=s40 (mvR q2) hlr' hy id
  obtain ⟨g1,g2⟩:=Zr4 b.sm id
  have st:Stp m.es m.last (Y2 m.es id).1 m.last:=.wait id
  refine ⟨rows2,_,_,_,?_,b.step (m':={ m with es:=(Y2 m.es id).1 }) (mvM t2) q3 g1 b.lst st,rfl,rfl,by show m.last≤m.last+1;omega,st⟩
  rw [q1,Xh]
  dsimp only
  rw [t1,Xh]
  dsimp only
  rw [← g2,if_pos (by simp [cop]),if_pos (by simp),ZrR]
 rw [if_neg (by simp [cop,c5])]
 obtain ⟨rows1,F1,q1,q2,q3⟩:=s23 b.h b.ok hx (core:=core) hcl
 obtain ⟨rows2,ja2,G,t1,t2⟩:=s41 (mvR q2) hlr' hy (core:=core) hcr
 have hbl:(ZgV core m.es).length≤64:=by
  unfold ZgV
  rw [Xp]
  exact XJ (Un _ _) b.lok.len
 have hge:Eqv (YH m.es core).1 (VK r.es core).1∧(YH m.es core).2=(VK r.es core).2:=by
  rw [Znu b.lok]
  unfold VK
  split
  ·rw [← Zpg b.sm]
   exact ⟨ZaU (-2) _ (ZtR b.sm core),rfl⟩
  ·exact ⟨⟨b.sm,rfl⟩,rfl⟩
 obtain ⟨⟨g1,g2⟩,g3⟩:=hge
 have hrl:(YH m.es core).1.2.length≤1000000:=by
  unfold YH
  split
  ·have:=Zae (-2) (ZgV core m.es) _ m.last (ZdL b.lok core)
   dsimp only
   omega
  ·simp
 have st:Stp m.es m.last (YH m.es core).1.1 m.last:=by
  unfold YH
  split
  ·rename_i hcr
   exact .depart core hcr
  ·exact .same
 refine ⟨rows2,_,_,_,?_,b.step (m':={ m with es:=(YH m.es core).1.1 }) (mvM t2) q3 g1 b.lst st,rfl,rfl,by show m.last≤m.last+1;omega,st⟩
 rw [q1,Xh]
 dsimp only
 rw [t1,Xh]
 dsimp only
 rw [← g2,s38 _ hrl,Xh,if_pos rfl,g3,ZrR]
theorem ZpT {es:List PE} {p:Pr} (h:es.map PE.p = [p]):∃ j c,es = [⟨j,c,p⟩]:=by
 match es,h with
 | [e], h =>
  rw [Xi,XF,List.cons.injEq] at h
  exact ⟨e.j,e.c,by rw [← h.1]⟩
theorem s16 (h:ZB rows F) (core:Int):∃ rows' m r F' j c z,g16 core rows=Xa ([[.oref (m.jm+1) 0]],[[.oref (r.jr+1) 0]],Xb,rows')∧Bo rows' m r F'∧m.es = [⟨j,c,Zai z⟩]∧m.last=1∧(0≤z∧z < 32):=by
 obtain ⟨z,hz,z0,z1⟩:=Zck core (n:=3) (by decide) (by decide)
 obtain ⟨m,r1,q1,q2,q3,q4,q5⟩:=s8 (z:=z) (by omega) h
 obtain ⟨j,c,hes⟩:=ZpT q4
 obtain ⟨r,r2,t1,t2,t3,t4⟩:=s32 (z:=z) (by omega) q2
 refine ⟨r2,m,r,F,j,c,z,?_,⟨t2.perm (Ug _ _ _),q3,?_,by rw [q5,t4],ZqN q3 ⟨_,by rw [hes];exact XG.2 rfl,rfl⟩,?_⟩,hes,q5,by omega⟩
 ·rw [Zuq,hz,Xh,q1,Xh]
  dsimp only
  rw [t1,Xh]
  dsimp only
  rw [if_pos (by decide),if_pos (by decide),Zb (by simp [Zd,Ze,ZN,okL])]
  rfl
 ·rw [hes,t3]
  exact .cons ⟨rfl,rfl,rfl,rfl,rfl,List.Perm.refl _⟩ .nil
 ·intro e he
  rw [hes,XG] at he
  rw [he]
  exact ⟨Tw _ _,fun y hy=>by
   have:y=z:=by simpa [Zai] using hy
   omega⟩
end
section
open Go Go.AM Go.Proofs.Ytpjnmgjphfnmmaa
set_option maxRecDepth 100000
variable {rows:LL} {F:Ym} {m:MS}
theorem Zss {es:List PE} {p:Pr} (h:es.map PE.p = [p]):∃ j c,es = [⟨j,c,p⟩]:=by
 match es,h with
 | [e], h =>
  rw [Xi,XF,List.cons.injEq] at h
  exact ⟨e.j,e.c,by rw [← h.1]⟩
theorem Zvw {e:PE} {p:Pr} (h:e.p=p):∃ j c,e=⟨j,c,p⟩:=⟨e.j,e.c,by rw [← h]⟩
theorem Ztj:ZfC ⟨#[97]⟩=Xb:=by decide
theorem Zod {γ:Type} (a:Zjs) (k:Int×Int×Int→Option γ):Zl (ZU [a]) 0 [.int .i64,.int .i64,.int .i64] k=k (a.1,a.2.1,a.2.2):=YL (l:=ZU [a]) (sh:=[.int .i64,.int .i64,.int .i64]) (cs:=[I a.1,I a.2.1,I a.2.2]) (r:=(a.1,a.2.1,a.2.2)) k (by decide:(0:Int)≤0) rfl rfl
theorem s15 (h:ZB rows F):∃ rows',g15 rows=Xa (Xb,rows'):=by
 obtain ⟨m,r1,q1,q2,q3,q4,q5⟩:=s8 (z:=0) (by decide) h
 obtain ⟨j0,c0,hes⟩:=Zss q4
 have hx:Ze [[.oref (m.jm+1) 0]] = .oref (m.jm+1) 0:=rfl
 have hn:g28 ⟨#[97]⟩=Xa Xb:=by rw [s28 _ (by decide),Ztj]
 obtain ⟨r2,e1,t1,t2,t3,t4⟩:=s10 q2 q3 hx (parent:=1) (core:=0) hn (by rw [hes];rfl) (by rw [q5];decide)
 rw [q5] at t1 t2
 obtain ⟨j1,c1,rfl⟩:=Zvw t2
 obtain ⟨r3,F3,u1,u2,u3⟩:=s11 t3 t4 hx 1
 have hw:Y2 ({ m with es:=m.es++[⟨j1,c1,⟨1+1,1,⟨#[97]⟩,[0],Xc,0,Xc⟩⟩],last:=m.last+1 } : MS).es 1=([⟨j0,c0,⟨1,0,Zbp,[0],Xc,0,Xb⟩⟩,⟨j1,c1,⟨2,1,⟨#[97]⟩,[0],Xc,0,Xc⟩⟩],0,0,0,Xc,0):=by
  show Y2 (m.es++_) 1=_
  rw [hes]
  rfl
 rw [hw] at u1 u2 u3
 obtain ⟨r4,F4,v1,v2,v3⟩:=s13 u2 u3 hx 2 7
 have he:K8 [⟨j0,c0,⟨1,0,Zbp,[0],Xc,0,Xb⟩⟩,⟨j1,c1,⟨2,1,⟨#[97]⟩,[0],Xc,0,Xc⟩⟩] 2 7=(([⟨j0,c0,⟨1,0,Zbp,[0],Xc,0,Xc⟩⟩],[(1,2,7)]),0):=rfl
 have he2:K8 ({ m with es:=[⟨j0,c0,⟨1,0,Zbp,[0],Xc,0,Xb⟩⟩,⟨j1,c1,⟨2,1,⟨#[97]⟩,[0],Xc,0,Xc⟩⟩],last:=m.last+1 } : MS).es 2 7=(([⟨j0,c0,⟨1,0,Zbp,[0],Xc,0,Xc⟩⟩],[(1,2,7)]),0):=he
 rw [he2] at v1 v2 v3
 obtain ⟨r5,F5,w1,w2⟩:=s14 v2 v3 hx (fun e he=>by
  rw [XG] at he
  subst he
  show (1:Nat)≤100000
  decide)
 refine ⟨r5,?_⟩
 rw [Zt4,q1,Xh]
 dsimp only
 rw [if_neg (by decide),Zb (by simp [Zd,Ze,ZN,okL]),if_neg (by simp [Zd,Ze,ZN,okL,cop]),t1,Xh]
 dsimp only
 rw [u1,Xh]
 dsimp only
 rw [v1,Xh]
 dsimp only
 rw [if_pos (by decide),if_pos (by decide),if_pos (by decide),if_pos (by decide),if_pos (by decide),if_pos (by decide)]
 rw [Zod,if_pos (by decide),w1]
 rfl
end
end Go.W
