import Derived.Test.YtpjnmgjphfnmmaaM4
import Derived.Test.YtpjnmgjphfnmmaaFWh
import Derived.Test.YtpjnmgjphfnmmaaFWe
open Option renaming some→Xa,none→Xc,bind_some→Xi,map_some→Xw
open Bool renaming true→Xb,false→Xe,and_eq_true→Xs,true_and→Wc,false_eq_true→UF
open List renaming replicate→Xg,map_cons→Xh,mem_map→Xj,getElem?_eq_some_iff→Xk,getElem?_map→Xl,length→Xn,append_assoc→Xo,getElem?_eq_getElem→Xp,mem_cons→Xq,length_map→Xr,length_append→Xu,mem_append→Xv,getElem?_append_left→Xx,getElem?_append_right→Xz,length_cons→XA,all_eq_true→XD,mem_singleton→XE,map_nil→XF,cons_append→XJ,map_append→XL,nil_append→XM,append_nil→XN,length_take→XU,length_nil→XW,perm_append_comm_assoc→X4,filter_cons_of_neg→X8,flatten_cons→X9,nodup_cons→Wa,filter_cons_of_pos→Wd,mem_filter→We,map_map→Wf,getElem?_set_self→Wi,getElem?_eq_none→Wl,ext_getElem?→Wo,map_congr_left→Wr,find?_some→Wt,mem_of_find?_eq_some→Ue,pairwise_append→Uf,sum_cons→Ug,mem_cons_of_mem→Ul,pairwise_cons→Um,length_filter_le→Un,take_of_length_le→Uo,filter_eq_self→Uu,flatMap_cons→Uw,pairwise_map→Uy,mem_append_left→UG,find?_cons→UN,filter_append→UO,perm_middle→UP,length_set→US,nodup_iff_pairwise_ne→U1,length_pos_iff→U4,take_length→Tb,mem_append_right→Td,find?_eq_none→Te,any_cons→Tg,filterMap_cons_some→Th,find?_eq_some_iff_append→Tp,take_left'→Tq,find?_cons_of_pos→Tt,find?_cons_of_neg→Tu,perm_append_comm→TA,pairwise_singleton→TB,set_append_right→TD,length_eq_zero_iff→TE,take_append_of_le_length→TF
open Nat renaming le_refl→Xy,zero_add→XH,le_trans→XI,zero_le→X5,mul_one→Wj,sub_self→UE,add_sub_cancel_left→UI
open Int renaming toNat_natCast→Wv
open Function renaming comp→Ta
set_option linter.unusedVariables false
set_option linter.unusedSimpArgs false
set_option linter.defProp false
namespace Go.W
section
open Go Go.AM Go.Proofs.Ytpjnmgjphfnmmaa
set_option maxRecDepth 100000
structure Pr where
 id:Int
 parent:Int
 name:ByteArray
 cores:List Int
 ended : Bool
 status:Int
 waiting:Bool
structure PE where
 j:Nat
 c:Option (Nat×Nat)
 p:Pr
def PE.core (e:PE):AV:=match e.c with | none=>.osl 0 0 0 | some q=>.osl 3 (q.1+1) e.p.cores.length
def PE.row (e:PE):List AV:=[I e.p.id,I e.p.parent,.val (.string e.p.name),e.core,B e.p.ended,I e.p.status,B e.p.waiting]
def PE.arr (e:PE) (k:Nat):List AV:=e.p.cores.map (fun z=>I z)++Xg k (I 0)
def PE.frag (e:PE):JZ:=(e.j,e.row)::(match e.c with | none=>[] | some q=>[(q.1,e.arr q.2)])
def PE.ok (e:PE):Prop:=match e.c with | none=>e.p.cores = [] | some q=>e.p.cores.length+q.2≠0
structure MS where
 jm:Nat
 jq:Nat
 es:List PE
 last:Int
def PE.kv (e:PE):List AV:=[I e.p.id,.oref (e.j+1) 0]
def MS.head (m:MS):List AV:=[.omap (m.jq+1),I m.last]
def MS.map (m:MS):List AV:=ZD (m.es.map PE.kv)
def MS.frag (m:MS):JZ:=(m.jm,m.head)::(m.jq,m.map)::m.es.flatMap PE.frag
def MS.find (m:MS) (k:Int):Option PE:=m.es.find? fun e=>decide (e.p.id=k)
def nmE (o:Option PE):LL:=match o with | none=>[[.oref 0 0]] | some e=>[[.oref (e.j+1) 0]]
variable {rows:LL} {F:JZ} {m:MS}
theorem head_at (h:ZC rows (m.frag++F)):rows[m.jm]? = Xa m.head:=h.get (by simp [MS.frag])
theorem map_at (h:ZC rows (m.frag++F)):rows[m.jq]? = Xa m.map:=h.get (by simp [MS.frag])
theorem Zhz (h:ZC rows (m.frag++F)) {e:PE} (he:e∈m.es):rows[e.j]? = Xa e.row:=h.get (by
 simp only [MS.frag,XJ,Xq,Xv,List.mem_flatMap];exact .inr (.inr (.inl ⟨e,he,by simp [PE.frag]⟩)))
theorem Zcr {x:LL} {k:Int} (h:ZC rows (m.frag++F)) (hx:Zd x = .omap (m.jq+1)):Zc .mget rows k x []=nmE (m.find k):=by
 simp only [Zc,hx,Zn3,ZsG,ZZ (map_at h),MS.map,ZD,J5]
 have:(m.es.map PE.kv).find? (fun r=>Zl r == Xa k)=(m.find k).map PE.kv:=by
  unfold MS.find
  induction m.es with
  | nil => rfl
  | cons e es ih =>
   have hk:(Zl e.kv == Xa k)=decide (e.p.id=k):=by
    show (Xa e.p.id == Xa k)=_;by_cases hd:e.p.id=k<;>simp [hd]
   simp only [Xh,UN,hk]
   cases hd:decide (e.p.id=k) with
   | true => rfl
   | false => exact ih
 rw [this]
 cases m.find k with
 | none => rfl
 | some e => rfl
theorem Vk {x:LL} (h:ZC rows (m.frag++F)) (hx:Zd x = .omap (m.jq+1)):Zc .mchk rows 0 x [] = [[]]:=by
 simp only [Zc,hx,Zvh,ZZ (map_at h),MS.map,ZD,JR,okL]
theorem Jo {k:Int} {e:PE} (h:m.find k=Xa e):e∈m.es∧e.p.id=k:=by
 unfold MS.find at h;refine ⟨Ue h,?_⟩;have:=Wt h;simpa using this
def MS.run (m:MS) (k:Int):Option PE:=match m.find k with | some e=>if e.p.ended=Xb then Xc else Xa e | none=>Xc
theorem Zp {γ:Type} {c:AV} (hc:ZP c=Xb) (k:LL→Option γ):Zk [[c]] 0 [.cel] k=k [[c]]:=by
 refine YM (l:=[[c]]) (sh:=[.cel]) (cs:=[c]) (r:=([[c]] : LL)) k (by decide:(0:Int)≤0) rfl ?_;show (if ZP c=Xb then Xa [[c]] else Xc)=Xa [[c]];rw [if_pos hc]
theorem JU {γ:Type} (b:Bool) (k:Bool→Option γ):Zk [[B b]] 0 [.bool] k=k b:=YM (l:=[[B b]]) (sh:=[.bool]) (cs:=[B b]) (r:=(b:Bool)) k (by decide:(0:Int)≤0) rfl rfl
theorem ZL {γ:Type} (z:Int) (k:Int→Option γ):Zk [[I z]] 0 [.int .i64] k=k z:=YM (l:=[[I z]]) (sh:=[.int .i64]) (cs:=[I z]) (r:=(z:Int)) k (by decide:(0:Int)≤0) rfl rfl
theorem ne1 {l:LL} (h:l = [[]]):l≠[]:=by rw [h];simp
theorem YY {x:LL} (h:ZC rows (m.frag++F)) (hx:Zd x = .oref (m.jm+1) 0):Zc (.get 1) rows 0 (Zc (.padd 0) x 0 E0 []) [] = [[.omap (m.jq+1)]]:=by
 rw [YS hx];exact JH rfl (head_at h) rfl rfl
theorem ZiU {x:LL} (h:ZC rows (m.frag++F)) (hx:Zd x = .oref (m.jm+1) 0):Zc (.get 1) rows 0 (Zc (.padd 1) x 0 E0 []) [] = [[I m.last]]:=by
 rw [YS hx];exact JH rfl (head_at h) rfl rfl
theorem Ko (o:Option PE):Zc .pisr (nmE o) 0 E0 [] = [[]]:=by cases o with | none=>exact Zpp rfl | some e=>exact Zpt rfl
theorem Vd:Zc .pnn (nmE Xc) 0 E0 [] = []:=Zsy rfl
theorem Zr (e:PE):Zc .pnn (nmE (Xa e)) 0 E0 [] = [[]]:=ZE rfl
theorem Zd4 (e:PE):Zd (nmE (Xa e)) = .oref (e.j+1) 0:=rfl
theorem Kg {e:PE} {o:Nat} {c:AV} (h:ZC rows (m.frag++F)) (he:e∈m.es) (hc:e.row[o]? = Xa c):Zc (.get 1) rows 0 (Zc (.padd o) (nmE (Xa e)) 0 E0 []) [] = [[c]]:=by
 rw [YS (Zd4 e),XH];exact JH rfl (Zhz h he) rfl hc
theorem s27 {x:LL} (h:ZC rows (m.frag++F)) (hx:Zd x = .oref (m.jm+1) 0) (k:Int):g27 x k rows=Xa (nmE (m.run k),rows):=by
 rw [Zu7,Zb (ne1 (ZE hx)),Zb (ne1 (ZE hx)),YY h hx,Zp rfl,Zb (ne1 (Vk h rfl)),Zcr h rfl,Zb (ne1 (Ko _))];unfold MS.run
 cases hf:m.find k with
 | none =>
  rw [Vd];rfl
 | some e =>
  rw [Zb (ne1 (Zr e)),Zb (ne1 (Zr e)),Kg h (Jo hf).1 (c:=B e.p.ended) rfl,JU,Zr];show _=Xa (nmE (if e.p.ended=Xb then Xc else Xa e),rows)
  cases hb:e.p.ended<;>rfl
end
section
open Go Go.AM Go.Proofs.Ytpjnmgjphfnmmaa
set_option maxRecDepth 100000
structure MS.Ok (m:MS):Prop where
 srt:m.es.Pairwise fun a b=>a.p.id < b.p.id
 rng:∀ e∈m.es,1≤e.p.id∧e.p.id≤m.last
 cor:∀ e∈m.es,e.ok
 par:∀ e∈m.es,0≤e.p.parent∧e.p.parent < e.p.id
 len:m.es.length≤64
 lst:m.last≤1048576
variable {rows:LL} {F:JZ} {m:MS}
def MS.ids (m:MS):LL:=m.es.map fun e=>[I e.p.id]
theorem ZtF (es:List PE):(es.map PE.kv).filterMap Zl=es.map fun e=>e.p.id:=by
 induction es with
 | nil => rfl
 | cons e es ih => rw [Xh, Th (f := Zl) (a := e.kv) (b := e.p.id) rfl, ih, Xh]
theorem ZjG (h:m.es.Pairwise fun a b=>a.p.id < b.p.id):Zay (m.es.map PE.kv)=m.ids:=by
 unfold Zay MS.ids;rw [ZtF,List.mergeSort_of_pairwise,Wf]
 ·rfl
 ·rw [Uy];exact h.imp fun hab=>decide_eq_true (by omega)
theorem s51 {x:LL} {rows:LL} (hx:Zd x = .omap (m.jq+1)):g51 x rows=Xa ([[.fnc 69 [rows.length+1]]],rows++[[.omap (m.jq+1)]]):=by
 have hp:Zc .pnew rows 0 E0 [] = [[.oref (rows.length+1) 0]]:=rfl;rw [ZuW,hp,Zb (by simp [Zc,Zd,ZP,okL]),Zb (ne1 (ZE rfl)),hx];rfl
theorem s50 (h:ZC rows (m.frag++F)) (hm:m.Ok):g50 [[.fnc 69 [rows.length+1]]] (rows++[[.omap (m.jq+1)]])=Xa (m.ids,rows++[[.omap (m.jq+1)]]):=by
 have e:g50 [[.fnc 69 [rows.length+1]]] (rows++[[.omap (m.jq+1)]])=Zc6 69 [[.fnc 69 [rows.length+1]]] (rows++[[.omap (m.jq+1)]]):=rfl;rw [e]
 have hq:(rows++[[.omap (m.jq+1)]])[m.jq]? = Xa m.map:=by
  have:=map_at h;rw [Xx (Xk.1 this).1];exact this
 have hb:ZG (rows++[[.omap (m.jq+1)]]) (rows.length+1) = [.omap (m.jq+1)]:=ZZ (by simp);have hr:ZG (rows++[[.omap (m.jq+1)]]) (m.jq+1)=ZD (m.es.map PE.kv):=ZZ hq;unfold Zc6;simp only [Zd,ZP,hb];rw [hr];have hk:J5 (ZD (m.es.map PE.kv))=m.es.map PE.kv:=rfl;rw [hk,Zb,ZjG hm.srt];refine ⟨trivial,rfl,by have:=hm.len;simp;omega,XD.2 fun r hr=>?_⟩;obtain ⟨e,he,rfl⟩:=Xj.1 hr;have h1:=hm.rng e he;have h2:=hm.lst;show (decide (-9223372036854775808≤e.p.id)&&decide (e.p.id≤9223372036854775807))=Xb;rw [decide_eq_true (by omega),decide_eq_true (by omega)];rfl
theorem s29 {x:LL} (h:ZC rows (m.frag++F)) (hm:m.Ok) (hx:Zd x = .oref (m.jm+1) 0):g29 x rows=Xa (m.ids,rows++[[.omap (m.jq+1)]]):=by
 rw [ZuD,Zb (ne1 (ZE hx)),Zb (ne1 (ZE hx)),YY h hx,Zp rfl,s51 (m:=m) rfl,Xi,s50 h hm];rfl
end
section
open Go Go.AM Go.Proofs.Ytpjnmgjphfnmmaa
set_option maxRecDepth 100000
variable {rows:LL} {F:JZ} {m:MS}
def PE.cf (e:PE):JZ:=match e.c with | none=>[] | some q=>[(q.1,e.arr q.2)]
theorem PE.frag_eq (e:PE):e.frag=(e.j,e.row)::e.cf:=rfl
def MS.put (m:MS) (pre:List PE) (e:PE) (post:List PE):MS:={ m with es:=pre++e::post }
theorem Vg (m:MS) {pre post:List PE} {e:PE} (hs:m.es=pre++e::post) :
  (m.frag++F).Perm ((e.j,e.row)::((m.jm,m.head)::(m.jq,m.map)::(pre.flatMap PE.frag++(e.cf++post.flatMap PE.frag))++F)):=by
 have:m.frag++F=((m.jm,m.head)::(m.jq,m.map)::pre.flatMap PE.frag)++((e.j,e.row)::(e.cf++post.flatMap PE.frag++F)):=by
  simp only [MS.frag,hs,List.flatMap_append,Uw,PE.frag_eq,XJ,Xo]
 rw [this];refine List.perm_middle.trans (List.Perm.cons _ ?_);simp only [XJ,Xo];exact List.Perm.refl _
theorem holds_row (h:ZC rows (m.frag++F)) {pre post:List PE} {e e':PE} (hs:m.es=pre++e::post) (hj:e'.j=e.j) (hid:e'.p.id=e.p.id) (hc:e'.cf=e.cf):ZC (rows.set e.j e'.row) ((m.put pre e' post).frag++F):=by
 have h1:=(h.perm (Vg m hs)).set e'.row;have h2:=(Vg (F:=F) (m.put pre e' post) (pre:=pre) (e:=e') (post:=post) rfl).symm;refine ZC.perm ?_ h2
 have hm:(m.put pre e' post).map=m.map:=by
  simp only [MS.map,MS.put,hs,XL,Xh,PE.kv,hj,hid]
 have hh:(m.put pre e' post).head=m.head:=rfl;rw [hm,hh,hj,hc];exact h1
theorem W9 {k:Int} {e:PE} (h:m.find k=Xa e):∃ pre post,m.es=pre++e::post∧e.p.id=k∧∀ a∈pre,a.p.id≠k:=by
 obtain ⟨h1,pre,post,h2,h3⟩:=Tp.1 (show m.es.find? (fun e=>decide (e.p.id=k))=Xa e from h);exact ⟨pre,post,h2,by simpa using h1,fun a ha=>by simpa using h3 a ha⟩
def MS.del (m:MS) (pre post:List PE):MS:={ m with es:=pre++post }
theorem holds_del (h:ZC rows (m.frag++F)) {pre post:List PE} {e:PE} (hs:m.es=pre++e::post):ZC (rows.set m.jq (m.del pre post).map) ((m.del pre post).frag++(e.frag++F)):=by
 have h0:(m.frag++F).Perm ((m.jq,m.map)::((m.jm,m.head)::((m.del pre post).es.flatMap PE.frag++(e.frag++F)))):=by
  simp only [MS.frag,hs,MS.del,List.flatMap_append,Uw,XJ,Xo];refine (List.Perm.swap _ _ _).trans (List.Perm.cons _ (List.Perm.cons _ (List.Perm.append_left _ ?_)));rw [← Xo,← Xo (post.flatMap PE.frag)];exact List.Perm.append_right _ TA
 refine ((h.perm h0).set (m.del pre post).map).perm ?_;have:(m.del pre post).frag++(e.frag++F)=(m.jm,m.head)::(m.jq,(m.del pre post).map)::((m.del pre post).es.flatMap PE.frag++(e.frag++F)):=rfl;rw [this];exact List.Perm.swap _ _ _
theorem Zi3 {pre post:List PE} {e:PE} (h:(pre++e::post).Pairwise fun a b=>a.p.id < b.p.id):Zbj ((pre++e::post).map PE.kv) e.p.id=(pre++post).map PE.kv:=by
 unfold Zbj;rw [List.filter_map];congr 1
 have hk:∀ a:PE,(((fun r=>!(Zl r == Xa e.p.id)) ∘ PE.kv) a) = !decide (a.p.id=e.p.id):=fun a=>by
  show (!(Xa a.p.id == Xa e.p.id))=_;by_cases hd:a.p.id=e.p.id<;>simp [hd]
 rw [Uf,Um] at h;obtain ⟨_,⟨h2,_⟩,h3⟩:=h;rw [UO,X8 (by rw [hk];simp),Uu.2 fun a ha=>?_,Uu.2 fun a ha=>?_]
 ·rw [hk];have:=h2 a ha;simp;omega
 ·rw [hk];have:=h3 a ha e (by simp);simp;omega
theorem Zkw (hm:m.Ok) {pre post:List PE} {e e':PE} (hs:m.es=pre++e::post) (hid:e'.p.id=e.p.id) (hok:e'.ok) (hpr:0≤e'.p.parent∧e'.p.parent < e'.p.id):(m.put pre e' post).Ok:=by
 have hsrt:=hm.srt;rw [hs] at hsrt
 have hmem:∀ a∈pre++e'::post,a=e'∨a∈m.es:=fun a ha=>by
  rw [hs];rcases Xv.1 ha with ha | ha
  ·exact .inr (UG _ ha)
  ·rcases Xq.1 ha with rfl | ha
   ·exact .inl rfl
   ·exact .inr (Td _ (Ul _ ha))
 have he:=hm.rng e (by rw [hs];simp);refine ⟨?_,fun a ha=>?_,fun a ha=>?_,fun a ha=>?_,?_,hm.lst⟩
 ·show (pre++e'::post).Pairwise _;rw [Uf,Um] at hsrt ⊢;obtain ⟨h1,⟨h2,h3⟩,h4⟩:=hsrt;refine ⟨h1,⟨fun a ha=>by rw [hid];exact h2 a ha,h3⟩,fun a ha b hb=>?_⟩;rcases Xq.1 hb with rfl | hb
  ·rw [hid];exact h4 a ha e (by simp)
  ·exact h4 a ha b (by simp [hb])
 ·rcases hmem a ha with rfl | ha
  ·rw [hid];exact he
  ·exact hm.rng a ha
 ·rcases hmem a ha with rfl | ha
  ·exact hok
  ·exact hm.cor a ha
 ·rcases hmem a ha with rfl | ha
  ·exact hpr
  ·exact hm.par a ha
 ·have:=hm.len;rw [hs] at this;show (pre++e'::post).length≤64;simp at this ⊢;omega
theorem Zur (hm:m.Ok) {pre post:List PE} {e:PE} (hs:m.es=pre++e::post):(m.del pre post).Ok:=by
 have hsrt:=hm.srt;rw [hs] at hsrt
 have hmem:∀ a∈pre++post,a∈m.es:=fun a ha=>by
  rw [hs];rcases Xv.1 ha with ha | ha
  ·exact UG _ ha
  ·exact Td _ (Ul _ ha)
 refine ⟨?_,fun a ha=>hm.rng a (hmem a ha),fun a ha=>hm.cor a (hmem a ha),fun a ha=>hm.par a (hmem a ha),?_,hm.lst⟩
 ·show (pre++post).Pairwise _;rw [Uf,Um] at hsrt;rw [Uf];exact ⟨hsrt.1,hsrt.2.1.2,fun a ha b hb=>hsrt.2.2 a ha b (Ul _ hb)⟩
 ·have:=hm.len;rw [hs] at this;show (pre++post).length≤64;simp at this ⊢;omega
end
section
open Go Go.AM Go.Proofs.Ytpjnmgjphfnmmaa
set_option maxRecDepth 100000
variable {rows:LL} {F:JZ} {m:MS}
def ZcO (k:Int) (f:Pr→Pr) (es:List PE):List PE:=es.map fun e=>if e.p.id=k then { e with p:=f e.p } else e
def Wq (k:Int) (es:List PE):List PE:=es.filter fun e=>!decide (e.p.id=k)
theorem Zbh {k:Int} {f:Pr→Pr} {pre post:List PE} {e:PE} (h:(pre++e::post).Pairwise fun a b=>a.p.id < b.p.id) (hk:e.p.id=k):ZcO k f (pre++e::post)=pre++{ e with p:=f e.p } :: post:=by
 rw [Uf,Um] at h;obtain ⟨_,⟨h2,_⟩,h3⟩:=h;unfold ZcO;rw [XL,Xh,if_pos hk];congr 1
 ·conv=>rhs;rw [← List.map_id pre]
  refine Wr fun a ha=>?_;have:=h3 a ha e (by simp);rw [if_neg (by omega)];rfl
 ·congr 1
  conv=>rhs;rw [← List.map_id post]
  refine Wr fun a ha=>?_;have:=h2 a ha;rw [if_neg (by omega)];rfl
theorem Zo8 {k:Int} {pre post:List PE} {e:PE} (h:(pre++e::post).Pairwise fun a b=>a.p.id < b.p.id) (hk:e.p.id=k):Wq k (pre++e::post)=pre++post:=by
 rw [Uf,Um] at h;obtain ⟨_,⟨h2,_⟩,h3⟩:=h;unfold Wq;rw [UO,X8 (by simp [hk]),Uu.2 fun a ha=>?_,Uu.2 fun a ha=>?_]
 ·have:=h2 a ha;simp;omega
 ·have:=h3 a ha e (by simp);simp;omega
theorem ZrJ {e:PE} {o:Nat} {c:AV} (h:ZC rows (m.frag++F)) (he:e∈m.es) (ho:o < 7):Zc .set rows 0 (Zc (.padd o) (nmE (Xa e)) 0 E0 []) [c]=rows.set e.j (e.row.set o c):=by
 rw [YS (Zd4 e),XH];exact Zas rfl (Zhz h he) ho
theorem ZpT {e:PE} {f:Pr→Pr} (h:ZC rows (m.frag++F)) (hm:m.Ok) (he:m.find e.p.id=Xa e) (hid:(f e.p).id=e.p.id) (hc:(f e.p).cores=e.p.cores) (hpr:0≤(f e.p).parent∧(f e.p).parent < e.p.id) :
  ZC (rows.set e.j ({ e with p:=f e.p } : PE).row) (({ m with es:=ZcO e.p.id f m.es } : MS).frag++F)∧({ m with es:=ZcO e.p.id f m.es } : MS).Ok:=by
 obtain ⟨pre,post,hs,_,_⟩:=W9 he;have hsrt:=hm.srt;rw [hs] at hsrt
 have hu:({ m with es:=ZcO e.p.id f m.es } : MS)=m.put pre { e with p:=f e.p } post:=by
  simp only [MS.put,hs,Zbh hsrt rfl]
 rw [hu];refine ⟨holds_row h hs rfl hid ?_,Zkw hm hs hid ?_ (by show 0≤(f e.p).parent∧(f e.p).parent < (f e.p).id;rw [hid];exact hpr)⟩
 ·simp only [PE.cf,PE.arr,hc]
 ·have:=hm.cor e (by rw [hs];simp);unfold PE.ok at this ⊢;simp only [hc];exact this
theorem ZmW {e:PE} (h:ZC rows (m.frag++F)) (hm:m.Ok) (he:m.find e.p.id=Xa e) {x:LL} (hx:Zd x = .omap (m.jq+1)) :
  ZC (Zc .mdel rows e.p.id x []) (({ m with es:=Wq e.p.id m.es } : MS).frag++(e.frag++F))∧({ m with es:=Wq e.p.id m.es } : MS).Ok:=by
 obtain ⟨pre,post,hs,_,_⟩:=W9 he;have hsrt:=hm.srt;rw [hs] at hsrt
 have hu:({ m with es:=Wq e.p.id m.es } : MS)=m.del pre post:=by
  simp only [MS.del,hs,Zo8 hsrt rfl]
 rw [hu];refine ⟨?_,Zur hm hs⟩;have:=holds_del h hs
 have hst:Zc .mdel rows e.p.id x []=rows.set m.jq (m.del pre post).map:=by
  simp only [Zc,hx,Zma,ZZ (map_at h)];show rows.set m.jq (ZD (Zbj (m.es.map PE.kv) e.p.id))=_;rw [hs,Zi3 hsrt];rfl
 rw [hst];exact this
abbrev Zi4:=Int×Int×Int
def ZX (l:List Zi4):LL:=l.map fun r=>[I r.1,I r.2.1,I r.2.2]
def Ym (es:List PE) (par:Int) (c:Pr):List PE×List Zi4:=
 match es.find? fun e=>decide (e.p.id=par) with
 | some p => if p.p.waiting = Xb then (Wq c.id (ZcO par (fun q => { q with waiting := Xe }) es), [(par, c.id, c.status)]) else (es, [])
 | none => (es, [])
theorem ZcZ {k k':Int} {f:Pr→Pr} {e:PE} (hid:∀ q,(f q).id=q.id) (h:m.find k'=Xa e):({ m with es:=ZcO k f m.es } : MS).find k'=Xa (if e.p.id=k then { e with p:=f e.p } else e):=by
 unfold MS.find ZcO at *;dsimp only;rw [List.find?_map]
 have:((fun e:PE=>decide (e.p.id=k')) ∘ fun e=>if e.p.id=k then { e with p:=f e.p } else e)=fun e=>decide (e.p.id=k'):=by
  funext a;simp only [Ta];by_cases ha:a.p.id=k
  ·simp only [if_pos ha,hid]
  ·simp only [if_neg ha]
 rw [this,h];rfl
theorem s52 {x:LL} (h:ZC rows (m.frag++F)) (hm:m.Ok) (hx:Zd x = .oref (m.jm+1) 0) {e:PE} (he:m.find e.p.id=Xa e) (par:Int) :
  ∃ rows' F',g52 x par (nmE (Xa e)) rows=Xa (ZX (Ym m.es par e.p).2,rows')∧ZC rows' (({ m with es:=(Ym m.es par e.p).1 } : MS).frag++(F'++F))∧({ m with es:=(Ym m.es par e.p).1 } : MS).Ok:=by
 rw [Zvu,Zb (ne1 (ZE hx)),Zb (ne1 (ZE hx)),YY h hx,Zp rfl,Zb (ne1 (Vk h rfl)),Zcr h rfl,Zb (ne1 (Ko _))];unfold Ym
 cases hf:m.find par with
 | none =>
  have hf':m.es.find? (fun e=>decide (e.p.id=par))=Xc:=hf;rw [hf',Vd];exact ⟨rows,[],rfl,h,hm⟩
 | some p =>
  have hf':m.es.find? (fun e=>decide (e.p.id=par))=Xa p:=hf;obtain ⟨hp,hpk⟩:=Jo hf;subst hpk;rw [hf',Zb (ne1 (Zr p)),Zb (ne1 (Zr p)),Kg h hp (c:=B p.p.waiting) rfl,JU,Zr];rw [if_neg (by decide)];dsimp only
  cases hw:p.p.waiting with
  | false =>
   simp only [UF,if_false];exact ⟨rows,[],rfl,h,hm⟩
  | true =>
   simp only [Bool.not_true,UF,if_false,if_true];obtain ⟨hu1,hu2⟩:=ZpT (f:=fun q=>{ q with waiting:=Xe }) h hm (by rw [hf]) rfl rfl (hm.par p hp);have hst:Zc .set rows 0 (Zc (.padd 6) (nmE (Xa p)) 0 E0 []) [AV.val (.bool Xe)]=rows.set p.j ({ p with p:={ p.p with waiting:=Xe } } : PE).row:=by rw [ZrJ h hp (by decide)];rfl
   have hfe:=ZcZ (k:=p.p.id) (f:=fun q=>{ q with waiting:=Xe }) (fun _=>rfl) he;obtain ⟨e1,he1⟩:∃ e1,e1=if e.p.id=p.p.id then { e with p:=(fun q:Pr=>{ q with waiting:=Xe }) e.p } else e:=⟨_,rfl⟩;rw [← he1] at hfe;have hj:e1.j=e.j:=by rw [he1];split<;>rfl
   have hi:e1.p.id=e.p.id:=by rw [he1];split<;>rfl
   have hs:e1.p.status=e.p.status:=by rw [he1];split<;>rfl
   have hn:nmE (Xa e)=nmE (Xa e1):=by simp only [nmE,hj]
   rw [← hi] at hfe;rw [hn,hst,Zb (by simp),Zb (by simp),Zb (by simp),Zb (ne1 (ZE hx)),Zb (ne1 (ZE hx))];generalize rows.set p.j ({ p with p:={ p.p with waiting:=Xe } } : PE).row=rows1 at hu1 ⊢;obtain ⟨hv1,hv2⟩:=ZmW hu1 hu2 hfe (x:=[[.omap (m.jq+1)]]) rfl;rw [YY hu1 hx,Zp rfl,Zb (ne1 (Zr _)),Zb (ne1 (Zr _)),Kg hu1 (Jo hfe).1 (c:=I e1.p.id) rfl,ZL,Zb (ne1 (Vk hu1 rfl)),Zb (ne1 (Zr _)),Zb (ne1 (Zr _))];have hr:(Zc .mdel rows1 e1.p.id [[.omap (m.jq+1)]] [])[e1.j]? = Xa e1.row:=hv1.get (by simp [PE.frag]);rw [YS (Zd4 e1),YS (Zd4 e1),JH (c:=I e1.p.id) rfl hr rfl rfl,ZL,Zb (ne1 (Zr _)),Zb (ne1 (Zr _)),JH (c:=I e1.p.status) rfl hr rfl rfl,ZL];refine ⟨_,e1.frag,?_,by rw [← hi];exact hv1,by rw [← hi];exact hv2⟩;rw [hi,hs];rfl
end
section
open Go Go.AM Go.Proofs.Ytpjnmgjphfnmmaa
set_option maxRecDepth 100000
variable {rows:LL} {F:JZ} {m:MS}
def Yk (st:Int) (e:PE):PE:={ e with c:=Xc,p:={ e.p with ended:=Xb,status:=st,cores:=[],waiting:=Xe } }
def Yp (k:Int) (f:PE→PE) (es:List PE):List PE:=es.map fun e=>if e.p.id=k then f e else e
theorem Vt {k:Int} {f:PE→PE} {pre post:List PE} {e:PE} (h:(pre++e::post).Pairwise fun a b=>a.p.id < b.p.id) (hk:e.p.id=k):Yp k f (pre++e::post)=pre++f e::post:=by
 rw [Uf,Um] at h;obtain ⟨_,⟨h2,_⟩,h3⟩:=h;unfold Yp;rw [XL,Xh,if_pos hk];congr 1
 ·conv=>rhs;rw [← List.map_id pre]
  refine Wr fun a ha=>?_;have:=h3 a ha e (by simp);rw [if_neg (by omega)];rfl
 ·congr 1
  conv=>rhs;rw [← List.map_id post]
  refine Wr fun a ha=>?_;have:=h2 a ha;rw [if_neg (by omega)];rfl
theorem ZtY {e:PE} {f:PE→PE} (h:ZC rows (m.frag++F)) (hm:m.Ok) (he:m.find e.p.id=Xa e) (hj:(f e).j=e.j) (hid:(f e).p.id=e.p.id) (hc:(f e).c=Xc) (hok:(f e).ok) (hpr:0≤(f e).p.parent∧(f e).p.parent < e.p.id) :
  ZC (rows.set e.j (f e).row) (({ m with es:=Yp e.p.id f m.es } : MS).frag++(e.cf++F))∧({ m with es:=Yp e.p.id f m.es } : MS).Ok:=by
 obtain ⟨pre,post,hs,_,_⟩:=W9 he;have hsrt:=hm.srt;rw [hs] at hsrt
 have hu:({ m with es:=Yp e.p.id f m.es } : MS)=m.put pre (f e) post:=by
  simp only [MS.put,hs,Vt hsrt rfl]
 rw [hu];refine ⟨?_,Zkw hm hs hid hok (by rw [hid];exact hpr)⟩;have hcf:(f e).cf = []:=by simp only [PE.cf,hc]
 have h1:=(h.perm (Vg m hs)).set (f e).row;have h2:=(Vg (F:=e.cf++F) (m.put pre (f e) post) (pre:=pre) (e:=f e) (post:=post) rfl).symm;refine ZC.perm ?_ h2
 have hmm:(m.put pre (f e) post).map=m.map:=by
  simp only [MS.map,MS.put,hs,XL,Xh,PE.kv,hj,hid]
 have hh:(m.put pre (f e) post).head=m.head:=rfl;rw [hmm,hh,hj,hcf];refine h1.perm (List.Perm.cons _ ?_);simp only [XJ,XM,Xo];refine List.Perm.cons _ (List.Perm.cons _ (List.Perm.append_left _ ?_));rw [← Xo,← Xo (post.flatMap PE.frag)];exact List.Perm.append_right _ TA
end
section
open Go Go.AM Go.Proofs.Ytpjnmgjphfnmmaa
set_option maxRecDepth 100000
variable {rows:LL} {F:JZ} {m:MS}
abbrev ints (zs:List Int):LL:=zs.map fun z=>[I z]
theorem Z1 {γ:Type} {zs:List Int} {i:Nat} {z:Int} (h:zs[i]? = Xa z) (k:Int→Option γ):Zk (ints zs) (i:Int) [.int .i64] k=k z:=
 YM (l:=ints zs) (sh:=[.int .i64]) (cs:=[I z]) (r:=(z:Int)) k (by omega) (by rw [Wv,Xl,h];rfl) rfl
theorem Ka (m:MS):m.ids=ints (m.es.map fun e=>e.p.id):=by simp only [MS.ids,ints,Wf];rfl
def ZQ (pid:Int) (es:List PE) (k:Int):List PE×List Zi4:=
 match es.find? fun e=>decide (e.p.id=k) with
 | some c =>
  if c.p.parent=pid then
   (if c.p.ended=Xb then Ym (ZcO k (fun q=>{ q with parent:=1 }) es) 1 { c.p with parent:=1 } else (ZcO k (fun q=>{ q with parent:=1 }) es,[]))
  else (es,[])
 | none => (es, [])
def ZV (pid:Int):List PE→List Int→List PE×List Zi4
 | es, [] => (es, [])
 | es, k :: ks => ((ZV pid (ZQ pid es k).1 ks).1, (ZQ pid es k).2 ++ (ZV pid (ZQ pid es k).1 ks).2)
theorem ZnM {es:List PE} {par:Int} {c:Pr} {k:Int} {e:PE} (hk:k≠c.id) (h:es.find? (fun e=>decide (e.p.id=k))=Xa e):∃ e',(Ym es par c).1.find? (fun e=>decide (e.p.id=k))=Xa e'∧e'.j=e.j∧e'.p.id=e.p.id∧e'.p.parent=e.p.parent∧e'.p.status=e.p.status∧e'.p.ended=e.p.ended:=by
 unfold Ym;split
 ·rename_i p hp;split
  ·have h1:=ZcZ (m:=⟨0,0,es,0⟩) (k:=par) (k':=k) (f:=fun q=>{ q with waiting:=Xe }) (fun _=>rfl) h;refine ⟨if e.p.id=par then { e with p:=(fun q:Pr=>{ q with waiting:=Xe }) e.p } else e,?_,?_⟩
   ·show (Wq c.id (ZcO par (fun q=>{ q with waiting:=Xe }) es)).find? (fun e=>decide (e.p.id=k))=Xa (if e.p.id=par then { e with p:=(fun q:Pr=>{ q with waiting:=Xe }) e.p } else e);unfold Wq;rw [List.find?_filter]
    have:(fun a:PE=>decide ((!decide (a.p.id=c.id))=Xb∧decide (a.p.id=k)=Xb))=fun a=>decide (a.p.id=k):=by
     funext a;by_cases ha:a.p.id=k
     ·simp [ha,hk]
     ·simp [ha]
    rw [this];exact h1
   ·split<;>exact ⟨rfl,rfl,rfl,rfl,rfl⟩
  ·exact ⟨e,h,rfl,rfl,rfl,rfl,rfl⟩
 ·exact ⟨e,h,rfl,rfl,rfl,rfl,rfl⟩
theorem W6 (es:List PE) (par:Int) (c:Pr):(Ym es par c).2.length≤1:=by
 unfold Ym;split
 ·split<;>simp
 ·simp
theorem Zgm (pid:Int) (es:List PE) (k:Int):(ZQ pid es k).2.length≤1:=by
 unfold ZQ;split
 ·split
  ·split
   ·exact W6 _ _ _
   ·simp
  ·simp
 ·simp
theorem ZaQ {i:Nat} (h:i≤1048576):iop .add .i64 (i:Int) 1=((i+1:Nat):Int):=by
 rw [Zoa (by omega) (by omega)];omega
theorem Zf8 {a b:LL} (ha:a.length≤100000) (hb:b.length≤1):Jp a b 24:=by
 unfold Jp ZF;omega
theorem Zrz {x:LL} (h:ZC rows (m.frag++F)) (hm:m.Ok) (hx:Zd x = .oref (m.jm+1) 0) {e c:PE} (he:m.find e.p.id=Xa e) (hc:m.find c.p.id=Xa c) (hc1:e.p.id≠1) {zs:List Int} {i:Nat} (hz:zs[i]? = Xa c.p.id) (hzl:zs.length≤64) {acc:LL} (hacc:acc.length≤100000) (k:Nat) :
  ∃ rows' F',Zgg (k+1) x (nmE (Xa e)) acc (ints zs) (zs.length:Int) (i:Int) rows=Zgg k x (nmE (Xa e)) (acc++ZX (ZQ e.p.id m.es c.p.id).2) (ints zs) (zs.length:Int) ((i+1:Nat):Int) rows'∧
   ZC rows' (({ m with es:=(ZQ e.p.id m.es c.p.id).1 } : MS).frag++(F'++F))∧({ m with es:=(ZQ e.p.id m.es c.p.id).1 } : MS).Ok:=by
 have hi:i < zs.length:=(Xk.1 hz).1;have hem:=(Jo he).1;have hcm:=(Jo hc).1;have hc':m.es.find? (fun e=>decide (e.p.id=c.p.id))=Xa c:=hc
 rw [Zln,if_pos (by simp [cop];omega),Z1 hz,Zb (ne1 (ZE hx)),Zb (ne1 (ZE hx)),YY h hx,Zp rfl,Zb (ne1 (Vk h rfl)),Zcr h rfl,hc,Zb (ne1 (Zr c)),Zb (ne1 (Zr c)),Kg h hcm (c:=I c.p.parent) rfl,ZL,
  Zb (ne1 (Zr e)),Zb (ne1 (Zr e)),Kg h hem (c:=I e.p.id) rfl,ZL,ZaQ (by omega)]
 unfold ZQ;rw [hc'];dsimp only;by_cases hpar:c.p.parent=e.p.id
 ·rw [if_neg (by simp [cop,hpar]),if_pos hpar,Zb (ne1 (Zr c)),Zb (ne1 (Zr c)),Zb (by simp),Zb (ne1 (Zr c)),Zb (ne1 (Zr c))];have hce:=hm.par c hcm;have hee:=hm.rng e hem;obtain ⟨hu1,hu2⟩:=ZpT (f:=fun q=>{ q with parent:=1 }) h hm hc rfl rfl ⟨by show (0:Int)≤1;decide,by show (1:Int) < c.p.id;omega⟩;have hst:Zc .set rows 0 (Zc (.padd 1) (nmE (Xa c)) 0 E0 []) [AV.val (.int .i64 1)]=rows.set c.j ({ c with p:={ c.p with parent:=1 } } : PE).row:=by rw [ZrJ h hcm (by decide)];rfl
  have hfe:=ZcZ (k:=c.p.id) (f:=fun q=>{ q with parent:=1 }) (fun _=>rfl) hc;rw [if_pos rfl] at hfe;rw [hst];generalize rows.set c.j ({ c with p:={ c.p with parent:=1 } } : PE).row=rows1 at hu1 ⊢;obtain ⟨c1,hc1'⟩:∃ c1,c1=({ c with p:={ c.p with parent:=1 } } : PE):=⟨_,rfl⟩;have hfe1:({ m with es:=ZcO c.p.id (fun q=>{ q with parent:=1 }) m.es } : MS).find c1.p.id=Xa c1:=by rw [hc1'];exact hfe
  have hn:nmE (Xa c)=nmE (Xa c1):=by rw [hc1'];rfl
  have hcp:c1.p = { c.p with parent:=1 }:=by rw [hc1']
  rw [hn,Kg hu1 (Jo hfe1).1 (c:=B c1.p.ended) rfl,JU,hcp];dsimp only
  cases hen:c.p.ended with
  | true =>
   obtain ⟨rows2,F',q1,q2,q3⟩:=s52 hu1 hu2 hx hfe1 1;rw [hcp] at q1 q2 q3;simp only [if_true];rw [q1,Xi,Zb (Zf8 hacc (by have:=W6 (ZcO c.p.id (fun q=>{ q with parent:=1 }) m.es) 1 { c.p with parent:=1 }; simp only [ZX,Xr];exact this))];exact ⟨rows2,F',rfl,q2,q3⟩
  | false =>
   simp only [UF,if_false];exact ⟨rows1,[],by simp [ZX],hu1,hu2⟩
 ·rw [if_pos (by simp [cop,hpar]),if_neg hpar];exact ⟨rows,[],by simp [ZX],h,hm⟩
theorem Vo {es:List PE} {pid z k:Int} {e:PE} (hk:k≠z) (h:es.find? (fun e=>decide (e.p.id=k))=Xa e):∃ e',(ZQ pid es z).1.find? (fun e=>decide (e.p.id=k))=Xa e'∧e'.j=e.j∧e'.p.id=e.p.id∧e'.p.parent=e.p.parent∧e'.p.status=e.p.status:=by
 unfold ZQ;split
 ·rename_i c hc;have hcz:c.p.id=z:=by have:=Wt hc;simpa using this
  split
  ·have h1:=ZcZ (m:=⟨0,0,es,0⟩) (k:=z) (k':=k) (f:=fun q=>{ q with parent:=1 }) (fun _=>rfl) h;have hek:e.p.id=k:=by have:=Wt h;simpa using this
   rw [if_neg (by rw [hek];exact hk)] at h1;split
   ·obtain ⟨e',g1,g2,g3,g4,g5,_⟩:=ZnM (es:=ZcO z (fun q=>{ q with parent:=1 }) es) (par:=1) (c:={ c.p with parent:=1 }) (k:=k) (e:=e) (by show k≠c.p.id;rw [hcz];exact hk) h1;exact ⟨e',g1,g2,g3,g4,g5⟩
   ·exact ⟨e,h1,rfl,rfl,rfl,rfl⟩
  ·exact ⟨e,h,rfl,rfl,rfl,rfl⟩
 ·exact ⟨e,h,rfl,rfl,rfl,rfl⟩
theorem Zpg {e:PE} (hm:m.Ok) (he:m.find e.p.id=Xa e):ZQ e.p.id m.es e.p.id=(m.es,[]):=by
 have he':m.es.find? (fun a=>decide (a.p.id=e.p.id))=Xa e:=he;unfold ZQ;rw [he'];have:=hm.par e (Jo he).1;exact if_neg (by omega)
theorem ZkP {x:LL} {zs:List Int} (hzl:zs.length≤64) {pid:Int} (hp1:pid≠1):∀ (ks pre:List Int) (rows:LL) (F:JZ) (m:MS) (e:PE) (acc:LL) (k:Nat),zs=pre++ks→ks.length < k→ks.Nodup→(∀ z∈ks,∃ c,m.find z=Xa c)→ZC rows (m.frag++F)→m.Ok→Zd x = .oref (m.jm+1) 0→
  m.find pid=Xa e→acc.length+ks.length≤100000→
  ∃ rows' F' k' e',Zgg k x (nmE (Xa e)) acc (ints zs) (zs.length:Int) (pre.length:Int) rows=Zgg (k'+1) x (nmE (Xa e)) (acc++ZX (ZV pid m.es ks).2) (ints zs) (zs.length:Int) (zs.length:Int) rows'∧
   ZC rows' (({ m with es:=(ZV pid m.es ks).1 } : MS).frag++(F'++F))∧({ m with es:=(ZV pid m.es ks).1 } : MS).Ok∧({ m with es:=(ZV pid m.es ks).1 } : MS).find pid=Xa e'∧e'.j=e.j∧e'.p.parent=e.p.parent∧e'.p.status=e.p.status
 | [], pre, rows, F, m, e, acc, k, hz, hk, _, _, h, hm, _, he, _ => by
  obtain ⟨k',rfl⟩:∃ k',k=k'+1:=⟨k-1,by simp at hk;omega⟩;have hl:zs.length=pre.length:=by rw [hz,XN]
  exact ⟨rows,[],k',e,by rw [hl];simp [ZV,ZX],h,hm,he,rfl,rfl,rfl⟩
 | z :: ks, pre, rows, F, m, e, acc, k, hz, hk, hn, hin, h, hm, hx, he, hacc => by
  obtain ⟨k',rfl⟩:∃ k',k=k'+1:=⟨k-1,by simp at hk;omega⟩;obtain ⟨c,hc⟩:=hin z (by simp);have hcz:=(Jo hc).2;have hep:=(Jo he).2;subst hcz;subst hep;obtain ⟨rows1,F1,q1,q2,q3⟩:=Zrz h hm hx he hc hp1 (zs:=zs) (i:=pre.length) (by rw [hz];simp) hzl (acc:=acc) (by omega) k';rw [Wa] at hn
  have hfe:∃ e1,({ m with es:=(ZQ e.p.id m.es c.p.id).1 } : MS).find e.p.id=Xa e1∧e1.j=e.j∧e1.p.parent=e.p.parent∧e1.p.status=e.p.status:=by
   by_cases hce:e.p.id=c.p.id
   ·rw [← hce,Zpg hm he];exact ⟨e,he,rfl,rfl,rfl⟩
   ·obtain ⟨e1,g1,g2,_,g4,g5⟩:=Vo (pid:=e.p.id) hce he;exact ⟨e1,g1,g2,g4,g5⟩
  obtain ⟨e1,g1,g2,g4,g5⟩:=hfe
  obtain ⟨rows2,F2,k2,e2,r1,r2,r3,r4,r5,r6,r7⟩:=ZkP hzl hp1 ks (pre++[c.p.id]) rows1 (F1++F) _ e1 (acc++ZX (ZQ e.p.id m.es c.p.id).2) k' (by rw [hz];simp) (by simp at hk;omega) hn.2
   (fun z hzk=>by
    obtain ⟨c',hc'⟩:=hin z (by simp [hzk]);obtain ⟨c1,t1,_⟩:=Vo (pid:=e.p.id) (z:=c.p.id) (fun hh=>hn.1 (by rw [← hh];exact hzk)) hc';exact ⟨c1,t1⟩) q2 q3 hx g1 (by have:=Zgm e.p.id m.es c.p.id;simp only [Xu,ZX,Xr,XA] at hacc ⊢; omega)
  have hnm:nmE (Xa e1)=nmE (Xa e):=by simp only [nmE,g2]
  refine ⟨rows2,F2++F1,k2,e2,?_,by rw [Xo];exact r2,r3,r4,r5.trans g2,r6.trans g4,r7.trans g5⟩;rw [q1];rw [hnm] at r1;have hlen:((pre++[c.p.id]).length:Int)=((pre.length+1:Nat):Int):=by simp
  rw [hlen] at r1;rw [r1];simp only [ZV,ZX,XL,Xo]
end
section
open Go Go.AM Go.Proofs.Ytpjnmgjphfnmmaa
set_option maxRecDepth 100000
variable {rows:LL} {F:JZ} {m:MS}
def Kf (es:List PE) (pid st:Int):List PE×List Zi4:=
 match es.find? fun e=>decide (e.p.id=pid) with
 | some e =>
  if pid=1 then (Yp pid (Yk st) es,[])
  else
   ((Ym (ZV pid (Yp pid (Yk st) es) (es.map fun e=>e.p.id)).1 e.p.parent (Yk st e).p).1,
    (ZV pid (Yp pid (Yk st) es) (es.map fun e=>e.p.id)).2++(Ym (ZV pid (Yp pid (Yk st) es) (es.map fun e=>e.p.id)).1 e.p.parent (Yk st e).p).2)
 | none => (es, [])
theorem Zdd {k k':Int} {f:PE→PE} {es:List PE} {e:PE} (hid:∀ q,(f q).p.id=q.p.id) (h:es.find? (fun e=>decide (e.p.id=k'))=Xa e):(Yp k f es).find? (fun e=>decide (e.p.id=k'))=Xa (if e.p.id=k then f e else e):=by
 unfold Yp;rw [List.find?_map]
 have:((fun e:PE=>decide (e.p.id=k')) ∘ fun e=>if e.p.id=k then f e else e)=fun e=>decide (e.p.id=k'):=by
  funext a;simp only [Ta];by_cases ha:a.p.id=k
  ·simp only [if_pos ha,hid]
  ·simp only [if_neg ha]
 rw [this,h];rfl
theorem ZfR {k:Int} {f:PE→PE} {es:List PE} (hid:∀ q,(f q).p.id=q.p.id):(Yp k f es).map (fun e=>e.p.id)=es.map fun e=>e.p.id:=by
 unfold Yp;rw [Wf];refine Wr fun a _=>?_;simp only [Ta];split
 ·exact hid a
 ·rfl
theorem VN {e:PE} {rows1:LL} {row:List AV} {o:Nat} {c:AV} (hr:rows1[e.j]? = Xa row) (ho:o < row.length):Zc .set rows1 0 (Zc (.padd o) (nmE (Xa e)) 0 E0 []) [c]=rows1.set e.j (row.set o c):=by
 rw [YS (Zd4 e),XH];exact Zas rfl hr ho
theorem Ke {e:PE} {rows1:LL} {row:List AV} {o:Nat} {c:AV} (hr:rows1[e.j]? = Xa row) (h0:ZU row=Xb) (hc:row[o]? = Xa c):Zc (.get 1) rows1 0 (Zc (.padd o) (nmE (Xa e)) 0 E0 []) [] = [[c]]:=by
 rw [YS (Zd4 e),XH];exact JH rfl hr h0 hc
theorem Ze7 {es:List PE} {par:Int} {c c':Pr} (h1:c.id=c'.id) (h2:c.status=c'.status):Ym es par c=Ym es par c':=by
 unfold Ym;rw [h1,h2]
theorem ZcW (pid:Int):∀ (ks:List Int) (es:List PE),(ZV pid es ks).2.length≤ks.length
 | [], _ => Xy _
 | k :: ks, es => by
  have h1:=Zgm pid es k;have h2:=ZcW pid ks (ZQ pid es k).1;simp only [ZV,Xu,XA];omega
theorem s30 {x:LL} (h:ZC rows (m.frag++F)) (hm:m.Ok) (hx:Zd x = .oref (m.jm+1) 0) {e:PE} (he:m.find e.p.id=Xa e) (st:Int) :
  ∃ rows' F',g30 x (nmE (Xa e)) st rows=Xa (ZX (Kf m.es e.p.id st).2,rows')∧ZC rows' (({ m with es:=(Kf m.es e.p.id st).1 } : MS).frag++(F'++F))∧({ m with es:=(Kf m.es e.p.id st).1 } : MS).Ok:=by
 have hem:=(Jo he).1;have hr:=Zhz h hem;have hlt:e.j < rows.length:=(Xk.1 hr).1;have hs4:Zc .set rows 0 (Zc (.padd 4) (nmE (Xa e)) 0 E0 []) [AV.val (.bool Xb)]=rows.set e.j (e.row.set 4 (B Xb)):=VN hr (by simp [PE.row]);have hr4:(rows.set e.j (e.row.set 4 (B Xb)))[e.j]? = Xa (e.row.set 4 (B Xb)):=Wi hlt;have hs5:Zc .set (rows.set e.j (e.row.set 4 (B Xb))) 0 (Zc (.padd 5) (nmE (Xa e)) 0 E0 []) [I st]=rows.set e.j ((e.row.set 4 (B Xb)).set 5 (I st)):=by rw [VN hr4 (by simp [PE.row]),List.set_set]
 have hr5:(rows.set e.j ((e.row.set 4 (B Xb)).set 5 (I st)))[e.j]? = Xa ((e.row.set 4 (B Xb)).set 5 (I st)):=Wi hlt;have hs3:Zc .set (rows.set e.j ((e.row.set 4 (B Xb)).set 5 (I st))) 0 (Zc (.padd 3) (nmE (Xa e)) 0 E0 []) [Zd (Zc (.pnil 1) E0 0 E0 [])]=rows.set e.j (((e.row.set 4 (B Xb)).set 5 (I st)).set 3 (.osl 0 0 0)):=by rw [VN hr5 (by simp [PE.row]),List.set_set];rfl
 have hr3:(rows.set e.j (((e.row.set 4 (B Xb)).set 5 (I st)).set 3 (.osl 0 0 0)))[e.j]? = Xa (((e.row.set 4 (B Xb)).set 5 (I st)).set 3 (.osl 0 0 0)):=Wi hlt;have hs6:Zc .set (rows.set e.j (((e.row.set 4 (B Xb)).set 5 (I st)).set 3 (.osl 0 0 0))) 0 (Zc (.padd 6) (nmE (Xa e)) 0 E0 []) [AV.val (.bool Xe)]=rows.set e.j (Yk st e).row:=by rw [VN hr3 (by simp [PE.row]),List.set_set];rfl
 rw [Zv4,Zb (ne1 (Zr e)),Zb (ne1 (Zr e)),Zb (by rw [Ke hr rfl (c:=B e.p.ended) rfl];simp),Zb (ne1 (Zr e)),Zb (ne1 (Zr e)),hs4,Zb (by rw [Ke hr4 rfl (c:=I e.p.status) rfl];simp),
  Zb (ne1 (Zr e)),Zb (ne1 (Zr e)),hs5,Zb (by rw [Ke hr5 rfl (c:=e.core) rfl];simp),Zb (ne1 (Zr e)),Zb (ne1 (Zr e)),hs3,Zb (by rw [Ke hr3 rfl (c:=B e.p.waiting) rfl];simp),
  Zb (ne1 (Zr e)),Zb (ne1 (Zr e)),hs6]
 have he':m.es.find? (fun a=>decide (a.p.id=e.p.id))=Xa e:=he;obtain ⟨hu1,hu2⟩:=ZtY (f:=Yk st) h hm he rfl rfl rfl (by show ([] : List Int) = [];rfl) (hm.par e hem);have hfe:=Zdd (k:=e.p.id) (f:=Yk st) (fun _=>rfl) he';rw [if_pos rfl] at hfe;have hfe1:({ m with es:=Yp e.p.id (Yk st) m.es } : MS).find e.p.id=Xa (Yk st e):=hfe;generalize rows.set e.j (Yk st e).row=rows1 at hu1 ⊢;rw [show nmE (Xa e)=nmE (Xa (Yk st e)) from rfl,Kg hu1 (Jo hfe1).1 (c:=I e.p.id) rfl,ZL];unfold Kf;rw [he'];dsimp only;by_cases h1:e.p.id=1
 ·rw [if_pos (by simp [cop,h1]),if_pos h1];exact ⟨rows1,e.cf,rfl,hu1,hu2⟩
 ·have hids:({ m with es:=Yp e.p.id (Yk st) m.es } : MS).ids=ints (m.es.map fun e=>e.p.id):=by rw [Ka];exact congrArg ints (ZfR fun _=>rfl)
  rw [if_neg (by simp [cop,h1]),if_neg h1,s29 hu1 hu2 hx,Xi,hids];dsimp only;have hp:=(hu1.push [.omap (m.jq+1)]).tail;have hl2:(m.es.map fun e=>e.p.id).length≤64:=by rw [Xr];exact hm.len
  have hnod:(m.es.map fun e=>e.p.id).Nodup:=by
   rw [U1,Uy];exact hm.srt.imp fun hab hh=>by omega
  have hin:∀ z∈m.es.map fun e=>e.p.id,∃ c,({ m with es:=Yp e.p.id (Yk st) m.es } : MS).find z=Xa c:=fun z hz=>by
   obtain ⟨a,ha,rfl⟩:=Xj.1 hz
   cases hq:({ m with es:=Yp e.p.id (Yk st) m.es } : MS).find a.p.id with
   | some c => exact ⟨c, rfl⟩
   | none =>
    exfalso;have hz2:a.p.id∈(Yp e.p.id (Yk st) m.es).map fun e=>e.p.id:=by rw [ZfR (f:=Yk st) fun _=>rfl];exact hz
    obtain ⟨b,hb,hbb⟩:=Xj.1 hz2;have:=Te.1 hq b hb;simp [hbb] at this
  have hlen:((ints (m.es.map fun e=>e.p.id)).length:Int)=((m.es.map fun e=>e.p.id).length:Int):=by simp
  rw [hlen];obtain ⟨rows2,F2,k2,e2,r1,r2,r3,r4,r5,r6,r7⟩:=ZkP hl2 h1 (m.es.map fun e=>e.p.id) [] _ _ _ (Yk st e) E0 Jl rfl (by unfold Jl;omega) hnod hin hp hu2 hx hfe1 (by simp at hl2 ⊢; omega)
  ·have hz:((([] : List Int).length:Nat):Int)=0:=rfl;rw [hz] at r1;have hid2:e2.p.id=e.p.id:=(Jo r4).2;have hnm:nmE (Xa (Yk st e))=nmE (Xa e2):=by simp only [nmE,r5]
   have hf2:({ m with es:=(ZV e.p.id (Yp e.p.id (Yk st) m.es) (m.es.map fun e=>e.p.id)).1 } : MS).find e2.p.id=Xa e2:=by rw [hid2];exact r4
   rw [r1,hnm,Zln,if_neg (by simp [cop]),Zb (ne1 (Zr e2)),Zb (ne1 (Zr e2)),Kg r2 (Jo r4).1 (c:=I e2.p.parent) rfl,ZL];obtain ⟨rows3,F3,t1,t2,t3⟩:=s52 r2 r3 hx hf2 e2.p.parent;have hpar:e2.p.parent=e.p.parent:=r6;have htc:∀ es,Ym es e2.p.parent e2.p=Ym es e.p.parent (Yk st e).p:=fun es=>by rw [hpar];exact Ze7 hid2 r7
   rw [htc] at t1 t2 t3;rw [t1,Xi,Zb (Zf8 ?_ ?_)]
   ·refine ⟨rows3,F3++(F2++e.cf),?_,?_,t3⟩
    ·simp only [ZX,XL,XM]
    ·simp only [Xo];simp only [Xo] at t2;exact t2
   ·have:=ZcW e.p.id (m.es.map fun e=>e.p.id) (Yp e.p.id (Yk st) m.es);simp only [XM,ZX,Xr] at this hl2 ⊢;omega
   ·have:=W6 (ZV e.p.id (Yp e.p.id (Yk st) m.es) (m.es.map fun e=>e.p.id)).1 e.p.parent (Yk st e).p;simp only [ZX,Xr];exact this
end
section
open Go Go.AM Go.Proofs.Ytpjnmgjphfnmmaa
set_option maxRecDepth 100000
variable {rows:LL} {F:JZ} {m:MS}
theorem ZgO {a b:LL} (ha:a.length≤100000) (hb:b.length≤100000):Jp a b 24:=by
 unfold Jp ZF;omega
theorem Zcc (es:List PE) (pid st:Int):(Kf es pid st).2.length≤es.length+1:=by
 unfold Kf;split
 ·split
  ·simp
  ·have h1:=ZcW pid (es.map fun e=>e.p.id) (Yp pid (Yk st) es);rename_i e _ _;have h2:=W6 (ZV pid (Yp pid (Yk st) es) (es.map fun e=>e.p.id)).1 e.p.parent (Yk st e).p;simp only [Xu,Xr] at h1 ⊢;omega
 ·simp
def Yn (es:List PE) (z:Int):Option PE:=match es.find? fun e=>decide (e.p.id=z) with | some e=>if e.p.ended=Xb then Xc else Xa e | none=>Xc
theorem ZbI (z:Int):m.run z=Yn m.es z:=rfl
def Zi (st:Int):List PE→List Int→List PE×List Zi4
 | es, [] => (es, [])
 | es, z :: zs =>
  match Yn es z with
  | some _ => ((Zi st (Kf es z st).1 zs).1, (Kf es z st).2 ++ (Zi st (Kf es z st).1 zs).2)
  | none => Zi st es zs
theorem Je {es:List PE} {z:Int} {e:PE} (h:Yn es z=Xa e):es.find? (fun e=>decide (e.p.id=z))=Xa e∧e.p.ended=Xe:=by
 unfold Yn at h;split at h
 ·split at h
  ·cases h
  ·rename_i e' h1 h2
   cases h
   exact ⟨h1,by simpa using h2⟩
 ·cases h
theorem ZfM {x:LL} {zs:List Int} (hzl:zs.length≤1000) (st:Int):∀ (ks pre:List Int) (rows:LL) (F:JZ) (m:MS) (acc:LL) (k:Nat),zs=pre++ks→ks.length < k→ZC rows (m.frag++F)→m.Ok→Zd x = .oref (m.jm+1) 0→acc.length+65*ks.length≤100000→
  ∃ rows' F',Zj5 k x st acc (ints zs) (zs.length:Int) (pre.length:Int) rows=Xa (acc++ZX (Zi st m.es ks).2,rows')∧ZC rows' (({ m with es:=(Zi st m.es ks).1 } : MS).frag++(F'++F))∧({ m with es:=(Zi st m.es ks).1 } : MS).Ok
 | [], pre, rows, F, m, acc, k, hz, hk, h, hm, _, _ => by
  obtain ⟨k',rfl⟩:∃ k',k=k'+1:=⟨k-1,by simp at hk;omega⟩;have hl:zs.length=pre.length:=by rw [hz,XN]
  rw [ZkB,hl,if_neg (by simp [cop])];exact ⟨rows,[],by simp [Zi,ZX],h,hm⟩
 | z :: ks, pre, rows, F, m, acc, k, hz, hk, h, hm, hx, hacc => by
  obtain ⟨k',rfl⟩:∃ k',k=k'+1:=⟨k-1,by simp at hk;omega⟩;have hz1:zs[pre.length]? = Xa z:=by rw [hz];simp
  have hi:pre.length < zs.length:=(Xk.1 hz1).1;have hlen:((pre++[z]).length:Int)=((pre.length+1:Nat):Int):=by simp
  rw [ZkB,if_pos (by simp [cop];omega),Z1 hz1,s27 h hx,Xi,Zb (ne1 (Ko _)),ZaQ (by omega),ZbI]
  have key:∀ (o:Option PE),Yn m.es z=o→∃ rows' F',(if (cop .neq (Xn (Zc .pnn (nmE o) 0 E0 []):Int) 0)=Xb then (g30 x (nmE o) st rows).bind fun (r10:LL×LL)=>Zf (Jp acc r10.1 24)<|Zj5 k' x st (acc++r10.1) (ints zs) (zs.length:Int) ((pre.length+1:Nat):Int) r10.2 else Zj5 k' x st acc (ints zs) (zs.length:Int) ((pre.length+1:Nat):Int) rows)=Xa (acc++ZX (Zi st m.es (z::ks)).2,rows')∧ZC rows' (({ m with es:=(Zi st m.es (z::ks)).1 } : MS).frag++(F'++F))∧({ m with es:=(Zi st m.es (z::ks)).1 } : MS).Ok:=by
   intro o ho
   cases o with
   | none =>
    rw [Vd,if_neg (by decide)];obtain ⟨rows',F',q1,q2,q3⟩:=ZfM hzl st ks (pre++[z]) rows F m acc k' (by rw [hz];simp) (by simp at hk;omega) h hm hx (by simp at hacc;omega);rw [hlen] at q1;have he:Zi st m.es (z::ks)=Zi st m.es ks:=by simp only [Zi,ho]
    rw [he];exact ⟨rows',F',q1,q2,q3⟩
   | some e =>
    obtain ⟨hf,hen⟩:=Je ho;have hez:e.p.id=z:=(Jo hf).2;subst hez;rw [Zr,if_pos (by decide)];obtain ⟨rows1,F1,q1,q2,q3⟩:=s30 h hm hx hf st;have hl:=Zcc m.es e.p.id st;have hml:=hm.len;have hra:(ZX (Kf m.es e.p.id st).2).length≤65:=by simp only [ZX,Xr];omega
    rw [q1,Xi,Zb (ZgO (by omega) (show (ZX (Kf m.es e.p.id st).2).length≤100000 by omega))];obtain ⟨rows2,F2,r1,r2,r3⟩:=ZfM hzl st ks (pre++[e.p.id]) rows1 (F1++F) _ (acc++ZX (Kf m.es e.p.id st).2) k' (by rw [hz];simp) (by simp at hk;omega) q2 q3 hx (by simp only [Xu,XA] at hacc ⊢; omega);rw [hlen] at r1;have he:Zi st m.es (e.p.id::ks)=((Zi st (Kf m.es e.p.id st).1 ks).1,(Kf m.es e.p.id st).2++(Zi st (Kf m.es e.p.id st).1 ks).2):=by simp only [Zi,ho]
    rw [he];refine ⟨rows2,F2++F1,?_,by rw [Xo];exact r2,r3⟩;rw [r1];simp only [ZX,XL,Xo]
  exact key _ rfl
end
section
open Go Go.AM Go.Proofs.Ytpjnmgjphfnmmaa
set_option maxRecDepth 100000
variable {rows:LL} {F:JZ} {m:MS}
theorem s45 {x:LL} {zs:List Int} (hzl:zs.length≤1000) (st:Int) (h:ZC rows (m.frag++F)) (hm:m.Ok) (hx:Zd x = .oref (m.jm+1) 0) :
  ∃ rows' F',g45 x (ints zs) st rows=Xa (ZX (Zi st m.es zs).2,rows')∧ZC rows' (({ m with es:=(Zi st m.es zs).1 } : MS).frag++(F'++F))∧({ m with es:=(Zi st m.es zs).1 } : MS).Ok:=by
 obtain ⟨rows',F',q1,q2,q3⟩:=ZfM hzl st zs [] rows F m [] Jl rfl (by unfold Jl;omega) h hm hx (by simp;omega);refine ⟨rows',F',?_,q2,q3⟩;rw [Zus];have hl:((ints zs).length:Int)=(zs.length:Int):=by simp
 rw [hl];have hz:((([] : List Int).length:Nat):Int)=0:=rfl;rw [hz] at q1;rw [q1,XM]
def KW (es:List PE) (k st:Int):(List PE×List Zi4)×Int:=
 match Yn es k with
 | none => ((es, []), 17)
 | some _ => if st < 0 then ((es, []), 1) else if 255 < st then ((es, []), 1) else (Kf es k st, 0)
theorem s13 {x:LL} (h:ZC rows (m.frag++F)) (hm:m.Ok) (hx:Zd x = .oref (m.jm+1) 0) (k st:Int) :
  ∃ rows' F',g13 x k st rows=Xa (ZX (KW m.es k st).1.2,(KW m.es k st).2,rows')∧ZC rows' (({ m with es:=(KW m.es k st).1.1 } : MS).frag++(F'++F))∧({ m with es:=(KW m.es k st).1.1 } : MS).Ok:=by
 rw [Zuz,s27 h hx,Xi,Zb (ne1 (Ko _)),ZbI];unfold KW
 cases ho:Yn m.es k with
 | none =>
  rw [Vd,if_pos (by decide)];exact ⟨rows,[],rfl,h,hm⟩
 | some e =>
  obtain ⟨hf,hen⟩:=Je ho;have hez:e.p.id=k:=(Jo hf).2;subst hez;rw [Zr,if_neg (by decide)];dsimp only;by_cases h1:st < 0
  ·rw [if_pos (by simp [cop,h1]),if_pos h1];exact ⟨rows,[],rfl,h,hm⟩
  ·rw [if_neg (by simp [cop];omega),if_neg h1];by_cases h2:255 < st
   ·rw [if_pos (by simp [cop,h2]),if_pos h2];exact ⟨rows,[],rfl,h,hm⟩
   ·rw [if_neg (by simp [cop];omega),if_neg h2];obtain ⟨rows1,F1,q1,q2,q3⟩:=s30 h hm hx hf st;rw [q1];exact ⟨rows1,F1,rfl,q2,q3⟩
theorem s26 (z:Int):g26 z=Xa (decide (0≤z∧z < 32)):=by
 rw [ZvW];by_cases h1:0≤z
 ·rw [if_pos (by simp [cop,h1])];by_cases h2:z < 32<;>simp [cop,h1,h2]
 ·rw [if_neg (by simp [cop];omega)];simp [h1]
theorem Zfq (zs:List Int) (rest:List AV):YE 1 (zs.map (fun z=>I z)++rest) zs.length=ints zs:=by
 unfold YE;apply Wo;intro i;simp only [Xl];by_cases hi:i < zs.length
 ·rw [List.getElem?_range hi,Xp hi];simp only [Xw,Wj];congr 1;apply Wo;intro k;rw [List.getElem?_take]
  cases k with
  | zero =>
   simp only [Nat.lt_one_iff,if_true,List.getElem?_drop,Nat.add_zero];rw [Xx (by simpa using hi),Xl,Xp hi];rfl
  | succ k => simp
 ·rw [Wl (by simpa using Nat.le_of_not_lt hi),Wl (Nat.le_of_not_lt hi)];rfl
theorem ZhL (h:ZC rows (m.frag++F)) {e:PE} (he:e∈m.es) {q:Nat×Nat} (hq:e.c=Xa q):rows[q.1]? = Xa (e.arr q.2):=h.get (by
 simp only [MS.frag,XJ,Xq,Xv,List.mem_flatMap];exact .inr (.inr (.inl ⟨e,he,by simp [PE.frag,hq]⟩)))
theorem Zox (e:PE) (k:Nat):(e.arr k).length=e.p.cores.length+k:=by simp [PE.arr]
theorem Zkb (e:PE) {k:Nat} (h:e.p.cores.length+k≠0):ZU (e.arr k)=Xb:=by
 unfold PE.arr
 cases hc:e.p.cores with
 | cons z zs => rfl
 | nil =>
  rw [hc] at h
  cases k with
  | zero => simp at h
  | succ k => rfl
theorem Ye (e:PE):ZP e.core=Xb:=by
 unfold PE.core;split<;>rfl
theorem ZoE {x:LL} {e:PE} (hx:Zd x=e.core):Zc .pisl x 0 E0 [] = [[]]:=by
 have:∃ a b c,e.core = .osl a b c:=by
  unfold PE.core;split<;>exact ⟨_,_,_,rfl⟩
 obtain ⟨a,b,c,he⟩:=this;simp only [Zc,hx,he,okL]
theorem Znf (hm:m.Ok) {x:LL} {e:PE} (he:e∈m.es) (hx:Zd x=e.core):Zc .plen x 0 E0 []=Xg e.p.cores.length []:=by
 have hok:=hm.cor e he;unfold PE.ok at hok;unfold PE.core at hx
 cases hc:e.c with
 | none =>
  rw [hc] at hx hok;simp only [Zc,hx,hok];rfl
 | some q =>
  rw [hc] at hx;simp only [Zc,hx]
theorem Zh6 (h:ZC rows (m.frag++F)) (hm:m.Ok) {x:LL} {e:PE} (he:e∈m.es) (hx:Zd x=e.core):Zc (.vchk 3 1) rows 0 x [] = [[]]:=by
 have hok:=hm.cor e he;unfold PE.ok at hok;unfold PE.core at hx
 cases hc:e.c with
 | none =>
  rw [hc] at hx hok;simp only [Zc,hx,Zex,okL]
 | some q =>
  rw [hc] at hx hok;have hr:=ZhL h he hc;simp only [Zc,hx,Zex,ZZ hr,Zkb e hok,decide_true,Wc,Zox];rw [decide_eq_true (by omega)];rfl
theorem ZpV (h:ZC rows (m.frag++F)) (hm:m.Ok) {x:LL} {e:PE} (he:e∈m.es) (hx:Zd x=e.core):Zc (.view 1) rows 0 x []=ints e.p.cores:=by
 have hok:=hm.cor e he;unfold PE.ok at hok;unfold PE.core at hx
 cases hc:e.c with
 | none =>
  rw [hc] at hx hok;simp only [Zc,hx,Zbs,pJ,pO,hok];rfl
 | some q =>
  rw [hc] at hx hok;have hr:=ZhL h he hc;simp only [Zc,hx,Zbs,pJ,pO,ZZ hr];exact Zfq _ _
theorem s53 (h:ZC rows (m.frag++F)) (hm:m.Ok) {x:LL} {e:PE} (he:e∈m.es) (hx:Zd x=e.core) (hl:e.p.cores.length≤100000):g53 x rows=Xa (ints e.p.cores,rows):=by
 rw [ZvJ,Zb (ne1 (ZoE hx)),Znf hm he hx];refine ZsE (fun hn=>?_) ?_
 ·have:e.p.cores = []:=by
   cases hc:e.p.cores with
   | nil => rfl
   | cons z zs => rw [hc] at hn; simp at hn
  rw [if_pos rfl,this];rfl
 ·rw [if_neg (by decide),Zb (ne1 (Zh6 h hm he hx)),ZpV h hm he hx,Zb (by unfold Jp ZF;simp only [XW,Xr];omega)];rfl
theorem ZmX {γ:Type} {e:PE} (k:Int×Int×ByteArray×LL×Bool×Int×Bool→Option γ):Zk [e.row] 0 [.int .i64,.int .i64,.str,.cel,.bool,.int .i64,.bool] k=k (e.p.id,e.p.parent,e.p.name,[[e.core]],e.p.ended,e.p.status,e.p.waiting):=by
 refine YM (l:=[e.row]) (sh:=[.int .i64,.int .i64,.str,.cel,.bool,.int .i64,.bool]) (cs:=e.row) (r:=(e.p.id,e.p.parent,e.p.name,[[e.core]],e.p.ended,e.p.status,e.p.waiting)) k (by decide) rfl ?_;unfold PE.row PE.core;split<;>rfl
def Zbb (p:Pr):List AV:=[I p.id,I p.parent,.val (.string p.name),.slice Xe 1 (ints p.cores),B p.ended,I p.status,B p.waiting]
theorem s31 (h:ZC rows (m.frag++F)) (hm:m.Ok) {e:PE} (he:e∈m.es) (hl:e.p.cores.length≤100000):g31 (nmE (Xa e)) rows=Xa (e.p.id,e.p.parent,e.p.name,ints e.p.cores,e.p.ended,e.p.status,e.p.waiting,rows):=by
 rw [Zun,Zb (ne1 (Zr e)),ZvX (n:=7) (Zd4 e) (Zhz h he) rfl rfl,ZmX,Zb (ne1 (Zr e)),Zb (ne1 (Zr e)),Kg h he (c:=e.core) rfl,Zp (Ye e),s53 h hm he (ZpX (Ye e)) hl];rfl
theorem Zkq {x:LL} (h:ZC rows (m.frag++F)) (hm:m.Ok) (hx:Zd x = .oref (m.jm+1) 0) (hl:∀ e∈m.es,e.p.cores.length≤100000):∀ (ks pre:List PE) (k:Nat),m.es=pre++ks→ks.length < k→
  Zq2 k x ((pre.map PE.p).map Zbb) m.ids (m.es.length:Int) (pre.length:Int) rows=Xa ((m.es.map PE.p).map Zbb,rows)
 | [], pre, k, hs, hk => by
  obtain ⟨k',rfl⟩:∃ k',k=k'+1:=⟨k-1,by simp at hk;omega⟩;rw [XN] at hs;rw [Zj6,hs,if_neg (by simp [cop])]
 | e :: ks, pre, k, hs, hk => by
  obtain ⟨k',rfl⟩:∃ k',k=k'+1:=⟨k-1,by simp at hk;omega⟩;have he:e∈m.es:=by rw [hs];simp
  have hlen:(pre.length:Int) < (m.es.length:Int):=by rw [hs];simp;omega
  have hml:=hm.len;have hpl:pre.length≤64:=by omega
  have hf:m.find e.p.id=Xa e:=by
   unfold MS.find;rw [Tp];refine ⟨by simp,pre,ks,hs,fun a ha=>?_⟩;have hsrt:=hm.srt;rw [hs,Uf] at hsrt;have:=hsrt.2.2 a ha e (by simp);simp;omega
  have hz:(m.es.map fun e=>e.p.id)[pre.length]? = Xa e.p.id:=by rw [hs];simp
  rw [Zj6,if_pos (by simp [cop];omega),Ka,Z1 hz,Zb (ne1 (ZE hx)),Zb (ne1 (ZE hx)),YY h hx,Zp rfl,Zb (ne1 (Vk h rfl)),Zcr h rfl,hf,s31 h hm he (hl e he),Xi,
   Zb (by unfold Jp ZF;simp;omega),ZaQ (by omega)]
  have:=Zkq h hm hx hl ks (pre++[e]) k' (by rw [hs];simp) (by simp at hk;omega);rw [Ka] at this;simp only [Xu,XA,XW,XL,Xh,XF] at this;exact this
theorem s14 {x:LL} (h:ZC rows (m.frag++F)) (hm:m.Ok) (hx:Zd x = .oref (m.jm+1) 0) (hl:∀ e∈m.es,e.p.cores.length≤100000) :
  ∃ rows' F',g14 x rows=Xa ((m.es.map PE.p).map Zbb,rows')∧ZC rows' (m.frag++(F'++F)):=by
 have hp:=(h.push [.omap (m.jq+1)])
 have hq:ZC (rows++[[.omap (m.jq+1)]]) (m.frag++([(rows.length,[.omap (m.jq+1)])]++F)):=hp.perm (by
  rw [XJ,XM];exact List.perm_middle.symm)
 refine ⟨rows++[[.omap (m.jq+1)]],[(rows.length,[.omap (m.jq+1)])],?_,hq⟩;rw [ZvT,s29 h hm hx,Xi];have hl2:((m.ids).length:Int)=(m.es.length:Int):=by simp [MS.ids]
 rw [hl2];exact Zkq hq hm hx hl m.es [] Jl rfl (by have:=hm.len;unfold Jl;omega)
end
section
open Go Go.AM Go.Proofs.Ytpjnmgjphfnmmaa
set_option maxRecDepth 100000
variable {rows:LL} {F:JZ} {m:MS}
theorem ZoL (l:LL) (x:List AV):ZG (l++[x]) (l.length+1)=x:=ZZ (by simp)
theorem ZrV {x:LL} {j:Nat} {k:Int} {c:AV} {kvs:LL} (hx:Zd x = .omap (j+1)) (hr:rows[j]? = Xa (ZD kvs)):Zc .mput rows k x [c]=rows.set j (ZD (Yz kvs k c)):=by
 simp only [Zc,hx,Zma,ZZ hr];rfl
theorem Zk3 (l:LL) (a b:List AV):(l++[a]).set l.length b=l++[b]:=by simp
def Zbq:ByteArray:=⟨#[105,110,105,116]⟩
def WC (z:Int):Pr:=⟨1,0,Zbq,[z],Xe,0,Xe⟩
theorem s8 {z:Int} (hz:0≤z∧z < 32) (h:ZC rows F):∃ m:MS,∃ rows',g8 z rows=Xa ([[.oref (m.jm+1) 0]],0,rows')∧ZC rows' (m.frag++F)∧m.Ok∧m.es.map PE.p = [WC z]∧m.last=1:=by
 have h1:=h.push [I z];have h2:=h1.push [I 1,I 0,.val (.string Zbq),.osl 3 (rows.length+1) 1,B Xe,I 0,B Xe];have h3:=h2.push (ZD [[I 1,.oref (rows.length+1+1) 0]]);have h4:=h3.push [.omap (rows.length+1+1+1),I 1];refine ⟨⟨rows.length+3,rows.length+2,[⟨rows.length+1,Xa (rows.length,0),WC z⟩],1⟩,rows++[[I z]]++[[I 1,I 0,.val (.string Zbq),.osl 3 (rows.length+1) 1,B Xe,I 0,B Xe]]++[ZD [[I 1,.oref (rows.length+1+1) 0]]]++[[.omap (rows.length+1+1+1),I 1]],?_,?_,⟨?_,?_,?_,?_,?_,?_⟩,rfl,rfl⟩
 ·rw [ZwD,s26,Xi,decide_eq_true hz];have hn:∀ l:LL,Zc .newm l 0 E0 []=l++[ZD []]:=fun _=>rfl;have hp:∀ l:LL,Zc .pmap l 0 E0 [] = [[.omap (l.length+1)]]:=fun _=>rfl;have hw:∀ l:LL,Zc .pnew l 0 E0 [] = [[.oref (l.length+1) 0]]:=fun _=>rfl;have ha:∀ l:LL,Zc (.parr 3) l 1 E0 [] = [[.osl 3 (l.length+1) 1]]:=fun _=>rfl;rw [if_neg (by decide),hn,hp,ha,Zb (by simp only [Zc,Zd,ZP,Zvh,ZoL];rw [show JR (ZD [])=Xb from rfl];simp [okL]),hw,Zb (by simp [Zc,Zd,ZP,okL])]
  rw [ZrV (j:=(rows++[[I z]]++[[I 1,I 0,.val (.string Zbq),.osl 3 (rows.length+1) 1,B Xe,I 0,B Xe]]).length) (kvs:=[]) rfl (by
   have:=List.getElem?_concat_length (l:=rows++[[I z]]++[[I 1,I 0,.val (.string Zbq),.osl 3 (rows.length+1) 1,B Xe,I 0,B Xe]]) (a:=ZD []);exact this)]
  have hs:∀ (l:LL) (a b:List AV),(l++[a]).set l.length b=l++[b]:=Zk3;have e1:∀ l:LL,l=rows++[[I z]]++[[I 1,I 0,.val (.string Zbq),Zd [[.osl 3 (rows.length+1) 1]],B Xe,I 0,B Xe]]→l.length=rows.length+2:=fun l hl=>by rw [hl];simp
  show Xa _=Xa _;congr 1;have hl1:(rows++[[I z]]).length=rows.length+1:=by simp
  simp only [Zd,ZP,Zbq,hw,US,Xu,XA,XW,hl1];refine Prod.ext ?_ (Prod.ext rfl ?_)
  ·simp
  ·simp only [Prod.snd];congr 1;have:=Zk3 (rows++[[I z]]++[[I 1,I 0,.val (.string Zbq),.osl 3 (rows.length+1) 1,B Xe,I 0,B Xe]]) (ZD []) (ZD [[I 1,.oref (rows.length+1+1) 0]]);have hl2:(rows++[[I z]]++[[I 1,I 0,.val (.string Zbq),.osl 3 (rows.length+1) 1,B Xe,I 0,B Xe]]).length=rows.length+1+1:=by simp
   rw [hl2] at this;exact this
 ·simp only [Xu,XA,XW,XH] at h4;simp only [MS.frag,MS.head,MS.map,PE.kv,PE.frag,PE.row,PE.core,PE.arr,WC,Xh,XF,Uw,List.flatMap_nil,List.replicate_zero,XN,XA,XW,XH,XJ,XM];exact h4
 ·exact TB _ _
 ·intro e he;rw [XE] at he;subst he;exact ⟨Int.le_refl _,Int.le_refl _⟩
 ·intro e he;rw [XE] at he;subst he;show (1+0:Nat)≠0;decide
 ·intro e he;rw [XE] at he;subst he;exact ⟨Int.le_refl _,by show (0:Int) < 1;decide⟩
 ·show (1:Nat)≤64;decide
 ·show (1:Int)≤1048576;decide
def YR (es:List PE) (parent core:Int) (nm:Bool):Int:=
 match Yn es parent with
 | none => 17
 | some _ => if nm = Xb then (if 0 ≤ core ∧ core < 32 then (if es.length = 64 then 15 else 0) else 1) else 63
theorem put_new {es:List PE} {k:Int} {c:AV} (h:∀ e∈es,e.p.id < k):Yz (es.map PE.kv) k c=es.map PE.kv++[[I k,c]]:=by
 unfold Yz;rw [if_neg];intro hh;obtain ⟨r,hr,hk⟩:=List.any_eq_true.1 hh;obtain ⟨e,he,rfl⟩:=Xj.1 hr;have:=h e he;have hk':(Xa e.p.id == Xa k)=Xb:=hk;simp at hk';omega
theorem Zu0 {x:LL} (h:ZC rows (m.frag++F)) (hx:Zd x = .oref (m.jm+1) 0) {parent core:Int} {name:ByteArray} {nm:Bool} (hn:g28 name=Xa nm) (hc:YR m.es parent core nm≠0) :
  g10 x parent name core rows=Xa (0,YR m.es parent core nm,rows):=by
 rw [ZrG,s27 h hx,Xi,Zb (ne1 (Ko _)),ZbI];unfold YR at hc ⊢
 cases ho:Yn m.es parent with
 | none =>
  rw [Vd,if_pos (by decide)]
 | some e =>
  rw [ho] at hc;dsimp only at hc ⊢;rw [Zr,if_neg (by decide),hn,Xi]
  cases nm with
  | false => rfl
  | true =>
   simp only [if_true] at hc ⊢;rw [if_neg (by decide),s26,Xi];by_cases hr:0≤core∧core < 32
   ·rw [if_pos hr] at hc ⊢;rw [decide_eq_true hr,if_neg (by decide),Zb (ne1 (ZE hx)),Zb (ne1 (ZE hx)),YY h hx,Zp rfl,Zb (ne1 (Vk h rfl))]
    have hrows:Zc .mrows rows 0 [[.omap (m.jq+1)]] []=m.es.map PE.kv:=by
     simp only [Zc,Zd,ZP,ZsG,ZZ (map_at h),MS.map,ZD,J5]
    by_cases hl:m.es.length=64
    ·rw [if_pos hl] at hc ⊢;rw [hrows,if_pos (by simp [cop,hl])]
    ·rw [if_neg hl] at hc;exact absurd rfl hc
   ·rw [if_neg hr];rw [decide_eq_false hr];rfl
theorem s10 {x:LL} (h:ZC rows (m.frag++F)) (hm:m.Ok) (hx:Zd x = .oref (m.jm+1) 0) {parent core:Int} {name:ByteArray} {nm:Bool} (hn:g28 name=Xa nm) (hc:YR m.es parent core nm=0) (hlast:m.last < 1048576) :
  ∃ rows',∃ e':PE,g10 x parent name core rows=Xa (m.last+1,0,rows')∧e'.p=⟨m.last+1,parent,name,[core],Xe,0,Xe⟩∧ZC rows' (({ m with es:=m.es++[e'],last:=m.last+1 } : MS).frag++F)∧({ m with es:=m.es++[e'],last:=m.last+1 } : MS).Ok:=by
 rw [ZrG,s27 h hx,Xi,Zb (ne1 (Ko _)),ZbI];unfold YR at hc
 cases ho:Yn m.es parent with
 | none => rw [ho] at hc; exact absurd hc (by show ¬ ((17 : Int) = 0); decide)
 | some e =>
  rw [ho] at hc;dsimp only at hc
  cases nm with
  | false => rw [if_neg (by decide)] at hc; exact absurd hc (by decide)
  | true =>
  rw [if_pos rfl] at hc;by_cases hr:0≤core∧core < 32
  ·rw [if_pos hr] at hc;by_cases hl:m.es.length=64
   ·rw [if_pos hl] at hc;exact absurd hc (by decide)
   ·have hrows:Zc .mrows rows 0 [[.omap (m.jq+1)]] []=m.es.map PE.kv:=by
     simp only [Zc,Zd,ZP,ZsG,ZZ (map_at h),MS.map,ZD,J5]
    obtain ⟨hf,_⟩:=Je ho;have hem:=Jo (m:=m) hf;have hrg:=hm.rng e hem.1;have hlst:=hm.lst
    rw [Zr,if_neg (by decide),hn,Xi,if_neg (by decide),s26,Xi,decide_eq_true hr,if_neg (by decide),Zb (ne1 (ZE hx)),Zb (ne1 (ZE hx)),YY h hx,Zp rfl,Zb (ne1 (Vk h rfl)),hrows,if_neg (by simp [cop];omega),
     Zb (ne1 (ZE hx)),Zb (ne1 (ZE hx)),ZiU h hx,ZL,Zb (ne1 (ZE hx)),Zb (ne1 (ZE hx)),Zb (by simp),Zb (ne1 (ZE hx)),Zb (ne1 (ZE hx))]
    have hadd:iop .add .i64 m.last 1=m.last+1:=Zoa (by omega) (by omega);rw [hadd]
    have hs1:Zc .set rows 0 (Zc (.padd 1) x 0 E0 []) [AV.val (.int .i64 (m.last+1))]=rows.set m.jm [.omap (m.jq+1),I (m.last+1)]:=by
     rw [YS hx];rw [Zas rfl (head_at h) (by simp [MS.head])];rfl
    rw [hs1];have h1:ZC (rows.set m.jm [.omap (m.jq+1),I (m.last+1)]) (({ m with last:=m.last+1 } : MS).frag++F):=ZC.set h [.omap (m.jq+1),I (m.last+1)];generalize rows.set m.jm [.omap (m.jq+1),I (m.last+1)]=r1 at h1 ⊢;have h2:=h1.push [I core];have h3:=h2.push [I (m.last+1),I parent,.val (.string name),.osl 3 (r1.length+1) 1,B Xe,I 0,B Xe];have hw:∀ l:LL,Zc .pnew l 0 E0 [] = [[.oref (l.length+1) 0]]:=fun _=>rfl;have ha:Zc (.parr 3) r1 1 E0 [] = [[.osl 3 (r1.length+1) 1]]:=rfl;have hc3:Zd [[AV.osl 3 (r1.length+1) 1]] = .osl 3 (r1.length+1) 1:=rfl;have hc4:Zd [[AV.oref ((r1++[[AV.val (.int .i64 core)]]).length+1) 0]] = .oref ((r1++[[AV.val (.int .i64 core)]]).length+1) 0:=rfl;rw [YY (m:={ m with last:=m.last+1 }) h1 hx,Zp rfl,Zb (ne1 (ZE hx)),Zb (ne1 (ZE hx)),ZiU (m:={ m with last:=m.last+1 }) h1 hx,ZL,Zb (ne1 (ZE hx)),Zb (ne1 (ZE hx)),ZL,ha,hc3];dsimp only;generalize hr3:r1++[[AV.val (.int .i64 core)]]++[[AV.val (.int .i64 (m.last+1)),AV.val (.int .i64 parent),AV.val (.string name),AV.osl 3 (r1.length+1) 1,AV.val (.bool Xe),AV.val (.int .i64 0),AV.val (.bool Xe)]]=r3;have hr3':r1++[[I core]]++[[I (m.last+1),I parent,.val (.string name),.osl 3 (r1.length+1) 1,B Xe,I 0,B Xe]]=r3:=hr3;rw [hr3'] at h3;have h3m:=h3.tail.tail;rw [Zb (ne1 (Vk (m:={ m with last:=m.last+1 }) h3m rfl)),hw,hc4,Zb (by simp [Zc,Zd,ZP,okL]),Zb (ne1 (ZE hx)),Zb (ne1 (ZE hx))];rw [ZrV (j:=m.jq) (kvs:=m.es.map PE.kv) rfl (map_at (m:={ m with last:=m.last+1 }) h3m),put_new (fun a ha=>by have:=hm.rng a ha;omega)];have hlen:(r1++[[AV.val (.int .i64 core)]]).length=r1.length+1:=by simp
    have hlen':(r1++[[I core]]).length=r1.length+1:=by simp
    rw [hlen];rw [hlen'] at h3;obtain ⟨e',he'⟩:∃ e':PE,e'=⟨r1.length+1,Xa (r1.length,0),⟨m.last+1,parent,name,[core],Xe,0,Xe⟩⟩:=⟨_,rfl⟩;have hfr:e'.frag = [(r1.length+1,[I (m.last+1),I parent,.val (.string name),.osl 3 (r1.length+1) 1,B Xe,I 0,B Xe]),(r1.length,[I core])]:=by rw [he'];rfl
    have hkv:e'.kv = [I (m.last+1),.oref (r1.length+1+1) 0]:=by rw [he'];rfl
    have hp1:((r1.length+1,[I (m.last+1),I parent,.val (.string name),.osl 3 (r1.length+1) 1,B Xe,I 0,B Xe])::(r1.length,[I core])::(({ m with last:=m.last+1 } : MS).frag++F)).Perm ((m.jq,m.map)::((m.jm,[.omap (m.jq+1),I (m.last+1)])::((m.es++[e']).flatMap PE.frag++F))):=by
     have:(m.es++[e']).flatMap PE.frag++F=m.es.flatMap PE.frag++(e'.frag++F):=by simp [List.flatMap_append]
     rw [this];have h0:(r1.length+1,[I (m.last+1),I parent,.val (.string name),.osl 3 (r1.length+1) 1,B Xe,I 0,B Xe])::(r1.length,[I core])::(({ m with last:=m.last+1 } : MS).frag++F)=e'.frag++(({ m with last:=m.last+1 } : MS).frag++F):=by rw [hfr];rfl
     rw [h0];refine (X4 _ _ _).trans ?_;exact (List.Perm.swap _ _ _)
    have h4:=((h3.perm hp1).set (ZD (m.es.map PE.kv++[e'.kv]))).perm (List.Perm.swap _ _ _)
    have hfin:ZC (r3.set m.jq (ZD (m.es.map PE.kv++[e'.kv]))) (({ m with es:=m.es++[e'],last:=m.last+1 } : MS).frag++F):=by
     have hmap:({ m with es:=m.es++[e'],last:=m.last+1 } : MS).map=ZD (m.es.map PE.kv++[e'.kv]):=by simp [MS.map]
     unfold MS.frag;rw [hmap];exact h4
    rw [hkv] at hfin;rw [ZiU (m:={ m with es:=m.es++[e'],last:=m.last+1 }) hfin hx,ZL];refine ⟨_,e',rfl,by rw [he'],hfin,?_,?_,?_,?_,?_,?_⟩
    ·show (m.es++[e']).Pairwise _;rw [Uf];refine ⟨hm.srt,TB _ _,fun a ha b hb=>?_⟩;rw [XE] at hb;have:=hm.rng a ha;rw [hb,he'];show a.p.id < m.last+1;omega
    ·intro a ha;show 1≤a.p.id∧a.p.id≤m.last+1;rcases Xv.1 ha with ha | ha
     ·have:=hm.rng a ha;omega
     ·rw [XE] at ha;rw [ha,he'];dsimp only;omega
    ·intro a ha;rcases Xv.1 ha with ha | ha
     ·exact hm.cor a ha
     ·rw [XE] at ha;rw [ha,he'];show (1+0:Nat)≠0;decide
    ·intro a ha;rcases Xv.1 ha with ha | ha
     ·exact hm.par a ha
     ·rw [XE] at ha;rw [ha,he'];show 0≤parent∧parent < m.last+1;omega
    ·show (m.es++[e']).length≤64;have:=hm.len;simp;omega
    ·show m.last+1≤1048576;omega
  ·rw [if_neg hr] at hc;exact absurd hc (by decide)
end
section
open Go Go.AM Go.Proofs.Ytpjnmgjphfnmmaa
set_option maxRecDepth 100000
variable {rows:LL} {F:JZ} {m:MS}
def YD (es:List PE) (k:Int):List PE×Int×Int×Int×Bool×Int:=
 match Yn es k with
 | none => (es, 0, 0, 0, Xe, 17)
 | some p =>
  if p.p.waiting=Xb then (es,0,0,0,Xe,4)
  else match es.find? fun e=>decide (e.p.parent=k)&&e.p.ended with
   | some c => (Wq c.p.id es, k, c.p.id, c.p.status, Xb, 0)
   | none => if (es.any fun e => decide (e.p.parent = k)) = Xb then (ZcO k (fun q => { q with waiting := Xb }) es, 0, 0, 0, Xe, 0) else (es, 0, 0, 0, Xe, 2)
theorem ZgF (hm:m.Ok) {pre ks:List PE} {e:PE} (hs:m.es=pre++e::ks):m.find e.p.id=Xa e:=by
 unfold MS.find;rw [Tp];refine ⟨by simp,pre,ks,hs,fun a ha=>?_⟩;have hsrt:=hm.srt;rw [hs,Uf] at hsrt;have:=hsrt.2.2 a ha e (by simp);simp;omega
theorem Zf9 {x:LL} (h:ZC rows (m.frag++F)) (hm:m.Ok) (hx:Zd x = .oref (m.jm+1) 0) (kk:Int) {p:PE} (hp:p∈m.es):∀ (ks pre:List PE) (k c:Nat),m.es=pre++ks→ks.length < k→c≤pre.length→
  ZoH k x kk 0 0 0 (nmE (Xa p)) (c:Int) m.ids (m.es.length:Int) (pre.length:Int) rows =
   match ks.find? (fun e=>decide (e.p.parent=kk)&&e.p.ended) with
   | some e => Xa (kk, e.p.id, e.p.status, Xb, 0, Zc .mdel rows e.p.id [[.omap (m.jq + 1)]] [])
   | none => if c = 0 ∧ (ks.any fun e => decide (e.p.parent = kk)) = Xe then Xa (0, 0, 0, Xe, 2, rows) else Xa (0, 0, 0, Xe, 0, rows.set p.j (p.row.set 6 (B Xb)))
 | [], pre, k, c, hs, hk, hc => by
  obtain ⟨k',rfl⟩:∃ k',k=k'+1:=⟨k-1,by simp at hk;omega⟩;rw [XN] at hs;rw [ZlP,hs,if_neg (by simp [cop])];simp only [List.find?_nil,List.any_nil,and_true];by_cases h0:c=0
  ·rw [if_pos (by simp [cop,h0]),if_pos h0]
  ·rw [if_neg (by simp [cop];omega),if_neg h0,Zb (ne1 (Zr p)),Zb (ne1 (Zr p)),Zb (by rw [Ke (Zhz h hp) rfl (c:=B p.p.waiting) rfl];simp),VN (Zhz h hp) (by simp [PE.row])]
 | e :: ks, pre, k, c, hs, hk, hc => by
  obtain ⟨k',rfl⟩:∃ k',k=k'+1:=⟨k-1,by simp at hk;omega⟩;have he:e∈m.es:=by rw [hs];simp
  have hlen:(pre.length:Int) < (m.es.length:Int):=by rw [hs];simp;omega
  have hml:=hm.len;have hpl:pre.length≤64:=by omega
  have hf:=ZgF hm hs;have hz:(m.es.map fun e=>e.p.id)[pre.length]? = Xa e.p.id:=by rw [hs];simp
  have hl1:((pre++[e]).length:Int)=((pre.length+1:Nat):Int):=by simp
  rw [ZlP,if_pos (by simp [cop];omega),Ka,Z1 hz,Zb (ne1 (ZE hx)),Zb (ne1 (ZE hx)),YY h hx,Zp rfl,Zb (ne1 (Vk h rfl)),Zcr h rfl,hf,Zb (ne1 (Zr e)),Zb (ne1 (Zr e)),Kg h he (c:=I e.p.parent) rfl,ZL,ZaQ (by omega)];by_cases hpar:e.p.parent=kk
  ·rw [if_neg (by simp [cop,hpar]),Zb (ne1 (Zr e)),Zb (ne1 (Zr e)),Kg h he (c:=B e.p.ended) rfl,JU]
   cases hen:e.p.ended with
   | true =>
    rw [if_pos rfl,Zb (ne1 (ZE hx)),Zb (ne1 (ZE hx)),Zp rfl,Zb (ne1 (Vk h rfl)),Zb (ne1 (Zr e)),Zb (ne1 (Zr e))];have hr:=(ZmW h hm hf (x:=[[.omap (m.jq+1)]]) rfl).1;have hr2:(Zc .mdel rows e.p.id [[.omap (m.jq+1)]] [])[e.j]? = Xa e.row:=hr.get (by simp [PE.frag]);rw [Ke hr2 rfl (c:=I e.p.status) rfl,ZL];simp only [UN,hpar,hen,decide_true,Wc]
   | false =>
    rw [if_neg (by decide),ZaQ (by omega)];have ih:=Zf9 h hm hx kk hp ks (pre++[e]) k' (c+1) (by rw [hs];simp) (by simp at hk;omega) (by simp;omega);rw [Ka,hl1] at ih;rw [ih];simp only [UN,hpar,hen,decide_true,Wc,Tg,Bool.true_or,Bool.true_eq_false,and_false,if_false,Nat.add_eq_zero_iff,Nat.one_ne_zero,false_and]
  ·rw [if_pos (by simp [cop,hpar])];have ih:=Zf9 h hm hx kk hp ks (pre++[e]) k' c (by rw [hs];simp) (by simp at hk;omega) (by simp;omega);rw [Ka,hl1] at ih;rw [ih];simp only [UN,hpar,decide_false,Bool.false_and,Tg,Bool.false_or]
theorem s11 {x:LL} (h:ZC rows (m.frag++F)) (hm:m.Ok) (hx:Zd x = .oref (m.jm+1) 0) (k:Int) :
  ∃ rows' F',g11 x k rows=Xa ((YD m.es k).2.1,(YD m.es k).2.2.1,(YD m.es k).2.2.2.1,(YD m.es k).2.2.2.2.1,(YD m.es k).2.2.2.2.2,rows')∧ZC rows' (({ m with es:=(YD m.es k).1 } : MS).frag++(F'++F))∧({ m with es:=(YD m.es k).1 } : MS).Ok:=by
 rw [ZuI,s27 h hx,Xi,Zb (ne1 (Ko _)),ZbI];unfold YD
 cases ho:Yn m.es k with
 | none =>
  rw [Vd,if_pos (by decide)];exact ⟨rows,[],rfl,h,hm⟩
 | some p =>
  obtain ⟨hf,hen⟩:=Je ho;obtain ⟨hp,hpk⟩:=Jo (m:=m) hf;subst hpk;rw [Zr,if_neg (by decide),Zb (by simp),Zb (by simp),Kg h hp (c:=B p.p.waiting) rfl,JU];dsimp only
  cases hw:p.p.waiting with
  | true =>
   exact ⟨rows,[],rfl,h,hm⟩
  | false =>
   rw [if_neg (by decide),if_neg (by decide),s29 h hm hx,Xi];have hp0:=(h.push [.omap (m.jq+1)])
   have hq:ZC (rows++[[.omap (m.jq+1)]]) (m.frag++([(rows.length,[.omap (m.jq+1)])]++F)):=hp0.perm (by
    rw [XJ,XM];exact List.perm_middle.symm)
   generalize rows++[[.omap (m.jq+1)]]=rows1 at hq ⊢;have hl2:((m.ids).length:Int)=(m.es.length:Int):=by simp [MS.ids]
   have hlp:=Zf9 hq hm hx p.p.id hp m.es [] Jl 0 rfl (by have:=hm.len;unfold Jl;omega) (Xy _);rw [hl2];have hz:((([] : List PE).length:Nat):Int)=0:=rfl;rw [hz] at hlp;have hz2:((0:Nat):Int)=0:=rfl;rw [hz2] at hlp;rw [hlp]
   cases hfc:m.es.find? (fun e=>decide (e.p.parent=p.p.id)&&e.p.ended) with
   | some c =>
    have hcm:=Ue hfc
    have hcf:m.find c.p.id=Xa c:=by
     obtain ⟨pre,post,hs⟩:=List.append_of_mem hcm;exact ZgF hm hs
    obtain ⟨g1,g2⟩:=ZmW hq hm hcf (x:=[[.omap (m.jq+1)]]) rfl;refine ⟨_,c.frag++[(rows.length,[.omap (m.jq+1)])],rfl,?_,g2⟩;rw [Xo];exact g1
   | none =>
    dsimp only
    cases ha:m.es.any fun e=>decide (e.p.parent=p.p.id) with
    | false =>
     rw [if_pos ⟨rfl,rfl⟩,if_neg (by decide)];exact ⟨rows1,_,rfl,hq,hm⟩
    | true =>
     rw [if_neg (by simp),if_pos rfl];obtain ⟨g1,g2⟩:=ZpT (f:=fun q=>{ q with waiting:=Xb }) hq hm hf rfl rfl (hm.par p hp);refine ⟨_,[(rows.length,[.omap (m.jq+1)])],rfl,?_,g2⟩;exact g1
end
section
open Go Go.AM Go.Proofs.Ytpjnmgjphfnmmaa
set_option maxRecDepth 100000
variable {rows:LL} {F:JZ} {m:MS}
def Jt (zs:List Int):List AV:=zs.map fun z=>I z
def IsI (rows:LL) (c:AV) (zs:List Int):Prop:=(c = .osl 0 0 0∧zs = [])∨∃ j rest,c = .osl 3 (j+1) zs.length∧rows[j]? = Xa (Jt zs++rest)∧Jt zs++rest≠[]
theorem ZdM {zs:List Int} {k:Nat} (h:Jt zs++Xg k (I 0)≠[]):ZU (Jt zs++Xg k (I 0))=Xb:=by
 cases zs with
 | cons z zs => rfl
 | nil =>
  cases k with
  | zero => exact absurd rfl h
  | succ k => rfl
theorem ZgV (h:ZC rows (m.frag++F)) (hm:m.Ok) {e:PE} (he:e∈m.es):IsI rows e.core e.p.cores:=by
 have hok:=hm.cor e he;unfold PE.ok at hok;unfold PE.core
 cases hc:e.c with
 | none =>
  rw [hc] at hok;exact .inl ⟨rfl,hok⟩
 | some q =>
  rw [hc] at hok;refine .inr ⟨q.1,Xg q.2 (I 0),rfl,ZhL h he hc,fun hn=>?_⟩;have:=congrArg Xn hn;simp [Jt] at this;exact hok (by simp [this.1,this.2])
theorem Zal {c:AV} {zs:List Int} (h:IsI rows c zs) {x:LL} (hx:Zd x=c):Zc .pisl x 0 E0 [] = [[]]:=by
 rcases h with ⟨rfl,_⟩ | ⟨j,rest,rfl,_⟩ <;> simp only [Zc,hx,okL]
theorem KA {c:AV} {zs:List Int} (h:IsI rows c zs) {x:LL} (hx:Zd x=c):((Zc .plen x 0 E0 []).length:Int)=(zs.length:Int):=by
 rcases h with ⟨rfl,rfl⟩ | ⟨j,rest,rfl,_⟩ <;> simp only [Zc,hx]<;>simp
theorem ZrW {zs:List Int} {rest:List AV} {i:Nat} {z:Int} (h:zs[i]? = Xa z):(Jt zs++rest)[i]? = Xa (I z):=by
 have hi:=(Xk.1 h).1;rw [Xx (by simpa [Jt] using hi)];simp only [Jt,Xl,h,Xw]
theorem Zmc {zs:List Int} {rest:List AV} {i:Nat} {z:Int} (h:zs[i]? = Xa z):ZU (Jt zs++rest)=Xb:=by
 cases zs with
 | nil => simp at h
 | cons z zs => rfl
theorem ZjF {c:AV} {zs:List Int} (h:IsI rows c zs) {x:LL} (hx:Zd x=c) {i:Nat} {z:Int} (hz:zs[i]? = Xa z):Zc (.get 1) rows 0 (Zc (.pidx 1) x (i:Int) [] []) [] = [[I z]]:=by
 rcases h with ⟨rfl,rfl⟩ | ⟨j,rest,rfl,hr,_⟩
 ·simp at hz
 ·have hp:Zc (.pidx 1) x (i:Int) [] [] = [[.oref (j+1) i]]:=by simp only [Zc,hx,pJ,Wv,Wj]
  rw [hp];exact JH rfl hr (Zmc hz) (ZrW hz)
theorem ZlJ {c:AV} {zs:List Int} (h:IsI rows c zs) {x:LL} (hx:Zd x=c) (hl:zs.length≤100000) (k:Int):∀ (ks pre:List Int) (q:Nat),zs=pre++ks→ks.length < q→
  ∃ r:Int,Zqm q x k (zs.length:Int) (pre.length:Int) rows=Xa (r,rows)∧(0≤r↔k∈ks)
 | [], pre, q, hs, hq => by
  obtain ⟨q',rfl⟩:∃ q',q=q'+1:=⟨q-1,by simp at hq;omega⟩;rw [XN] at hs;rw [ZkW,hs,if_neg (by simp [cop])];exact ⟨-1,rfl,by simp⟩
 | z :: ks, pre, q, hs, hq => by
  obtain ⟨q',rfl⟩:∃ q',q=q'+1:=⟨q-1,by simp at hq;omega⟩;have hz:zs[pre.length]? = Xa z:=by rw [hs];simp
  have hi:pre.length < zs.length:=(Xk.1 hz).1;have hl1:((pre++[z]).length:Int)=((pre.length+1:Nat):Int):=by simp
  rw [ZkW,if_pos (by simp [cop];omega),Zb (by omega),KA h hx,Zb (by omega),ZjF h hx hz,ZL,ZaQ (by omega)];by_cases hk:k=z
  ·rw [if_pos (by simp [cop,hk])];exact ⟨_,rfl,by simp [hk]⟩
  ·rw [if_neg (by simp [cop,hk])];obtain ⟨r,h1,h2⟩:=ZlJ h hx hl k ks (pre++[z]) q' (by rw [hs];simp) (by simp at hq;omega);rw [hl1] at h1;exact ⟨r,h1,by rw [h2];simp [hk]⟩
theorem s44 {c:AV} {zs:List Int} (h:IsI rows c zs) {x:LL} (hx:Zd x=c) (hl:zs.length≤100000) (k:Int):g44 x k rows=Xa (decide (k∈zs),rows):=by
 obtain ⟨r,h1,h2⟩:=ZlJ h hx hl k zs [] Jl rfl (by unfold Jl;omega);have hz:((([] : List Int).length:Nat):Int)=0:=rfl;rw [hz] at h1;rw [ZuL,ZuM,Zb (ne1 (Zal h hx)),KA h hx,h1,Xi];simp only [cop,ge_iff_le];congr 2;exact decide_eq_decide.2 h2
def srt (zs:List Int):List Int:=zs.mergeSort fun a b=>decide (a≤b)
theorem Zt2 (zs:List Int):(Jt zs).filterMap (fun c=>Zl [c])=zs:=by
 unfold Jt
 induction zs with
 | nil => rfl
 | cons z zs ih => rw [Xh, Th (f := fun c => Zl [c]) (a := I z) (b := z) rfl, ih]
theorem Zge (zs:List Int):KH (Jt zs)=Jt (srt zs):=by
 unfold KH srt;rw [Zt2];rfl
theorem ZaA (zs:List Int):(srt zs).length=zs.length:=List.length_mergeSort _
theorem modify_set {rows:LL} {j:Nat} {row:List AV} (hr:rows[j]? = Xa row) (f:List AV→List AV):rows.modify j f=rows.set j (f row):=by
 have hlt:=(Xk.1 hr).1;apply Wo;intro i;rw [List.getElem?_modify,List.getElem?_set];by_cases hij:j=i
 ·subst hij;rw [if_pos rfl,if_pos hlt,hr];simp
 ·rw [if_neg hij];simp [hij]
theorem s43 {x:LL} {j:Nat} {zs:List Int} (hx:Zd x = .osl 3 (j+1) zs.length) (hr:rows[j]? = Xa (Jt zs)) (h0:zs≠[]) (hl:zs.length≤100000) :
  g43 x rows=Xa (rows.set j (Jt (srt zs))):=by
 have e:g43 x rows=Zlc x rows:=rfl;rw [e];unfold Zlc;rw [hx];dsimp only;rw [ZZ hr,Zb]
 ·congr 1;simp only [Zc,ZjV,hx];have hlen:(Jt zs).length=zs.length:=by simp [Jt]
  rw [modify_set hr,Uo (by omega),List.drop_eq_nil_of_le (by omega),Zge,XN]
 ·have hlen:(Jt zs).length=zs.length:=by simp [Jt]
  have hc:ZU (Jt zs)=Xb:=by
   cases zs with
   | nil => exact absurd rfl h0
   | cons z zs => rfl
  rw [hc,hlen,decide_eq_true rfl,decide_eq_true (show zs.length≤1048576 by omega),decide_eq_true rfl];simp only [Wc];refine XD.2 fun c hc=>?_;obtain ⟨z,hz,rfl⟩:=Xj.1 hc;rfl
theorem Zvx {c:AV} {zs:List Int} (h:IsI rows c zs) {x:LL} (hx:Zd x=c) (k:Int) :
  (Zc (.papp 3) rows 0 x [AV.slice Xe 1 (E0++[[AV.val (.int .i64 k)]])] = [[.osl 3 (rows.length+1) (zs.length+1)]])∧
  ∃ rows1,Zc (.app 1) rows 0 x [AV.slice Xe 1 (E0++[[AV.val (.int .i64 k)]])]=rows1++[Jt (zs++[k])]∧((c = .osl 0 0 0∧rows1=rows)∨∃ j n,c = .osl 3 (j+1) n∧rows1=rows.set j []):=by
 rcases h with ⟨rfl,rfl⟩ | ⟨j,rest,rfl,hr,_⟩
 ·refine ⟨?_,rows,?_,.inl ⟨rfl,rfl⟩⟩
  ·simp only [Zc,hx,pO,Zsn];rfl
  ·simp only [Zc,hx,Zhp,Zsn];rfl
 ·refine ⟨?_,rows.set j [],?_,.inr ⟨j,_,rfl,rfl⟩⟩
  ·simp only [Zc,hx,pO,Zsn];rfl
  ·simp only [Zc,hx,Zhp,Zsn,ZZ hr];congr 2;have hl:(Jt zs).length=zs.length:=by simp [Jt]
   rw [Wj,Tq hl];simp [Jt]
def VV (es:List PE) (k core:Int):Int:=
 match Yn es k with
 | none => 17
 | some e => if 0 ≤ core ∧ core < 32 then (if core ∈ e.p.cores then 56 else 0) else 1
end
section
open Go Go.AM Go.Proofs.Ytpjnmgjphfnmmaa
set_option maxRecDepth 100000
variable {rows:LL} {F:JZ} {m:MS}
def MS.base (m:MS) (pre post:List PE):JZ:=(m.jm,m.head)::(m.jq,m.map)::(pre.flatMap PE.frag++post.flatMap PE.frag)
theorem ZgS {G:JZ} {pre post:List PE} {e e':PE} (hs:m.es=pre++e::post) (hj:e'.j=e.j) (hid:e'.p.id=e.p.id):((e.j,e'.row)::(e'.cf++(m.base pre post++G))).Perm ((m.put pre e' post).frag++G):=by
 have h2:=(Vg (F:=G) (m.put pre e' post) (pre:=pre) (e:=e') (post:=post) rfl).symm
 have hm:(m.put pre e' post).map=m.map:=by
  simp only [MS.map,MS.put,hs,XL,Xh,PE.kv,hj,hid]
 have hh:(m.put pre e' post).head=m.head:=rfl;rw [hm,hh,hj] at h2;refine List.Perm.trans (List.Perm.cons _ ?_) h2;have e1:(m.base pre post++G)=((m.jm,m.head)::(m.jq,m.map)::pre.flatMap PE.frag)++(post.flatMap PE.frag++G):=by simp [MS.base]
 have e2:((m.put pre e' post).jm,m.head)::((m.put pre e' post).jq,m.map)::(pre.flatMap PE.frag++(e'.cf++post.flatMap PE.frag))++G=((m.jm,m.head)::(m.jq,m.map)::pre.flatMap PE.frag)++(e'.cf++(post.flatMap PE.frag++G)):=by simp [MS.put]
 rw [e1,e2];exact X4 _ _ _
theorem Zrb {pre post:List PE} {e:PE} (hs:m.es=pre++e::post):m.put pre e post=m:=by
 unfold MS.put;rw [← hs]
theorem Zlx (h:ZC rows (m.frag++F)) {pre post:List PE} {e:PE} (hs:m.es=pre++e::post):ZC rows ((e.j,e.row)::(e.cf++(m.base pre post++F))):=by
 refine h.perm ?_;have:=(ZgS (m:=m) (G:=F) (e:=e) (e':=e) hs rfl rfl).symm;rw [Zrb hs] at this;exact this
def ZaF (L:Nat) (core:Int) (e:PE):PE:={ e with c:=Xa (L,0),p:={ e.p with cores:=srt (e.p.cores++[core]) } }
theorem ZuR {x:LL} (h:ZC rows (m.frag++F)) (hm:m.Ok) (hx:Zd x = .oref (m.jm+1) 0) {k core:Int} (hcl:∀ e∈m.es,e.p.cores.length≤100) (hc:VV m.es k core≠0):g35 x k core rows=Xa (VV m.es k core,rows):=by
 rw [ZrH,s27 h hx,Xi,Zb (ne1 (Ko _)),ZbI];unfold VV at hc ⊢
 cases ho:Yn m.es k with
 | none =>
  rw [Vd,if_pos (by decide)]
 | some e =>
  obtain ⟨hf,_⟩:=Je ho;have he:=(Jo (m:=m) hf).1;rw [ho] at hc;dsimp only at hc ⊢;rw [Zr,if_neg (by decide),s26,Xi];by_cases hr:0≤core∧core < 32
  ·rw [if_pos hr] at hc ⊢;rw [decide_eq_true hr,if_neg (by decide),Zb (by simp),Zb (by simp),Kg h he (c:=e.core) rfl,Zp (Ye e),s44 (ZgV h hm he) (ZpX (Ye e)) (by have:=hcl e he;omega),Xi];by_cases hi:core∈e.p.cores
   ·rw [if_pos hi];dsimp only;rw [decide_eq_true hi,if_pos rfl]
   ·rw [if_neg hi] at hc;exact absurd rfl hc
  ·rw [if_neg hr,decide_eq_false hr];rfl
theorem s35 {x:LL} (h:ZC rows (m.frag++F)) (hm:m.Ok) (hx:Zd x = .oref (m.jm+1) 0) {k core:Int} (hcl:∀ e∈m.es,e.p.cores.length≤100) (hc:VV m.es k core=0) :
  ∃ rows' F' L,g35 x k core rows=Xa (0,rows')∧ZC rows' (({ m with es:=Yp k (ZaF L core) m.es } : MS).frag++(F'++F))∧({ m with es:=Yp k (ZaF L core) m.es } : MS).Ok:=by
 rw [ZrH,s27 h hx,Xi,Zb (ne1 (Ko _)),ZbI];unfold VV at hc
 cases ho:Yn m.es k with
 | none => rw [ho] at hc; exact absurd hc (by show ¬ ((17 : Int) = 0); decide)
 | some e =>
  obtain ⟨hf,_⟩:=Je ho;obtain ⟨he,hek⟩:=Jo (m:=m) hf;subst hek;rw [ho] at hc;dsimp only at hc;by_cases hr:0≤core∧core < 32
  ·rw [if_pos hr] at hc;by_cases hi:core∈e.p.cores
   ·rw [if_pos hi] at hc;exact absurd hc (by decide)
   ·have hcle:=hcl e he;have hcI:=ZgV h hm he;have hcc:=ZpX (Ye e);rw [Zr,if_neg (by decide),s26,Xi,decide_eq_true hr,if_neg (by decide),Zb (by simp),Zb (by simp),Kg h he (c:=e.core) rfl,Zp (Ye e),s44 hcI hcc (by omega),Xi];dsimp only
    have hpl:(Zc .plen [[e.core]] 0 E0 []).length=e.p.cores.length:=by
     have:=KA hcI hcc;omega
    rw [decide_eq_false hi,if_neg (by decide),Zb (by simp),Zb (by simp),Kg h he (c:=e.core) rfl,Zp (Ye e),Zb (by simp),Zb (ne1 (Zh6 h hm he hcc)),Zb (by unfold Jp ZF;rw [hpl];simp;omega),Zb (by simp),Zb (by simp)];obtain ⟨pre,post,hs,_,_⟩:=W9 (m:=m) hf;obtain ⟨hpa,rows1,hap,hr1⟩:=Zvx hcI hcc core;have hfr:=Zlx h hs
    -- the old array is gone
    obtain ⟨gar,hg⟩:∃ gar:JZ,ZC rows1 ((e.j,e.row)::(gar++(m.base pre post++F)))∧rows1.length=rows.length:=by
     rcases hr1 with ⟨_,rfl⟩ | ⟨j,n,hcj,rfl⟩
     ·exact ⟨e.cf,hfr,rfl⟩
     ·unfold PE.core at hcj
      cases hec:e.c with
      | none => rw [hec] at hcj; simp at hcj
      | some q =>
       rw [hec] at hcj
       have hjq:j=q.1:=by
        simp only [AV.osl.injEq] at hcj;omega
       subst hjq;have hcf:e.cf = [(q.1,e.arr q.2)]:=by simp only [PE.cf,hec]
       rw [hcf] at hfr;refine ⟨[(q.1,[])],?_,by simp⟩;exact ((hfr.perm (List.Perm.swap _ _ _)).set []).perm (List.Perm.swap _ _ _)
    obtain ⟨hg1,hgl⟩:=hg;have hg2:=hg1.push (Jt (e.p.cores++[core]));rw [hgl] at hg2;rw [hap,hpa];have hce:Zd [[AV.osl 3 (rows.length+1) (e.p.cores.length+1)]] = .osl 3 (rows.length+1) (e.p.cores.length+1):=rfl;rw [hce];have hg3:=hg2.perm (List.Perm.swap _ _ _);have hrj:(rows1++[Jt (e.p.cores++[core])])[e.j]? = Xa e.row:=hg3.get (by simp);obtain ⟨e',he'⟩:∃ e':PE,e'=ZaF rows.length core e:=⟨_,rfl⟩;have hsl:(srt (e.p.cores++[core])).length=e.p.cores.length+1:=by rw [ZaA];simp
    have hrow:e.row.set 3 (.osl 3 (rows.length+1) (e.p.cores.length+1))=e'.row:=by
     rw [he'];simp only [PE.row,PE.core,ZaF,hsl];rfl
    have hst:Zc .set (rows1++[Jt (e.p.cores++[core])]) 0 (Zc (.padd 3) (nmE (Xa e)) 0 E0 []) [AV.osl 3 (rows.length+1) (e.p.cores.length+1)]=(rows1++[Jt (e.p.cores++[core])]).set e.j e'.row:=by
     rw [VN hrj (by simp [PE.row]),hrow]
    rw [Zb (by rw [Ke hrj rfl (c:=e.core) rfl];simp),Zb (by simp),Zb (by simp),hst];have hg4:=hg3.set e'.row;have hrj4:((rows1++[Jt (e.p.cores++[core])]).set e.j e'.row)[e.j]? = Xa e'.row:=hg4.get (by simp);have hrl4:((rows1++[Jt (e.p.cores++[core])]).set e.j e'.row)[rows.length]? = Xa (Jt (e.p.cores++[core])):=hg4.get (by simp)
    have hec':e'.core = .osl 3 (rows.length+1) (e.p.cores++[core]).length:=by
     rw [he'];simp only [PE.core,ZaF,hsl,Xu,XA,XW]
    rw [Ke hrj4 rfl (c:=e'.core) rfl,Zp (Ye e'),s43 (zs:=e.p.cores++[core]) (by rw [ZpX (Ye e')];exact hec') hrl4 (by simp) (by simp;omega),Xi];have hg5:=((hg4.perm (List.Perm.swap _ _ _)).set (Jt (srt (e.p.cores++[core])))).perm (List.Perm.swap _ _ _);refine ⟨_,gar,rows.length,rfl,?_,?_⟩
    ·have hup:({ m with es:=Yp e.p.id (ZaF rows.length core) m.es } : MS)=m.put pre e' post:=by
      have hsrt:=hm.srt;rw [hs] at hsrt;simp only [MS.put,hs,Vt (f:=ZaF rows.length core) hsrt rfl,he']
     rw [hup];have hp:=ZgS (m:=m) (G:=gar++F) (e:=e) (e':=e') hs (by rw [he'];rfl) (by rw [he'];rfl);refine hg5.perm (List.Perm.trans ?_ hp)
     have hcf:e'.cf = [(rows.length,Jt (srt (e.p.cores++[core])))]:=by
      rw [he'];simp [PE.cf,ZaF,PE.arr,Jt]
     rw [hcf];refine List.Perm.cons _ (List.Perm.cons _ ?_);exact X4 _ _ _
    ·have hsrt:=hm.srt;rw [hs] at hsrt
     have hup:({ m with es:=Yp e.p.id (ZaF rows.length core) m.es } : MS)=m.put pre e' post:=by
      simp only [MS.put,hs,Vt (f:=ZaF rows.length core) hsrt rfl,he']
     rw [hup];refine Zkw hm hs (by rw [he'];rfl) ?_ ?_
     ·rw [he'];show (srt (e.p.cores++[core])).length+0≠0;rw [hsl];omega
     ·rw [he'];exact hm.par e he
  ·rw [if_neg hr] at hc;exact absurd hc (by decide)
end
section
open Go Go.AM Go.Proofs.Ytpjnmgjphfnmmaa
set_option maxRecDepth 100000
variable {rows:LL} {F:JZ} {m:MS}
def wo (core:Int) (zs:List Int):List Int:=zs.filter fun z=>!decide (z=core)
theorem Zsx (core:Int) (zs:List Int):(wo core zs).length≤zs.length:=Un _ _
theorem s47 {b:Nat} {core z:Int} {x:LL} (hx:Zd x = .oref (b+1) 0) (hb:rows[b]? = Xa [I core]):g47 z x rows=Xa (decide (z=core),rows):=by
 rw [ZuG,JH hx hb rfl (c:=I core) rfl,ZL];rfl
theorem Zm5 (b:Nat):Zc (.pisf 47 1) [[.fnc 47 [b+1]]] 0 E0 [] = [[]]:=by simp [Zc,Zd,ZP,okL]
theorem ZnK (b:Nat):Zd (Zc (.pcap 0) [[.fnc 47 [b+1]]] 0 E0 []) = .oref (b+1) 0:=rfl
theorem ZlN {c:AV} {zs:List Int} (h:IsI rows c zs) {x:LL} (hx:Zd x=c) (hl:zs.length≤100000) {b:Nat} {core:Int} (hb:rows[b]? = Xa [I core]):∀ (ks pre:List Int) (q:Nat),zs=pre++ks→ks.length < q→core∉pre→
  ∃ r:Int,ZqU q x [[.fnc 47 [b+1]]] (zs.length:Int) (pre.length:Int) rows=Xa (r,rows)∧((r = -1∧core∉zs)∨∃ p s,r=(Xn p:Int)∧zs=p++core::s∧core∉p)
 | [], pre, q, hs, hq, hn => by
  obtain ⟨q',rfl⟩:∃ q',q=q'+1:=⟨q-1,by simp at hq;omega⟩;rw [XN] at hs;rw [Zlo,hs,if_neg (by simp [cop])];exact ⟨-1,rfl,.inl ⟨rfl,hn⟩⟩
 | z :: ks, pre, q, hs, hq, hn => by
  obtain ⟨q',rfl⟩:∃ q',q=q'+1:=⟨q-1,by simp at hq;omega⟩;have hz:zs[pre.length]? = Xa z:=by rw [hs];simp
  have hi:pre.length < zs.length:=(Xk.1 hz).1;have hl1:((pre++[z]).length:Int)=((pre.length+1:Nat):Int):=by simp
  rw [Zlo,if_pos (by simp [cop];omega),Zb (by omega),KA h hx,Zb (by omega),ZjF h hx hz,ZL,Zb (ne1 (Zm5 b)),s47 (ZnK b) hb,Xi,ZaQ (by omega)];dsimp only;by_cases hk:z=core
  ·rw [decide_eq_true hk,if_pos rfl];exact ⟨_,rfl,.inr ⟨pre,ks,rfl,by rw [hs,hk],hn⟩⟩
  ·rw [decide_eq_false hk,if_neg (by decide)];obtain ⟨r,h1,h2⟩:=ZlN h hx hl hb ks (pre++[z]) q' (by rw [hs];simp) (by simp at hq;omega) (by simp [hn,Ne.symm hk]);rw [hl1] at h1;exact ⟨r,h1,h2⟩
theorem Zg1 {x:LL} {qj n b:Nat} {core:Int} {H:JZ} {k:Nat} (hx:Zd x = .osl 3 (qj+1) n) (hn:n≤1000):∀ (ks kept junk:List Int) (rows:LL) (f:Nat),kept.length+junk.length+ks.length=n→junk≠[]→ks.length < f→
  ZC rows ((qj,Jt (kept++(junk++ks))++Xg k (I 0))::(b,[I core])::H)→
  ∃ rows',Zpj f x [[.fnc 47 [b+1]]] (kept.length:Int) ((kept.length+junk.length:Nat):Int) rows=Xa ([[.osl 3 (qj+1) (kept++wo core ks).length]],rows')∧
   ZC rows' ((qj,Jt (kept++wo core ks)++Xg (k+(n-(kept++wo core ks).length)) (I 0))::(b,[I core])::H)
 | [], kept, junk, rows, f, hs, hj, hf, h => by
  obtain ⟨f',rfl⟩:∃ f',f=f'+1:=⟨f-1,by simp at hf;omega⟩;have hI:IsI rows (.osl 3 (qj+1) n) (kept++(junk++[])):=.inr ⟨qj,_,by simp at hs ⊢; omega,h.get (.head _),by simp [Jt];exact fun _ hh=>absurd hh hj⟩;have hr:=h.get (j:=qj) (.head _);have hlen:(kept++(junk++[])).length=n:=by simp at hs ⊢; omega
  rw [Zka,Zb (ne1 (Zal hI hx)),KA hI hx,hlen,if_neg (by simp [cop];simp at hs;omega)]
  have hv:Zc (.vchk 3 1) rows 0 x [] = [[]]:=by
   have hc:ZU (Jt (kept++(junk++[]))++Xg k (I 0))=Xb:=ZdM (by simp [Jt];exact fun _ hh=>absurd hh hj);simp only [Zc,hx,Zex,ZZ hr,hc,decide_true,Wc,Xu,List.length_replicate];rw [decide_eq_true (by simp [Jt] at hlen ⊢; omega)];rfl
  rw [Zb (ne1 hv),Zb (by omega),Zb (by omega),Zb (ne1 (Zal hI hx)),Zb (by omega),Zb (by omega)];have hcut:Zc .pcut x (kept.length:Int) [] [] = [[.osl 3 (qj+1) kept.length]]:=by simp only [Zc,hx,pE,pJ,Wv]
  have hclr:Zc (.clr 1) rows (kept.length:Int) x [AV.val (.int .i64 0)]=rows.set qj (Jt kept++Xg (k+(n-kept.length)) (I 0)):=by
   simp only [Zc,hx,Zso];rw [modify_set hr];congr 1;have hkl:(Jt kept).length=kept.length:=by simp [Jt]
   have hal:(Jt (kept++(junk++[]))).length=n:=by rw [← hlen];simp [Jt]
   have e1:Jt (kept++(junk++[]))=Jt kept++Jt (junk++[]):=by simp [Jt]
   rw [Wj,Wj,Wv];rw [show (Jt (kept++(junk++[]))++Xg k (I 0)).drop n=Xg k (I 0) from List.drop_left' hal];rw [e1,Xo (Jt kept) (Jt (junk++[])),Tq hkl]
   have hfl:∀ q:Nat,(Xg q [AV.val (.int .i64 0)]).flatten=Xg q (I 0):=fun q=>by
    induction q with
    | zero => rfl
    | succ q ih => rw [List.replicate_succ, X9, ih]; rfl
   rw [hfl,Xo,List.replicate_append_replicate,Nat.add_comm]
  rw [hcut,hclr];have hw:kept++wo core []=kept:=by simp [wo]
  rw [hw];exact ⟨_,rfl,h.set _⟩
 | z :: ks, kept, junk, rows, f, hs, hj, hf, h => by
  obtain ⟨f',rfl⟩:∃ f',f=f'+1:=⟨f-1,by simp at hf;omega⟩;have hne:Jt (kept++(junk++z::ks))++Xg k (I 0)≠[]:=by simp [Jt]
  have hI:IsI rows (.osl 3 (qj+1) n) (kept++(junk++z::ks)):=.inr ⟨qj,_,by simp at hs ⊢; omega,h.get (.head _),hne⟩;have hr:=h.get (j:=qj) (.head _);have hb:=h.get (j:=b) (row:=[I core]) (by simp);have hlen:(kept++(junk++z::ks)).length=n:=by simp at hs ⊢; omega
  have hz:(kept++(junk++z::ks))[kept.length+junk.length]? = Xa z:=by rw [← Xo,← Xu];simp
  obtain ⟨j0,junk',rfl⟩:∃ j0 junk',junk=j0::junk':=by
   cases junk with
   | nil => exact absurd rfl hj
   | cons a b => exact ⟨a, b, rfl⟩
  have hjl:kept.length+(j0::junk').length+(z::ks).length=n:=hs;have hkl:(z::ks).length=ks.length+1:=rfl;have ha1:iop .add .i64 ((kept.length+(j0::junk').length:Nat):Int) 1=((kept.length+(j0::junk').length+1:Nat):Int):=ZaQ (by omega);have ha2:iop .add .i64 (kept.length:Int) 1=((kept.length+1:Nat):Int):=ZaQ (by omega);rw [Zka,Zb (ne1 (Zal hI hx)),KA hI hx,hlen,if_pos (by simp only [cop,decide_eq_true_eq];omega),Zb (by omega),Zb (by omega),ZjF hI hx hz,ZL,Zb (ne1 (Zm5 b)),s47 (ZnK b) hb,Xi,ha1,ha2];dsimp only
  have hwz:wo core (z::ks)=if z=core then wo core ks else z::wo core ks:=by
   unfold wo;by_cases hk:z=core
   ·rw [if_pos hk,X8 (by simp [hk])]
   ·rw [if_neg hk,Wd (by simp [hk])]
  by_cases hk:z=core
  ·rw [decide_eq_true hk,if_neg (by decide)];obtain ⟨rows',h1,h2⟩:=Zg1 hx hn ks kept ((j0::junk')++[z]) rows f' (by simp at hs ⊢; omega) (by simp) (by simp at hf;omega) (by simpa using h);rw [hwz,if_pos hk];have e1:((kept.length+((j0::junk')++[z]).length:Nat):Int)=((kept.length+(j0::junk').length+1:Nat):Int):=by simp;omega
   rw [e1] at h1;exact ⟨rows',h1,h2⟩
  ·rw [decide_eq_false hk,if_pos (by decide),Zb (by omega),Zb (by omega)];have hp:Zc (.pidx 1) x (kept.length:Int) [] [] = [[.oref (qj+1) kept.length]]:=by simp only [Zc,hx,pJ,Wv,Wj]
   have hlt:kept.length < (Jt (kept++(j0::junk'++z::ks))++Xg k (I 0)).length:=by simp [Jt]
   have hc0:(Jt (kept++(j0::junk'++z::ks))++Xg k (I 0))[kept.length]? = Xa (I j0):=ZrW (by simp);have hce:ZU (Jt (kept++(j0::junk'++z::ks))++Xg k (I 0))=Xb:=ZdM hne
   have hst:Zc .set rows 0 (Zc (.pidx 1) x (kept.length:Int) [] []) [AV.val (.int .i64 z)]=rows.set qj ((Jt (kept++(j0::junk'++z::ks))++Xg k (I 0)).set kept.length (I z)):=by
    rw [hp];exact Zas rfl hr hlt
   have hset:(Jt (kept++(j0::junk'++z::ks))++Xg k (I 0)).set kept.length (I z)=Jt ((kept++[z])++((junk'++[z])++ks))++Xg k (I 0):=by
    have e1:Jt (kept++(j0::junk'++z::ks))=Jt kept++(I j0::Jt (junk'++z::ks)):=by simp [Jt]
    have e2:Jt ((kept++[z])++((junk'++[z])++ks))=Jt kept++(I z::Jt (junk'++z::ks)):=by simp [Jt]
    have hkl:kept.length=(Jt kept).length:=by simp [Jt]
    rw [e1,e2,Xo,hkl,TD _ _ (Xy _),UE];simp
   rw [Zb (by rw [hp,JH rfl hr hce hc0];simp),hst,hset];have h':=h.set (Jt ((kept++[z])++((junk'++[z])++ks))++Xg k (I 0));obtain ⟨rows',h1,h2⟩:=Zg1 hx hn ks (kept++[z]) (junk'++[z]) _ f' (by simp at hs ⊢; omega) (by simp) (by simp at hf;omega) h';rw [hwz,if_neg hk];have e1:(((kept++[z]).length+(junk'++[z]).length:Nat):Int)=((kept.length+(j0::junk').length+1:Nat):Int):=by simp;omega
   have e2:((kept++[z]).length:Int)=((kept.length+1:Nat):Int):=by simp
   rw [e1,e2] at h1;have e3:kept++[z]++wo core ks=kept++z::wo core ks:=by simp
   rw [e3] at h1 h2;exact ⟨rows',h1,h2⟩
def Yj (core:Int) (e:PE):PE:={ e with c:=e.c.map fun q=>(q.1,q.2+(e.p.cores.length-(wo core e.p.cores).length)),p:={ e.p with cores:=wo core e.p.cores } }
theorem ZpA {core:Int} {zs:List Int} (h:core∉zs):wo core zs=zs:=Uu.2 fun z hz=>by
 have:z≠core:=fun hh=>h (by rw [← hh];exact hz);simp [this]
theorem Zny {core:Int} {e:PE} (h:core∉e.p.cores):Yj core e=e:=by
 obtain ⟨j,c,p⟩:=e;unfold Yj;rw [ZpA h]
 cases c<;>simp
theorem s46 {e:PE} {b:Nat} {core:Int} {H:JZ} (h:ZC rows (e.cf++((b,[I core])::H))) (hok:e.ok) (hl:e.p.cores.length≤100) :
  ∃ rows' y,g46 [[e.core]] [[.fnc 47 [b+1]]] rows=Xa (y,rows')∧Zd y=(Yj core e).core∧ZC rows' ((Yj core e).cf++((b,[I core])::H)):=by
 have hcc:=ZpX (Ye e);have hb:=h.get (j:=b) (row:=[I core]) (by simp)
 have hI:IsI rows e.core e.p.cores:=by
  unfold PE.ok at hok;unfold PE.core
  cases hc:e.c with
  | none =>
   rw [hc] at hok;exact .inl ⟨rfl,hok⟩
  | some q =>
   rw [hc] at hok;refine .inr ⟨q.1,Xg q.2 (I 0),rfl,h.get (by simp [PE.cf,hc];exact .inl rfl),fun hn=>?_⟩;have:=congrArg Xn hn;simp [Jt] at this;exact hok (by simp [this.1,this.2])
 obtain ⟨r,h1,h2⟩:=ZlN hI hcc (by omega) hb e.p.cores [] Jl rfl (by unfold Jl;omega) (by simp);have hz:((([] : List Int).length:Nat):Int)=0:=rfl;rw [hz] at h1;rw [Zvv,ZuS,Zb (ne1 (Zal hI hcc)),KA hI hcc,h1,Xi];dsimp only;rcases h2 with ⟨rfl,hn⟩ | ⟨p,s,rfl,hs,hp⟩
 ·rw [if_pos (by decide),Zny hn];exact ⟨rows,_,rfl,hcc,h⟩
 ·rw [if_neg (by simp [cop])]
  obtain ⟨q,hq⟩:∃ q,e.c=Xa q:=by
   cases hc:e.c with
   | some q => exact ⟨q, rfl⟩
   | none =>
    unfold PE.ok at hok;rw [hc] at hok;rw [hok] at hs;simp at hs
  have hcf:e.cf = [(q.1,e.arr q.2)]:=by simp only [PE.cf,hq]
  rw [hcf] at h
  have hx:Zd [[e.core]] = .osl 3 (q.1+1) e.p.cores.length:=by
   rw [hcc];simp only [PE.core,hq]
  have hpl:p.length≤100:=by rw [hs] at hl;simp at hl;omega
  have harr:e.arr q.2=Jt (p++([core]++s))++Xg q.2 (I 0):=by
   unfold PE.arr;rw [hs];rfl
  rw [harr] at h;obtain ⟨rows',t1,t2⟩:=Zg1 hx (by omega) s p [core] rows Jl (by rw [hs];simp;omega) (by simp) (by rw [hs] at hl;simp at hl;unfold Jl;omega) h
  have hwo:wo core e.p.cores=p++wo core s:=by
   rw [hs];unfold wo;rw [UO,X8 (by simp)];congr 1;exact ZpA hp
  have e1:iop .add .i64 (p.length:Int) 1=((p.length + [core].length:Nat):Int):=ZaQ (by omega);rw [e1,t1];refine ⟨rows',_,rfl,?_,?_⟩
  ·simp only [PE.core,Yj,hq,Xw,hwo];rfl
  ·have:(Yj core e).cf = [(q.1,Jt (p++wo core s)++Xg (q.2+(e.p.cores.length-(p++wo core s).length)) (I 0))]:=by
    simp only [PE.cf,Yj,hq,Xw,PE.arr,hwo];rfl
   rw [this];exact t2
theorem ZtD {core:Int} {e:PE} (h:e.ok):(Yj core e).ok:=by
 unfold PE.ok at h ⊢;unfold Yj;have:=Zsx core e.p.cores
 cases hc:e.c with
 | none =>
  rw [hc] at h;dsimp only at h;simp [h,wo]
 | some q =>
  rw [hc] at h;dsimp only [Xw] at h ⊢;omega
def Zez (core:Int) (es:List PE):List Int:=(es.filter fun e=>decide (wo core e.p.cores = [])).map fun e=>e.p.id
theorem Zlf {x:LL} {b:Nat} {core:Int} (hi:List Int) (hil:hi.length≤64):∀ (ks pre:List PE) (rows:LL) (F:JZ) (m:MS) (acc:List Int) (k:Nat),m.es=pre++ks→hi=m.es.map (fun e=>e.p.id)→ks.length < k→(∀ e∈ks,e.p.cores.length≤100)→acc.length+ks.length≤1000→ZC rows (m.frag++((b,[I core])::F))→m.Ok→Zd x = .oref (m.jm+1) 0→
  ∃ rows',Zmj k x [[.oref (b+1) 0]] (ints acc) (ints hi) (hi.length:Int) (pre.length:Int) rows=(g45 x (ints (acc++Zez core ks)) (-2) rows').bind (fun r=>Xa (r.1,0,r.2))∧
   ZC rows' (({ m with es:=pre++ks.map (Yj core) } : MS).frag++((b,[I core])::F))∧({ m with es:=pre++ks.map (Yj core) } : MS).Ok
 | [], pre, rows, F, m, acc, k, hs, hh, hk, _, _, h, hm, hx => by
  obtain ⟨k',rfl⟩:∃ k',k=k'+1:=⟨k-1,by simp at hk;omega⟩;have hl:hi.length=pre.length:=by rw [hh,hs];simp
  rw [Zk8,hl,if_neg (by simp [cop])]
  have:({ m with es:=pre++([] : List PE).map (Yj core) } : MS)=m:=by
   obtain ⟨a,b,c,d⟩:=m;simp only [XF] at hs ⊢;rw [hs]
  rw [this];refine ⟨rows,?_,h,hm⟩;simp [Zez]
 | e :: ks, pre, rows, F, m, acc, k, hs, hh, hk, hcl, hacc, h, hm, hx => by
  obtain ⟨k',rfl⟩:∃ k',k=k'+1:=⟨k-1,by simp at hk;omega⟩;have he:e∈m.es:=by rw [hs];simp
  have hf:=ZgF hm hs;have hz:hi[pre.length]? = Xa e.p.id:=by rw [hh,hs];simp
  have hlt:pre.length < hi.length:=(Xk.1 hz).1;have hpi:Zc .pis0 [[.oref (b+1) 0]] 0 E0 [] = [[]]:=by simp [Zc,Zd,ZP,okL]
  have hpn:Zc .pnn [[.oref (b+1) 0]] 0 E0 [] = [[]]:=by simp [Zc,Zd,ZP,okL]
  have hfn:Zc (.pfnc 47) E0 0 [] [Zd [[.oref (b+1) 0]]] = [[.fnc 47 [b+1]]]:=rfl;rw [Zk8,if_pos (by simp [cop];omega),Z1 hz,Zb (ne1 (ZE hx)),Zb (ne1 (ZE hx)),YY h hx,Zp rfl,Zb (ne1 (Vk h rfl)),Zcr h rfl,hf,Zb (ne1 (Zr e)),Zb (ne1 (Zr e)),Kg h he (c:=e.core) rfl,Zp (Ye e),Zb (ne1 hpi),Zb (ne1 hpn),hfn];have hfr:=Zlx h hs
  have hp1:((e.j,e.row)::(e.cf++(m.base pre ks++((b,[I core])::F)))).Perm (e.cf++((b,[I core])::((e.j,e.row)::(m.base pre ks++F)))):=by
   refine List.perm_middle.symm.trans (List.Perm.append_left _ ?_);refine (List.Perm.cons _ UP).trans (List.Perm.swap _ _ _)
  obtain ⟨rows1,y,t1,t2,t3⟩:=s46 (core:=core) (hfr.perm hp1) (hm.cor e he) (hcl e (by simp))
  have hp2:((Yj core e).cf++((b,[I core])::((e.j,e.row)::(m.base pre ks++F)))).Perm ((e.j,e.row)::((Yj core e).cf++(m.base pre ks++((b,[I core])::F)))):=by
   refine List.Perm.trans (List.Perm.append_left _ ?_) UP;exact (List.Perm.swap _ _ _).trans (List.Perm.cons _ List.perm_middle.symm)
  have hg:=t3.perm hp2;have hrj:rows1[e.j]? = Xa e.row:=hg.get (by simp);have hg2:=hg.set (Yj core e).row;have hrow:e.row.set 3 (Yj core e).core=(Yj core e).row:=rfl;have hst:Zc .set rows1 0 (Zc (.padd 3) (nmE (Xa e)) 0 E0 []) [Zd y]=rows1.set e.j (Yj core e).row:=by rw [VN hrj (by simp [PE.row]),t2,hrow]
  have hrj2:(rows1.set e.j (Yj core e).row)[e.j]? = Xa (Yj core e).row:=hg2.get (by simp);have hg3:=hg2.perm (ZgS (m:=m) (G:=(b,[I core])::F) (e:=e) (e':=Yj core e) hs rfl rfl);have hmok:(m.put pre (Yj core e) ks).Ok:=Zkw hm hs rfl (ZtD (hm.cor e he)) (hm.par e he);have hin2:Yj core e∈(m.put pre (Yj core e) ks).es:=by simp [MS.put]
  have hI2:=ZgV hg3 hmok hin2;have hc2:=ZpX (Ye (Yj core e));rw [t1,Xi];dsimp only;rw [Zb (ne1 (Zr e)),Zb (ne1 (Zr e)),Zb (by rw [Ke hrj rfl (c:=e.core) rfl];simp),Zb (ne1 (Zr e)),Zb (ne1 (Zr e)),hst,Ke hrj2 rfl (c:=(Yj core e).core) rfl,Zp (Ye _),Zb (ne1 (Zal hI2 hc2)),KA hI2 hc2,ZaQ (by omega)]
  have hih:∀ acc':List Int,acc'.length+ks.length≤1000→∃ rows',Zmj k' x [[.oref (b+1) 0]] (ints acc') (ints hi) (hi.length:Int) ((pre.length+1:Nat):Int) (rows1.set e.j (Yj core e).row)=(g45 x (ints (acc'++Zez core ks)) (-2) rows').bind (fun r=>Xa (r.1,0,r.2))∧
   ZC rows' (({ m with es:=pre++(e::ks).map (Yj core) } : MS).frag++((b,[I core])::F))∧({ m with es:=pre++(e::ks).map (Yj core) } : MS).Ok:=fun acc' ha=>by
   obtain ⟨rows',u1,u2,u3⟩:=Zlf (x:=x) (b:=b) (core:=core) hi hil ks (pre++[Yj core e]) _ F (m.put pre (Yj core e) ks) acc' k' (by simp [MS.put]) (by rw [hh,hs];simp [MS.put,Yj]) (by simp at hk;omega) (fun a ha=>hcl a (by simp [ha])) ha hg3 hmok hx;have e1:((pre++[Yj core e]).length:Int)=((pre.length+1:Nat):Int):=by simp
   rw [e1] at u1;have e2:({ m.put pre (Yj core e) ks with es:=(pre++[Yj core e])++ks.map (Yj core) } : MS) = { m with es:=pre++(e::ks).map (Yj core) }:=by simp [MS.put]
   rw [e2] at u2 u3;exact ⟨rows',u1,u2,u3⟩
  by_cases hb0:wo core e.p.cores = []
  ·rw [if_pos (by show cop .eql ((wo core e.p.cores).length:Int) 0=Xb;rw [hb0];rfl),Zb (by unfold Jp ZF;simp at hacc ⊢; omega)];have e3:ints acc++(E0++[[AV.val (.int .i64 e.p.id)]])=ints (acc++[e.p.id]):=by simp [ints]
   have e4:acc++Zez core (e::ks)=(acc++[e.p.id])++Zez core ks:=by
    unfold Zez;rw [Wd (by simp [hb0])];simp
   rw [e3,e4];exact hih (acc++[e.p.id]) (by simp at hacc ⊢; omega)
  ·rw [if_neg (by show ¬ (cop .eql ((wo core e.p.cores).length:Int) 0=Xb);simp [cop,hb0])]
   have e4:acc++Zez core (e::ks)=acc++Zez core ks:=by
    unfold Zez;rw [X8 (by simp [hb0])]
   rw [e4];exact hih acc (by simp at hacc ⊢; omega)
def YP (es:List PE) (core:Int):(List PE×List Zi4)×Int:=
 if 0≤core∧core < 32 then (Zi (-2) (es.map (Yj core)) (Zez core es),0) else ((es,[]),1)
theorem s23 {x:LL} (h:ZC rows (m.frag++F)) (hm:m.Ok) (hx:Zd x = .oref (m.jm+1) 0) {core:Int} (hcl:∀ e∈m.es,e.p.cores.length≤100) :
  ∃ rows' F',g23 x core rows=Xa (ZX (YP m.es core).1.2,(YP m.es core).2,rows')∧ZC rows' (({ m with es:=(YP m.es core).1.1 } : MS).frag++(F'++F))∧({ m with es:=(YP m.es core).1.1 } : MS).Ok:=by
 have hp0:=(h.push [I core]);have hq:ZC (rows++[[I core]]) (m.frag++((rows.length,[I core])::F)):=hp0.perm List.perm_middle.symm;have hpn:Zc .pnew rows 0 E0 [] = [[.oref (rows.length+1) 0]]:=rfl;have hrl:(rows++[[I core]])[rows.length]? = Xa [I core]:=by simp
 rw [ZvQ,hpn,JH rfl hrl rfl (c:=I core) rfl,ZL,s26,Xi];unfold YP;by_cases hr:0≤core∧core < 32
 ·rw [decide_eq_true hr,if_neg (by decide),if_pos hr];have hg:=s29 hq hm hx;rw [hg,Xi];dsimp only;have hq2:=(hq.push [.omap (m.jq+1)])
  have hq3:ZC (rows++[[I core]]++[[.omap (m.jq+1)]]) (m.frag++((rows.length,[I core])::(((rows++[[I core]]).length,[.omap (m.jq+1)])::F))):=hq2.perm (by
   refine List.perm_middle.symm.trans (List.Perm.append_left _ ?_);exact List.Perm.swap _ _ _)
  have hml:=hm.len;have hl2:((m.ids).length:Int)=((m.es.map fun e=>e.p.id).length:Int):=by simp [MS.ids]
  obtain ⟨rows',u1,u2,u3⟩:=Zlf (x:=x) (b:=rows.length) (core:=core) (m.es.map fun e=>e.p.id) (by simpa using hml) m.es [] _ _ m [] Jl rfl rfl (by unfold Jl;omega) hcl (by simp;omega) hq3 hm hx;have hz:((([] : List PE).length:Nat):Int)=0:=rfl;rw [hz] at u1;rw [hl2,Ka];have hi0:(ints ([] : List Int))=E0:=rfl;rw [hi0] at u1;rw [u1]
  have hbl:(Zez core m.es).length≤1000:=by
   unfold Zez;rw [Xr];have:=Un (fun e:PE=>decide (wo core e.p.cores = [])) m.es;omega
  rw [XM] at u2 u3 ⊢;obtain ⟨rows2,F2,v1,v2,v3⟩:=s45 hbl (-2) u2 u3 hx;rw [v1];refine ⟨rows2,F2++[(rows.length,[I core]),((rows++[[I core]]).length,[.omap (m.jq+1)])],rfl,?_,v3⟩;rw [Xo];exact v2
 ·rw [decide_eq_false hr,if_pos (by decide),if_neg hr];exact ⟨_,[(rows.length,[I core])],rfl,hq,hm⟩
end
section
open Go Go.AM Go.Proofs.Ytpjnmgjphfnmmaa
set_option maxRecDepth 100000
variable {rows:LL} {F:JZ} {m:MS}
def Jx (es:List PE) (id:Int):List Int:=(es.filter fun e=>decide (e.p.parent=id)).map fun e=>e.p.id
def J1:Nat→List PE→Int→List Int
 | 0, _, _ => []
 | n + 1, es, id => (Jx es id).flatMap fun c => c :: J1 n es c
def Zjv (es:List PE) (id:Int):Nat:=(es.filter fun e=>decide (id < e.p.id)).length
theorem Zk7 {c:AV} {zs:List Int} {k:Nat} (h:(c = .osl 0 0 0∧zs = [])∨∃ j,c = .osl 3 (j+1) zs.length∧rows[j]? = Xa (Jt zs++Xg k (I 0))∧Jt zs++Xg k (I 0)≠[]) {x:LL} (hx:Zd x=c):Zc (.vchk 3 1) rows 0 x [] = [[]]:=by
 rcases h with ⟨rfl,_⟩ | ⟨j,rfl,hr,hn⟩
 ·simp only [Zc,hx,Zex,okL]
 ·simp only [Zc,hx,Zex,ZZ hr,ZdM hn,decide_true,Wc];rw [decide_eq_true (by simp [Jt])];rfl
theorem Zq9 {c:AV} {zs:List Int} (h:IsI rows c zs) {x:LL} (hx:Zd x=c):Zc (.view 1) rows 0 x []=ints zs:=by
 rcases h with ⟨rfl,rfl⟩ | ⟨j,rest,rfl,hr,_⟩
 ·simp only [Zc,hx,Zbs,pJ,pO];rfl
 ·simp only [Zc,hx,Zbs,pJ,pO,ZZ hr];exact Zfq _ _
def JK (o:Option Nat) (zs:List Int):AV:=match o with | none=>.osl 0 0 0 | some j=>.osl 3 (j+1) zs.length
def ZgA (o:Option Nat) (zs:List Int):JZ:=match o with | none=>[] | some j=>[(j,Jt zs)]
def ook (o:Option Nat) (zs:List Int):Prop:=match o with | none=>zs = [] | some _=>zs≠[]
theorem Kn (o:Option Nat) (zs:List Int):ZP (JK o zs)=Xb:=by cases o<;>rfl
def KV (m:MS) (b:Nat) (o:Option Nat) (zs:List Int) (F:JZ):JZ:=(b+1,[JK o zs])::(b,[.oref (m.jm+1) 0])::(b+2,[.fnc 42 [b+1,b+1+1,b+2+1]])::(ZgA o zs++(m.frag++F))
theorem ZvM {b:Nat} {o:Option Nat} {zs:List Int} (h:ZC rows (KV m b o zs F)) (ho:ook o zs):(JK o zs = .osl 0 0 0∧zs = [])∨∃ j,JK o zs = .osl 3 (j+1) zs.length∧rows[j]? = Xa (Jt zs++Xg 0 (I 0))∧Jt zs++Xg 0 (I 0)≠[]:=by
 cases o with
 | none => exact .inl ⟨rfl, ho⟩
 | some j =>
  refine .inr ⟨j,rfl,?_,fun hn=>?_⟩
  ·have:=h.get (j:=j) (row:=Jt zs) (by simp [KV,ZgA]);simpa using this
  ·simp [Jt] at hn;exact ho hn
theorem Zsl {c:AV} {zs:List Int} {k:Nat} (h:(c = .osl 0 0 0∧zs = [])∨∃ j,c = .osl 3 (j+1) zs.length∧rows[j]? = Xa (Jt zs++Xg k (I 0))∧Jt zs++Xg k (I 0)≠[]):IsI rows c zs:=by
 rcases h with h | ⟨j,h1,h2,h3⟩
 ·exact .inl h
 ·exact .inr ⟨j,_,h1,h2,h3⟩
theorem w_m {b:Nat} {o:Option Nat} {zs:List Int} (h:ZC rows (KV m b o zs F)):ZC rows (m.frag++F):=(ZC.right (A:=ZgA o zs) h.tail.tail.tail)
theorem Zwr {b:Nat} {o:Option Nat} {zs:List Int} (h:ZC rows (KV m b o zs F)) (ho:ook o zs) (k:Int) {x y:LL} (hx:Zd x=JK o zs) (hy:Zd y = .oref (b+1+1) 0) :
  ∃ F',ZC (Zc .set (Zc (.app 1) rows 0 x [AV.slice Xe 1 (E0++[[AV.val (.int .i64 k)]])]) 0 y [Zd (Zc (.papp 3) rows 0 x [AV.slice Xe 1 (E0++[[AV.val (.int .i64 k)]])])]) (KV m b (Xa rows.length) (zs++[k]) (F'++F))∧Zc (.get 1) (Zc (.app 1) rows 0 x [AV.slice Xe 1 (E0++[[AV.val (.int .i64 k)]])]) 0 y []≠[]:=by
 obtain ⟨hpa,rows1,hap,hr1⟩:=Zvx (Zsl (ZvM h ho)) hx k;rw [hap,hpa]
 obtain ⟨gar,hg,hgl⟩:∃ gar:JZ,ZC rows1 ((b+1,[JK o zs])::(b,[.oref (m.jm+1) 0])::(b+2,[.fnc 42 [b+1,b+1+1,b+2+1]])::(m.frag++(gar++F)))∧rows1.length=rows.length:=by
  rcases hr1 with ⟨hc,rfl⟩ | ⟨j,n,hcj,rfl⟩
  ·cases o with
   | none => exact ⟨[], h, rfl⟩
   | some j => simp [JK] at hc
  ·cases o with
   | none => simp [JK] at hcj
   | some j' =>
    have hjj:j=j':=by
     simp only [JK,AV.osl.injEq] at hcj;omega
    subst hjj;refine ⟨[(j,[])],?_,by simp⟩
    have hp:(KV m b (Xa j) zs F).Perm ((j,Jt zs)::((b+1,[JK (Xa j) zs])::(b,[.oref (m.jm+1) 0])::(b+2,[.fnc 42 [b+1,b+1+1,b+2+1]])::(m.frag++F))):=by
     unfold KV ZgA;exact UP (l₁:=[(b+1,[JK (Xa j) zs]),(b,[.oref (m.jm+1) 0]),(b+2,[.fnc 42 [b+1,b+1+1,b+2+1]])])
    have h2:=(h.perm hp).set [];refine h2.perm ?_;refine List.Perm.symm ?_;exact UP (l₁:=[(b+1,[JK (Xa j) zs]),(b,[.oref (m.jm+1) 0]),(b+2,[.fnc 42 [b+1,b+1+1,b+2+1]])]++m.frag) (l₂:=F)
 have h2:=hg.push (Jt (zs++[k]));rw [hgl] at h2;have h3:=h2.perm (List.Perm.swap _ _ _);have hrb:(rows1++[Jt (zs++[k])])[b+1]? = Xa [JK o zs]:=h3.get (.head _);have hcn:Zd [[AV.osl 3 (rows.length+1) (zs.length+1)]] = .osl 3 (rows.length+1) (zs.length+1):=rfl;have hc0:ZU [JK o zs]=Xb:=J8 (Kn o zs);refine ⟨gar,?_,by rw [JH hy hrb hc0 (c:=JK o zs) rfl];simp⟩;rw [hcn,Zas hy hrb (by simp)];have h4:=h3.set [.osl 3 (rows.length+1) (zs.length+1)];have e1:JK (Xa rows.length) (zs++[k]) = .osl 3 (rows.length+1) (zs.length+1):=by simp [JK]
 unfold KV;rw [e1];refine h4.perm (List.Perm.cons _ ?_);exact (UP (l₁:=([(b,[.oref (m.jm+1) 0]),(b+2,[.fnc 42 [b+1,b+1+1,b+2+1]])] : JZ))).symm
theorem Kj (e:PE) (es:List PE) (id:Int):Jx (e::es) id=if e.p.parent=id then e.p.id::Jx es id else Jx es id:=by
 unfold Jx;by_cases h:e.p.parent=id
 ·rw [if_pos h,Wd (by simp [h]),Xh]
 ·rw [if_neg h,X8 (by simp [h])]
theorem Zk4 {es:List PE} {id:Int} {e:PE} (he:e∈es) (h:id < e.p.id):Zjv es e.p.id < Zjv es id:=by
 unfold Zjv
 induction es with
 | nil => cases he
 | cons a es ih =>
  have mono:(es.filter fun a=>decide (e.p.id < a.p.id)).length≤(es.filter fun a=>decide (id < a.p.id)).length:=by
   clear ih he
   induction es with
   | nil => exact Xy _
   | cons b es ih =>
    by_cases h1:e.p.id < b.p.id
    ·rw [Wd (by simp [h1]),Wd (by simp;omega)];simp;exact ih
    ·rw [X8 (by simp [h1])];by_cases h2:id < b.p.id
     ·rw [Wd (by simp [h2])];simp;omega
     ·rw [X8 (by simp [h2])];exact ih
  rcases Xq.1 he with rfl | he
  ·rw [X8 (by simp),Wd (by simp [h])];simp;omega
  ·have:=ih he;by_cases h1:e.p.id < a.p.id
   ·rw [Wd (by simp [h1]),Wd (by simp;omega)];simp;exact this
   ·rw [X8 (by simp [h1])];by_cases h2:id < a.p.id
    ·rw [Wd (by simp [h2])];simp;omega
    ·rw [X8 (by simp [h2])];exact this
theorem s42 (m:MS) (hm:m.Ok) (b:Nat):∀ (k:Nat) (id:Int) (o:Option Nat) (zs:List Int) (rows:LL) (F:JZ),Zjv m.es id < k→zs.length+(J1 k m.es id).length≤100000→ZC rows (KV m b o zs F)→ook o zs→
  ∃ rows' F' o',g42 (G42 k) id [[.oref (b+1) 0]] [[.oref (b+1+1) 0]] [[.oref (b+2+1) 0]] rows=Xa rows'∧ZC rows' (KV m b o' (zs++J1 k m.es id) (F'++F))∧ook o' (zs++J1 k m.es id):=by
 intro k
 induction k with
 | zero => intro id o zs rows F h; omega
 | succ k ih =>
  intro id o zs rows F hab hlen h ho
  have loop:∀ (ks pre:List PE) (q:Nat) (o:Option Nat) (zs:List Int) (rows:LL) (F:JZ),m.es=pre++ks→ks.length < q→zs.length+((Jx ks id).flatMap fun c=>c::J1 k m.es c).length≤100000→ZC rows (KV m b o zs F)→ook o zs→
    ∃ rows' F' o',Zn0 (G42 k) q id [[.oref (b+1) 0]] [[.oref (b+1+1) 0]] [[.oref (b+2+1) 0]] m.ids (m.es.length:Int) (pre.length:Int) rows=Xa rows'∧ZC rows' (KV m b o' (zs++(Jx ks id).flatMap fun c=>c::J1 k m.es c) (F'++F))∧ook o' (zs++(Jx ks id).flatMap fun c=>c::J1 k m.es c):=by
   intro ks
   induction ks with
   | nil =>
    intro pre q o zs rows F hs hq hl h ho;obtain ⟨q',rfl⟩:∃ q',q=q'+1:=⟨q-1,by simp at hq;omega⟩;rw [XN] at hs;rw [ZlA,hs,if_neg (by simp [cop])];refine ⟨rows,[],o,rfl,?_,?_⟩
    ·simpa [Jx] using h
    ·simpa [Jx] using ho
   | cons e ks ihk =>
    intro pre q o zs rows F hs hq hl h ho;obtain ⟨q',rfl⟩:∃ q',q=q'+1:=⟨q-1,by simp at hq;omega⟩;have hmF:=w_m h;have he:e∈m.es:=by rw [hs];simp
    have hlt:(pre.length:Int) < (m.es.length:Int):=by rw [hs];simp;omega
    have hml:=hm.len;have hf:=ZgF hm hs;have hz:(m.es.map fun e=>e.p.id)[pre.length]? = Xa e.p.id:=by rw [hs];simp
    have hl1:((pre++[e]).length:Int)=((pre.length+1:Nat):Int):=by simp
    have hrx:rows[b]? = Xa [.oref (m.jm+1) 0]:=h.get (.tail _ (.head _));have hx:Zd [[AV.oref (m.jm+1) 0]] = .oref (m.jm+1) 0:=rfl;rw [ZlA,if_pos (by simp [cop];omega),Ka,Z1 hz,JH (j:=b) (o:=0) rfl hrx rfl (c:=.oref (m.jm+1) 0) rfl,Zp rfl,Zb (ne1 (ZE hx)),Zb (ne1 (ZE hx)),YY hmF hx,Zp rfl,Zb (ne1 (Vk hmF rfl)),Zcr hmF rfl,hf,Zb (ne1 (Zr e)),Zb (ne1 (Zr e)),Kg hmF he (c:=I e.p.parent) rfl,ZL,ZaQ (by omega)];rw [Kj] at hl ⊢;by_cases hp:e.p.parent=id
    ·rw [if_pos hp] at hl ⊢;rw [if_pos (by simp [cop,hp])];have hro:rows[b+1]? = Xa [JK o zs]:=h.get (.head _);have hco:ZU [JK o zs]=Xb:=J8 (Kn o zs);have hI:=ZvM h ho;have hcx:Zd [[JK o zs]]=JK o zs:=ZpX (Kn o zs)
     have hpl:(Zc .plen [[JK o zs]] 0 E0 []).length=zs.length:=by
      have:=KA (Zsl hI) hcx;omega
     simp only [Uw,XJ,XA,Xu] at hl;obtain ⟨F1,ha1,ha2⟩:=Zwr h ho e.p.id (x:=[[JK o zs]]) (y:=[[.oref (b+1+1) 0]]) hcx rfl;rw [JH (j:=b+1) (o:=0) rfl hro hco (c:=JK o zs) rfl,Zp (Kn o zs),Zb (by simp),Zb (ne1 (Zk7 hI hcx)),Zb (by unfold Jp ZF;rw [hpl];simp;omega),Zb ha2];have hrw:=ha1.get (j:=b+2) (row:=[.fnc 42 [b+1,b+1+1,b+2+1]]) (.tail _ (.tail _ (.head _)));rw [JH (j:=b+2) (o:=0) rfl hrw rfl (c:=.fnc 42 [b+1,b+1+1,b+2+1]) rfl,Zp rfl,Zb (by simp [Zc,Zd,ZP,okL])];have hc0:Zc (.pcap 0) [[AV.fnc 42 [b+1,b+1+1,b+2+1]]] 0 E0 [] = [[.oref (b+1) 0]]:=rfl;have hc1:Zc (.pcap 1) [[AV.fnc 42 [b+1,b+1+1,b+2+1]]] 0 E0 [] = [[.oref (b+1+1) 0]]:=rfl;have hc2:Zc (.pcap 2) [[AV.fnc 42 [b+1,b+1+1,b+2+1]]] 0 E0 [] = [[.oref (b+2+1) 0]]:=rfl;rw [hc0,hc1,hc2];have hep:=hm.par e he;have hab2:=Zk4 he (show id < e.p.id by omega);obtain ⟨rows2,F2,o2,t1,t2,t3⟩:=ih e.p.id (Xa rows.length) (zs++[e.p.id]) _ (F1++F) (by omega) (by simp;omega) ha1 (by simp [ook]);rw [t1,Xi];obtain ⟨rows3,F3,o3,u1,u2,u3⟩:=ihk (pre++[e]) q' o2 (zs++[e.p.id]++J1 k m.es e.p.id) rows2 (F2++(F1++F)) (by rw [hs];simp) (by simp at hq;omega) (by simp at hl ⊢; omega) t2 t3;rw [Ka,hl1] at u1;have e1:zs++(e.p.id::Jx ks id).flatMap (fun c=>c::J1 k m.es c)=zs++[e.p.id]++J1 k m.es e.p.id++(Jx ks id).flatMap fun c=>c::J1 k m.es c:=by simp
     rw [e1];refine ⟨rows3,F3++(F2++F1),o3,u1,?_,u3⟩;simp only [Xo] at u2 ⊢;exact u2
    ·rw [if_neg hp] at hl ⊢;rw [if_neg (by simp [cop,hp])];obtain ⟨rows3,F3,o3,u1,u2,u3⟩:=ihk (pre++[e]) q' o zs rows F (by rw [hs];simp) (by simp at hq;omega) hl h ho;rw [Ka,hl1] at u1;exact ⟨rows3,F3,o3,u1,u2,u3⟩
  have hmF:=w_m h;have hrx:rows[b]? = Xa [.oref (m.jm+1) 0]:=h.get (.tail _ (.head _));have hp0:=(h.push [.omap (m.jq+1)])
  have hq:ZC (rows++[[.omap (m.jq+1)]]) (KV m b o zs ([(rows.length,[.omap (m.jq+1)])]++F)):=hp0.perm (by
   have:KV m b o zs ([(rows.length,[.omap (m.jq+1)])]++F)=([(b+1,[JK o zs]),(b,[.oref (m.jm+1) 0]),(b+2,[.fnc 42 [b+1,b+1+1,b+2+1]])]++ZgA o zs++m.frag)++(rows.length,[.omap (m.jq+1)])::F:=by simp [KV]
   rw [this];have h2:KV m b o zs F=([(b+1,[JK o zs]),(b,[.oref (m.jm+1) 0]),(b+2,[.fnc 42 [b+1,b+1+1,b+2+1]])]++ZgA o zs++m.frag)++F:=by simp [KV]
   rw [h2];exact List.perm_middle.symm)
  have hx:Zd [[AV.oref (m.jm+1) 0]] = .oref (m.jm+1) 0:=rfl;have hgo:g42 (G42 (k+1)) id [[.oref (b+1) 0]] [[.oref (b+1+1) 0]] [[.oref (b+2+1) 0]] rows=g42 (F42 (G42 k)).S.g id [[.oref (b+1) 0]] [[.oref (b+1+1) 0]] [[.oref (b+2+1) 0]] rows:=rfl;rw [hgo,ZvD,JH (j:=b) (o:=0) rfl hrx rfl (c:=.oref (m.jm+1) 0) rfl,Zp rfl,s29 hmF hm hx,Xi];have hl2:((m.ids).length:Int)=(m.es.length:Int):=by simp [MS.ids]
  obtain ⟨rows3,F3,o3,u1,u2,u3⟩:=loop m.es [] Jl o zs _ _ rfl (by have:=hm.len;unfold Jl;omega) hlen hq ho;rw [hl2];refine ⟨rows3,F3++[(rows.length,[.omap (m.jq+1)])],o3,u1,?_,u3⟩;rw [Xo];exact u2
end
section
open Go Go.AM Go.Proofs.Ytpjnmgjphfnmmaa
set_option maxRecDepth 100000
variable {rows:LL} {F:JZ} {m:MS}
def up (es:List PE):Nat→Int→Int→Nat
 | 0, _, _ => 0
 | n + 1, k, id => match es.find? (fun e => decide (e.p.id = k)) with | none => 0 | some e => (if e.p.parent = id then 1 else 0) + up es n e.p.parent id
theorem Zlq {α β:Type} (f:α→β→Nat) (l2:List β):∀ l1:List α,(l1.map fun a=>(l2.map fun b=>f a b).sum).sum=(l2.map fun b=>(l1.map fun a=>f a b).sum).sum
 | [] => by
  induction l2 with
  | nil => rfl
  | cons b l2 ih => simpa using ih
 | a :: l1 => by
  rw [Xh,Ug,Zlq f l2 l1]
  induction l2 with
  | nil => rfl
  | cons b l2 ih =>
   simp only [Xh,Ug] at ih ⊢;omega
theorem Zjn {α:Type} (f g:α→Nat):∀ l:List α,(l.map fun a=>f a+g a).sum=(l.map f).sum+(l.map g).sum
 | [] => rfl
 | a :: l => by
  simp only [Xh,Ug,Zjn f g l];omega
theorem Znb {α:Type} (f:α→Nat):∀ l:List α,(∀ a∈l,f a≤1)→(l.map f).sum≤l.length
 | [], _ => Xy _
 | a :: l, h => by
  have h1:=h a (by simp);have h2:=Znb f l fun b hb=>h b (by simp [hb]);simp only [Xh,Ug,XA];omega
theorem WU {α:Type} (f g:α→Nat):∀ l:List α,(∀ a∈l,f a=g a)→(l.map f).sum=(l.map g).sum
 | [], _ => rfl
 | a :: l, h => by
  have h2:=WU f g l fun b hb=>h b (by simp [hb]);simp only [Xh,Ug,h2,h a (by simp)]
theorem Zmy {es:List PE} (hs:es.Pairwise fun a b=>a.p.id < b.p.id) (q id:Int):((Jx es id).map fun c=>if q=c then 1 else 0).sum=match es.find? (fun e=>decide (e.p.id=q)) with | none=>0 | some e=>if e.p.parent=id then 1 else 0:=by
 induction es with
 | nil => rfl
 | cons a es ih =>
  rw [Um] at hs;rw [Kj];by_cases haq:a.p.id=q
  ·have h0:((Jx es id).map fun c=>if q=c then 1 else 0).sum=0:=by
    rw [ih hs.2,Te.2 fun e he=>?_];have:=hs.1 e he;simp;omega
   rw [Tt (by simp [haq])];by_cases hp:a.p.parent=id
   ·rw [if_pos hp,Xh,Ug,h0,if_pos haq.symm];simp [hp]
   ·rw [if_neg hp,h0];simp [hp]
  ·rw [Tu (by simp [haq])];by_cases hp:a.p.parent=id
   ·rw [if_pos hp,Xh,Ug,if_neg (fun h=>haq h.symm),XH];exact ih hs.2
   ·rw [if_neg hp];exact ih hs.2
theorem ZoO {es:List PE} (hs:es.Pairwise fun a b=>a.p.id < b.p.id) (id:Int):∀ (n:Nat) (k:Int),((Jx es id).map fun c=>up es n k c).sum=match es.find? (fun e=>decide (e.p.id=k)) with | none=>0 | some e=>up es n e.p.parent id
 | 0, k => by
  have h0:((Jx es id).map fun c=>up es 0 k c).sum=0:=by
   induction Jx es id with
   | nil => rfl
   | cons c l ih => rw [Xh, Ug, ih]; rfl
  rw [h0];split<;>rfl
 | n + 1, k => by
  cases hf:es.find? (fun e=>decide (e.p.id=k)) with
  | none =>
   have h0:∀ c,up es (n+1) k c=0:=fun c=>by simp only [up,hf]
   dsimp only;rw [WU _ (fun _=>0) _ fun c _=>h0 c]
   induction Jx es id with
   | nil => rfl
   | cons c l ih => rw [Xh, Ug, ih]
  | some e =>
   have h0:∀ c,up es (n+1) k c=(if e.p.parent=c then 1 else 0)+up es n e.p.parent c:=fun c=>by simp only [up,hf]
   dsimp only;rw [WU _ (fun c=>(if e.p.parent=c then 1 else 0)+up es n e.p.parent c) _ fun c _=>h0 c,Zjn,Zmy hs,ZoO hs id n e.p.parent];rw [up]
   cases es.find? (fun a=>decide (a.p.id=e.p.parent)) with
   | none => rfl
   | some e' => rfl
theorem Ju {es:List PE} (hs:es.Pairwise fun a b=>a.p.id < b.p.id) {e:PE} (he:e∈es):es.find? (fun a=>decide (a.p.id=e.p.id))=Xa e:=by
 obtain ⟨pre,post,rfl⟩:=List.append_of_mem he;rw [Tp];refine ⟨by simp,pre,post,rfl,fun a ha=>?_⟩;rw [Uf] at hs;have:=hs.2.2 a ha e (by simp);simp;omega
theorem Zqc (es:List PE) (id:Int):(Jx es id).length=(es.map fun e=>if e.p.parent=id then 1 else 0).sum:=by
 induction es with
 | nil => rfl
 | cons a es ih =>
  rw [Kj,Xh,Ug,← ih];by_cases hp:a.p.parent=id
  ·rw [if_pos hp,if_pos hp,XA];omega
  ·rw [if_neg hp,if_neg hp];omega
theorem Zlz (f:Int→List Int):∀ l:List Int,(l.flatMap fun c=>c::f c).length=l.length+(l.map fun c=>(f c).length).sum
 | [] => rfl
 | c :: l => by
  rw [Uw,Xu,XA,Zlz f l,XA,Xh,Ug];omega
theorem Zf1 {es:List PE} (hs:es.Pairwise fun a b=>a.p.id < b.p.id):∀ (n:Nat) (id:Int),(J1 n es id).length=(es.map fun e=>up es n e.p.id id).sum
 | 0, id => by
  show 0=_
  have:∀ l:List PE,(l.map fun e=>up es 0 e.p.id id).sum=0:=fun l=>by
   induction l with
   | nil => rfl
   | cons c l ih => rw [Xh, Ug, ih]; rfl
  rw [this]
 | n + 1, id => by
  rw [J1,Zlz,WU _ (fun c=>(es.map fun e=>up es n e.p.id c).sum) _ fun c _=>Zf1 hs n c,Zlq,Zqc,← Zjn];refine WU _ _ _ fun e he=>?_;rw [ZoO hs,up,Ju hs he]
theorem Zt7 {es:List PE} (hp:∀ e∈es,e.p.parent < e.p.id):∀ (n:Nat) (k id:Int),up es n k id≤if id < k then 1 else 0
 | 0, k, id => X5 _
 | n + 1, k, id => by
  rw [up]
  cases hf:es.find? (fun e=>decide (e.p.id=k)) with
  | none => exact X5 _
  | some e =>
   have h1:=hp e (Ue hf);have h2:e.p.id=k:=by have:=Wt hf;simpa using this
   have h3:=Zt7 hp n e.p.parent id;dsimp only;by_cases hpi:e.p.parent=id
   ·rw [if_pos hpi,if_pos (by omega)];rw [if_neg (by omega)] at h3;omega
   ·rw [if_neg hpi];by_cases h4:id < e.p.parent
    ·rw [if_pos h4] at h3;rw [if_pos (by omega)];omega
    ·rw [if_neg h4] at h3;omega
theorem Zpc (hm:m.Ok) (n:Nat) (id:Int):(J1 n m.es id).length≤64:=by
 rw [Zf1 hm.srt];refine XI (Znb _ _ fun e _=>?_) hm.len;have:=Zt7 (es:=m.es) (fun a ha=>(hm.par a ha).2) n e.p.id id;split at this<;>omega
theorem ZqD (hm:m.Ok) (id:Int):Zjv m.es id≤64:=XI (Un _ _) hm.len
def KP (es:List PE) (id:Int):List Int:=match es.find? (fun e=>decide (e.p.id=id)) with | none=>[] | some _=>srt (J1 128 es id)
theorem s19 {x:LL} (h:ZC rows (m.frag++F)) (hm:m.Ok) (hx:Zd x = .oref (m.jm+1) 0) (id:Int) :
  ∃ rows' F' c,g19 x id rows=Xa ([[c]],rows')∧ZP c=Xb∧IsI rows' c (KP m.es id)∧((c = .osl 0 0 0)∨∃ j,c = .osl 3 (j+1) (KP m.es id).length∧rows'[j]? = Xa (Jt (KP m.es id))∧KP m.es id≠[]∧(j,Jt (KP m.es id))∈F')∧ZC rows' (m.frag++(F'++F)):=by
 have hw:∀ l:LL,Zc .pnew l 0 E0 [] = [[.oref (l.length+1) 0]]:=fun _=>rfl;have hn1:Zd (Zc (.pnil 1) E0 0 E0 []) = .osl 0 0 0:=rfl;have hn3:Zd (Zc (.pnil 3) E0 0 E0 []) = .fnc 0 []:=rfl;have hlb1:(rows++[[AV.oref (m.jm+1) 0]]).length=rows.length+1:=by simp
 have hlb2:(rows++[[AV.oref (m.jm+1) 0]]++[[AV.osl 0 0 0]]).length=rows.length+2:=by simp
 have hfc:Zd (Zc (.pfnc 42) E0 0 [] [Zd [[AV.oref (rows.length+1) 0]],Zd [[AV.oref (rows.length+1+1) 0]],Zd [[AV.oref (rows.length+2+1) 0]]]) = .fnc 42 [rows.length+1,rows.length+1+1,rows.length+2+1]:=rfl;have hp1:=h.push [.oref (m.jm+1) 0];have hp2:=hp1.push [.osl 0 0 0];have hp3:=hp2.push [.fnc 0 []];rw [hlb1] at hp3 hp2;rw [hlb2] at hp3;have hp4:=hp3.set [.fnc 42 [rows.length+1,rows.length+1+1,rows.length+2+1]];have hrw:(rows++[[AV.oref (m.jm+1) 0]]++[[AV.osl 0 0 0]]++[[AV.fnc 0 []]])[rows.length+2]? = Xa [AV.fnc 0 []]:=hp3.get (.head _)
 have hst:Zc .set (rows++[[AV.oref (m.jm+1) 0]]++[[AV.osl 0 0 0]]++[[AV.fnc 0 []]]) 0 [[AV.oref (rows.length+2+1) 0]] [.fnc 42 [rows.length+1,rows.length+1+1,rows.length+2+1]]=(rows++[[AV.oref (m.jm+1) 0]]++[[AV.osl 0 0 0]]++[[AV.fnc 0 []]]).set (rows.length+2) [.fnc 42 [rows.length+1,rows.length+1+1,rows.length+2+1]]:=by
  rw [Zas (o:=0) rfl hrw (by simp)];rfl
 rw [Zve,hx,hn1,hn3,hw,hw,hw,hlb1,hlb2,hfc,hst]
 rw [Zb (by simp [Zc,Zd,ZP,okL]),Zb (by simp [Zc,Zd,ZP,okL]),Zb (by simp [Zc,Zd,ZP,okL]),Zb (by simp [Zc,Zd,ZP,okL]),Zb (by simp [Zc,Zd,ZP,okL]),Zb (by simp [Zc,Zd,ZP,okL]),
  Zb (by rw [JH (j:=rows.length+2) (o:=0) rfl hrw rfl (c:=.fnc 0 []) rfl];simp)]
 generalize (rows++[[AV.oref (m.jm+1) 0]]++[[AV.osl 0 0 0]]++[[AV.fnc 0 []]]).set (rows.length+2) [.fnc 42 [rows.length+1,rows.length+1+1,rows.length+2+1]]=r4 at hp4 ⊢
 have hwf:ZC r4 (KV m rows.length Xc [] F):=hp4.perm (by
  unfold KV ZgA JK;rw [XM];exact (List.Perm.swap _ _ _).trans (List.Perm.cons _ (List.Perm.swap _ _ _)))
 have hmF:=w_m hwf;have hrx:r4[rows.length]? = Xa [.oref (m.jm+1) 0]:=hwf.get (.tail _ (.head _));have hx':Zd [[AV.oref (m.jm+1) 0]] = .oref (m.jm+1) 0:=rfl;rw [JH (j:=rows.length) (o:=0) rfl hrx rfl (c:=.oref (m.jm+1) 0) rfl,Zp rfl,Zb (ne1 (ZE hx')),Zb (ne1 (ZE hx')),YY hmF hx',Zp rfl,Zb (ne1 (Vk hmF rfl)),Zcr hmF rfl,Zb (ne1 (Ko _))];have hfd:m.es.find? (fun e=>decide (e.p.id=id))=m.find id:=rfl;unfold KP;rw [hfd]
 cases hf:m.find id with
 | none =>
  have hro:r4[rows.length+1]? = Xa [.osl 0 0 0]:=hwf.get (.head _);rw [Vd,if_neg (by decide),JH (j:=rows.length+1) (o:=0) rfl hro rfl (c:=.osl 0 0 0) rfl,Zp rfl];have hs:g43 [[.osl 0 0 0]] r4=Xa r4:=rfl;rw [hs,Xi,JH (j:=rows.length+1) (o:=0) rfl hro rfl (c:=.osl 0 0 0) rfl,Zp rfl];refine ⟨r4,[(rows.length+2,[.fnc 42 [rows.length+1,rows.length+1+1,rows.length+2+1]]),(rows.length+1,[.osl 0 0 0]),(rows.length,[.oref (m.jm+1) 0])],_,rfl,rfl,.inl ⟨rfl,rfl⟩,.inl rfl,?_⟩;exact hp4.perm ((X4 [(rows.length+2,[AV.fnc 42 [rows.length+1,rows.length+1+1,rows.length+2+1]]),(rows.length+1,[AV.osl 0 0 0]),(rows.length,[AV.oref (m.jm+1) 0])] m.frag F))
 | some e =>
  have hrw4:=hwf.get (j:=rows.length+2) (row:=[.fnc 42 [rows.length+1,rows.length+1+1,rows.length+2+1]]) (.tail _ (.tail _ (.head _)));rw [Zr,if_pos (by decide),JH (j:=rows.length+2) (o:=0) rfl hrw4 rfl (c:=.fnc 42 [rows.length+1,rows.length+1+1,rows.length+2+1]) rfl,Zp rfl,Zb (by simp [Zc,Zd,ZP,okL])];have hc0:Zc (.pcap 0) [[AV.fnc 42 [rows.length+1,rows.length+1+1,rows.length+2+1]]] 0 E0 [] = [[.oref (rows.length+1) 0]]:=rfl;have hc1:Zc (.pcap 1) [[AV.fnc 42 [rows.length+1,rows.length+1+1,rows.length+2+1]]] 0 E0 [] = [[.oref (rows.length+1+1) 0]]:=rfl;have hc2:Zc (.pcap 2) [[AV.fnc 42 [rows.length+1,rows.length+1+1,rows.length+2+1]]] 0 E0 [] = [[.oref (rows.length+2+1) 0]]:=rfl;have hab:=ZqD hm id;have hdl:=Zpc hm 128 id;obtain ⟨r5,F5,o5,t1,t2,t3⟩:=s42 m hm rows.length 128 id Xc [] r4 F (by omega) (by simp;omega) hwf rfl;rw [XM] at t2 t3;rw [hc0,hc1,hc2,t1,Xi];have hro:r5[rows.length+1]? = Xa [JK o5 (J1 128 m.es id)]:=t2.get (.head _);have hco:ZU [JK o5 (J1 128 m.es id)]=Xb:=J8 (Kn o5 _);rw [JH (j:=rows.length+1) (o:=0) rfl hro hco (c:=JK o5 (J1 128 m.es id)) rfl,Zp (Kn o5 _)];have hcx:Zd [[JK o5 (J1 128 m.es id)]]=JK o5 (J1 128 m.es id):=ZpX (Kn o5 _)
  cases o5 with
  | none =>
   have hd0:J1 128 m.es id = []:=t3;have hs:g43 [[JK Xc (J1 128 m.es id)]] r5=Xa r5:=rfl;rw [hs,Xi,JH (j:=rows.length+1) (o:=0) rfl hro hco (c:=JK Xc (J1 128 m.es id)) rfl,Zp rfl];have hsr:srt (J1 128 m.es id) = []:=by rw [hd0];simp [srt]
   dsimp only;refine ⟨r5,[(rows.length+1,[AV.osl 0 0 0]),(rows.length,[AV.oref (m.jm+1) 0]),(rows.length+2,[AV.fnc 42 [rows.length+1,rows.length+1+1,rows.length+2+1]])]++F5,_,rfl,rfl,.inl ⟨rfl,hsr⟩,.inl rfl,?_⟩;rw [Xo];exact t2.perm (X4 [(rows.length+1,[AV.osl 0 0 0]),(rows.length,[AV.oref (m.jm+1) 0]),(rows.length+2,[AV.fnc 42 [rows.length+1,rows.length+1+1,rows.length+2+1]])] m.frag (F5++F))
  | some j =>
   have hd0:J1 128 m.es id≠[]:=t3;have hrj:r5[j]? = Xa (Jt (J1 128 m.es id)):=t2.get (by simp [KV,ZgA]);rw [s43 (j:=j) (zs:=J1 128 m.es id) hcx hrj hd0 (by omega),Xi]
   have hp:(KV m rows.length (Xa j) (J1 128 m.es id) (F5++F)).Perm ((j,Jt (J1 128 m.es id))::((rows.length+1,[JK (Xa j) (J1 128 m.es id)])::(rows.length,[.oref (m.jm+1) 0])::(rows.length+2,[.fnc 42 [rows.length+1,rows.length+1+1,rows.length+2+1]])::(m.frag++(F5++F)))):=by
    unfold KV ZgA;exact UP (l₁:=[(rows.length+1,[JK (Xa j) (J1 128 m.es id)]),(rows.length,[.oref (m.jm+1) 0]),(rows.length+2,[.fnc 42 [rows.length+1,rows.length+1+1,rows.length+2+1]])])
   have h6:=(t2.perm hp).set (Jt (srt (J1 128 m.es id)));have hro6:=h6.get (j:=rows.length+1) (row:=[JK (Xa j) (J1 128 m.es id)]) (.tail _ (.head _));rw [JH (j:=rows.length+1) (o:=0) rfl hro6 hco (c:=JK (Xa j) (J1 128 m.es id)) rfl,Zp (Kn _ _)];have hsl:=ZaA (J1 128 m.es id)
   have hsn:srt (J1 128 m.es id)≠[]:=fun hh=>by
    rw [hh] at hsl;exact hd0 (TE.1 hsl.symm)
   have hoc:JK (Xa j) (J1 128 m.es id) = .osl 3 (j+1) (srt (J1 128 m.es id)).length:=by rw [hsl];rfl
   dsimp only;refine ⟨_,(j,Jt (srt (J1 128 m.es id)))::(rows.length+1,[JK (Xa j) (J1 128 m.es id)])::(rows.length,[.oref (m.jm+1) 0])::(rows.length+2,[.fnc 42 [rows.length+1,rows.length+1+1,rows.length+2+1]])::F5,_,rfl,rfl,.inr ⟨j,[],hoc,?_,?_⟩,.inr ⟨j,hoc,?_,hsn,.head _⟩,?_⟩
   ·rw [XN];exact h6.get (.head _)
   ·rw [XN];intro hh;exact hsn (List.map_eq_nil_iff.1 hh)
   ·exact h6.get (.head _)
   ·exact h6.perm (X4 [(j,Jt (srt (J1 128 m.es id))),(rows.length+1,[JK (Xa j) (J1 128 m.es id)]),(rows.length,[.oref (m.jm+1) 0]),(rows.length+2,[.fnc 42 [rows.length+1,rows.length+1+1,rows.length+2+1]])] m.frag (F5++F))
theorem ZgL (hm:m.Ok) (id:Int):(KP m.es id).length≤64:=by
 unfold KP;split
 ·exact X5 _
 ·rw [ZaA];exact Zpc hm 128 id
def Vx (es:List PE) (id target:Int):(List PE×List Zi4)×Int:=
 match Yn es id with
 | none => ((es, []), 17)
 | some _ =>
  match Yn es target with
  | none => ((es, []), 17)
  | some _ => if target = id ∨ target ∈ KP es id then (Zi (-1) es (target :: KP es target), 0) else ((es, []), 8)
theorem s21 {x:LL} (h:ZC rows (m.frag++F)) (hm:m.Ok) (hx:Zd x = .oref (m.jm+1) 0) (id target:Int) :
  ∃ rows' F',g21 x id target rows=Xa (ZX (Vx m.es id target).1.2,(Vx m.es id target).2,rows')∧ZC rows' (({ m with es:=(Vx m.es id target).1.1 } : MS).frag++(F'++F))∧({ m with es:=(Vx m.es id target).1.1 } : MS).Ok:=by
 rw [ZvV,s27 h hx,Xi,Zb (ne1 (Ko _)),ZbI];unfold Vx
 cases ho:Yn m.es id with
 | none =>
  rw [Vd,if_pos (by decide)];exact ⟨rows,[],rfl,h,hm⟩
 | some e =>
  rw [Zr,if_neg (by decide)];dsimp only;rw [s27 h hx,Xi,Zb (ne1 (Ko _)),ZbI]
  cases ht:Yn m.es target with
  | none =>
   rw [Vd,if_pos (by decide)];exact ⟨rows,[],rfl,h,hm⟩
  | some t =>
   rw [Zr,if_neg (by decide)];dsimp only
   -- the end of it
   have fin:∀ (r1:LL) (F1:JZ),ZC r1 (m.frag++(F1++F))→∃ rows' F',((g19 x target r1).bind fun (r12:LL×LL)=>
     Zf ((Zc (.vchk 3 1) r12.2 0 r12.1 [])≠[])<|
     Zf (Jp (E0++[[AV.val (.int .i64 target)]]) (Zc (.view 1) r12.2 0 r12.1 []) 8)<|
     (g45 x ((E0++[[AV.val (.int .i64 target)]])++(Zc (.view 1) r12.2 0 r12.1 [])) (-1) r12.2).bind fun (r14:LL×LL)=>
     Xa (r14.1,(0:Int),r14.2))=Xa (ZX (Zi (-1) m.es (target::KP m.es target)).2,0,rows')∧ZC rows' (({ m with es:=(Zi (-1) m.es (target::KP m.es target)).1 } : MS).frag++(F'++F))∧({ m with es:=(Zi (-1) m.es (target::KP m.es target)).1 } : MS).Ok:=fun r1 F1 h1=>by
    obtain ⟨r2,F2,c,q1,q2,q3,q4,q5⟩:=s19 h1 hm hx target;have hdl:=ZgL hm target;rw [q1,Xi];dsimp only;have hcx:Zd [[c]]=c:=ZpX q2
    have hv:Zc (.vchk 3 1) r2 0 [[c]] [] = [[]]:=by
     rcases q4 with rfl | ⟨j,rfl,hr,hn⟩
     ·simp [Zc,Zd,ZP,Zex,okL]
     ·refine Zk7 (k:=0) (zs:=KP m.es target) (.inr ⟨j,rfl,by simpa using hr,fun hh=>?_⟩) rfl;simp [Jt] at hh;exact hn.1 hh
    have hint:(E0++[[AV.val (.int .i64 target)]])++ints (KP m.es target)=ints (target::KP m.es target):=rfl;rw [Zb (ne1 hv),Zq9 q3 hcx,Zb (by unfold Jp ZF;simp;omega),hint];obtain ⟨r3,F3,t1,t2,t3⟩:=s45 (zs:=target::KP m.es target) (by simp;omega) (-1) q5 hm hx;rw [t1];refine ⟨r3,F3++(F2++F1),rfl,?_,t3⟩;simp only [Xo] at t2 ⊢;exact t2
   by_cases hti:target=id
   ·rw [if_neg (by simp [cop,hti]),if_pos (.inl hti)];exact fin rows [] h
   ·rw [if_pos (by simp [cop,hti])];obtain ⟨r2,F2,c,q1,q2,q3,q4,q5⟩:=s19 h hm hx id;have hdl:=ZgL hm id;have hcx:Zd [[c]]=c:=ZpX q2;rw [q1,Xi];dsimp only;rw [s44 q3 hcx (by omega) target,Xi];dsimp only;by_cases hin:target∈KP m.es id
    ·rw [decide_eq_true hin,if_neg (by decide),if_pos (.inr hin)];exact fin r2 F2 q5
    ·rw [decide_eq_false hin,if_pos (by decide),if_neg (fun hh=>hh.elim hti hin)];exact ⟨r2,F2,rfl,q5,hm⟩
end
open Go Go.AM Go.Proofs.Ytpjnmgjphfnmmaa
set_option maxRecDepth 100000
def ZeA (z:Int):Bool:=decide (97≤z∧z≤122∨65≤z∧z≤90∨z=95)
def ZiM (z:Int):Bool:=decide (48≤z∧z≤57)
def chr (s:ByteArray) (i:Nat):Int:=((s.data.toList.getD i 0).toNat:Int)
def Zj0 (s:ByteArray):Nat→Nat→Bool
 | _, 0 => Xb
 | i, n + 1 => (ZeA (chr s i) || ZiM (chr s i)) && Zj0 s (i + 1) n
def ZpY (s:ByteArray):Nat→Nat→Nat
 | i, 0 => i
 | i, n + 1 => if (ZeA (chr s i) || ZiM (chr s i)) = Xb then ZpY s (i + 1) n else i
def Zgp (s:ByteArray):Bool:=decide (s.size≠0)&&(ZeA (chr s 0)&&(Zj0 s 0 s.size&&decide (s.size≤24)))
theorem ZkX (z:Int):(if (cop .geq z 97)=Xb then
 if (cop .leq z 122)=Xb then
 Xa (Xb)
 else
 if (cop .geq z 65)=Xb then
 if (cop .leq z 90)=Xb then
 Xa (Xb)
 else
 Xa ((cop .eql z 95))
 else
 Xa ((cop .eql z 95))
 else
 if (cop .geq z 65)=Xb then
 if (cop .leq z 90)=Xb then
 Xa (Xb)
 else
 Xa ((cop .eql z 95))
 else
 Xa ((cop .eql z 95)))=Xa (ZeA z):=by
  unfold ZeA;simp only [cop,decide_eq_true_eq];by_cases h1:97≤z<;>by_cases h2:z≤122<;>by_cases h3:65≤z<;>by_cases h4:z≤90<;>by_cases h5:z=95<;>simp [h1,h2,h3,h4,h5]<;>omega
theorem Zke (z:Int):(if (cop .geq z 48)=Xb then
 Xa ((cop .leq z 57))
 else
 Xa (Xe))=Xa (ZiM z):=by
  unfold ZiM;simp only [cop,decide_eq_true_eq];by_cases h1:48≤z<;>by_cases h2:z≤57<;>simp [h1,h2]
theorem s66 (z:Int):g66 z=Xa (ZeA z):=by rw [Zui];exact ZkX z
theorem s86 (z:Int):g86 z=Xa (ZeA z):=by rw [ZuJ];exact ZkX z
theorem s84 (z:Int):g84 z=Xa (ZiM z):=by rw [Zvq];exact Zke z
theorem s87 (z:Int):g87 z=Xa (ZiM z):=by rw [ZuV];exact Zke z
theorem Zuu {i:Nat} (h:i≤1048576):iop .add .i64 (i:Int) 1=((i+1:Nat):Int):=by
 rw [Zoa (by omega) (by omega)];omega
theorem Zll (s:ByteArray) (hs:s.size≤1000000):∀ (n i k:Nat),i+n=s.size→n < k→ZpG k s (i:Int)=Xa ((ZpY s i n:Nat):Int)
 | 0, i, k, hi, hk => by
  obtain ⟨k',rfl⟩:∃ k',k=k'+1:=⟨k-1,by omega⟩;rw [ZkF,if_neg (by simp [cop];omega)];rfl
 | n + 1, i, k, hi, hk => by
  obtain ⟨k',rfl⟩:∃ k',k=k'+1:=⟨k-1,by omega⟩;have ih:=Zll s hs n (i+1) k' (by omega) (by omega);rw [ZkF,if_pos (by simp [cop];omega),Zb (by omega),Zb (by omega),s66,Xi,Zuu (by omega),ih,Zb (by omega),Zb (by omega),s84,Xi,Wv];rw [show ZpY s i (n+1)=if (ZeA (chr s i)||ZiM (chr s i))=Xb then ZpY s (i+1) n else i from rfl];show (if ZeA (chr s i)=Xb then _ else if ZiM (chr s i)=Xb then _ else _)=_
  cases ZeA (chr s i)<;>cases ZiM (chr s i)<;>rfl
theorem ZkH (s:ByteArray) (hs:s.size≤1000000):∀ (n i k:Nat),i+n=s.size→n < k→ZmO k s (i:Int)=Xa (Zj0 s i n)
 | 0, i, k, hi, hk => by
  obtain ⟨k',rfl⟩:∃ k',k=k'+1:=⟨k-1,by omega⟩;rw [Zkx,if_neg (by simp [cop];omega)];rfl
 | n + 1, i, k, hi, hk => by
  obtain ⟨k',rfl⟩:∃ k',k=k'+1:=⟨k-1,by omega⟩;have ih:=ZkH s hs n (i+1) k' (by omega) (by omega);rw [Zkx,if_pos (by simp [cop];omega),Zb (by omega),Zb (by omega),s86,Xi,Zuu (by omega),ih,Zb (by omega),Zb (by omega),s87,Xi,Wv];rw [show Zj0 s i (n+1)=((ZeA (chr s i)||ZiM (chr s i))&&Zj0 s (i+1) n) from rfl];show (if (!ZeA (chr s i))=Xb then (if (!ZiM (chr s i))=Xb then _ else _) else _)=_
  cases ZeA (chr s i)<;>cases ZiM (chr s i)<;>rfl
theorem ZoQ (s:ByteArray):∀ (n i:Nat),i≤ZpY s i n∧(ZpY s i n=i+n↔Zj0 s i n=Xb)
 | 0, i => ⟨Xy _, by simp [ZpY, Zj0]⟩
 | n + 1, i => by
  obtain ⟨h1,h2⟩:=ZoQ s n (i+1);rw [show ZpY s i (n+1)=if (ZeA (chr s i)||ZiM (chr s i))=Xb then ZpY s (i+1) n else i from rfl,show Zj0 s i (n+1)=((ZeA (chr s i)||ZiM (chr s i))&&Zj0 s (i+1) n) from rfl]
  cases (ZeA (chr s i)||ZiM (chr s i)) with
  | true =>
   simp only [if_true,Wc];exact ⟨by omega,by rw [← h2];omega⟩
  | false => simp
theorem ZhG (s:ByteArray):(ByteArray.toList s == ByteArray.toList (⟨#[]⟩:ByteArray))=decide (s.size=0):=by
 rw [ByteArray.toList_eq,ByteArray.toList_eq];have:s.size=s.data.toList.length:=rfl;rw [this]
 cases s.data.toList<;>simp
theorem s28 (s:ByteArray) (hs:s.size≤1000000):g28 s=Xa (Zgp s):=by
 have h67:g67 s=Xa ((ZpY s 0 s.size:Nat):Int):=by
  rw [Zuh];exact Zll s hs s.size 0 Jl (by omega) (by unfold Jl;omega)
 obtain ⟨h1,h2⟩:=ZoQ s s.size 0;rw [ZvK,Zvm,ZhG];unfold Zgp;by_cases h0:s.size=0
 ·rw [if_neg (by simp [h0])];simp [h0]
 ·rw [if_pos (by simp [h0]),Zb (by decide),Zb (by omega),s66,Xi,h67];show (if ZeA (chr s 0)=Xb then _ else _:Option Bool).bind _=_;rw [decide_eq_true h0,Wc]
  cases ZeA (chr s 0) with
  | false => rfl
  | true =>
   rw [if_pos rfl,Xi,Xi,Wc]
   cases ha:Zj0 s 0 s.size with
   | true =>
    have:=h2.2 ha;rw [if_pos (by simp [cop];omega),Wc];congr 1;simp [cop];omega
   | false =>
    rw [if_neg]
    ·rfl
    ·intro hh;simp [cop] at hh;rw [h2.1 (by omega)] at ha
     cases ha
theorem s56 (s:ByteArray) (hs:s.size≤1000000):g56 s=Xa (Zgp s):=by
 rw [ZvN,ZvG,ZhG];unfold Zgp;by_cases h0:s.size=0
 ·rw [if_pos (by simp [h0])];simp [h0]
 ·have h70:ZmO Jl s 1=Xa (Zj0 s 1 (s.size-1)):=ZkH s hs (s.size-1) 1 Jl (by omega) (by unfold Jl;omega);rw [if_neg (by simp [h0]),Zb (by decide),Zb (by omega),s86,Xi,h70];show (if (!ZeA (chr s 0))=Xb then _ else _:Option Bool).bind _=_;rw [decide_eq_true h0,Wc]
  have ha:ZeA (chr s 0)=Xb→Zj0 s 0 s.size=Zj0 s 1 (s.size-1):=fun hl=>by
   obtain ⟨n,hn⟩:∃ n,s.size=n+1:=⟨s.size-1,by omega⟩;rw [hn];show ((ZeA (chr s 0)||ZiM (chr s 0))&&Zj0 s 1 n)=_;rw [hl];simp
  cases hl:ZeA (chr s 0) with
  | false => rfl
  | true =>
   rw [if_neg (by decide),Xi,Wc,ha hl]
   cases Zj0 s 1 (s.size-1) with
   | true =>
    rw [if_pos rfl,Wc];congr 1;simp [cop];omega
   | false => rfl
section
open Go Go.AM Go.Proofs.Ytpjnmgjphfnmmaa
set_option maxRecDepth 100000
variable {rows:LL} {F:JZ}
def V5 (e:PE):List AV:=[I e.p.id,I e.p.parent,.val (.string e.p.name),.slice Xe 1 (ints e.p.cores),B e.p.ended,I e.p.status,B e.p.waiting]
structure RS where
 jr:Nat
 ja:Nat
 es:List PE
 last:Int
variable {r:RS}
def RS.head (r:RS):List AV:=[.osl 57 (r.ja+1) r.es.length,I r.last]
def RS.arr (r:RS):List AV:=(r.es.map V5).flatten
def RS.frag (r:RS):JZ:=[(r.jr,r.head),(r.ja,r.arr)]
structure LOk (es:List PE) (last:Int):Prop where
 srt:es.Pairwise fun a b=>a.p.id < b.p.id
 rng:∀ e∈es,1≤e.p.id∧e.p.id≤last
 par:∀ e∈es,0≤e.p.parent∧e.p.parent < e.p.id
 len:es.length≤64
 lst:last≤1048576
 one:∃ e∈es,e.p.id=1
theorem ZgM (e:PE):(V5 e).length=7:=rfl
theorem KM (es:List PE):(es.map V5).flatten.length=es.length*7:=by
 induction es with
 | nil => rfl
 | cons e es ih => rw [Xh, X9, Xu, ih, ZgM, XA]; omega
theorem Zbo (es:List PE) {pre post:List PE} {e:PE} (hs:es=pre++e::post):(es.map V5).flatten=(pre.map V5).flatten++(V5 e++(post.map V5).flatten):=by
 rw [hs,XL,Xh,List.flatten_append,X9]
theorem ZaB {es:List PE} (h:es≠[]):ZU (es.map V5).flatten=Xb:=by
 cases es with
 | nil => exact absurd rfl h
 | cons e es => rfl
theorem ZpU (h:ZC rows (r.frag++F)):rows[r.jr]? = Xa r.head:=h.get (by simp [RS.frag])
theorem Zn5 (h:ZC rows (r.frag++F)):rows[r.ja]? = Xa r.arr:=h.get (by simp [RS.frag])
theorem KI {x:LL} (h:ZC rows (r.frag++F)) (hx:Zd x = .oref (r.jr+1) 0):Zc (.get 1) rows 0 (Zc (.padd 0) x 0 E0 []) [] = [[.osl 57 (r.ja+1) r.es.length]]:=by
 rw [YS hx];exact JH rfl (ZpU h) rfl rfl
theorem Zof {x:LL} (h:ZC rows (r.frag++F)) (hx:Zd x = .oref (r.jr+1) 0):Zc (.get 1) rows 0 (Zc (.padd 1) x 0 E0 []) [] = [[I r.last]]:=by
 rw [YS hx];exact JH rfl (ZpU h) rfl rfl
theorem Zau (a n:Nat):Zc .pisl [[.osl 57 (a+1) n]] 0 E0 [] = [[]]:=by simp [Zc,Zd,ZP,okL]
theorem YL (a n:Nat):((Zc .plen [[.osl 57 (a+1) n]] 0 E0 []).length:Int)=(n:Int):=by simp [Zc,Zd,ZP]
theorem Zio (a n i:Nat):Zc (.pidx 7) [[.osl 57 (a+1) n]] (i:Int) [] [] = [[.oref (a+1) (i*7)]]:=by simp [Zc,Zd,ZP,pJ]
abbrev rn (r:RS) (i:Nat):LL:=[[.oref (r.ja+1) (i*7)]]
theorem ZN (r:RS) (i:Nat):Zc .pnn (rn r i) 0 E0 [] = [[]]:=ZE rfl
theorem Y8 (r:RS) (i:Nat):Zc .pisr (rn r i) 0 E0 [] = [[]]:=Zpt rfl
theorem Ks:Zc .pisr [[.oref 0 0]] 0 E0 [] = [[]]:=Zpp rfl
theorem V2:Zc .pnn [[.oref 0 0]] 0 E0 [] = []:=Zsy rfl
theorem Ztg {es pre post:List PE} {e:PE} (hs:es=pre++e::post) {o:Nat} {c:AV} (hc:(V5 e)[o]? = Xa c):((es.map V5).flatten)[pre.length*7+o]? = Xa c:=by
 rw [Zbo es hs];have hl:=KM pre;have ho:o < (V5 e).length:=(Xk.1 hc).1;rw [Xz (by omega),hl,UI,Xx ho,hc]
theorem Y6 (h:ZC rows (r.frag++F)) {pre post:List PE} {e:PE} (hs:r.es=pre++e::post) {o:Nat} {c:AV} (hc:(V5 e)[o]? = Xa c):Zc (.get 1) rows 0 (Zc (.padd o) (rn r pre.length) 0 E0 []) [] = [[c]]:=by
 rw [YS (j:=r.ja+1) (o:=pre.length*7) rfl];exact JH rfl (Zn5 h) (ZaB (by rw [hs];simp)) (Ztg hs hc)
theorem Zu9 (h:ZC rows (r.frag++F)) {pre post:List PE} {e:PE} (hs:r.es=pre++e::post):Zc (.get 7) rows 0 (rn r pre.length) [] = [V5 e]:=by
 have hl:=KM pre;have hc:ZU r.arr=Xb:=ZaB (by rw [hs];simp);have hrl:r.arr.length=r.es.length*7:=KM r.es;have hel:r.es.length=pre.length+post.length+1:=by rw [hs];simp;omega
 simp only [Zc,Zd,ZP,Zol,ZZ (Zn5 h),hc,Wc];rw [decide_eq_true (by omega)];dsimp only
 have:(r.arr.drop (pre.length*7)).take 7=V5 e:=by
  unfold RS.arr;rw [Zbo r.es hs,List.drop_left' hl,Tq (ZgM e)]
 rw [this]
theorem ZeI (h:ZC rows (r.frag++F)) {pre post:List PE} {e e':PE} (hs:r.es=pre++e::post) {o:Nat} {c:AV} (ho:o < 7) (he:(V5 e).set o c=V5 e') :
  ZC (Zc .set rows 0 (Zc (.padd o) (rn r pre.length) 0 E0 []) [c]) (({ r with es:=pre++e'::post } : RS).frag++F):=by
 rw [YS (j:=r.ja+1) (o:=pre.length*7) rfl];have hl:=KM pre;have hrl:r.arr.length=r.es.length*7:=KM r.es;have hel:r.es.length=pre.length+post.length+1:=by rw [hs];simp;omega
 rw [Zas rfl (Zn5 h) (by omega)]
 have hset:r.arr.set (pre.length*7+o) c=({ r with es:=pre++e'::post } : RS).arr:=by
  unfold RS.arr;rw [Zbo r.es hs,Zbo (pre++e'::post) rfl,TD _ _ (by omega),hl,UI,List.set_append_left _ _ (by rw [ZgM];exact ho),he]
 rw [hset]
 have hh:({ r with es:=pre++e'::post } : RS).head=r.head:=by
  unfold RS.head;rw [hs];simp
 have h2:=(h.perm (List.Perm.swap _ _ _)).set ({ r with es:=pre++e'::post } : RS).arr;refine (h2.perm (List.Perm.swap _ _ _)).perm ?_;have:({ r with es:=pre++e'::post } : RS).frag++F=(r.jr,({ r with es:=pre++e'::post } : RS).head)::(r.ja,({ r with es:=pre++e'::post } : RS).arr)::F:=rfl;rw [this,hh];exact List.Perm.refl _
theorem Zf6 {x:LL} (h:ZC rows (r.frag++F)) (hl:r.es.length≤100) (hx:Zd x = .oref (r.jr+1) 0) (k:Int):∀ (ks pre:List PE) (q:Nat),r.es=pre++ks→ks.length < q→
  (∀ p e s,ks=p++e::s→e.p.id=k→(∀ a∈p,a.p.id≠k)→Zn1 q x k (pre.length:Int) rows=Xa (rn r (pre++p).length,rows))∧((∀ a∈ks,a.p.id≠k)→Zn1 q x k (pre.length:Int) rows=Xa ([[.oref 0 0]],rows))
 | [], pre, q, hs, hq => by
  obtain ⟨q',rfl⟩:∃ q',q=q'+1:=⟨q-1,by simp at hq;omega⟩;rw [XN] at hs;refine ⟨fun p e s hh=>by simp at hh,fun _=>?_⟩;rw [Zkz,Zb (ne1 (ZE hx)),Zb (ne1 (ZE hx)),KI h hx,Zp rfl,Zb (ne1 (Zau _ _)),YL,hs,if_neg (by simp [cop])];rfl
 | a :: ks, pre, q, hs, hq => by
  obtain ⟨q',rfl⟩:∃ q',q=q'+1:=⟨q-1,by simp at hq;omega⟩;have hel:r.es.length=pre.length+ks.length+1:=by rw [hs];simp;omega
  have hl1:((pre++[a]).length:Int)=((pre.length+1:Nat):Int):=by simp
  obtain ⟨ih1,ih2⟩:=Zf6 h hl hx k ks (pre++[a]) q' (by rw [hs];simp) (by simp at hq;omega);rw [hl1] at ih1 ih2;rw [Zkz,Zb (ne1 (ZE hx)),Zb (ne1 (ZE hx)),KI h hx,Zp rfl,Zb (ne1 (Zau _ _)),YL,if_pos (by simp [cop];omega),Zb (ne1 (ZE hx)),Zb (ne1 (ZE hx)),Zp rfl,Zb (by omega),YL,Zb (by omega),Zio,Zb (ne1 (ZN r _)),Y6 h hs (c:=I a.p.id) rfl,ZL,ZaQ (by omega)];by_cases hk:a.p.id=k
  ·rw [if_pos (by simp [cop,hk]),Zb (ne1 (ZE hx)),Zb (ne1 (ZE hx)),Zp rfl,Zb (by omega),YL,Zb (by omega),Zio];refine ⟨fun p e s hh hek hp=>?_,fun hh=>absurd hk (hh a (by simp))⟩
   cases p with
   | nil => simp
   | cons b p =>
    rw [XJ,List.cons.injEq] at hh;exact absurd (hh.1 ▸ hk) (hp b (by simp))
  ·rw [if_neg (by simp [cop,hk])];refine ⟨fun p e s hh hek hp=>?_,fun hh=>ih2 fun b hb=>hh b (by simp [hb])⟩
   cases p with
   | nil =>
    rw [XM,List.cons.injEq] at hh;exact absurd hek (hh.1 ▸ hk)
   | cons b p =>
    rw [XJ,List.cons.injEq] at hh;have:=ih1 p e s hh.2 hek fun c hc=>hp c (by simp [hc]);rw [hh.1] at this;rw [this];simp
theorem Zli {x:LL} (h:ZC rows (r.frag++F)) (hl:r.es.length≤100) (hx:Zd x = .oref (r.jr+1) 0) {k:Int} (hf:r.es.find? (fun e=>decide (e.p.id=k))=Xc):g60 x k rows=Xa ([[.oref 0 0]],rows):=by
 rw [ZrO];exact (Zf6 h hl hx k r.es [] Jl rfl (by unfold Jl;omega)).2 fun a ha=>by simpa using Te.1 hf a ha
theorem VY {x:LL} (h:ZC rows (r.frag++F)) (hl:r.es.length≤100) (hx:Zd x = .oref (r.jr+1) 0) {pre post:List PE} {e:PE} (hs:r.es=pre++e::post) (hp:∀ a∈pre,a.p.id≠e.p.id):g60 x e.p.id rows=Xa (rn r pre.length,rows):=by
 rw [ZrO];have:=(Zf6 h hl hx e.p.id r.es [] Jl rfl (by unfold Jl;omega)).1 pre e post hs rfl hp;simpa using this
theorem J3 {es:List PE} {k:Int} {e:PE} (h:es.find? (fun e=>decide (e.p.id=k))=Xa e):∃ pre post,es=pre++e::post∧e.p.id=k∧∀ a∈pre,a.p.id≠e.p.id:=by
 obtain ⟨h1,pre,post,h2,h3⟩:=Tp.1 h;have h1':e.p.id=k:=by simpa using h1
 exact ⟨pre,post,h2,h1',fun a ha=>by have:=h3 a ha;rw [h1'];simpa using this⟩
theorem VF {x:LL} (h:ZC rows (r.frag++F)) (hl:r.es.length≤100) (hx:Zd x = .oref (r.jr+1) 0) {k:Int} (hf:Yn r.es k=Xc):g55 x k rows=Xa ([[.oref 0 0]],rows):=by
 unfold Yn at hf;rw [Zsk]
 cases hq:r.es.find? (fun e=>decide (e.p.id=k)) with
 | none =>
  rw [Zli h hl hx hq,Xi];dsimp only;rw [Zb (ne1 Ks),V2];rfl
 | some e =>
  obtain ⟨pre,post,hs,rfl,hp⟩:=J3 hq;rw [hq] at hf;dsimp only at hf
  have hen:e.p.ended=Xb:=by
   cases he:e.p.ended with
   | true => rfl
   | false => rw [he] at hf; simp at hf
  rw [VY h hl hx hs hp,Xi];dsimp only;rw [Zb (ne1 (Y8 r _)),ZN,if_pos (by decide),Zb (by simp),Zb (by simp),Y6 h hs (c:=B e.p.ended) rfl,JU,hen];rfl
theorem KY {x:LL} (h:ZC rows (r.frag++F)) (hl:r.es.length≤100) (hx:Zd x = .oref (r.jr+1) 0) {pre post:List PE} {e:PE} (hs:r.es=pre++e::post) (hp:∀ a∈pre,a.p.id≠e.p.id) (hen:e.p.ended=Xe):g55 x e.p.id rows=Xa (rn r pre.length,rows):=by
 rw [Zsk,VY h hl hx hs hp,Xi];dsimp only;rw [Zb (ne1 (Y8 r _)),ZN,if_pos (by decide),Zb (by simp),Zb (by simp),Y6 h hs (c:=B e.p.ended) rfl,JU,hen];rfl
theorem s54 (z:Int):g54 z=Xa (decide (0≤z∧z < 32)):=by
 rw [ZuB];by_cases h1:0≤z
 ·rw [if_pos (by simp [cop,h1])];by_cases h2:z < 32<;>simp [cop,h1,h2]
 ·rw [if_neg (by simp [cop];omega)];simp [h1]
theorem s32 {z:Int} (hz:0≤z∧z < 32) (h:ZC rows F):∃ r:RS,∃ rows',g32 z rows=Xa ([[.oref (r.jr+1) 0]],0,rows')∧ZC rows' (r.frag++F)∧r.es = [⟨0,Xc,WC z⟩]∧r.last=1:=by
 have h1:=h.push (V5 ⟨0,Xc,WC z⟩);have h2:=h1.push [.osl 57 (rows.length+1) 1,I 1];refine ⟨⟨rows.length+1,rows.length,[⟨0,Xc,WC z⟩],1⟩,rows++[V5 ⟨0,Xc,WC z⟩]++[[.osl 57 (rows.length+1) 1,I 1]],?_,?_,rfl,rfl⟩
 ·rw [ZvB,s54,Xi,decide_eq_true hz,if_neg (by decide)];have hl:(rows++[V5 ⟨0,Xc,WC z⟩]).length=rows.length+1:=by simp
  have hw:Zc .pnew (rows++[V5 ⟨0,Xc,WC z⟩]) 0 E0 [] = [[.oref (rows.length+1+1) 0]]:=by
   show [[AV.oref ((rows++[V5 ⟨0,Xc,WC z⟩]).length+1) 0]]=_;rw [hl]
  show Xa (Zc .pnew (rows++[V5 ⟨0,Xc,WC z⟩]) 0 E0 [],_)=_;rw [hw];rfl
 ·have hl:(rows++[V5 ⟨0,Xc,WC z⟩]).length=rows.length+1:=by simp
  rw [hl] at h2
  have e1:(⟨rows.length+1,rows.length,[⟨0,Xc,WC z⟩],1⟩:RS).frag++F=(rows.length+1,[.osl 57 (rows.length+1) 1,I 1])::(rows.length,V5 ⟨0,Xc,WC z⟩)::F:=by
   simp [RS.frag,RS.head,RS.arr]
  rw [e1];exact h2
end
section
open Go Go.AM Go.Proofs.Ytpjnmgjphfnmmaa
set_option maxRecDepth 100000
variable {rows:LL} {F:JZ} {r:RS}
theorem ZuT {x:LL} (h:ZC rows (r.frag++F)) (hl:r.es.length≤64) (hx:Zd x = .oref (r.jr+1) 0) {parent core:Int} {name:ByteArray} {nm:Bool} (hn:g56 name=Xa nm) (hc:YR r.es parent core nm≠0) :
  g34 x parent name core rows=Xa (0,YR r.es parent core nm,rows):=by
 rw [Zr1];unfold YR at hc ⊢
 cases ho:Yn r.es parent with
 | none =>
  rw [VF h (by omega) hx ho,Xi];dsimp only;rw [Zb (ne1 Ks),V2,if_pos (by decide)]
 | some e =>
  obtain ⟨hf,hen⟩:=Je ho;obtain ⟨pre,post,hs,rfl,hp⟩:=J3 hf;rw [ho] at hc;dsimp only at hc ⊢;rw [KY h (by omega) hx hs hp hen,Xi];dsimp only;rw [Zb (ne1 (Y8 r _)),ZN,if_neg (by decide),hn,Xi]
  cases nm with
  | false => rfl
  | true =>
   simp only [if_true] at hc ⊢;rw [if_neg (by decide),s54,Xi];by_cases hr:0≤core∧core < 32
   ·rw [if_pos hr] at hc ⊢;rw [decide_eq_true hr,if_neg (by decide),Zb (ne1 (ZE hx)),Zb (ne1 (ZE hx)),KI h hx,Zp rfl,Zb (ne1 (Zau _ _)),YL];by_cases hl:r.es.length=64
    ·rw [if_pos hl] at hc ⊢;rw [if_pos (by simp [cop,hl])]
    ·rw [if_neg hl] at hc;exact absurd rfl hc
   ·rw [if_neg hr];rw [decide_eq_false hr];rfl
theorem ZvA (h:ZC rows (r.frag++F)) (hne:r.es≠[]):Zc (.vchk 57 7) rows 0 [[.osl 57 (r.ja+1) r.es.length]] [] = [[]]:=by
 have hc:ZU r.arr=Xb:=ZaB hne;have hrl:r.arr.length=r.es.length*7:=KM r.es;simp only [Zc,Zd,ZP,Zex,ZZ (Zn5 h),hc,decide_true,Wc];rw [decide_eq_true (by omega)];rfl
theorem ZxI {α:Type} (a b c:α) (l:List α):(a::b::c::l).Perm (c::a::b::l):=UP (l₁:=[a,b])
theorem s34 {x:LL} (h:ZC rows (r.frag++F)) (hne:r.es≠[]) (hl:r.es.length≤64) (hx:Zd x = .oref (r.jr+1) 0) {parent core:Int} {name:ByteArray} {nm:Bool} (hn:g56 name=Xa nm) (hc:YR r.es parent core nm=0) (hlast : -1000≤r.last∧r.last < 1048576) :
  ∃ rows' ja' G,g34 x parent name core rows=Xa (r.last+1,0,rows')∧ZC rows' (({ r with ja:=ja',es:=r.es++[⟨0,Xc,⟨r.last+1,parent,name,[core],Xe,0,Xe⟩⟩],last:=r.last+1 } : RS).frag++(G++F)):=by
 rw [Zr1];unfold YR at hc
 cases ho:Yn r.es parent with
 | none => rw [ho] at hc; exact absurd hc (by show ¬ ((17 : Int) = 0); decide)
 | some e =>
  obtain ⟨hf,hen⟩:=Je ho;obtain ⟨pre,post,hs,rfl,hp⟩:=J3 hf;rw [ho] at hc;dsimp only at hc
  cases nm with
  | false => rw [if_neg (by decide)] at hc; exact absurd hc (by decide)
  | true =>
  rw [if_pos rfl] at hc;by_cases hr:0≤core∧core < 32
  ·rw [if_pos hr] at hc;by_cases hl64:r.es.length=64
   ·rw [if_pos hl64] at hc;exact absurd hc (by decide)
   ·rw [KY h (by omega) hx hs hp hen,Xi];dsimp only
    rw [Zb (ne1 (Y8 r _)),ZN,if_neg (by decide),hn,Xi,if_neg (by decide),s54,Xi,decide_eq_true hr,if_neg (by decide),Zb (ne1 (ZE hx)),Zb (ne1 (ZE hx)),KI h hx,Zp rfl,Zb (ne1 (Zau _ _)),YL,if_neg (by simp [cop];omega),
     Zb (ne1 (ZE hx)),Zb (ne1 (ZE hx)),Zof h hx,ZL,Zb (ne1 (ZE hx)),Zb (ne1 (ZE hx)),Zb (by simp),Zb (ne1 (ZE hx)),Zb (ne1 (ZE hx))]
    have hadd:iop .add .i64 r.last 1=r.last+1:=Zoa (by omega) (by omega);rw [hadd]
    have hs1:Zc .set rows 0 (Zc (.padd 1) x 0 E0 []) [AV.val (.int .i64 (r.last+1))]=rows.set r.jr [.osl 57 (r.ja+1) r.es.length,I (r.last+1)]:=by
     rw [YS hx];rw [Zas rfl (ZpU h) (by simp [RS.head])];rfl
    rw [hs1];have h1:ZC (rows.set r.jr [.osl 57 (r.ja+1) r.es.length,I (r.last+1)]) (({ r with last:=r.last+1 } : RS).frag++F):=ZC.set h [.osl 57 (r.ja+1) r.es.length,I (r.last+1)];generalize rows.set r.jr [.osl 57 (r.ja+1) r.es.length,I (r.last+1)]=r1 at h1 ⊢;have hh0:=KI (r:={ r with last:=r.last+1 }) h1 hx;have hh1:=Zof (r:={ r with last:=r.last+1 }) h1 hx;dsimp only at hh0 hh1;rw [hh0,Zp rfl,Zb (ne1 (ZE hx)),Zb (ne1 (ZE hx)),hh1,ZL,Zb (by simp),Zb (ne1 (ZvA (r:={ r with last:=r.last+1 }) h1 hne))];have hpl:=YL r.ja r.es.length;rw [Zb (by unfold Jp ZF;simp only [Xu,XA,XW];omega),Zb (ne1 (ZE hx)),Zb (ne1 (ZE hx))];have hrl:r.arr.length=r.es.length*7:=KM r.es
    have happ:∀ row:List AV,Zc (.app 7) r1 0 [[.osl 57 (r.ja+1) r.es.length]] [AV.slice Xe 7 (E0++[row])]=r1.set r.ja []++[r.arr++row]:=fun row=>by
     have hra:=Zn5 (r:={ r with last:=r.last+1 }) h1;have hra':r1[r.ja]? = Xa r.arr:=hra;simp only [Zc,Zd,ZP,Zhp,Zsn,ZZ hra'];rw [Uo (by omega)];simp
    have hpap:∀ row:List AV,Zc (.papp 57) r1 0 [[.osl 57 (r.ja+1) r.es.length]] [AV.slice Xe 7 (E0++[row])] = [[.osl 57 (r1.length+1) (r.es.length+1)]]:=fun row=>by
     simp only [Zc,Zd,ZP,pO,Zsn];rfl
    rw [happ,hpap];have hcn:Zd [[AV.osl 57 (r1.length+1) (r.es.length+1)]] = .osl 57 (r1.length+1) (r.es.length+1):=rfl;rw [hcn];have hp1:=((h1.perm (List.Perm.swap _ _ _)).set []).push (r.arr++V5 ⟨0,Xc,⟨r.last+1,e.p.id,name,[core],Xe,0,Xe⟩⟩);have hlen:(r1.set r.ja []).length=r1.length:=by simp
    have hp2:=hp1.perm (ZxI _ _ _ _);have hrow:r1.set r.ja []++[r.arr++[AV.val (.int .i64 (r.last+1)),AV.val (.int .i64 e.p.id),AV.val (.string name),AV.slice Xe 1 (E0++[[AV.val (.int .i64 core)]]),AV.val (.bool Xe),AV.val (.int .i64 0),AV.val (.bool Xe)]]=r1.set r.ja []++[r.arr++V5 ⟨0,Xc,⟨r.last+1,e.p.id,name,[core],Xe,0,Xe⟩⟩]:=rfl;rw [hrow];generalize r1.set r.ja []++[r.arr++V5 ⟨0,Xc,⟨r.last+1,e.p.id,name,[core],Xe,0,Xe⟩⟩]=r3 at hp2 ⊢;have hrj:r3[r.jr]? = Xa [.osl 57 (r.ja+1) r.es.length,I (r.last+1)]:=hp2.get (.head _)
    have hst:Zc .set r3 0 (Zc (.padd 0) x 0 E0 []) [AV.osl 57 (r1.length+1) (r.es.length+1)]=r3.set r.jr [.osl 57 (r1.length+1) (r.es.length+1),I (r.last+1)]:=by
     rw [YS hx,Zas rfl hrj (by simp)];rfl
    have hg0:Zc (.get 1) r3 0 (Zc (.padd 0) x 0 E0 []) [] = [[.osl 57 (r.ja+1) r.es.length]]:=by
     rw [YS hx];exact JH rfl hrj rfl rfl
    have hp3:=hp2.set [.osl 57 (r1.length+1) (r.es.length+1),I (r.last+1)];have hrj3:(r3.set r.jr [.osl 57 (r1.length+1) (r.es.length+1),I (r.last+1)])[r.jr]? = Xa [.osl 57 (r1.length+1) (r.es.length+1),I (r.last+1)]:=hp3.get (.head _)
    have hg1:Zc (.get 1) (r3.set r.jr [.osl 57 (r1.length+1) (r.es.length+1),I (r.last+1)]) 0 (Zc (.padd 1) x 0 E0 []) [] = [[I (r.last+1)]]:=by
     rw [YS hx];exact JH rfl hrj3 rfl rfl
    rw [Zb (by rw [hg0];simp),Zb (ne1 (ZE hx)),Zb (ne1 (ZE hx)),hst,hg1,ZL];refine ⟨_,r1.length,[(r.ja,[])],rfl,?_⟩
    have e1:(({ r with ja:=r1.length,es:=r.es++[⟨0,Xc,⟨r.last+1,e.p.id,name,[core],Xe,0,Xe⟩⟩],last:=r.last+1 } : RS).frag++([(r.ja,[])]++F))=(r.jr,[.osl 57 (r1.length+1) (r.es.length+1),I (r.last+1)])::(r1.length,r.arr++V5 ⟨0,Xc,⟨r.last+1,e.p.id,name,[core],Xe,0,Xe⟩⟩)::(r.ja,[])::F:=by
     simp [RS.frag,RS.head,RS.arr]
    rw [e1];rw [hlen] at hp3;exact hp3
  ·rw [if_neg hr] at hc;exact absurd hc (by decide)
theorem WH {γ:Type} (l:LL) (k:LL→Option γ):Zk [[.slice Xe 1 l]] 0 [.slice 1] k=k l:=by
 refine YM (l:=[[.slice Xe 1 l]]) (sh:=[.slice 1]) (cs:=[.slice Xe 1 l]) (r:=(l:LL)) k (by decide:(0:Int)≤0) rfl ?_;rfl
def ZnV (core:Int) (e:PE):PE:={ e with p:={ e.p with cores:=e.p.cores++[core] } }
theorem ZlD {e:PE} {pre post:List PE} (h:ZC rows (r.frag++F)) (hs:r.es=pre++e::post) (core:Int) (hl:e.p.cores.length≤1000):∀ (ks ps:List Int) (q:Nat),e.p.cores=ps++ks→ks.length < q→core∉ps→
  ZqG q core (rn r pre.length) (ps.length:Int) rows=if core∈ks then Xa (56,rows) else Xa (0,Zc .set rows 0 (Zc (.padd 3) (rn r pre.length) 0 E0 []) [.slice Xe 1 (ints (e.p.cores++[core]))])
 | [], ps, q, hc, hq, hn => by
  obtain ⟨q',rfl⟩:∃ q',q=q'+1:=⟨q-1,by simp at hq;omega⟩;rw [XN] at hc;have hlen:((ints e.p.cores).length:Int)=(e.p.cores.length:Int):=by simp
  have hln:(ints e.p.cores).length=e.p.cores.length:=by simp
  rw [ZlQ,Zb (ne1 (ZN r _)),Zb (ne1 (ZN r _)),Y6 h hs (c:=.slice Xe 1 (ints e.p.cores)) rfl,WH,hlen,← hc,if_neg (by simp [cop]),Zb (ne1 (ZN r _)),Zb (ne1 (ZN r _)),WH,Zb (by unfold Jp ZF;rw [hln];simp;omega),Zb (by unfold Jp ZF;rw [hln];simp;omega),Zb (ne1 (ZN r _)),Zb (ne1 (ZN r _)),Zb (by simp),if_neg (by simp)];have:ints e.p.cores++(E0++[[AV.val (.int .i64 core)]])=ints (e.p.cores++[core]):=by simp [ints]
  rw [this]
 | z :: ks, ps, q, hc, hq, hn => by
  obtain ⟨q',rfl⟩:∃ q',q=q'+1:=⟨q-1,by simp at hq;omega⟩;have hz:e.p.cores[ps.length]? = Xa z:=by rw [hc];simp
  have hi:=(Xk.1 hz).1;have hlen:((ints e.p.cores).length:Int)=(e.p.cores.length:Int):=by simp
  have hl1:((ps++[z]).length:Int)=((ps.length+1:Nat):Int):=by simp
  rw [ZlQ,Zb (ne1 (ZN r _)),Zb (ne1 (ZN r _)),Y6 h hs (c:=.slice Xe 1 (ints e.p.cores)) rfl,WH,hlen,if_pos (by simp [cop];omega),Zb (ne1 (ZN r _)),Zb (ne1 (ZN r _)),WH,Z1 hz,ZaQ (by omega)];by_cases hk:z=core
  ·rw [if_pos (by simp [cop,hk]),if_pos (by simp [hk])]
  ·rw [if_neg (by simp [cop,hk])];have ih:=ZlD h hs core hl ks (ps++[z]) q' (by rw [hc];simp) (by simp at hq;omega) (by simp [hn,Ne.symm hk]);rw [hl1] at ih;rw [ih];simp [Ne.symm hk]
theorem s36 {x:LL} (h:ZC rows (r.frag++F)) (hsrt:r.es.Pairwise fun a b=>a.p.id < b.p.id) (hl:r.es.length≤64) (hx:Zd x = .oref (r.jr+1) 0) {k core:Int} (hcl:∀ e∈r.es,e.p.cores.length≤100) :
  ∃ rows' es',g36 x k core rows=Xa (VV r.es k core,rows')∧ZC rows' (({ r with es:=es' } : RS).frag++F)∧(VV r.es k core=0→es'=Yp k (ZnV core) r.es)∧(VV r.es k core≠0→es'=r.es):=by
 rw [Zuo]
 cases ho:Yn r.es k with
 | none =>
  have hsp:VV r.es k core=17:=by unfold VV;rw [ho]
  rw [hsp,VF h (by omega) hx ho,Xi];dsimp only;rw [Zb (ne1 Ks),V2,if_pos (by decide)];exact ⟨rows,r.es,rfl,h,fun hh=>(by cases hh),fun _=>rfl⟩
 | some e =>
  obtain ⟨hf,hen⟩:=Je ho;obtain ⟨pre,post,hs,rfl,hp⟩:=J3 hf;have hce:=hcl e (by rw [hs];simp);have hsp:VV r.es e.p.id core=if 0≤core∧core < 32 then (if core∈e.p.cores then 56 else 0) else 1:=by unfold VV;rw [ho]
  rw [hsp,KY h (by omega) hx hs hp hen,Xi];dsimp only;rw [Zb (ne1 (Y8 r _)),ZN,if_neg (by decide),s54,Xi];by_cases hr:0≤core∧core < 32
  ·simp only [if_pos hr];rw [decide_eq_true hr,if_neg (by decide)];have:=ZlD h hs core (by omega) e.p.cores [] Jl rfl (by unfold Jl;omega) (by simp);have hz:((([] : List Int).length:Nat):Int)=0:=rfl;rw [hz] at this;rw [this];by_cases hi:core∈e.p.cores
   ·simp only [if_pos hi];exact ⟨rows,r.es,rfl,h,fun hh=>(by cases hh),fun _=>rfl⟩
   ·simp only [if_neg hi];have hset:=ZeI (r:=r) (e':=ZnV core e) h hs (o:=3) (c:=.slice Xe 1 (ints (e.p.cores++[core]))) (by decide) rfl;refine ⟨_,_,rfl,hset,fun _=>?_,fun hh=>absurd rfl hh⟩;rw [hs] at hsrt;rw [hs,Vt (f:=ZnV core) hsrt rfl]
  ·simp only [if_neg hr];rw [decide_eq_false hr];exact ⟨rows,r.es,rfl,h,fun hh=>(by cases hh),fun _=>rfl⟩
end
section
open Go Go.AM Go.Proofs.Ytpjnmgjphfnmmaa
set_option maxRecDepth 100000
variable {rows:LL} {F:JZ} {r:RS} {es:List PE} {last:Int}
theorem ZjI (h:LOk es last) {f:PE→PE} (hid:∀ e,(f e).p.id=e.p.id) (hp:∀ e∈es,0≤(f e).p.parent∧(f e).p.parent < e.p.id):LOk (es.map f) last:=by
 refine ⟨?_,fun e he=>?_,fun e he=>?_,by rw [Xr];exact h.len,h.lst,?_⟩
 ·rw [Uy];exact h.srt.imp fun hab=>by rw [hid,hid];exact hab
 ·obtain ⟨a,ha,rfl⟩:=Xj.1 he;rw [hid];exact h.rng a ha
 ·obtain ⟨a,ha,rfl⟩:=Xj.1 he;rw [hid];exact hp a ha
 ·obtain ⟨a,ha,h1⟩:=h.one;exact ⟨f a,Xj.2 ⟨a,ha,rfl⟩,by rw [hid];exact h1⟩
theorem Zdk (h:LOk es last) {k:Int} {f:Pr→Pr} (hid:∀ q,(f q).id=q.id) (hp:∀ e∈es,e.p.id=k→0≤(f e.p).parent∧(f e.p).parent < e.p.id):LOk (ZcO k f es) last:=by
 refine ZjI h (fun e=>?_) fun e he=>?_
 ·split
  ·exact hid e.p
  ·rfl
 ·split
  ·exact hp e he ‹_›
  ·exact h.par e he
theorem ZcX (h:LOk es last) {k:Int} {f:PE→PE} (hid:∀ q,(f q).p.id=q.p.id) (hp:∀ e,(f e).p.parent=e.p.parent):LOk (Yp k f es) last:=by
 refine ZjI h (fun e=>?_) fun e he=>?_
 ·split
  ·exact hid e
  ·rfl
 ·split
  ·rw [hp];exact h.par e he
  ·exact h.par e he
theorem Zjs (h:LOk es last) {k:Int} (hk:k≠1):LOk (Wq k es) last:=by
 refine ⟨h.srt.filter _,fun e he=>h.rng e (We.1 he).1,fun e he=>h.par e (We.1 he).1,XI (Un _ _) h.len,h.lst,?_⟩;obtain ⟨a,ha,h1⟩:=h.one;exact ⟨a,We.2 ⟨ha,by simp [h1,Ne.symm hk]⟩,h1⟩
theorem ZlL (h:LOk es last) {par:Int} {c:Pr} (hc:c.id≠1):LOk (Ym es par c).1 last:=by
 unfold Ym;split
 ·split
  ·exact Zjs (Zdk (f:=fun q=>{ q with waiting:=Xe }) h (fun _=>rfl) fun e he _=>h.par e he) hc
  ·exact h
 ·exact h
theorem Zls (h:LOk es last) {pid k:Int} (hp:1≤pid):LOk (ZQ pid es k).1 last:=by
 unfold ZQ;split
 ·rename_i c hc;have hcm:=Ue hc;have hck:c.p.id=k:=by have:=Wt hc;simpa using this
  split
  ·rename_i hpar;have hpc:=h.par c hcm;have hu:LOk (ZcO k (fun q=>{ q with parent:=1 }) es) last:=Zdk h (fun _=>rfl) fun e he hek=>⟨by show (0:Int)≤1;decide,by show (1:Int) < e.p.id;omega⟩;split
   ·exact ZlL hu (by show c.p.id≠1;omega)
   ·exact hu
  ·exact h
 ·exact h
theorem ZgD {pid:Int} (hp:1≤pid):∀ (ks:List Int) (es:List PE),LOk es last→LOk (ZV pid es ks).1 last
 | [], _, h => h
 | _ :: ks, _, h => ZgD hp ks _ (Zls h hp)
theorem Ve (h:LOk es last) {pid st:Int} : LOk (Kf es pid st).1 last:=by
 unfold Kf;split
 ·rename_i e he;have hem:=Ue he;have hid:e.p.id=pid:=by have:=Wt he;simpa using this
  have hr:=h.rng e hem;have hu:LOk (Yp pid (Yk st) es) last:=ZcX h (fun _=>rfl) fun _=>rfl;split
  ·exact hu
  ·exact ZlL (ZgD (by omega) _ _ hu) (by show e.p.id≠1;omega)
 ·exact h
theorem VB {st:Int} : ∀ (zs:List Int) (es:List PE),LOk es last→LOk (Zi st es zs).1 last
 | [], _, h => h
 | z :: zs, es, h => by
  unfold Zi;split
  ·exact VB zs _ (Ve h)
  ·exact VB zs _ h
theorem Zsq (h:LOk es last) {k:Int} (hk:k≠1):Wq k es≠[]:=by
 obtain ⟨a,ha,_⟩:=(Zjs h hk).one;intro hh;rw [hh] at ha
 cases ha
theorem Zng {γ:Type} {e:PE} (k:Int×Int×ByteArray×LL×Bool×Int×Bool→Option γ):Zk [V5 e] 0 [.int .i64,.int .i64,.str,.slice 1,.bool,.int .i64,.bool] k=k (e.p.id,e.p.parent,e.p.name,ints e.p.cores,e.p.ended,e.p.status,e.p.waiting):=by
 refine YM (l:=[V5 e]) (sh:=[.int .i64,.int .i64,.str,.slice 1,.bool,.int .i64,.bool]) (cs:=V5 e) (r:=(e.p.id,e.p.parent,e.p.name,ints e.p.cores,e.p.ended,e.p.status,e.p.waiting)) k (by decide) rfl ?_;rfl
theorem Zkv {x:LL} (h:ZC rows (r.frag++F)) (hl:r.es.length≤64) (hx:Zd x = .oref (r.jr+1) 0) (k:Int):∀ (ks pre:List PE) (q:Nat),r.es=pre++ks→ks.length < q→Wq k r.es≠[]→
  ZpJ q x k ((Wq k pre).map V5) (pre.length:Int) rows=Xa (Zc .set (Zc .push rows 0 ((Wq k r.es).map V5) []) 0 (Zc (.padd 0) x 0 E0 []) [.osl 57 (rows.length+1) (Wq k r.es).length])
 | [], pre, q, hs, hq, hne => by
  obtain ⟨q',rfl⟩:∃ q',q=q'+1:=⟨q-1,by simp at hq;omega⟩;rw [XN] at hs;have hn:Zd (Zc (.parr 57) rows (((Wq k r.es).map V5).length:Int) [] []) = .osl 57 (rows.length+1) (Wq k r.es).length:=by simp [Zc,Zd,ZP]
  rw [ZkE,Zb (ne1 (ZE hx)),Zb (ne1 (ZE hx)),KI h hx,Zp rfl,Zb (ne1 (Zau _ _)),YL,← hs,if_neg (by simp [cop]),Zb (ne1 (ZE hx)),Zb (ne1 (ZE hx)),Zb (by intro hh;exact hne (List.map_eq_nil_iff.1 hh)),Zb (by simp),hn]
 | e :: ks, pre, q, hs, hq, hne => by
  obtain ⟨q',rfl⟩:∃ q',q=q'+1:=⟨q-1,by simp at hq;omega⟩;have hel:r.es.length=pre.length+ks.length+1:=by rw [hs];simp;omega
  have hl1:((pre++[e]).length:Int)=((pre.length+1:Nat):Int):=by simp
  have ih:=Zkv h hl hx k ks (pre++[e]) q' (by rw [hs];simp) (by simp at hq;omega) hne;rw [hl1] at ih;have hpl:(Wq k pre).length≤pre.length:=Un _ _;rw [ZkE,Zb (ne1 (ZE hx)),Zb (ne1 (ZE hx)),KI h hx,Zp rfl,Zb (ne1 (Zau _ _)),YL,if_pos (by simp [cop];omega),Zb (ne1 (ZE hx)),Zb (ne1 (ZE hx)),Zp rfl,Zb (by omega),YL,Zb (by omega),Zio,Zb (ne1 (ZN r _)),Y6 h hs (c:=I e.p.id) rfl,ZL,ZaQ (by omega)];by_cases hk:e.p.id=k
  ·rw [if_neg (by simp [cop,hk])]
   have e1:Wq k (pre++[e])=Wq k pre:=by
    unfold Wq;rw [UO,X8 (by simp [hk])];simp
   rw [e1] at ih;exact ih
  ·rw [if_pos (by simp [cop,hk]),Zb (ne1 (ZE hx)),Zb (ne1 (ZE hx)),Zp rfl,Zb (by omega),YL,Zb (by omega),Zio,Zu9 h hs,Zng,Zb (by unfold Jp ZF;simp;omega)]
   have e1:Wq k (pre++[e])=Wq k pre++[e]:=by
    unfold Wq;rw [UO,Wd (by simp [hk])];simp
   rw [e1,XL] at ih;exact ih
theorem s61 {x:LL} (h:ZC rows (r.frag++F)) (hl:r.es.length≤64) (hx:Zd x = .oref (r.jr+1) 0) {k:Int} (hne:Wq k r.es≠[]) :
  ∃ rows' ja',g61 x k rows=Xa rows'∧ZC rows' (({ r with ja:=ja',es:=Wq k r.es } : RS).frag++([(r.ja,r.arr)]++F)):=by
 have hlp:=Zkv h hl hx k r.es [] Jl rfl (by unfold Jl;omega) hne;have hz:((([] : List PE).length:Nat):Int)=0:=rfl;have hz2:(Wq k []).map V5 = []:=rfl;rw [hz,hz2] at hlp;rw [Zvj,hlp];have hpush:Zc .push rows 0 ((Wq k r.es).map V5) []=rows++[((Wq k r.es).map V5).flatten]:=rfl;have hp1:=h.push ((Wq k r.es).map V5).flatten;have hp2:=hp1.perm (List.Perm.swap _ _ _);have hrj:(rows++[((Wq k r.es).map V5).flatten])[r.jr]? = Xa r.head:=hp2.get (.head _);rw [hpush,YS hx,Zas rfl hrj (by simp [RS.head])];refine ⟨_,rows.length,rfl,?_⟩;exact hp2.set (r.head.set (0+0) (.osl 57 (rows.length+1) (Wq k r.es).length))
theorem s71 {x:LL} (h:ZC rows (r.frag++F)) (ho:LOk r.es r.last) (hx:Zd x = .oref (r.jr+1) 0) {c:PE} (hc:r.es.find? (fun e=>decide (e.p.id=c.p.id))=Xa c) (hc1:c.p.id≠1) :
  ∃ rows' ja' G,g71 x c.p.id rows=Xa (ZX (Ym r.es c.p.parent c.p).2,rows')∧ZC rows' (({ r with ja:=ja',es:=(Ym r.es c.p.parent c.p).1 } : RS).frag++(G++F)):=by
 obtain ⟨pre,post,hs,_,hp⟩:=J3 hc;have hl:=ho.len;rw [Zvs,VY h (by omega) hx hs hp,Xi];dsimp only;rw [Zb (ne1 (Y8 r _)),ZN,if_neg (by decide),if_neg (by simp [cop,hc1]),Zb (by simp),Zb (by simp),Y6 h hs (c:=I c.p.parent) rfl,ZL,Zb (by simp),Zb (by simp),Y6 h hs (c:=I c.p.status) rfl,ZL,Zb (by simp),Zb (by simp),ZL];unfold Ym
 cases hpf:r.es.find? (fun e=>decide (e.p.id=c.p.parent)) with
 | none =>
  rw [Zli h (by omega) hx hpf,Xi];dsimp only;rw [Zb (ne1 Ks),V2,if_pos (by decide)];exact ⟨rows,r.ja,[],rfl,h⟩
 | some p =>
  obtain ⟨pre2,post2,hs2,hpk,hp2⟩:=J3 hpf;have h60:=VY h (by omega) hx hs2 hp2;rw [hpk] at h60;rw [h60,Xi];dsimp only;rw [Zb (ne1 (Y8 r _)),ZN,if_neg (by decide),Zb (by simp),Zb (by simp),Y6 h hs2 (c:=B p.p.waiting) rfl,JU]
  cases hw:p.p.waiting with
  | false =>
   rw [if_pos (by decide),if_neg (by decide)];exact ⟨rows,r.ja,[],rfl,h⟩
  | true =>
   rw [if_neg (by decide),if_pos rfl,Zb (by simp),Zb (by simp),Zb (by simp)];have hset:=ZeI (r:=r) (e':={ p with p:={ p.p with waiting:=Xe } }) h hs2 (o:=6) (c:=B Xe) (by decide) rfl;have hsrt:=ho.srt;rw [hs2] at hsrt;have hup:=Zbh (f:=fun q=>{ q with waiting:=Xe }) hsrt hpk;rw [← hs2] at hup;rw [← hup] at hset;have hu:LOk (ZcO c.p.parent (fun q=>{ q with waiting:=Xe }) r.es) r.last:=Zdk ho (fun _=>rfl) fun e he _=>ho.par e he;obtain ⟨rows2,ja2,q1,q2⟩:=s61 (x:=x) (k:=c.p.id) hset hu.len hx (Zsq hu hc1);rw [q1];exact ⟨rows2,ja2,_,rfl,q2⟩
theorem ZcP (a b:List PE) (id:Int):Jx (a++b) id=Jx a id++Jx b id:=by
 unfold Jx;rw [UO,XL]
theorem ZlB {x:LL} (h:ZC rows (r.frag++F)) (ho:LOk r.es r.last) (hx:Zd x = .oref (r.jr+1) 0) {id:Int} (hid:1≤id):∀ (ks pre:List PE) (q:Nat),r.es=pre++ks→ks.length < q→
  Zmx q x id (ints (Jx pre id)) (pre.length:Int) rows=Xa (ints (Jx r.es id),rows)
 | [], pre, q, hs, hq => by
  obtain ⟨q',rfl⟩:∃ q',q=q'+1:=⟨q-1,by simp at hq;omega⟩;rw [XN] at hs;rw [ZkU,Zb (ne1 (ZE hx)),Zb (ne1 (ZE hx)),KI h hx,Zp rfl,Zb (ne1 (Zau _ _)),YL,← hs,if_neg (by simp [cop])]
 | e :: ks, pre, q, hs, hq => by
  obtain ⟨q',rfl⟩:∃ q',q=q'+1:=⟨q-1,by simp at hq;omega⟩;have hl:=ho.len;have hel:r.es.length=pre.length+ks.length+1:=by rw [hs];simp;omega
  have hl1:((pre++[e]).length:Int)=((pre.length+1:Nat):Int):=by simp
  have ih:=ZlB h ho hx hid ks (pre++[e]) q' (by rw [hs];simp) (by simp at hq;omega);rw [hl1,ZcP,Kj] at ih
  have hkl:(Jx pre id).length≤pre.length:=by
   unfold Jx;rw [Xr];exact Un _ _
  rw [ZkU,Zb (ne1 (ZE hx)),Zb (ne1 (ZE hx)),KI h hx,Zp rfl,Zb (ne1 (Zau _ _)),YL,if_pos (by simp [cop];omega),Zb (ne1 (ZE hx)),Zb (ne1 (ZE hx)),Zp rfl,Zb (by omega),YL,Zb (by omega),Zio,Zb (ne1 (ZN r _)),Y6 h hs (c:=I e.p.parent) rfl,ZL,ZaQ (by omega)];by_cases hp:e.p.parent=id
  ·have hpe:=ho.par e (by rw [hs];simp);rw [if_pos hp] at ih;rw [if_pos (by simp [cop,hp]),Zb (ne1 (ZE hx)),Zb (ne1 (ZE hx)),Zp rfl,Zb (by omega),YL,Zb (by omega),Zio,Zb (ne1 (ZN r _)),Y6 h hs (c:=I e.p.id) rfl,ZL,if_pos (by simp [cop];omega),Zb (ne1 (ZE hx)),Zb (ne1 (ZE hx)),Zp rfl,Zb (by omega),YL,Zb (by omega),Zio,Zb (ne1 (ZN r _)),Y6 h hs (c:=I e.p.id) rfl,ZL,Zb (by unfold Jp ZF;simp;omega)];have e1:ints (Jx pre id)++(E0++[[AV.val (.int .i64 e.p.id)]])=ints (Jx pre id++e.p.id::Jx [] id):=by simp [ints,Jx]
   rw [e1];exact ih
  ·rw [if_neg hp] at ih;rw [if_neg (by simp [cop,hp])];have e1:Jx pre id++Jx [] id=Jx pre id:=by simp [Jx]
   rw [e1] at ih;exact ih
theorem s59 {x:LL} (h:ZC rows (r.frag++F)) (ho:LOk r.es r.last) (hx:Zd x = .oref (r.jr+1) 0) {id:Int} (hid:1≤id):g59 x id rows=Xa (ints (Jx r.es id),rows):=by
 rw [ZuO];exact ZlB h ho hx hid r.es [] Jl rfl (by have:=ho.len;unfold Jl;omega)
end
section
open Go Go.AM Go.Proofs.Ytpjnmgjphfnmmaa
set_option maxRecDepth 100000
variable {rows:LL} {F:JZ} {r:RS} {es:List PE} {last:Int}
def pz (pid:Int) (es:List PE) (z:Int):Bool:=match es.find? (fun e=>decide (e.p.id=z)) with | none=>Xe | some c=>decide (c.p.parent=pid)
theorem Zd7 {pid:Int} : ∀ (ks:List Int) (es:List PE),ks.Nodup→(∀ z∈ks,∃ c,es.find? (fun e=>decide (e.p.id=z))=Xa c)→ZV pid es ks=ZV pid es (ks.filter (pz pid es))
 | [], _, _, _ => rfl
 | z :: ks, es, hn, hin => by
  rw [Wa] at hn;obtain ⟨c,hc⟩:=hin z (by simp);by_cases hz:pz pid es z=Xb
  ·rw [Wd hz]
   have ih:=Zd7 (pid:=pid) ks (ZQ pid es z).1 hn.2 fun y hy=>by
    obtain ⟨c',hc'⟩:=hin y (by simp [hy]);obtain ⟨c1,t1,_⟩:=Vo (pid:=pid) (z:=z) (k:=y) (fun hh=>hn.1 (hh ▸ hy)) hc';exact ⟨c1,t1⟩
   have hcg:ks.filter (pz pid (ZQ pid es z).1)=ks.filter (pz pid es):=by
    refine List.filter_congr fun y hy=>?_;obtain ⟨c',hc'⟩:=hin y (by simp [hy]);obtain ⟨c1,t1,_,_,t4,_⟩:=Vo (pid:=pid) (z:=z) (k:=y) (fun hh=>hn.1 (hh ▸ hy)) hc';unfold pz;rw [t1,hc'];dsimp only;rw [t4]
   rw [hcg] at ih;simp only [ZV,ih]
  ·rw [X8 hz]
   have hst:ZQ pid es z=(es,[]):=by
    unfold pz at hz;rw [hc] at hz;unfold ZQ;rw [hc];dsimp only at hz ⊢;rw [if_neg (by simpa using hz)]
   have ih:=Zd7 (pid:=pid) ks es hn.2 fun y hy=>hin y (by simp [hy]);simp only [ZV,hst,XM];rw [ih]
theorem Zis (hs:es.Pairwise fun a b=>a.p.id < b.p.id):(es.map fun e=>e.p.id).Nodup:=by
 rw [U1,Uy];exact hs.imp fun hab hh=>by omega
theorem ZoU (hs:es.Pairwise fun a b=>a.p.id < b.p.id) {z:Int} (hz:z∈es.map fun e=>e.p.id):∃ c,es.find? (fun e=>decide (e.p.id=z))=Xa c:=by
 obtain ⟨e,he,rfl⟩:=Xj.1 hz;exact ⟨e,Ju hs he⟩
theorem ZkQ (hs:es.Pairwise fun a b=>a.p.id < b.p.id) (pid:Int):(es.map fun e=>e.p.id).filter (pz pid es)=Jx es pid:=by
 rw [List.filter_map];unfold Jx;congr 1;refine List.filter_congr fun e he=>?_;simp only [Ta,pz,Ju hs he]
theorem Znt (hs:es.Pairwise fun a b=>a.p.id < b.p.id) (pid:Int):ZV pid es (es.map fun e=>e.p.id)=ZV pid es (Jx es pid):=by
 rw [Zd7 _ _ (Zis hs) fun z hz=>ZoU hs hz,ZkQ hs]
theorem Zks {x:LL} {zs:List Int} (hzl:zs.length≤64) {pid:Int} (hp1:1≤pid):∀ (ks pre:List Int) (rows:LL) (F:JZ) (r:RS) (e:PE) (acc:LL) (q:Nat),zs=pre++ks→ks.length < q→ks.Nodup→pid∉ks→(∀ z∈ks,∃ c,r.es.find? (fun e=>decide (e.p.id=z))=Xa c∧c.p.parent=pid)→ZC rows (r.frag++F)→LOk r.es r.last→Zd x = .oref (r.jr+1) 0→
  r.es.find? (fun e=>decide (e.p.id=pid))=Xa e→acc.length+ks.length≤100000→
  ∃ rows' ja' G q' e',ZhK q x pid acc (ints zs) (pre.length:Int) rows=ZhK (q'+1) x pid (acc++ZX (ZV pid r.es ks).2) (ints zs) (zs.length:Int) rows'∧
   ZC rows' (({ r with ja:=ja',es:=(ZV pid r.es ks).1 } : RS).frag++(G++F))∧(ZV pid r.es ks).1.find? (fun e=>decide (e.p.id=pid))=Xa e'∧e'.p.id=e.p.id∧e'.p.parent=e.p.parent∧e'.p.status=e.p.status
 | [], pre, rows, F, r, e, acc, q, hz, hq, _, _, _, h, _, _, he, _ => by
  obtain ⟨q',rfl⟩:∃ q',q=q'+1:=⟨q-1,by simp at hq;omega⟩;have hl:zs.length=pre.length:=by rw [hz,XN]
  exact ⟨rows,r.ja,[],q',e,by rw [hl];simp [ZV,ZX],h,he,rfl,rfl,rfl⟩
 | z :: ks, pre, rows, F, r, e, acc, q, hz, hq, hn, hpn, hin, h, ho, hx, he, hacc => by
  obtain ⟨q',rfl⟩:∃ q',q=q'+1:=⟨q-1,by simp at hq;omega⟩;rw [Wa] at hn;obtain ⟨c,hc,hcp⟩:=hin z (by simp);obtain ⟨cpre,cpost,hs,rfl,hp⟩:=J3 hc;have hz1:zs[pre.length]? = Xa c.p.id:=by rw [hz];simp
  have hlt:=(Xk.1 hz1).1;have hl:=ho.len;have hlen:((ints zs).length:Int)=(zs.length:Int):=by simp
  have hl1:((pre++[c.p.id]).length:Int)=((pre.length+1:Nat):Int):=by simp
  have hcm:c∈r.es:=by rw [hs];simp
  have hcpar:=ho.par c hcm;obtain ⟨c1,hc1'⟩:∃ c1,c1=({ c with p:={ c.p with parent:=1 } } : PE):=⟨_,rfl⟩;have hset:=ZeI (r:=r) (e':=c1) h hs (o:=1) (c:=I 1) (by decide) (by rw [hc1'];rfl);have hsrt:=ho.srt
  have hup:ZcO c.p.id (fun q=>{ q with parent:=1 }) r.es=cpre++c1::cpost:=by
   rw [hs] at hsrt;rw [hs,Zbh (f:=fun q=>{ q with parent:=1 }) hsrt rfl,hc1']
  have hu:LOk (cpre++c1::cpost) r.last:=by
   rw [← hup];exact Zdk ho (fun _=>rfl) fun a ha hac=>⟨by show (0:Int)≤1;decide,by show (1:Int) < a.p.id;omega⟩
  have hpne:pid≠c.p.id:=fun hh=>hpn (by simp [hh])
  have hfe:∃ e1,(ZQ pid r.es c.p.id).1.find? (fun a=>decide (a.p.id=pid))=Xa e1∧e1.p.id=e.p.id∧e1.p.parent=e.p.parent∧e1.p.status=e.p.status:=by
   obtain ⟨e1,g1,_,g3,g4,g5⟩:=Vo (pid:=pid) hpne he;exact ⟨e1,g1,g3,g4,g5⟩
  obtain ⟨e1,g1,g3,g4,g5⟩:=hfe
  have hin':∀ y∈ks,∃ c',(ZQ pid r.es c.p.id).1.find? (fun e=>decide (e.p.id=y))=Xa c'∧c'.p.parent=pid:=fun y hy=>by
   obtain ⟨c',hc',hcp'⟩:=hin y (by simp [hy]);obtain ⟨c2,t1,_,_,t4,_⟩:=Vo (pid:=pid) (z:=c.p.id) (k:=y) (fun hh=>hn.1 (hh ▸ hy)) hc';exact ⟨c2,t1,t4.trans hcp'⟩
  -- one turn
  have key:∃ rows1 ja1 G1,ZhK (q'+1) x pid acc (ints zs) (pre.length:Int) rows=ZhK q' x pid (acc++ZX (ZQ pid r.es c.p.id).2) (ints zs) ((pre.length+1:Nat):Int) rows1∧ZC rows1 (({ r with ja:=ja1,es:=(ZQ pid r.es c.p.id).1 } : RS).frag++(G1++F)):=by
   rw [ZlC,hlen,if_pos (by simp [cop];omega),Z1 hz1,VY h (by omega) hx hs hp,Xi];dsimp only;rw [Zb (ne1 (ZN r _)),Zb (ne1 (ZN r _)),Zb (by rw [Y6 h hs (c:=I c.p.parent) rfl];simp),Zb (ne1 (ZN r _)),Zb (ne1 (ZN r _))];have hge:=Y6 (r:={ r with es:=cpre++c1::cpost }) hset (pre:=cpre) (post:=cpost) (e:=c1) rfl (o:=4) (c:=B c1.p.ended) rfl;have hrn:rn ({ r with es:=cpre++c1::cpost } : RS) cpre.length=rn r cpre.length:=rfl;rw [hrn] at hge;rw [hge,JU,ZaQ (by omega)];have hcen:c1.p.ended=c.p.ended:=by rw [hc1']
   rw [hcen]
   have hstep:ZQ pid r.es c.p.id=if c.p.ended=Xb then Ym (cpre++c1::cpost) 1 c1.p else (cpre++c1::cpost,[]):=by
    unfold ZQ;rw [hc];dsimp only;rw [if_pos hcp,hup,show c1.p = { c.p with parent:=1 } from by rw [hc1']]
   rw [hstep]
   cases hen:c.p.ended with
   | true =>
    rw [if_pos rfl,if_pos rfl,Z1 hz1];have hfc1:({ r with es:=cpre++c1::cpost } : RS).es.find? (fun e=>decide (e.p.id=c1.p.id))=Xa c1:=Ju hu.srt (by simp);have hci:c1.p.id=c.p.id:=by rw [hc1']
    have hcp1:c1.p.parent=1:=by rw [hc1']
    obtain ⟨rows2,ja2,G2,t1,t2⟩:=s71 (r:={ r with es:=cpre++c1::cpost }) hset hu hx hfc1 (by omega);rw [hcp1] at t1 t2;rw [hci] at t1;dsimp only at t1 t2;rw [t1,Xi,Zb (Zf8 (by omega) (by simp only [ZX,Xr];exact W6 _ _ _))];exact ⟨rows2,ja2,G2,rfl,t2⟩
   | false =>
    rw [if_neg (by decide),if_neg (by decide)];exact ⟨_,r.ja,[],by simp [ZX],hset⟩
  obtain ⟨rows1,ja1,G1,k1,k2⟩:=key;have hst:LOk (ZQ pid r.es c.p.id).1 r.last:=Zls ho hp1;obtain ⟨rows2,ja2,G2,q2,e2,r1,r2,r4,r5,r6,r7⟩:=Zks hzl hp1 ks (pre++[c.p.id]) rows1 (G1++F) { r with ja:=ja1,es:=(ZQ pid r.es c.p.id).1 } e1 (acc++ZX (ZQ pid r.es c.p.id).2) q' (by rw [hz];simp) (by simp at hq;omega) hn.2 (fun hh=>hpn (by simp [hh])) hin' k2 hst hx g1 (by have:=Zgm pid r.es c.p.id;simp only [Xu,ZX,Xr,XA] at hacc ⊢; omega);refine ⟨rows2,ja2,G2++G1,q2,e2,?_,by rw [Xo];exact r2,r4,r5.trans g3,r6.trans g4,r7.trans g5⟩;rw [k1];rw [hl1] at r1;rw [r1];simp only [ZV,ZX,XL,Xo]
theorem Zsm {x:LL} (h:ZC rows (r.frag++F)) (hl:r.es.length≤64) (hx:Zd x = .oref (r.jr+1) 0) {k st:Int} (hf:Yn r.es k=Xc):g57 x k st rows=Xa ([],rows):=by
 rw [Zsu,VF h (by omega) hx hf,Xi];dsimp only;rw [Zb (ne1 Ks),V2,if_pos (by decide)]
theorem s57 {x:LL} (h:ZC rows (r.frag++F)) (ho:LOk r.es r.last) (hx:Zd x = .oref (r.jr+1) 0) {e:PE} {k:Int} (hf:Yn r.es k=Xa e) (st:Int) :
  ∃ rows' ja' G,g57 x k st rows=Xa (ZX (Kf r.es k st).2,rows')∧ZC rows' (({ r with ja:=ja',es:=(Kf r.es k st).1 } : RS).frag++(G++F)):=by
 obtain ⟨hfe,hen⟩:=Je hf;obtain ⟨pre,post,hs,rfl,hp⟩:=J3 hfe;have hl:=ho.len;rw [Zsu,KY h (by omega) hx hs hp hen,Xi];dsimp only;obtain ⟨e1,he1⟩:∃ e1,e1=({ e with p:={ e.p with ended:=Xb } } : PE):=⟨_,rfl⟩;obtain ⟨e2,he2⟩:∃ e2,e2=({ e with p:={ e.p with ended:=Xb,cores:=[] } } : PE):=⟨_,rfl⟩;obtain ⟨e3,he3⟩:∃ e3,e3=({ e with p:={ e.p with ended:=Xb,cores:=[],waiting:=Xe } } : PE):=⟨_,rfl⟩;have h1:=ZeI (r:=r) (e':=e1) h hs (o:=4) (c:=B Xb) (by decide) (by rw [he1];rfl);have h2:=ZeI (r:={ r with es:=pre++e1::post }) (e':=e2) h1 (pre:=pre) (post:=post) (e:=e1) rfl (o:=3) (c:=.slice Xe 1 []) (by decide) (by rw [he1,he2];rfl);have h3:=ZeI (r:={ r with es:=pre++e2::post }) (e':=e3) h2 (pre:=pre) (post:=post) (e:=e2) rfl (o:=6) (c:=B Xe) (by decide) (by rw [he2,he3];rfl);have h4:=ZeI (r:={ r with es:=pre++e3::post }) (e':=Yk st e) h3 (pre:=pre) (post:=post) (e:=e3) rfl (o:=5) (c:=I st) (by decide) (by rw [he3];rfl);have g1:=Y6 (r:={ r with es:=pre++e1::post }) h1 (pre:=pre) (post:=post) (e:=e1) rfl (o:=3) (c:=.slice Xe 1 (ints e1.p.cores)) rfl;have g2:=Y6 (r:={ r with es:=pre++e2::post }) h2 (pre:=pre) (post:=post) (e:=e2) rfl (o:=6) (c:=B e2.p.waiting) rfl;have g3:=Y6 (r:={ r with es:=pre++e3::post }) h3 (pre:=pre) (post:=post) (e:=e3) rfl (o:=5) (c:=I e3.p.status) rfl;have hn1:rn ({ r with es:=pre++e1::post } : RS) pre.length=rn r pre.length:=rfl;have hn2:rn ({ r with es:=pre++e2::post } : RS) pre.length=rn r pre.length:=rfl;have hn3:rn ({ r with es:=pre++e3::post } : RS) pre.length=rn r pre.length:=rfl;rw [hn1] at g1 h2;rw [hn2] at g2 h3;rw [hn3] at g3 h4;rw [Zb (ne1 (Y8 r _)),ZN,if_neg (by decide),Zb (by simp),Zb (by simp),Zb (by rw [Y6 h hs (c:=B e.p.ended) rfl];simp),Zb (by simp),Zb (by simp),Zb (by rw [g1];simp),Zb (by simp),Zb (by simp),Zb (by rw [g2];simp),Zb (by simp),Zb (by simp),Zb (by rw [g3];simp)];have hsrt:=ho.srt
 have hup:Yp e.p.id (Yk st) r.es=pre++Yk st e::post:=by
  rw [hs] at hsrt;rw [hs,Vt (f:=Yk st) hsrt rfl]
 unfold Kf;rw [hfe];dsimp only at h4 ⊢;rw [← hup] at h4;have hu:LOk (Yp e.p.id (Yk st) r.es) r.last:=ZcX ho (fun _=>rfl) fun _=>rfl;by_cases hid:e.p.id=1
 ·rw [if_pos (by simp [cop,hid]),if_pos hid];exact ⟨_,r.ja,[],rfl,h4⟩
 ·have hem:e∈r.es:=by rw [hs];simp
  have hrg:=ho.rng e hem;rw [if_neg (by simp [cop,hid]),if_neg hid,s59 (r:={ r with es:=Yp e.p.id (Yk st) r.es }) h4 hu hx hrg.1,Xi];dsimp only;have hids:(r.es.map fun e=>e.p.id)=(Yp e.p.id (Yk st) r.es).map fun e=>e.p.id:=(ZfR (f:=Yk st) fun _=>rfl).symm;rw [hids,Znt hu.srt]
  have hkm:∀ z∈Jx (Yp e.p.id (Yk st) r.es) e.p.id,∃ c,(Yp e.p.id (Yk st) r.es).find? (fun e=>decide (e.p.id=z))=Xa c∧c.p.parent=e.p.id:=fun z hz=>by
   obtain ⟨c,hc,rfl⟩:=Xj.1 hz;rw [We] at hc;exact ⟨c,Ju hu.srt hc.1,by simpa using hc.2⟩
  have hkl:(Jx (Yp e.p.id (Yk st) r.es) e.p.id).length≤64:=by
   unfold Jx;rw [Xr];exact XI (Un _ _) hu.len
  have hkn:(Jx (Yp e.p.id (Yk st) r.es) e.p.id).Nodup:=by
   rw [← ZkQ hu.srt];exact (Zis hu.srt).filter _
  have hkp:e.p.id∉Jx (Yp e.p.id (Yk st) r.es) e.p.id:=fun hh=>by
   obtain ⟨c,hc,hcp⟩:=hkm _ hh;have hcm:=Ue hc;have hci:c.p.id=e.p.id:=by have:=Wt hc;simpa using this
   have:=hu.par c hcm;omega
  have hfe2:=Zdd (k:=e.p.id) (f:=Yk st) (fun _=>rfl) hfe;rw [if_pos rfl] at hfe2;obtain ⟨rows2,ja2,G2,q2,e5,r1,r2,r4,r5,r6,r7⟩:=Zks hkl hrg.1 (Jx (Yp e.p.id (Yk st) r.es) e.p.id) [] _ F { r with es:=Yp e.p.id (Yk st) r.es } (Yk st e) [] Jl rfl (by unfold Jl;omega) hkn hkp hkm h4 hu hx hfe2 (by simp;omega);have hz:((([] : List Int).length:Nat):Int)=0:=rfl;rw [hz] at r1;dsimp only at r1 r2 r4;have hlen:((ints (Jx (Yp e.p.id (Yk st) r.es) e.p.id)).length:Int)=((Jx (Yp e.p.id (Yk st) r.es) e.p.id).length:Int):=by simp
  have hlk:LOk (ZV e.p.id (Yp e.p.id (Yk st) r.es) (Jx (Yp e.p.id (Yk st) r.es) e.p.id)).1 r.last:=ZgD hrg.1 _ _ hu;have h5id:e5.p.id=e.p.id:=r5;have r4':(ZV e.p.id (Yp e.p.id (Yk st) r.es) (Jx (Yp e.p.id (Yk st) r.es) e.p.id)).1.find? (fun a=>decide (a.p.id=e5.p.id))=Xa e5:=by rw [h5id];exact r4
  obtain ⟨rows3,ja3,G3,t1,t2⟩:=s71 (r:={ r with ja:=ja2,es:=(ZV e.p.id (Yp e.p.id (Yk st) r.es) (Jx (Yp e.p.id (Yk st) r.es) e.p.id)).1 }) r2 hlk hx (c:=e5) r4' (by omega);dsimp only at t1 t2
  have htc:∀ es,Ym es e5.p.parent e5.p=Ym es e.p.parent (Yk st e).p:=fun es=>by
   rw [show e5.p.parent=e.p.parent from r6];exact Ze7 h5id r7
  rw [htc] at t1 t2;rw [h5id] at t1;rw [r1,ZlC,hlen,if_neg (by simp [cop]),t1,Xi,Zb (Zf8 ?_ ?_)]
  ·refine ⟨rows3,ja3,G3++G2,?_,by rw [Xo];exact t2⟩;simp only [ZX,XL,XM]
  ·have:=ZcW e.p.id (Jx (Yp e.p.id (Yk st) r.es) e.p.id) (Yp e.p.id (Yk st) r.es);simp only [XM,ZX,Xr] at this ⊢;omega
  ·simp only [ZX,Xr];exact W6 _ _ _
theorem s37 {x:LL} (h:ZC rows (r.frag++F)) (ho:LOk r.es r.last) (hx:Zd x = .oref (r.jr+1) 0) (k st:Int) :
  ∃ rows' ja' G,g37 x k st rows=Xa (ZX (KW r.es k st).1.2,(KW r.es k st).2,rows')∧ZC rows' (({ r with ja:=ja',es:=(KW r.es k st).1.1 } : RS).frag++(G++F)):=by
 have hl:=ho.len;rw [Zvy];unfold KW
 cases hf:Yn r.es k with
 | none =>
  rw [VF h (by omega) hx hf,Xi];dsimp only;rw [Zb (ne1 Ks),V2,if_pos (by decide)];exact ⟨rows,r.ja,[],rfl,h⟩
 | some e =>
  obtain ⟨hfe,hen⟩:=Je hf;obtain ⟨pre,post,hs,rfl,hp⟩:=J3 hfe;rw [KY h (by omega) hx hs hp hen,Xi];dsimp only;rw [Zb (ne1 (Y8 r _)),ZN,if_neg (by decide)];by_cases h1:st < 0
  ·rw [if_pos (by simp [cop,h1]),if_pos h1];exact ⟨rows,r.ja,[],rfl,h⟩
  ·rw [if_neg (by simp [cop];omega),if_neg h1];by_cases h2:255 < st
   ·rw [if_pos (by simp [cop,h2]),if_pos h2];exact ⟨rows,r.ja,[],rfl,h⟩
   ·rw [if_neg (by simp [cop];omega),if_neg h2];obtain ⟨rows1,ja1,G1,q1,q2⟩:=s57 h ho hx hf st;rw [q1];exact ⟨rows1,ja1,G1,rfl,q2⟩
end
section
open Go Go.AM Go.Proofs.Ytpjnmgjphfnmmaa
set_option maxRecDepth 100000
variable {rows:LL} {F:JZ} {r:RS} {es:List PE} {last:Int}
theorem Zg3 {x:LL} (h:ZC rows (r.frag++F)) (ho:LOk r.es r.last) (hx:Zd x = .oref (r.jr+1) 0) (id:Int) {pp pq:List PE} {p:PE} (hpp:r.es=pp++p::pq):∀ (ks pre:List PE) (q:Nat),r.es=pre++ks→ks.length < q→
  Zrt q x id 0 0 0 (rn r pp.length) (ints (Jx r.es id)) ((Jx pre id).length:Int) rows =
   match ks.find? (fun e=>decide (e.p.parent=id)&&e.p.ended) with
   | some c => (g61 x c.p.id rows).bind fun r16 => Xa (id, c.p.id, c.p.status, Xb, 0, r16)
   | none => Xa (0, 0, 0, Xe, 0, Zc .set rows 0 (Zc (.padd 6) (rn r pp.length) 0 E0 []) [B Xb])
 | [], pre, q, hs, hq => by
  obtain ⟨q',rfl⟩:∃ q',q=q'+1:=⟨q-1,by simp at hq;omega⟩;rw [XN] at hs;have hlen:((ints (Jx r.es id)).length:Int)=((Jx r.es id).length:Int):=by simp
  rw [Zk6,hlen,← hs,if_neg (by simp [cop]),Zb (ne1 (ZN r _)),Zb (ne1 (ZN r _)),Zb (by rw [Y6 h hpp (c:=B p.p.waiting) rfl];simp)];rfl
 | e :: ks, pre, q, hs, hq => by
  have hl:=ho.len;by_cases hp:e.p.parent=id
  ·obtain ⟨q',rfl⟩:∃ q',q=q'+1:=⟨q-1,by simp at hq;omega⟩;have hlen:((ints (Jx r.es id)).length:Int)=((Jx r.es id).length:Int):=by simp
   have hke:Jx r.es id=Jx pre id++e.p.id::Jx ks id:=by rw [hs,ZcP,Kj,if_pos hp]
   have hz:(Jx r.es id)[(Jx pre id).length]? = Xa e.p.id:=by rw [hke];simp
   have hlt:=(Xk.1 hz).1
   have hkl:(Jx r.es id).length≤64:=by
    unfold Jx;rw [Xr];exact XI (Un _ _) hl
   have hem:e∈r.es:=by rw [hs];simp
   obtain ⟨pre2,post2,hs2,_,hp2⟩:=J3 (Ju ho.srt hem);rw [Zk6,hlen,if_pos (by simp [cop];omega),Z1 hz,VY h (by omega) hx hs2 hp2,Xi];dsimp only;rw [Zb (ne1 (ZN r _)),Zb (ne1 (ZN r _)),Y6 h hs2 (c:=B e.p.ended) rfl,JU]
   cases hen:e.p.ended with
   | true =>
    rw [if_pos rfl,Zb (ne1 (ZN r _)),Zb (ne1 (ZN r _)),Y6 h hs2 (c:=I e.p.id) rfl,ZL,Zb (ne1 (ZN r _)),Zb (ne1 (ZN r _)),Y6 h hs2 (c:=I e.p.status) rfl,ZL,Zb (ne1 (ZN r _)),Zb (ne1 (ZN r _)),ZL];simp only [UN,hp,hen,decide_true,Wc]
   | false =>
    have ih:=Zg3 h ho hx id hpp ks (pre++[e]) q' (by rw [hs];simp) (by simp at hq;omega);have hk1:((Jx (pre++[e]) id).length:Int)=(((Jx pre id).length+1:Nat):Int):=by rw [ZcP,Kj,if_pos hp];simp [Jx]
    rw [hk1] at ih;rw [if_neg (by decide),ZaQ (by omega),ih];simp only [UN,hp,hen,decide_true,Wc]
  ·have ih:=Zg3 h ho hx id hpp ks (pre++[e]) q (by rw [hs];simp) (by simp at hq;omega);have hk1:Jx (pre++[e]) id=Jx pre id:=by rw [ZcP,Kj,if_neg hp];simp [Jx]
   rw [hk1] at ih;rw [ih];simp only [UN,hp,decide_false,Bool.false_and]
theorem ZlR (es:List PE) (id:Int):(es.any fun e=>decide (e.p.parent=id))=Xb↔Jx es id≠[]:=by
 induction es with
 | nil => simp [Jx]
 | cons e es ih =>
  rw [Tg,Kj];by_cases hp:e.p.parent=id
  ·simp [hp]
  ·rw [if_neg hp,← ih];simp [hp]
theorem s40 {x:LL} (h:ZC rows (r.frag++F)) (ho:LOk r.es r.last) (hx:Zd x = .oref (r.jr+1) 0) (k:Int) :
  ∃ rows' ja' G,g40 x k rows=Xa ((YD r.es k).2.1,(YD r.es k).2.2.1,(YD r.es k).2.2.2.1,(YD r.es k).2.2.2.2.1,(YD r.es k).2.2.2.2.2,rows')∧ZC rows' (({ r with ja:=ja',es:=(YD r.es k).1 } : RS).frag++(G++F)):=by
 have hl:=ho.len;rw [ZuP];unfold YD
 cases hf:Yn r.es k with
 | none =>
  rw [VF h (by omega) hx hf,Xi];dsimp only;rw [Zb (ne1 Ks),V2,if_pos (by decide)];exact ⟨rows,r.ja,[],rfl,h⟩
 | some p =>
  obtain ⟨hfe,hen⟩:=Je hf;obtain ⟨pre,post,hs,rfl,hp⟩:=J3 hfe;have hpm:p∈r.es:=by rw [hs];simp
  have hrg:=ho.rng p hpm;rw [KY h (by omega) hx hs hp hen,Xi];dsimp only;rw [Zb (ne1 (Y8 r _)),ZN,if_neg (by decide),Zb (by simp),Zb (by simp),Y6 h hs (c:=B p.p.waiting) rfl,JU]
  cases hw:p.p.waiting with
  | true => exact ⟨rows, r.ja, [], rfl, h⟩
  | false =>
   rw [if_neg (by decide),if_neg (by decide),s59 h ho hx hrg.1,Xi];dsimp only;by_cases hk:Jx r.es p.p.id = []
   ·have hany:(r.es.any fun e=>decide (e.p.parent=p.p.id))=Xe:=by
     have:=ZlR r.es p.p.id;rw [hk] at this;simpa using this
    have hfn:r.es.find? (fun e=>decide (e.p.parent=p.p.id)&&e.p.ended)=Xc:=by
     rw [Te];intro a ha;have:=List.any_eq_false.1 hany a ha;simp at this ⊢;intro hh;exact absurd hh this
    rw [hk,if_pos (by decide),hfn];dsimp only;rw [if_neg (by rw [hany];decide)];exact ⟨rows,r.ja,[],rfl,h⟩
   ·have hany:(r.es.any fun e=>decide (e.p.parent=p.p.id))=Xb:=(ZlR r.es p.p.id).2 hk;have hlen:((ints (Jx r.es p.p.id)).length:Int)=((Jx r.es p.p.id).length:Int):=by simp
    have hlp:=Zg3 h ho hx p.p.id hs r.es [] Jl rfl (by unfold Jl;omega);have hz:(((Jx [] p.p.id).length:Nat):Int)=0:=rfl;rw [hz] at hlp;rw [hlen,if_neg (by simp [cop,hk]),hlp]
    cases hfc:r.es.find? (fun e=>decide (e.p.parent=p.p.id)&&e.p.ended) with
    | some c =>
     have hcm:=Ue hfc
     have hcp:c.p.parent=p.p.id:=by
      have:=Wt hfc;rw [Xs] at this;simpa using this.1
     have hcpar:=ho.par c hcm;obtain ⟨rows2,ja2,q1,q2⟩:=s61 (x:=x) (k:=c.p.id) h hl hx (Zsq ho (by omega));dsimp only;rw [q1];exact ⟨rows2,ja2,_,rfl,q2⟩
    | none =>
     dsimp only;rw [if_pos hany];have hset:=ZeI (r:=r) (e':={ p with p:={ p.p with waiting:=Xb } }) h hs (o:=6) (c:=B Xb) (by decide) rfl;have hsrt:=ho.srt;rw [hs] at hsrt;have hup:=Zbh (f:=fun q=>{ q with waiting:=Xb }) hsrt rfl;rw [← hs] at hup;rw [← hup] at hset;exact ⟨_,r.ja,[],rfl,hset⟩
theorem Zce:∀ (a b:List Int),a.Pairwise (fun x y=>x≤y)→b.Pairwise (fun x y=>x≤y)→a.Perm b→a=b
 | [], b, _, _, h => (List.nil_perm.1 h).symm
 | x :: a, b, ha, hb, h => by
  cases b with
  | nil => exact (List.perm_nil.1 h)
  | cons y b =>
   have ha':=Um.1 ha;have hb':=Um.1 hb;have h1:x∈y::b:=h.mem_iff.1 (by simp);have h2:y∈x::a:=h.mem_iff.2 (by simp)
   have h3:y≤x:=by
    rcases Xq.1 h1 with rfl | h1
    ·omega
    ·exact hb'.1 _ h1
   have h4:x≤y:=by
    rcases Xq.1 h2 with rfl | h2
    ·omega
    ·exact ha'.1 _ h2
   have:x=y:=by omega
   subst this;rw [Zce a b ha'.2 hb'.2 (List.perm_cons x |>.1 h)]
theorem KX (l:List Int):(srt l).Perm l:=List.mergeSort_perm l _
theorem W1 (l:List Int):(srt l).Pairwise (fun x y=>x≤y):=by
 have:=List.pairwise_mergeSort (le:=fun a b:Int=>decide (a≤b)) (fun a b c h1 h2=>by simp at *; omega) (fun a b=>by simp;omega) l;exact this.imp fun h=>by simpa using h
theorem Zn6 {a b:List Int} (h:a.Perm b):srt a=srt b:=Zce _ _ (W1 a) (W1 b) ((KX a).trans (h.trans (KX b).symm))
theorem Zj9 (l:List Int) (w:Nat) (hw:w < l.length) (z:Int):Jf (ints l) w 0 [AV.val (.int .i64 z)]=ints (l.set w z):=by
 have:(ints l)[w]? = Xa [I l[w]]:=by unfold ints;rw [Xl,Xp hw];rfl
 have hm:=modify_set this (fun x=>setCells x 0 [AV.val (.int .i64 z)]);rw [show Jf (ints l) w 0 [AV.val (.int .i64 z)]=(ints l).modify w (fun x=>setCells x 0 [AV.val (.int .i64 z)]) from rfl,hm];unfold ints;rw [List.map_set];rfl
theorem Zsz (rec0:List V→Option LL) (i:Nat) (hi:i < 50000):∀ (j fuel:Nat) (A:List Int) (x:Int) (Bs D:List Int),j < fuel→A.length=j→(A++Bs).Pairwise (fun x y=>x≤y)→(∀ b∈Bs,x≤b)→A.length+Bs.length=i→
  ∃ X:List Int,X.Perm (A++x::(Bs++D))∧(X.take (i+1)).Pairwise (fun x y=>x≤y)∧ZqJ rec0 fuel (ints (A++x::(Bs++D))) (i:Int) (j:Int)=rec0 [.l (ints X),.i ((i+1:Nat):Int)]:=by
 intro j
 induction j with
 | zero =>
  intro fuel A x Bs D hf hA hs hx hl;obtain ⟨f,rfl⟩:∃ f,fuel=f+1:=⟨fuel-1,by omega⟩;obtain rfl:=TE.1 hA;refine ⟨_,List.Perm.refl _,?_,?_⟩
  ·have hBi:Bs.length=i:=by simpa using hl
   have:List.take (i+1) ([]++x::(Bs++D))=x::Bs:=by
    rw [XM,List.take_succ_cons,TF (by omega),← hBi,Tb]
   rw [this];exact Um.2 ⟨hx,hs⟩
  ·rw [Zk2,if_neg (by simp [cop]),ZaQ (by omega)]
 | succ j ih =>
  intro fuel A x Bs D hf hA hs hx hl;obtain ⟨f,rfl⟩:∃ f,fuel=f+1:=⟨fuel-1,by omega⟩;obtain ⟨A',a,rfl⟩:∃ A' a,A=A'++[a]:=⟨A.dropLast,A.getLast (fun h=>by rw [h] at hA;simp at hA),(List.dropLast_concat_getLast _).symm⟩;have hA':A'.length=j:=by simpa using hA
  have hform:(A'++[a])++x::(Bs++D)=A'++a::x::(Bs++D):=by simp
  have hli:A'.length+1+Bs.length=i:=by simpa using hl
  rw [hform];have hsub:iop .sub .i64 ((j+1:Nat):Int) 1=(j:Int):=by rw [ZwH (by omega) (by omega)];omega
  have e1:(A'++a::x::(Bs++D))[j+1]? = Xa x:=by rw [Xz (by omega),hA'];simp
  have e0:(A'++a::x::(Bs++D))[j]? = Xa a:=by rw [Xz (by omega),hA'];simp
  have hXl:(A'++a::x::(Bs++D)).length=j+2+Bs.length+D.length:=by simp;omega
  have hlen:∀ l:List Int,((ints l).length:Int)=(l.length:Int):=fun l=>by simp
  rw [Zk2,if_pos (by simp [cop]),hsub,Zb (by omega),hlen,Zb (by omega),Z1 e1,Zb (by omega),Zb (by omega),Z1 e0];by_cases hlt:x < a
  ·rw [if_pos (by simp [cop,hlt]),Zb (by omega),Zb (by omega),Z1 e1,Zb (by omega),Zb (by omega),Z1 e0,Zb (by omega),Zb (by omega),Zb (by omega),Zb (by omega),Wv,Wv,Zj9 _ _ (by omega),hlen,US,Zb (by omega),Zb (by omega),Zb (by omega),Zb (by omega),Zj9 _ _ (by rw [US];omega)]
   have hsw:((A'++a::x::(Bs++D)).set (j+1) a).set j x=A'++x::((a::Bs)++D):=by
    rw [TD _ _ (by omega),TD _ _ (by omega),hA',UE,show j+1-j=1 by omega];rfl
   rw [hsw]
   obtain ⟨X,h1,h2,h3⟩:=ih f A' x (a::Bs) D (by omega) hA' (by
     have:A'++a::Bs=(A'++[a])++Bs:=by simp
     rw [this];exact hs) (fun b hb=>by
     rcases Xq.1 hb with rfl | hb
     ·omega
     ·exact hx b hb) (by rw [XA];omega)
   exact ⟨X,h1.trans (List.Perm.append_left _ (List.Perm.swap a x (Bs++D))),h2,h3⟩
  ·rw [if_neg (by simp [cop];omega),ZaQ (by omega)];refine ⟨_,List.Perm.refl _,?_,rfl⟩
   have:List.take (i+1) (A'++a::x::(Bs++D))=(A'++[a])++x::Bs:=by
    have h2:A'++a::x::(Bs++D)=((A'++[a])++x::Bs)++D:=by simp
    have h3:((A'++[a])++x::Bs).length=i+1:=by simp;omega
    rw [h2,TF (by omega),← h3,Tb]
   rw [this];obtain ⟨h1,h2,h3⟩:=Uf.1 hs;obtain ⟨h4,_,h5⟩:=Uf.1 h1;refine Uf.2 ⟨h1,Um.2 ⟨hx,h2⟩,fun y hy b hb=>?_⟩
   have hya:y≤a:=by
    rcases Xv.1 hy with hy | hy
    ·exact h5 y hy a (by simp)
    ·rw [XE] at hy;omega
   rcases Xq.1 hb with rfl | hb
   ·omega
   ·have:=hx b hb;omega
theorem Zlv:∀ (d i k:Nat) (X:List Int),i+d=X.length→1≤i→d < k→X.length < 50000→(X.take i).Pairwise (fun x y=>x≤y)→∃ Y:List Int,Y.Perm X∧Y.Pairwise (fun x y=>x≤y)∧ZsP k (ints X) (i:Int)=Xa (ints Y)
 | 0, i, k, X, hd, h1, hk, hl, hs => by
  obtain ⟨k',rfl⟩:∃ k',k=k'+1:=⟨k-1,by omega⟩;have hlen:((ints X).length:Int)=(X.length:Int):=by simp
  rw [ZfU,hlen,if_neg (by simp [cop];omega)];have:X.take i=X:=Uo (by omega);rw [this] at hs;exact ⟨X,List.Perm.refl _,hs,rfl⟩
 | d + 1, i, k, X, hd, h1, hk, hl, hs => by
  obtain ⟨k',rfl⟩:∃ k',k=k'+1:=⟨k-1,by omega⟩;have hlen:((ints X).length:Int)=(X.length:Int):=by simp
  have hi:i < X.length:=by omega
  have hform:X=X.take i++X[i]::([]++X.drop (i+1)):=by
   rw [XM,List.getElem_cons_drop,List.take_append_drop]
  obtain ⟨Y,p1,p2,p3⟩:=Zsz (F72.lp [2] 0 r0 k') i (by omega) i Jl (X.take i) X[i] [] (X.drop (i+1)) (by unfold Jl;omega) (by rw [XU];omega) (by rw [XN];exact hs) (fun b hb=>by cases hb) (by rw [XU];simp;omega);rw [← hform] at p1 p3;have hYl:Y.length=X.length:=p1.length_eq;obtain ⟨Z,q1,q2,q3⟩:=Zlv d (i+1) k' Y (by omega) (by omega) (by omega) (by omega) p2;rw [ZfU,hlen,if_pos (by simp [cop];omega),p3];exact ⟨Z,q1.trans p1,q2,q3⟩
theorem s72 (zs:List Int) (hl:zs.length < 50000):g72 (ints zs)=Xa (ints (srt zs)):=by
 rw [ZvZ,Zb (by unfold Jp ZF;simp;omega)];have fin:∀ Y:List Int,Y.Perm zs→Y.Pairwise (fun x y=>x≤y)→Y=srt zs:=fun Y h1 h2=>Zce _ _ h2 (W1 zs) (h1.trans (KX zs).symm)
 cases zs with
 | nil =>
  have h0:srt [] = []:=by simp [srt]
  rw [show Jl=1208925819614629174706175+1 from rfl,ZfU,if_neg (by decide),h0]
 | cons z zs =>
  obtain ⟨Y,h1,h2,h3⟩:=Zlv zs.length 1 Jl (z::zs) (by simp;omega) (by omega) (by simp at hl;unfold Jl;omega) hl (by simp);have h1c:((1:Nat):Int)=1:=rfl;rw [h1c] at h3;rw [h3,fin Y h1 h2]
end
section
open Go Go.AM Go.Proofs.Ytpjnmgjphfnmmaa
set_option maxRecDepth 100000
variable {rows:LL} {F:JZ} {r:RS} {es:List PE} {last:Int}
theorem ZgT (ho:LOk es last) (n:Nat) (id:Int):(J1 n es id).length≤64:=by
 rw [Zf1 ho.srt];refine XI (Znb _ _ fun e _=>?_) ho.len;have:=Zt7 (es:=es) (fun a ha=>(ho.par a ha).2) n e.p.id id;split at this<;>omega
theorem Zc9 {f g:Int→List Int} (h:∀ c,(f c).Perm (g c)):∀ l:List Int,(l.flatMap fun c=>c::f c).Perm (l.flatMap fun c=>c::g c)
 | [] => List.Perm.refl _
 | c :: l => by
  rw [Uw,Uw];exact List.Perm.append (List.Perm.cons _ (h c)) (Zc9 h l)
theorem s58 {x:LL} (h:ZC rows (r.frag++F)) (ho:LOk r.es r.last) (hx:Zd x = .oref (r.jr+1) 0):∀ (k:Nat) (e:PE),e∈r.es→Zjv r.es e.p.id < k→g58 (G58 k) x e.p.id rows=Xa (ints (srt (J1 k r.es e.p.id)),rows):=by
 intro k
 induction k with
 | zero => intro e he hab; omega
 | succ k ih =>
  intro e he hab;have hl:=ho.len;have hrg:=ho.rng e he;obtain ⟨pre,post,hs,_,hp⟩:=J3 (Ju ho.srt he);have hgo:g58 (G58 (k+1)) x e.p.id rows=g58 (F58 (G58 k)).S.g x e.p.id rows:=rfl;rw [hgo,ZvR,VY h (by omega) hx hs hp,Xi];dsimp only;rw [Zb (ne1 (Y8 r _)),ZN,if_neg (by decide),s59 h ho hx hrg.1,Xi];dsimp only;have hdl:=ZgT ho (k+1) e.p.id;have hpl:=(Zc9 (fun c=>KX (J1 k r.es c)) (Jx r.es e.p.id)).length_eq
  have hkl:(Jx r.es e.p.id).length≤64:=by
   unfold Jx;rw [Xr];exact XI (Un _ _) hl
  have loop:∀ (ks pre acc:List Int) (q:Nat),Jx r.es e.p.id=pre++ks→ks.length < q→acc.length+(ks.flatMap fun c=>c::srt (J1 k r.es c)).length≤64→
    ZqX (G58 k) q x (ints acc) (ints (Jx r.es e.p.id)) (pre.length:Int) rows=Xa (ints (srt (acc++ks.flatMap fun c=>c::srt (J1 k r.es c))),rows):=by
   intro ks
   induction ks with
   | nil =>
    intro pre acc q hk hq ha;obtain ⟨q',rfl⟩:∃ q',q=q'+1:=⟨q-1,by simp at hq;omega⟩;rw [XN] at hk;have hlen:((ints (Jx r.es e.p.id)).length:Int)=(pre.length:Int):=by simp [hk]
    have hal:acc.length≤64:=by simp at ha;omega
    rw [Zlr,hlen,if_neg (by simp [cop]),s72 acc (by omega)];simp
   | cons c ks ihk =>
    intro pre acc q hk hq ha;obtain ⟨q',rfl⟩:∃ q',q=q'+1:=⟨q-1,by simp at hq;omega⟩;have hlen:((ints (Jx r.es e.p.id)).length:Int)=((Jx r.es e.p.id).length:Int):=by simp
    have hz:(Jx r.es e.p.id)[pre.length]? = Xa c:=by rw [hk];simp
    have hlt:=(Xk.1 hz).1;have hcm:c∈Jx r.es e.p.id:=by rw [hk];simp
    obtain ⟨a,ha2,rfl⟩:=Xj.1 hcm;rw [We] at ha2;have hap:a.p.parent=e.p.id:=by simpa using ha2.2
    have hpar:=ho.par a ha2.1;have hab2:=Zk4 ha2.1 (show e.p.id < a.p.id by omega);have hl1:((pre++[a.p.id]).length:Int)=((pre.length+1:Nat):Int):=by simp
    simp only [Uw,XJ,XA,Xu] at ha;have hsl:=ZaA (J1 k r.es a.p.id);rw [Zlr,hlen,if_pos (by simp [cop];omega),Z1 hz,Zb (by unfold Jp ZF;simp;omega),Z1 hz,ih a ha2.1 (by omega),Xi];dsimp only;rw [Zb (by unfold Jp ZF;simp;omega),ZaQ (by omega)];have e1:(ints acc++(E0++[[AV.val (.int .i64 a.p.id)]]))++ints (srt (J1 k r.es a.p.id))=ints (acc++a.p.id::srt (J1 k r.es a.p.id)):=by simp [ints]
    have:=ihk (pre++[a.p.id]) (acc++a.p.id::srt (J1 k r.es a.p.id)) q' (by rw [hk];simp) (by simp at hq;omega) (by simp only [Xu,XA];omega);rw [hl1] at this;rw [e1,this];simp
  have hlp:=loop (Jx r.es e.p.id) [] [] Jl rfl (by unfold Jl;omega) (by
   have:(J1 (k+1) r.es e.p.id).length=((Jx r.es e.p.id).flatMap fun c=>c::J1 k r.es c).length:=rfl;simp only [XW];omega)
  have hz:((([] : List Int).length:Nat):Int)=0:=rfl;rw [hz] at hlp;have hi0:(ints ([] : List Int))=E0:=rfl;rw [hi0] at hlp;rw [hlp,XM];rw [Zn6 (Zc9 (fun c=>KX (J1 k r.es c)) (Jx r.es e.p.id))];rfl
theorem ZjZ {x:LL} (hx':∀ r:RS,Zd x = .oref (r.jr+1) 0→True) {zs:List Int} (hzl:zs.length≤1000):∀ (ks pre:List Int) (rows:LL) (F:JZ) (r:RS) (acc:LL) (q:Nat),zs=pre++ks→ks.length < q→ZC rows (r.frag++F)→LOk r.es r.last→Zd x = .oref (r.jr+1) 0→acc.length+65*ks.length≤100000→
  ∃ rows' ja' G,Zqo q x (ints zs) acc (pre.length:Int) rows=Xa (acc++ZX (Zi (-1) r.es ks).2,0,rows')∧ZC rows' (({ r with ja:=ja',es:=(Zi (-1) r.es ks).1 } : RS).frag++(G++F))
 | [], pre, rows, F, r, acc, q, hz, hq, h, ho, hx, _ => by
  obtain ⟨q',rfl⟩:∃ q',q=q'+1:=⟨q-1,by simp at hq;omega⟩;have hl:zs.length=pre.length:=by rw [hz,XN]
  have hlen:((ints zs).length:Int)=(zs.length:Int):=by simp
  rw [ZkL,hlen,hl,if_neg (by simp [cop])];exact ⟨rows,r.ja,[],by simp [Zi,ZX],h⟩
 | z :: ks, pre, rows, F, r, acc, q, hz, hq, h, ho, hx, hacc => by
  obtain ⟨q',rfl⟩:∃ q',q=q'+1:=⟨q-1,by simp at hq;omega⟩;have hz1:zs[pre.length]? = Xa z:=by rw [hz];simp
  have hi:=(Xk.1 hz1).1;have hlen:((ints zs).length:Int)=(zs.length:Int):=by simp
  have hl1:((pre++[z]).length:Int)=((pre.length+1:Nat):Int):=by simp
  have hrl:=ho.len;rw [ZkL,hlen,if_pos (by simp [cop];omega),Zb (by omega),Zb (by omega),Z1 hz1,ZaQ (by omega)]
  cases hr:Yn r.es z with
  | none =>
   rw [Zsm h hrl hx hr,Xi,Zb (by unfold Jp ZF;simp only [XW];omega)];obtain ⟨rows2,ja2,G2,q1,q2⟩:=ZjZ hx' hzl ks (pre++[z]) rows F r acc q' (by rw [hz];simp) (by simp at hq;omega) h ho hx (by simp at hacc;omega);rw [hl1] at q1;have he:Zi (-1) r.es (z::ks)=Zi (-1) r.es ks:=by simp only [Zi,hr]
   rw [he];dsimp only;rw [XN];exact ⟨rows2,ja2,G2,q1,q2⟩
  | some e =>
   obtain ⟨rows1,ja1,G1,t1,t2⟩:=s57 h ho hx hr (-1);have hel:=Zcc r.es z (-1);have hra:(ZX (Kf r.es z (-1)).2).length≤65:=by simp only [ZX,Xr];omega
   rw [t1,Xi,Zb (ZgO (by omega) (show (ZX (Kf r.es z (-1)).2).length≤100000 by omega))];obtain ⟨rows2,ja2,G2,q1,q2⟩:=ZjZ hx' hzl ks (pre++[z]) rows1 (G1++F) { r with ja:=ja1,es:=(Kf r.es z (-1)).1 } (acc++ZX (Kf r.es z (-1)).2) q' (by rw [hz];simp) (by simp at hq;omega) t2 (Ve ho) hx (by simp only [Xu,XA] at hacc ⊢; omega);rw [hl1] at q1;have he:Zi (-1) r.es (z::ks)=((Zi (-1) (Kf r.es z (-1)).1 ks).1,(Kf r.es z (-1)).2++(Zi (-1) (Kf r.es z (-1)).1 ks).2):=by simp only [Zi,hr]
   rw [he];refine ⟨rows2,ja2,G2++G1,?_,by rw [Xo];exact q2⟩;rw [q1];simp only [ZX,XL,Xo]
theorem Zjt {x:LL} (target:Int) {zs:List Int} (hzl:zs.length≤1000) (rows:LL):∀ (ks pre:List Int) (b:Bool) (q:Nat),zs=pre++ks→ks.length < q→
  ∃ q',Zmw q x target b (ints zs) (pre.length:Int) rows=Zmw (q'+1) x target (b||decide (target∈ks)) (ints zs) (zs.length:Int) rows
 | [], pre, b, q, hz, hq => by
  obtain ⟨q',rfl⟩:∃ q',q=q'+1:=⟨q-1,by simp at hq;omega⟩;have hl:zs.length=pre.length:=by rw [hz,XN]
  exact ⟨q',by rw [hl];simp⟩
 | z :: ks, pre, b, q, hz, hq => by
  obtain ⟨q',rfl⟩:∃ q',q=q'+1:=⟨q-1,by simp at hq;omega⟩;have hz1:zs[pre.length]? = Xa z:=by rw [hz];simp
  have hi:=(Xk.1 hz1).1;have hlen:((ints zs).length:Int)=(zs.length:Int):=by simp
  have hl1:((pre++[z]).length:Int)=((pre.length+1:Nat):Int):=by simp
  rw [ZkZ,hlen,if_pos (by simp [cop];omega),ZaQ (by omega)]
  cases b with
  | true =>
   rw [if_pos rfl];obtain ⟨q2,h2⟩:=Zjt (x:=x) target hzl rows ks (pre++[z]) Xb q' (by rw [hz];simp) (by simp at hq;omega);rw [hl1] at h2;exact ⟨q2,by rw [h2];simp⟩
  | false =>
   rw [if_neg (by decide),Zb (by omega),Zb (by omega),Z1 hz1];obtain ⟨q2,h2⟩:=Zjt (x:=x) target hzl rows ks (pre++[z]) (cop .eql z target) q' (by rw [hz];simp) (by simp at hq;omega);rw [hl1] at h2;refine ⟨q2,?_⟩;rw [h2];congr 1;by_cases hzt:z=target
   ·simp [cop,hzt]
   ·simp [cop,hzt,Ne.symm hzt]
theorem Zig (ho:LOk es last) (id:Int):Zjv es id≤64:=XI (Un _ _) ho.len
theorem Zj8 {e:PE} (hs:es.Pairwise fun a b=>a.p.id < b.p.id) (he:e∈es):KP es e.p.id=srt (J1 128 es e.p.id):=by
 unfold KP;rw [Ju hs he]
theorem s39 {x:LL} (h:ZC rows (r.frag++F)) (ho:LOk r.es r.last) (hx:Zd x = .oref (r.jr+1) 0) (id target:Int) :
  ∃ rows' ja' G,g39 x id target rows=Xa (ZX (Vx r.es id target).1.2,(Vx r.es id target).2,rows')∧ZC rows' (({ r with ja:=ja',es:=(Vx r.es id target).1.1 } : RS).frag++(G++F)):=by
 have hl:=ho.len;rw [Zuq];unfold Vx
 cases hf:Yn r.es id with
 | none =>
  rw [VF h (by omega) hx hf,Xi];dsimp only;rw [Zb (ne1 Ks),V2,if_pos (by decide)];exact ⟨rows,r.ja,[],rfl,h⟩
 | some e =>
  obtain ⟨hfe,hen⟩:=Je hf;obtain ⟨pre,post,hs,rfl,hp⟩:=J3 hfe;have hem:e∈r.es:=by rw [hs];simp
  rw [KY h (by omega) hx hs hp hen,Xi];dsimp only;rw [Zb (ne1 (Y8 r _)),ZN,if_neg (by decide)]
  cases ht:Yn r.es target with
  | none =>
   rw [VF h (by omega) hx ht,Xi];dsimp only;rw [Zb (ne1 Ks),V2,if_pos (by decide)];exact ⟨rows,r.ja,[],rfl,h⟩
  | some t =>
   obtain ⟨htf,hten⟩:=Je ht;obtain ⟨pre2,post2,hs2,rfl,hp2⟩:=J3 htf;have htm:t∈r.es:=by rw [hs2];simp
   have ha1:=Zig ho e.p.id;have ha2:=Zig ho t.p.id;rw [KY h (by omega) hx hs2 hp2 hten,Xi];dsimp only;rw [Zb (ne1 (Y8 r _)),ZN,if_neg (by decide),s58 h ho hx 128 e hem (by omega),Xi];dsimp only;have hd1:=ZgT ho 128 e.p.id;have hd2:=ZgT ho 128 t.p.id;have hs1l:=ZaA (J1 128 r.es e.p.id);have hs2l:=ZaA (J1 128 r.es t.p.id);obtain ⟨q',hq'⟩:=Zjt (x:=x) t.p.id (zs:=srt (J1 128 r.es e.p.id)) (by omega) rows (srt (J1 128 r.es e.p.id)) [] (cop .eql e.p.id t.p.id) Jl rfl (by unfold Jl;omega);have hz:((([] : List Int).length:Nat):Int)=0:=rfl;rw [hz] at hq';have hlen:((ints (srt (J1 128 r.es e.p.id))).length:Int)=((srt (J1 128 r.es e.p.id)).length:Int):=by simp
   rw [hq',ZkZ,hlen,if_neg (by simp [cop]),Zj8 ho.srt hem,Zj8 ho.srt htm];by_cases hmay:t.p.id=e.p.id∨t.p.id∈srt (J1 128 r.es e.p.id)
   ·have hb:(cop .eql e.p.id t.p.id||decide (t.p.id∈srt (J1 128 r.es e.p.id)))=Xb:=by
     rcases hmay with h1 | h1
     ·simp [cop,h1]
     ·simp [h1]
    rw [hb,if_neg (by decide),if_pos hmay,s58 h ho hx 128 t htm (by omega),Xi];dsimp only;obtain ⟨rows1,ja1,G1,t1,t2⟩:=s57 h ho hx ht (-1);have hel:=Zcc r.es t.p.id (-1);have hra:(ZX (Kf r.es t.p.id (-1)).2).length≤65:=by simp only [ZX,Xr];omega
    rw [t1,Xi];dsimp only;obtain ⟨rows2,ja2,G2,q1,q2⟩:=ZjZ (x:=x) (fun _ _=>trivial) (zs:=srt (J1 128 r.es t.p.id)) (by omega) (srt (J1 128 r.es t.p.id)) [] rows1 (G1++F) { r with ja:=ja1,es:=(Kf r.es t.p.id (-1)).1 } (ZX (Kf r.es t.p.id (-1)).2) Jl rfl (by unfold Jl;omega) t2 (Ve ho) hx (by omega);rw [hz] at q1;have he:Zi (-1) r.es (t.p.id::srt (J1 128 r.es t.p.id))=((Zi (-1) (Kf r.es t.p.id (-1)).1 (srt (J1 128 r.es t.p.id))).1,(Kf r.es t.p.id (-1)).2++(Zi (-1) (Kf r.es t.p.id (-1)).1 (srt (J1 128 r.es t.p.id))).2):=by simp only [Zi,ht]
    rw [he];refine ⟨rows2,ja2,G2++G1,?_,by rw [Xo];exact q2⟩;rw [q1];simp only [ZX,XL]
   ·have hb:(cop .eql e.p.id t.p.id||decide (t.p.id∈srt (J1 128 r.es e.p.id)))=Xe:=by
     have h1:¬ (e.p.id=t.p.id):=fun hh=>hmay (.inl hh.symm);have h2:t.p.id∉srt (J1 128 r.es e.p.id):=fun hh=>hmay (.inr hh);simp [cop,h1,h2]
    rw [hb,if_pos (by decide),if_neg hmay];exact ⟨rows,r.ja,[],rfl,h⟩
end
section
open Go Go.AM Go.Proofs.Ytpjnmgjphfnmmaa
set_option maxRecDepth 100000
variable {rows:LL} {F:JZ} {r:RS} {es:List PE} {last:Int}
theorem ZjE {x:LL} {zs:List Int} (hzl:zs.length≤1000):∀ (ks pre:List Int) (rows:LL) (F:JZ) (r:RS) (acc:LL) (q:Nat),zs=pre++ks→ks.length < q→ZC rows (r.frag++F)→LOk r.es r.last→Zd x = .oref (r.jr+1) 0→acc.length+65*ks.length≤100000→
  ∃ rows' ja' G,ZoC q x (ints zs) acc (pre.length:Int) rows=Xa (acc++ZX (Zi (-2) r.es ks).2,0,rows')∧ZC rows' (({ r with ja:=ja',es:=(Zi (-2) r.es ks).1 } : RS).frag++(G++F))
 | [], pre, rows, F, r, acc, q, hz, hq, h, ho, hx, _ => by
  obtain ⟨q',rfl⟩:∃ q',q=q'+1:=⟨q-1,by simp at hq;omega⟩;have hl:zs.length=pre.length:=by rw [hz,XN]
  have hlen:((ints zs).length:Int)=(zs.length:Int):=by simp
  rw [ZkT,hlen,hl,if_neg (by simp [cop])];exact ⟨rows,r.ja,[],by simp [Zi,ZX],h⟩
 | z :: ks, pre, rows, F, r, acc, q, hz, hq, h, ho, hx, hacc => by
  obtain ⟨q',rfl⟩:∃ q',q=q'+1:=⟨q-1,by simp at hq;omega⟩;have hz1:zs[pre.length]? = Xa z:=by rw [hz];simp
  have hi:=(Xk.1 hz1).1;have hlen:((ints zs).length:Int)=(zs.length:Int):=by simp
  have hl1:((pre++[z]).length:Int)=((pre.length+1:Nat):Int):=by simp
  have hrl:=ho.len;rw [ZkT,hlen,if_pos (by simp [cop];omega),Zb (by omega),Zb (by omega),Z1 hz1,ZaQ (by omega)]
  cases hr:Yn r.es z with
  | none =>
   rw [Zsm h hrl hx hr,Xi,Zb (by unfold Jp ZF;simp only [XW];omega)];obtain ⟨rows2,ja2,G2,q1,q2⟩:=ZjE hzl ks (pre++[z]) rows F r acc q' (by rw [hz];simp) (by simp at hq;omega) h ho hx (by simp at hacc;omega);rw [hl1] at q1;have he:Zi (-2) r.es (z::ks)=Zi (-2) r.es ks:=by simp only [Zi,hr]
   rw [he];dsimp only;rw [XN];exact ⟨rows2,ja2,G2,q1,q2⟩
  | some e =>
   obtain ⟨rows1,ja1,G1,t1,t2⟩:=s57 h ho hx hr (-2);have hel:=Zcc r.es z (-2);have hra:(ZX (Kf r.es z (-2)).2).length≤65:=by simp only [ZX,Xr];omega
   rw [t1,Xi,Zb (ZgO (by omega) (show (ZX (Kf r.es z (-2)).2).length≤100000 by omega))];obtain ⟨rows2,ja2,G2,q1,q2⟩:=ZjE hzl ks (pre++[z]) rows1 (G1++F) { r with ja:=ja1,es:=(Kf r.es z (-2)).1 } (acc++ZX (Kf r.es z (-2)).2) q' (by rw [hz];simp) (by simp at hq;omega) t2 (Ve ho) hx (by simp only [Xu,XA] at hacc ⊢; omega);rw [hl1] at q1;have he:Zi (-2) r.es (z::ks)=((Zi (-2) (Kf r.es z (-2)).1 ks).1,(Kf r.es z (-2)).2++(Zi (-2) (Kf r.es z (-2)).1 ks).2):=by simp only [Zi,hr]
   rw [he];refine ⟨rows2,ja2,G2++G1,?_,by rw [Xo];exact q2⟩;rw [q1];simp only [ZX,XL,Xo]
def Zck (core:Int) (es:List PE):List Int:=(es.filter fun e=>!e.p.ended&&decide (wo core e.p.cores = [])).map fun e=>e.p.id
theorem ZrI (rec0:List V→Option (LL×Int×LL)) {x:LL} {e:PE} {pre post:List PE} (h:ZC rows (r.frag++F)) (hs:r.es=pre++e::post) (core:Int) (hl:e.p.cores.length≤100) (acc:List Int) (ha:acc.length≤100) (i:Nat) (hi:i≤100):∀ (ks ps:List Int) (q:Nat),e.p.cores=ps++ks→ks.length < q→
  Zno rec0 q x core (ints acc) (i:Int) (rn r pre.length) (ints (wo core ps)) (ps.length:Int) rows =
   rec0 [.l x,.i core,.l (ints (if e.p.ended=Xe∧wo core e.p.cores = [] then acc++[e.p.id] else acc)),.i ((i+1:Nat):Int),.l (Zc .set rows 0 (Zc (.padd 3) (rn r pre.length) 0 E0 []) [.slice Xe 1 (ints (wo core e.p.cores))])]
 | [], ps, q, hc, hq => by
  obtain ⟨q',rfl⟩:∃ q',q=q'+1:=⟨q-1,by simp at hq;omega⟩;rw [XN] at hc;have hlen:((ints e.p.cores).length:Int)=(e.p.cores.length:Int):=by simp
  have hset:=ZeI (r:=r) (e':=Yj core e) h hs (o:=3) (c:=.slice Xe 1 (ints (wo core e.p.cores))) (by decide) rfl;have hge:=Y6 (r:={ r with es:=pre++Yj core e::post }) hset (pre:=pre) (post:=post) (e:=Yj core e) rfl (o:=4) (c:=B e.p.ended) rfl;have hgi:=Y6 (r:={ r with es:=pre++Yj core e::post }) hset (pre:=pre) (post:=post) (e:=Yj core e) rfl (o:=0) (c:=I e.p.id) rfl;have hrn:rn ({ r with es:=pre++Yj core e::post } : RS) pre.length=rn r pre.length:=rfl;rw [hrn] at hge hgi;have hwl:((ints (wo core e.p.cores)).length:Int)=((wo core e.p.cores).length:Int):=by simp
  rw [ZlH,Zb (ne1 (ZN r _)),Zb (ne1 (ZN r _)),Y6 h hs (c:=.slice Xe 1 (ints e.p.cores)) rfl,WH,hlen,← hc,if_neg (by simp [cop]),Zb (ne1 (ZN r _)),Zb (ne1 (ZN r _)),Zb (by simp),Zb (ne1 (ZN r _)),Zb (ne1 (ZN r _)),hge,JU,ZaQ (by omega)]
  cases hen:e.p.ended with
  | true =>
   rw [if_neg (by decide),if_neg (by simp)]
  | false =>
   rw [if_pos (by decide),hwl];by_cases hw:wo core e.p.cores = []
   ·rw [if_pos (by rw [hw];rfl),Zb (ne1 (ZN r _)),Zb (ne1 (ZN r _)),hgi,ZL,Zb (by unfold Jp ZF;simp;omega),if_pos ⟨rfl,hw⟩];have:ints acc++(E0++[[AV.val (.int .i64 e.p.id)]])=ints (acc++[e.p.id]):=by simp [ints]
    rw [this]
   ·rw [if_neg (by simp [cop,hw]),if_neg (by simp [hw])]
 | z :: ks, ps, q, hc, hq => by
  obtain ⟨q',rfl⟩:∃ q',q=q'+1:=⟨q-1,by simp at hq;omega⟩;have hz:e.p.cores[ps.length]? = Xa z:=by rw [hc];simp
  have hi2:=(Xk.1 hz).1;have hlen:((ints e.p.cores).length:Int)=(e.p.cores.length:Int):=by simp
  have hl1:((ps++[z]).length:Int)=((ps.length+1:Nat):Int):=by simp
  have ih:=ZrI rec0 (x:=x) h hs core hl acc ha i hi ks (ps++[z]) q' (by rw [hc];simp) (by simp at hq;omega);rw [hl1] at ih;have hwp:=Zsx core ps;rw [ZlH,Zb (ne1 (ZN r _)),Zb (ne1 (ZN r _)),Y6 h hs (c:=.slice Xe 1 (ints e.p.cores)) rfl,WH,hlen,if_pos (by simp [cop];omega),Zb (ne1 (ZN r _)),Zb (ne1 (ZN r _)),WH,Z1 hz,ZaQ (by omega)];by_cases hk:z=core
  ·have e1:wo core (ps++[z])=wo core ps:=by
    unfold wo;rw [UO,X8 (by simp [hk])];simp
   rw [e1] at ih;rw [if_neg (by simp [cop,hk]),ih]
  ·have e1:wo core (ps++[z])=wo core ps++[z]:=by
    unfold wo;rw [UO,Wd (by simp [hk])];simp
   rw [e1] at ih;have e2:ints (wo core ps)++(E0++[[AV.val (.int .i64 z)]])=ints (wo core ps++[z]):=by simp [ints]
   rw [if_pos (by simp [cop,hk]),Zb (ne1 (ZN r _)),Zb (ne1 (ZN r _)),WH,Z1 hz,Zb (by unfold Jp ZF;simp;omega),e2,ih]
theorem ZoP {x:LL} (core:Int):∀ (ks pre:List PE) (rows:LL) (r:RS) (acc:List Int) (q:Nat),r.es=pre++ks→ks.length < q→r.es.length≤64→(∀ e∈ks,e.p.cores.length≤100)→acc.length+ks.length≤64→ZC rows (r.frag++F)→Zd x = .oref (r.jr+1) 0→
  ∃ rows',Zrd q x core (ints acc) (pre.length:Int) rows=ZoC Jl x (ints (acc++Zck core ks)) [] 0 rows'∧ZC rows' (({ r with es:=pre++ks.map (Yj core) } : RS).frag++F)
 | [], pre, rows, r, acc, q, hs, hq, hl, _, _, h, hx => by
  obtain ⟨q',rfl⟩:∃ q',q=q'+1:=⟨q-1,by simp at hq;omega⟩;have hs':=hs;rw [XN] at hs;rw [Zlg,Zb (ne1 (ZE hx)),Zb (ne1 (ZE hx)),KI h hx,Zp rfl,Zb (ne1 (Zau _ _)),YL,hs,if_neg (by simp [cop])];refine ⟨rows,by simp [Zck],?_⟩
  have:({ r with es:=pre++([] : List PE).map (Yj core) } : RS)=r:=by
   obtain ⟨a,b,c,d⟩:=r;simp only [XF] at hs' ⊢;rw [hs']
  rw [this];exact h
 | e :: ks, pre, rows, r, acc, q, hs, hq, hl, hcl, ha, h, hx => by
  obtain ⟨q',rfl⟩:∃ q',q=q'+1:=⟨q-1,by simp at hq;omega⟩;have hel:r.es.length=pre.length+ks.length+1:=by rw [hs];simp;omega
  have hce:=hcl e (by simp);have hal:acc.length+ks.length+1≤64:=by simp at ha;omega
  have hin:=ZrI (F41.lp [0,1,0] 0 r0 q') (x:=x) h hs core hce acc (by omega) pre.length (by omega) e.p.cores [] Jl rfl (by unfold Jl;omega);have hz:((([] : List Int).length:Nat):Int)=0:=rfl;have hw0:ints (wo core [])=E0:=rfl;rw [hz,hw0] at hin;have hset:=ZeI (r:=r) (e':=Yj core e) h hs (o:=3) (c:=.slice Xe 1 (ints (wo core e.p.cores))) (by decide) rfl;rw [Zlg,Zb (ne1 (ZE hx)),Zb (ne1 (ZE hx)),KI h hx,Zp rfl,Zb (ne1 (Zau _ _)),YL,if_pos (by simp [cop];omega),Zb (ne1 (ZE hx)),Zb (ne1 (ZE hx)),Zp rfl,Zb (by omega),YL,Zb (by omega),Zio,hin];have hl1:((pre++[Yj core e]).length:Int)=((pre.length+1:Nat):Int):=by simp
  obtain ⟨rows',t1,t2⟩:=ZoP (x:=x) core ks (pre++[Yj core e]) _ { r with es:=pre++Yj core e::ks } (if e.p.ended=Xe∧wo core e.p.cores = [] then acc++[e.p.id] else acc) q' (by simp) (by simp at hq;omega) (by show (pre++Yj core e::ks).length≤64;rw [Xu,XA];omega) (fun a ha=>hcl a (by simp [ha])) (by split<;>(try simp only [Xu,XA,XW])<;>omega) hset hx;rw [hl1] at t1;refine ⟨rows',?_,?_⟩
  ·show Zrd q' x core _ _ _=_;rw [t1];congr 2;unfold Zck;by_cases hb:e.p.ended=Xe∧wo core e.p.cores = []
   ·rw [if_pos hb,Wd (by simp [hb.1,hb.2])];simp
   ·rw [if_neg hb,X8 (by
     intro hh;rw [Xs] at hh;exact hb ⟨by simpa using hh.1,by simpa using hh.2⟩)]
  ·have:({ ({ r with es:=pre++Yj core e::ks } : RS) with es:=(pre++[Yj core e])++ks.map (Yj core) } : RS) = { r with es:=pre++(e::ks).map (Yj core) }:=by simp
   rw [this] at t2;exact t2
theorem Zb8 (ho:LOk es last) (core:Int):LOk (es.map (Yj core)) last:=ZjI ho (fun _=>rfl) fun e he=>ho.par e he
def Vb (es:List PE) (core:Int):(List PE×List Zi4)×Int:=
 if 0≤core∧core < 32 then (Zi (-2) (es.map (Yj core)) (Zck core es),0) else ((es,[]),1)
theorem s41 {x:LL} (h:ZC rows (r.frag++F)) (ho:LOk r.es r.last) (hx:Zd x = .oref (r.jr+1) 0) {core:Int} (hcl:∀ e∈r.es,e.p.cores.length≤100) :
  ∃ rows' ja' G,g41 x core rows=Xa (ZX (Vb r.es core).1.2,(Vb r.es core).2,rows')∧ZC rows' (({ r with ja:=ja',es:=(Vb r.es core).1.1 } : RS).frag++(G++F)):=by
 have hl:=ho.len;rw [Zum,s54,Xi];unfold Vb;by_cases hr:0≤core∧core < 32
 ·rw [decide_eq_true hr,if_neg (by decide),if_pos hr];obtain ⟨rows1,t1,t2⟩:=ZoP (F:=F) (x:=x) core r.es [] rows r [] Jl rfl (by unfold Jl;omega) hl hcl (by simp;omega) h hx;have hz:((([] : List PE).length:Nat):Int)=0:=rfl;have hi0:(ints ([] : List Int))=E0:=rfl;rw [hz,hi0] at t1;rw [t1];rw [XM] at t2 ⊢
  have hbl:(Zck core r.es).length≤64:=by
   unfold Zck;rw [Xr];exact XI (Un _ _) hl
  obtain ⟨rows2,ja2,G2,q1,q2⟩:=ZjE (x:=x) (zs:=Zck core r.es) (by omega) (Zck core r.es) [] rows1 F { r with es:=r.es.map (Yj core) } [] Jl rfl (by unfold Jl;omega) t2 (Zb8 ho core) hx (by simp;omega);rw [show ((([] : List Int).length:Nat):Int)=0 from rfl] at q1;rw [q1];exact ⟨rows2,ja2,G2,rfl,q2⟩
 ·rw [decide_eq_false hr,if_pos (by decide),if_neg hr];exact ⟨rows,r.ja,[],rfl,h⟩
end
open Go Go.AM Go.Proofs.Ytpjnmgjphfnmmaa
set_option maxRecDepth 100000
structure Rl (a b:PE):Prop where
 id:a.p.id=b.p.id
 parent:a.p.parent=b.p.parent
 ended : a.p.ended = b.p.ended
 status:a.p.status=b.p.status
 waiting:a.p.waiting=b.p.waiting
 cores:a.p.cores.Perm b.p.cores
inductive Sm:List PE→List PE→Prop
 | nil : Sm [] []
 | cons {a b : PE} {l l' : List PE} : Rl a b → Sm l l' → Sm (a :: l) (b :: l')
theorem ZdY {es es':List PE} (h:Sm es es') (k:Int):(es.find? (fun e=>decide (e.p.id=k))=Xc∧es'.find? (fun e=>decide (e.p.id=k))=Xc)∨∃ a b,es.find? (fun e=>decide (e.p.id=k))=Xa a∧es'.find? (fun e=>decide (e.p.id=k))=Xa b∧Rl a b:=by
 induction h with
 | nil => exact .inl ⟨rfl, rfl⟩
 | @cons a b l l' hr _ ih =>
  by_cases hk:a.p.id=k
  ·rw [Tt (by simp [hk]),Tt (by rw [← hr.id];simp [hk])];exact .inr ⟨a,b,rfl,rfl,hr⟩
  ·rw [Tu (by simp [hk]),Tu (by rw [← hr.id];simp [hk])];exact ih
theorem Zm8 {es es':List PE} {f g:PE→PE} (h:Sm es es') (hf:∀ a b,Rl a b→Rl (f a) (g b)):Sm (es.map f) (es'.map g):=by
 induction h with
 | nil => exact .nil
 | cons hr _ ih => exact .cons (hf _ _ hr) ih
theorem Zdw {es es':List PE} {p q:PE→Bool} (h:Sm es es') (hp:∀ a b,Rl a b→p a=q b):Sm (es.filter p) (es'.filter q):=by
 induction h with
 | nil => exact .nil
 | @cons a b l l' hr _ ih =>
  by_cases ha:p a=Xb
  ·rw [Wd ha,Wd (by rw [← hp a b hr];exact ha)];exact .cons hr ih
  ·rw [X8 ha,X8 (by rw [← hp a b hr];exact ha)];exact ih
theorem ZhS {es es':List PE} (h:Sm es es'):(es.map fun e=>e.p.id)=es'.map fun e=>e.p.id:=by
 induction h with
 | nil => rfl
 | cons hr _ ih => rw [Xh, Xh, hr.id, ih]
theorem ZrP {es es':List PE} (h:Sm es es'):es.length=es'.length:=by
 have:=congrArg Xn (ZhS h);simpa using this
theorem ZvI {es es' fs fs':List PE} (h:Sm es es') (h2:Sm fs fs'):Sm (es++fs) (es'++fs'):=by
 induction h with
 | nil => exact h2
 | cons hr _ ih => exact .cons hr ih
theorem ZnE {es es':List PE} (h:Sm es es') {b:PE} (hb:b∈es'):∃ a∈es,Rl a b:=by
 induction h with
 | nil => cases hb
 | @cons a b' l l' hr _ ih =>
  rcases Xq.1 hb with rfl | hb
  ·exact ⟨a,by simp,hr⟩
  ·obtain ⟨c,hc,h1⟩:=ih hb;exact ⟨c,by simp [hc],h1⟩
theorem Zvl {es es':List PE} {p:PE→Bool} (h:Sm es es') (hp:∀ a b,Rl a b→p a=p b):es.any p=es'.any p:=by
 induction h with
 | nil => rfl
 | cons hr _ ih => rw [Tg, Tg, hp _ _ hr, ih]
theorem Zqa {es es':List PE} {p:PE→Bool} (h:Sm es es') (hp:∀ a b,Rl a b→p a=p b):(es.find? p=Xc∧es'.find? p=Xc)∨∃ a b,es.find? p=Xa a∧es'.find? p=Xa b∧Rl a b:=by
 induction h with
 | nil => exact .inl ⟨rfl, rfl⟩
 | @cons a b l l' hr _ ih =>
  by_cases hk:p a=Xb
  ·rw [Tt hk,Tt (by rw [← hp a b hr];exact hk)];exact .inr ⟨a,b,rfl,rfl,hr⟩
  ·rw [Tu hk,Tu (by rw [← hp a b hr];exact hk)];exact ih
theorem ZtE {es es':List PE} (h:Sm es es') (id:Int):Jx es id=Jx es' id:=by
 unfold Jx;exact ZhS (Zdw h fun a b hr=>by rw [hr.parent])
theorem Zo6 {es es':List PE} (h:Sm es es'):∀ (n:Nat) (id:Int),J1 n es id=J1 n es' id
 | 0, _ => rfl
 | n + 1, id => by
  rw [J1,J1,ZtE h];congr 1;funext c;rw [Zo6 h n c]
theorem Zkt {es es':List PE} (h:Sm es es') (id:Int):KP es id=KP es' id:=by
 unfold KP;rcases ZdY h id with ⟨h1,h2⟩ | ⟨a,b,h1,h2,_⟩
 ·rw [h1,h2]
 ·rw [h1,h2,Zo6 h]
theorem Zem {es es':List PE} (h:Sm es es') (k:Int):(Yn es k=Xc∧Yn es' k=Xc)∨∃ a b,Yn es k=Xa a∧Yn es' k=Xa b∧Rl a b:=by
 unfold Yn;rcases ZdY h k with ⟨h1,h2⟩ | ⟨a,b,h1,h2,hr⟩
 ·rw [h1,h2];exact .inl ⟨rfl,rfl⟩
 ·rw [h1,h2];dsimp only;rw [← hr.ended];split
  ·exact .inl ⟨rfl,rfl⟩
  ·exact .inr ⟨a,b,rfl,rfl,hr⟩
def Eqv {α:Type} (x y:List PE×α):Prop:=Sm x.1 y.1∧x.2=y.2
theorem Zpk {es es':List PE} (h:Sm es es') (k:Int) {f:Pr→Pr} (hf:∀ a b:PE,Rl a b→Rl { a with p:=f a.p } { b with p:=f b.p }):Sm (ZcO k f es) (ZcO k f es'):=by
 refine Zm8 h fun a b hr=>?_;by_cases hk:a.p.id=k
 ·rw [if_pos hk,if_pos (hr.id ▸ hk)];exact hf a b hr
 ·rw [if_neg hk,if_neg (hr.id ▸ hk)];exact hr
theorem Zne {es es':List PE} (h:Sm es es') (k:Int) {f g:PE→PE} (hf:∀ a b:PE,Rl a b→Rl (f a) (g b)):Sm (Yp k f es) (Yp k g es'):=by
 refine Zm8 h fun a b hr=>?_;by_cases hk:a.p.id=k
 ·rw [if_pos hk,if_pos (hr.id ▸ hk)];exact hf a b hr
 ·rw [if_neg hk,if_neg (hr.id ▸ hk)];exact hr
theorem Zsv {es es':List PE} (h:Sm es es') (k:Int):Sm (Wq k es) (Wq k es'):=Zdw h fun a b hr=>by rw [hr.id]
theorem ZpO {es es':List PE} (h:Sm es es') (par:Int) {c c':Pr} (h1:c.id=c'.id) (h2:c.status=c'.status):Eqv (Ym es par c) (Ym es' par c'):=by
 unfold Ym;rcases ZdY h par with ⟨q1,q2⟩ | ⟨a,b,q1,q2,hr⟩
 ·rw [q1,q2];exact ⟨h,rfl⟩
 ·rw [q1,q2];dsimp only;rw [← hr.waiting];split
  ·refine ⟨?_,by dsimp only;rw [h1,h2]⟩;dsimp only;rw [h1];exact Zsv (Zpk h par fun a b hr=>⟨hr.id,hr.parent,hr.ended,hr.status,rfl,hr.cores⟩) _
  ·exact ⟨h,rfl⟩
theorem Ztz {es es':List PE} (h:Sm es es') (pid k:Int):Eqv (ZQ pid es k) (ZQ pid es' k):=by
 unfold ZQ;rcases ZdY h k with ⟨q1,q2⟩ | ⟨a,b,q1,q2,hr⟩
 ·rw [q1,q2];exact ⟨h,rfl⟩
 ·rw [q1,q2];dsimp only;rw [← hr.parent,← hr.ended];have hu:=Zpk h k (f:=fun q=>{ q with parent:=1 }) fun a b hr=>⟨hr.id,rfl,hr.ended,hr.status,hr.waiting,hr.cores⟩;split
  ·split
   ·exact ZpO hu 1 hr.id hr.status
   ·exact ⟨hu,rfl⟩
  ·exact ⟨h,rfl⟩
theorem Zpm (pid:Int):∀ (ks:List Int) {es es':List PE},Sm es es'→Eqv (ZV pid es ks) (ZV pid es' ks)
 | [], _, _, h => ⟨h, rfl⟩
 | k :: ks, es, es', h => by
  obtain ⟨h1,h2⟩:=Ztz h pid k;obtain ⟨h3,h4⟩:=Zpm pid ks h1;exact ⟨h3,by simp only [ZV,h2,h4]⟩
theorem Zss {es es':List PE} (h:Sm es es') (pid st:Int):Eqv (Kf es pid st) (Kf es' pid st):=by
 unfold Kf;rcases ZdY h pid with ⟨q1,q2⟩ | ⟨a,b,q1,q2,hr⟩
 ·rw [q1,q2];exact ⟨h,rfl⟩
 ·rw [q1,q2];dsimp only;have hu:Sm (Yp pid (Yk st) es) (Yp pid (Yk st) es'):=Zne h pid fun a b hr=>⟨hr.id,hr.parent,rfl,rfl,rfl,List.Perm.refl _⟩;split
  ·exact ⟨hu,rfl⟩
  ·rw [← ZhS h,← hr.parent];obtain ⟨h1,h2⟩:=Zpm pid (es.map fun e=>e.p.id) hu;obtain ⟨h3,h4⟩:=ZpO h1 a.p.parent (c:=(Yk st a).p) (c':=(Yk st b).p) hr.id rfl;exact ⟨h3,by dsimp only;rw [h2,h4]⟩
theorem Zbt (st:Int):∀ (zs:List Int) {es es':List PE},Sm es es'→Eqv (Zi st es zs) (Zi st es' zs)
 | [], _, _, h => ⟨h, rfl⟩
 | z :: zs, es, es', h => by
  rcases Zem h z with ⟨q1,q2⟩ | ⟨a,b,q1,q2,hr⟩
  ·simp only [Zi,q1,q2];exact Zbt st zs h
  ·simp only [Zi,q1,q2];obtain ⟨h1,h2⟩:=Zss h z st;obtain ⟨h3,h4⟩:=Zbt st zs h1;exact ⟨h3,by dsimp only;rw [h2,h4]⟩
theorem Ztb {es es':List PE} (h:Sm es es') (k st:Int):Eqv (KW es k st).1 (KW es' k st).1∧(KW es k st).2=(KW es' k st).2:=by
 unfold KW;rcases Zem h k with ⟨q1,q2⟩ | ⟨a,b,q1,q2,hr⟩
 ·rw [q1,q2];exact ⟨⟨h,rfl⟩,rfl⟩
 ·rw [q1,q2];dsimp only;split
  ·exact ⟨⟨h,rfl⟩,rfl⟩
  ·split
   ·exact ⟨⟨h,rfl⟩,rfl⟩
   ·exact ⟨Zss h k st,rfl⟩
theorem ZsW {es es':List PE} (h:Sm es es') (id t:Int):Eqv (Vx es id t).1 (Vx es' id t).1∧(Vx es id t).2=(Vx es' id t).2:=by
 unfold Vx;rcases Zem h id with ⟨q1,q2⟩ | ⟨a,b,q1,q2,hr⟩
 ·rw [q1,q2];exact ⟨⟨h,rfl⟩,rfl⟩
 ·rw [q1,q2];dsimp only;rcases Zem h t with ⟨q1,q2⟩ | ⟨a,b,q1,q2,hr⟩
  ·rw [q1,q2];exact ⟨⟨h,rfl⟩,rfl⟩
  ·rw [q1,q2];dsimp only;rw [← Zkt h id,← Zkt h t];split
   ·exact ⟨Zbt (-1) _ h,rfl⟩
   ·exact ⟨⟨h,rfl⟩,rfl⟩
theorem ZtB {es es':List PE} (h:Sm es es') (k:Int):Eqv (YD es k) (YD es' k):=by
 unfold YD;rcases Zem h k with ⟨q1,q2⟩ | ⟨a,b,q1,q2,hr⟩
 ·rw [q1,q2];exact ⟨h,rfl⟩
 ·rw [q1,q2];dsimp only;rw [← hr.waiting];split
  ·exact ⟨h,rfl⟩
  ·rcases Zqa h (p:=fun e=>decide (e.p.parent=k)&&e.p.ended) (fun a b hr=>by rw [hr.parent,hr.ended]) with ⟨q1,q2⟩ | ⟨c,d,q1,q2,hc⟩
   ·rw [q1,q2];dsimp only;rw [← Zvl h (p:=fun e=>decide (e.p.parent=k)) fun a b hr=>by rw [hr.parent]];split
    ·exact ⟨Zpk h k (f:=fun q=>{ q with waiting:=Xb }) fun a b hr=>⟨hr.id,hr.parent,hr.ended,hr.status,rfl,hr.cores⟩,rfl⟩
    ·exact ⟨h,rfl⟩
   ·rw [q1,q2];dsimp only;rw [← hc.id,← hc.status];exact ⟨Zsv h _,rfl⟩
theorem ZgY {es es':List PE} (h:Sm es es') (parent core:Int) (nm:Bool):YR es parent core nm=YR es' parent core nm:=by
 unfold YR;rcases Zem h parent with ⟨q1,q2⟩ | ⟨a,b,q1,q2,hr⟩
 ·rw [q1,q2]
 ·rw [q1,q2,ZrP h]
theorem Zjw {es es':List PE} (h:Sm es es') (k core:Int):VV es k core=VV es' k core:=by
 unfold VV;rcases Zem h k with ⟨q1,q2⟩ | ⟨a,b,q1,q2,hr⟩
 ·rw [q1,q2]
 ·rw [q1,q2];dsimp only;simp only [hr.cores.mem_iff]
theorem Zri {es es':List PE} (h:Sm es es') (k core:Int) (L:Nat):Sm (Yp k (ZaF L core) es) (Yp k (ZnV core) es'):=
 Zne h k fun a b hr=>⟨hr.id,hr.parent,hr.ended,hr.status,hr.waiting,(KX _).trans (hr.cores.append_right _)⟩
theorem Zn8 {core:Int} {a b:List Int} (h:a.Perm b):(wo core a).Perm (wo core b):=h.filter _
theorem ZuA {es es':List PE} (h:Sm es es') (core:Int):Sm (es.map (Yj core)) (es'.map (Yj core)):=
 Zm8 h fun a b hr=>⟨hr.id,hr.parent,hr.ended,hr.status,hr.waiting,Zn8 hr.cores⟩
theorem Zq1 {es es':List PE} (h:Sm es es') (core:Int):Zck core es=Zck core es':=by
 unfold Zck;refine ZhS (Zdw h fun a b hr=>?_)
 have hw:wo core a.p.cores = []↔wo core b.p.cores = []:=by
  have:=(Zn8 (core:=core) hr.cores).length_eq;rw [← TE,← TE,this]
 rw [hr.ended,decide_eq_decide.2 hw]
def Org (es es':List PE):Prop:=∀ e'∈es',∃ e∈es,e.p.id=e'.p.id∧(e.p.ended=Xb→e'.p.ended=Xb)
theorem VX (es:List PE):Org es es:=fun e he=>⟨e,he,rfl,id⟩
theorem KJ {a b c:List PE} (h:Org a b) (h2:Org b c):Org a c:=fun e he=>by
 obtain ⟨d,hd,h3,h4⟩:=h2 e he;obtain ⟨f,hf,h5,h6⟩:=h d hd;exact ⟨f,hf,h5.trans h3,fun hh=>h4 (h6 hh)⟩
theorem ZpI (es:List PE) (k:Int) {f:Pr→Pr} (hid:∀ q,(f q).id=q.id) (hen:∀ q,q.ended=Xb→(f q).ended=Xb):Org es (ZcO k f es):=fun e he=>by
 obtain ⟨a,ha,rfl⟩:=Xj.1 he;refine ⟨a,ha,?_⟩;split
 ·exact ⟨(hid a.p).symm,hen a.p⟩
 ·exact ⟨rfl,id⟩
theorem ZkG (es:List PE) (k st:Int):Org es (Yp k (Yk st) es):=fun e he=>by
 obtain ⟨a,ha,rfl⟩:=Xj.1 he;refine ⟨a,ha,?_⟩;split
 ·exact ⟨rfl,fun _=>rfl⟩
 ·exact ⟨rfl,id⟩
theorem ZtO (es:List PE) (k:Int):Org es (Wq k es):=fun e he=>⟨e,(We.1 he).1,rfl,id⟩
theorem Zgd (es:List PE) (par:Int) (c:Pr):Org es (Ym es par c).1:=by
 unfold Ym;split
 ·split
  ·exact KJ (ZpI es par (f:=fun q=>{ q with waiting:=Xe }) (fun _=>rfl) fun _ h=>h) (ZtO _ _)
  ·exact VX es
 ·exact VX es
theorem Zqw (es:List PE) (pid k:Int):Org es (ZQ pid es k).1:=by
 unfold ZQ;split
 ·split
  ·have hu:=ZpI es k (f:=fun q=>{ q with parent:=1 }) (fun _=>rfl) fun _ h=>h;split
   ·exact KJ hu (Zgd _ _ _)
   ·exact hu
  ·exact VX es
 ·exact VX es
theorem ZgK (pid:Int):∀ (ks:List Int) (es:List PE),Org es (ZV pid es ks).1
 | [], es => VX es
 | k :: ks, es => KJ (Zqw es pid k) (ZgK pid ks _)
theorem ZoF (es:List PE) (pid st:Int):Org es (Kf es pid st).1:=by
 unfold Kf;split
 ·split
  ·exact ZkG es pid st
  ·exact KJ (ZkG es pid st) (KJ (ZgK pid _ _) (Zgd _ _ _))
 ·exact VX es
theorem Zc1 {es es':List PE} (hs:es.Pairwise fun a b=>a.p.id < b.p.id) (h:Org es es') {z:Int} (hz:Yn es z=Xc):Yn es' z=Xc:=by
 unfold Yn
 cases hf:es'.find? (fun e=>decide (e.p.id=z)) with
 | none => rfl
 | some e' =>
  dsimp only;obtain ⟨e,he,h1,h2⟩:=h e' (Ue hf);have hid:e'.p.id=z:=by have:=Wt hf;simpa using this
  have hfe:=Ju hs he;rw [h1,hid] at hfe;unfold Yn at hz;rw [hfe] at hz;dsimp only at hz
  have:e.p.ended=Xb:=by
   cases hen:e.p.ended with
   | true => rfl
   | false => rw [hen] at hz; simp at hz
  rw [if_pos (h2 this)]
theorem V6 {last st:Int} {p:Int→Bool} : ∀ (zs:List Int) (es:List PE),LOk es last→(∀ z∈zs,p z=Xe→Yn es z=Xc)→Zi st es (zs.filter p)=Zi st es zs
 | [], _, _, _ => rfl
 | z :: zs, es, ho, h => by
  by_cases hp:p z=Xb
  ·rw [Wd hp]
   cases hr:Yn es z with
   | none =>
    simp only [Zi,hr];exact V6 zs es ho fun y hy=>h y (by simp [hy])
   | some e =>
    have ih:=V6 (st:=st) zs (Kf es z st).1 (Ve ho) fun y hy hpy=>Zc1 ho.srt (ZoF es z st) (h y (by simp [hy]) hpy);simp only [Zi,hr,ih]
  ·rw [X8 hp];have hr:=h z (by simp) (by simpa using hp);have ih:=V6 (st:=st) zs es ho fun y hy=>h y (by simp [hy]);rw [ih];simp only [Zi,hr]
theorem del_run {es:List PE} (hs:es.Pairwise fun a b=>a.p.id < b.p.id) (core:Int) {e:PE} (he:e∈es) (hen:e.p.ended=Xb):Yn (es.map (Yj core)) e.p.id=Xc:=by
 have hs2:(es.map (Yj core)).Pairwise fun a b=>a.p.id < b.p.id:=by
  rw [Uy];exact hs
 have:=Ju hs2 (e:=Yj core e) (Xj.2 ⟨e,he,rfl⟩);unfold Yn;have hid:(Yj core e).p.id=e.p.id:=rfl;rw [hid] at this;rw [this];dsimp only;rw [if_pos (by exact hen)]
theorem Zou {es:List PE} {last:Int} (ho:LOk es last) (core:Int):YP es core=Vb es core:=by
 unfold YP Vb;split
 ·congr 1
  have hb:Zck core es=(Zez core es).filter fun z=>(Yn es z).isSome:=by
   unfold Zez Zck;rw [List.filter_map,List.filter_filter];congr 1;refine List.filter_congr fun e he=>?_;have hf:=Ju ho.srt he
   have:(Yn es e.p.id).isSome = !e.p.ended:=by
    unfold Yn;rw [hf];dsimp only
    cases e.p.ended<;>rfl
   show _=((Yn es e.p.id).isSome&&decide (wo core e.p.cores = []));rw [this]
  rw [hb];refine (V6 (last:=last) _ _ (Zb8 ho core) fun z hz hp=>?_).symm;obtain ⟨e,he,rfl⟩:=Xj.1 hz;rw [We] at he;have hf:=Ju ho.srt he.1;refine del_run ho.srt core he.1 ?_
  cases hen:e.p.ended with
  | true => rfl
  | false =>
   unfold Yn at hp;rw [hf] at hp;dsimp only at hp;rw [hen] at hp;simp at hp
 ·rfl
section
open Go Go.AM Go.Proofs.Ytpjnmgjphfnmmaa
set_option maxRecDepth 100000
def FR (K:List Int) (st:Int) (e e':PE):Prop:=e.p.id=e'.p.id∧((e'.p.ended=e.p.ended∧e'.p.status=e.p.status∧e'.p.cores=e.p.cores)∨(e.p.id∈K∧e.p.ended=Xe∧e'.p.ended=Xb∧e'.p.status=st∧e'.p.cores = []))
def Fra (K:List Int) (st:Int) (es es':List PE):Prop:=∀ e'∈es',∃ e∈es,FR K st e e'
variable {st last:Int} {es es' es2:List PE} {K K':List Int}
theorem FR.refl (e:PE):FR K st e e:=⟨rfl,.inl ⟨rfl,rfl,rfl⟩⟩
theorem Kv (es:List PE):Fra K st es es:=fun e he=>⟨e,he,FR.refl e⟩
theorem Zf7 (h:Fra K st es es') (hk:∀ z∈K,z∈K'):Fra K' st es es':=fun e he=>by
 obtain ⟨d,hd,h1,h2⟩:=h e he;exact ⟨d,hd,h1,h2.imp id fun ⟨a,b⟩=>⟨hk _ a,b⟩⟩
theorem Vz (h:Fra K st es es') (h2:Fra K st es' es2):Fra K st es es2:=fun e he=>by
 obtain ⟨d,hd,h3,h4⟩:=h2 e he;obtain ⟨f,hf,h5,h6⟩:=h d hd;refine ⟨f,hf,h5.trans h3,?_⟩;rcases h4 with ⟨a,b,c⟩ | ⟨a,b,c⟩
 ·rcases h6 with ⟨p,q,r⟩ | ⟨p,q,r,s,t⟩
  ·exact .inl ⟨a.trans p,b.trans q,c.trans r⟩
  ·exact .inr ⟨p,q,a.trans r,b.trans s,c.trans t⟩
 ·rcases h6 with ⟨p,q,r⟩ | ⟨p,q,r,s,t⟩
  ·exact .inr ⟨by rw [h5];exact a,by rw [← p];exact b,c⟩
  ·rw [r] at b
   cases b
theorem ZwR (hs:es.Pairwise fun a b=>a.p.id < b.p.id) {a b:PE} (ha:a∈es) (hb:b∈es) (h:a.p.id=b.p.id):a=b:=by
 have h1:=Ju hs ha;have h2:=Ju hs hb;rw [h,h2] at h1;exact (Option.some.inj h1).symm
theorem ZiP (es:List PE) (k:Int) {f:Pr→Pr} (h:∀ q,(f q).id=q.id∧(f q).ended=q.ended∧(f q).status=q.status∧(f q).cores=q.cores):Fra K st es (ZcO k f es):=fun e he=>by
 obtain ⟨a,ha,rfl⟩:=Xj.1 he;refine ⟨a,ha,?_⟩;split
 ·obtain ⟨h1,h2,h3,h4⟩:=h a.p;exact ⟨h1.symm,.inl ⟨h2,h3,h4⟩⟩
 ·exact FR.refl a
theorem ZoT (es:List PE) (k:Int):Fra K st es (Wq k es):=fun e he=>⟨e,(We.1 he).1,FR.refl e⟩
theorem Zlh (es:List PE) (par:Int) (c:Pr):Fra K st es (Ym es par c).1:=by
 unfold Ym;split
 ·split
  ·exact Vz (ZiP es par (f:=fun q=>{ q with waiting:=Xe }) fun _=>⟨rfl,rfl,rfl,rfl⟩) (ZoT _ _)
  ·exact Kv es
 ·exact Kv es
theorem Zrr (es:List PE) (pid k:Int):Fra K st es (ZQ pid es k).1:=by
 unfold ZQ;split
 ·split
  ·have hu:=ZiP (K:=K) (st:=st) es k (f:=fun q=>{ q with parent:=1 }) fun _=>⟨rfl,rfl,rfl,rfl⟩;split
   ·exact Vz hu (Zlh _ _ _)
   ·exact hu
  ·exact Kv es
 ·exact Kv es
theorem Zkn (pid:Int):∀ (ks:List Int) (es:List PE),Fra K st es (ZV pid es ks).1
 | [], es => Kv es
 | k :: ks, es => Vz (Zrr es pid k) (Zkn pid ks _)
theorem ZiR (ho:LOk es last) {k:Int} {e:PE} (hr:Yn es k=Xa e) (st:Int):Fra [k] st es (Kf es k st).1:=by
 obtain ⟨hf,hen⟩:=Je hr;have hem:=Ue hf;have hek:e.p.id=k:=by have:=Wt hf;simpa using this
 have hu:Fra [k] st es (Yp k (Yk st) es):=fun a ha=>by
  obtain ⟨b,hb,rfl⟩:=Xj.1 ha;refine ⟨b,hb,?_⟩;split
  ·rename_i hbk;have:b=e:=ZwR ho.srt hb hem (hbk.trans hek.symm);subst this;exact ⟨rfl,.inr ⟨by simp [hbk],hen,rfl,rfl,rfl⟩⟩
  ·exact FR.refl b
 unfold Kf;rw [hf];dsimp only;split
 ·exact hu
 ·exact Vz hu (Vz (Zkn k _ _) (Zlh _ _ _))
theorem Zta (ho:LOk es last) (k st:Int):Yn (Kf es k st).1 k=Xc:=by
 unfold Kf
 cases hf:es.find? (fun e=>decide (e.p.id=k)) with
 | none =>
  dsimp only;unfold Yn;rw [hf]
 | some e =>
  dsimp only;have hek:e.p.id=k:=by have:=Wt hf;simpa using this
  have hlu:LOk (Yp k (Yk st) es) last:=ZcX ho (fun _=>rfl) fun _=>rfl
  have hu:Yn (Yp k (Yk st) es) k=Xc:=by
   have:=Zdd (k:=k) (f:=Yk st) (fun _=>rfl) hf;rw [if_pos hek] at this;unfold Yn;rw [this];rfl
  split
  ·exact hu
  ·exact Zc1 hlu.srt (KJ (ZgK k _ _) (Zgd _ _ _)) hu
theorem W4 (st:Int):∀ (zs:List Int) (es:List PE),Org es (Zi st es zs).1
 | [], es => VX es
 | z :: zs, es => by
  unfold Zi;split
  ·exact KJ (ZoF es z st) (W4 st zs _)
  ·exact W4 st zs es
theorem KB (st:Int):∀ (zs:List Int) (es:List PE),LOk es last→Fra zs st es (Zi st es zs).1
 | [], es, _ => Kv es
 | z :: zs, es, ho => by
  cases hr:Yn es z with
  | none =>
   simp only [Zi,hr];exact Zf7 (KB st zs es ho) fun y hy=>by simp [hy]
  | some e =>
   simp only [Zi,hr];exact Vz (Zf7 (ZiR ho hr st) fun y hy=>by simp at hy;simp [hy]) (Zf7 (KB st zs _ (Ve ho)) fun y hy=>by simp [hy])
theorem Zci (st:Int):∀ (zs:List Int) (es:List PE),LOk es last→∀ z∈zs,Yn (Zi st es zs).1 z=Xc
 | [], _, _, _, h => by cases h
 | y :: zs, es, ho, z, hz => by
  cases hr:Yn es y with
  | none =>
   simp only [Zi,hr];rcases Xq.1 hz with rfl | hz
   ·exact Zc1 ho.srt (W4 st zs es) hr
   ·exact Zci st zs es ho z hz
  | some e =>
   simp only [Zi,hr];rcases Xq.1 hz with rfl | hz
   ·exact Zc1 (Ve ho).srt (W4 st zs _) (Zta ho z st)
   ·exact Zci st zs _ (Ve ho) z hz
end
section
open Go Go.AM Go.Proofs.Ytpjnmgjphfnmmaa
set_option maxRecDepth 100000
variable {rows:LL} {F:JZ}
theorem Zfc (x:Int) {n:Int} (m0:0 < n) (m1:n≤1073741824):∃ a,g9 x n=Xa a∧0≤a∧a < n:=by
 have hr:iop .rem .i64 x n=Int.tmod x n:=rfl;have h1:=Int.tmod_lt_of_pos x m0
 have h2 : -n < Int.tmod x n:=by
  have:=Int.tmod_lt_of_pos (-x) m0;rw [Int.neg_tmod] at this;omega
 rw [Zws,hr,Zb (by omega)];by_cases hn:Int.tmod x n < 0
 ·rw [if_pos (by simp [cop,hn]),Zoa (by omega) (by omega)];exact ⟨_,rfl,by omega,by omega⟩
 ·rw [if_neg (by simp [cop];omega)];exact ⟨_,rfl,by omega,by omega⟩
def CO (es:List PE):Prop:=∀ e∈es,e.p.cores.Pairwise (fun a b=>a < b)∧∀ z∈e.p.cores,0≤z∧z < 32
theorem Zm7:∀ (l:List Int) (a:Int),l.Pairwise (fun a b=>a < b)→(∀ z∈l,a≤z∧z < 32)→a≤32→(l.length:Int)≤32-a
 | [], a, _, _, ha => by simp; omega
 | z :: l, a, hs, hr, ha => by
  rw [Um] at hs;have h1:=hr z (by simp);have:=Zm7 l (z+1) hs.2 (fun y hy=>⟨by have:=hs.1 y hy;omega,(hr y (by simp [hy])).2⟩) (by omega);simp only [XA];omega
theorem ZrX {es:List PE} (h:CO es):∀ e∈es,e.p.cores.length≤32:=fun e he=>by
 obtain ⟨h1,h2⟩:=h e he;have:=Zm7 _ 0 h1 h2 (by decide);omega
theorem ZkJ {K:List Int} {st:Int} {es es':List PE} (h:CO es) (hf:Fra K st es es'):CO es':=fun e he=>by
 obtain ⟨a,ha,_,h1⟩:=hf e he;rcases h1 with ⟨_,_,h1⟩ | ⟨_,_,_,_,h1⟩
 ·rw [h1];exact h a ha
 ·rw [h1];exact ⟨List.Pairwise.nil,fun z hz=>by cases hz⟩
theorem Zu5 {es:List PE} (h:CO es) (core:Int):CO (es.map (Yj core)):=fun e he=>by
 obtain ⟨a,ha,rfl⟩:=Xj.1 he;obtain ⟨h1,h2⟩:=h a ha;exact ⟨h1.filter _,fun z hz=>h2 z (We.1 hz).1⟩
theorem ZsS {zs:List Int} (h:zs.Nodup):(srt zs).Pairwise fun a b=>a < b:=by
 have h1:=W1 zs
 have h2:(srt zs).Pairwise (fun a b=>a≠b):=by
  have:=(KX zs).nodup_iff.2 h;exact U1.1 this
 exact (h1.and h2).imp fun ⟨a,b⟩=>by omega
inductive Stp (es:List PE) (last:Int):List PE→Int→Prop
 | same : Stp es last es last
 | spawn (e' p : PE) (parent core : Int) (nm : ByteArray) : Yn es parent = Xa p → (0 ≤ core ∧ core < 32) → e'.p = ⟨last + 1, parent, nm, [core], Xe, 0, Xe⟩ → Stp es last (es ++ [e']) (last + 1)
 | span (k core : Int) (L : Nat) (e : PE) : Yn es k = Xa e → core ∉ e.p.cores → (0 ≤ core ∧ core < 32) → Stp es last (Yp k (ZaF L core) es) last
 | exit (k st : Int) (e : PE) : Yn es k = Xa e → Stp es last (Kf es k st).1 last
 | kill (zs : List Int) : Stp es last (Zi (-1) es zs).1 last
 | wait (k : Int) : Stp es last (YD es k).1 last
 | depart (core : Int) : (0 ≤ core ∧ core < 32) → Stp es last (Zi (-2) (es.map (Yj core)) (Zez core es)).1 last
theorem Zrp {es:List PE} {last:Int} (h:LOk es last) (k:Int):LOk (YD es k).1 last:=by
 unfold YD
 cases hr:Yn es k with
 | none => exact h
 | some p =>
  obtain ⟨hf,_⟩:=Je hr;have hpk:p.p.id=k:=by have:=Wt hf;simpa using this
  have hpr:=h.rng p (Ue hf);dsimp only;split
  ·exact h
  ·split
   ·rename_i c hc;have hcm:=Ue hc
    have hcp:c.p.parent=k:=by
     have:=Wt hc;rw [Xs] at this;simpa using this.1
    have:=h.par c hcm;exact Zjs h (by omega)
   ·split
    ·exact Zdk (f:=fun q=>{ q with waiting:=Xb }) h (fun _=>rfl) fun e he _=>h.par e he
    ·exact h
theorem Zkf (es:List PE) (k:Int) {K:List Int} {st:Int} : Fra K st es (YD es k).1:=by
 unfold YD;split
 ·exact Kv es
 ·split
  ·exact Kv es
  ·split
   ·exact ZoT _ _
   ·split
    ·exact ZiP es k (f:=fun q=>{ q with waiting:=Xb }) fun _=>⟨rfl,rfl,rfl,rfl⟩
    ·exact Kv es
theorem Ztn {es es':List PE} {last last':Int} (h:LOk es last) (s:Stp es last es' last'):∃ e∈es',e.p.id=1:=by
 cases s with
 | same => exact h.one
 | spawn e' p parent core nm _ _ _ =>
  obtain ⟨e,he,h1⟩:=h.one;exact ⟨e,by simp [he],h1⟩
 | span k core L e _ _ _ => exact (ZcX (f := ZaF L core) h (fun _ => rfl) fun _ => rfl).one
 | exit k st e _ => exact (Ve h).one
 | kill zs => exact (VB zs _ h).one
 | wait k => exact (Zrp h k).one
 | depart core _ => exact (VB _ _ (Zb8 h core)).one
theorem Zul {es es':List PE} {last last':Int} (h:LOk es last) (hc:CO es) (s:Stp es last es' last'):CO es':=by
 cases s with
 | same => exact hc
 | spawn e' p parent core nm _ h1 h2 =>
  intro e he;rcases Xv.1 he with he | he
  ·exact hc e he
  ·rw [XE] at he;rw [he,h2];exact ⟨TB _ _,fun z hz=>by rw [XE] at hz;omega⟩
 | span k core L e h1 h2 h3 =>
  intro a ha;obtain ⟨b,hb,rfl⟩:=Xj.1 ha;split
  ·rename_i hbk;obtain ⟨hf,_⟩:=Je h1;have hek:e.p.id=k:=by have:=Wt hf;simpa using this
   have:b=e:=ZwR h.srt hb (Ue hf) (hbk.trans hek.symm);subst this;obtain ⟨c1,c2⟩:=hc b hb;refine ⟨ZsS ?_,fun z hz=>?_⟩
   ·rw [List.nodup_append];refine ⟨U1.2 (c1.imp fun hh=>by omega),by simp,fun x hx y hy=>?_⟩;rw [XE] at hy;intro hh;rw [hy] at hh;exact h2 (hh ▸ hx)
   ·have:=(KX (b.p.cores++[core])).mem_iff.1 hz;rcases Xv.1 this with hz | hz
    ·exact c2 z hz
    ·rw [XE] at hz;omega
  ·exact hc b hb
 | exit k st e h1 => exact ZkJ hc (ZiR h h1 st)
 | kill zs => exact ZkJ hc (KB (-1) zs es h)
 | wait k => exact ZkJ (K := []) (st := 0) hc (Zkf es k)
 | depart core _ => exact ZkJ (Zu5 hc core) (KB (-2) _ _ (Zb8 h core))
structure Bo (rows:LL) (m:MS) (r:RS) (F:JZ):Prop where
 h:ZC rows (m.frag++(r.frag++F))
 ok:m.Ok
 sm:Sm m.es r.es
 lst:m.last=r.last
 lok:LOk m.es m.last
 co:CO m.es
theorem Zr3 {m:MS} (hm:m.Ok) (h:∃ e∈m.es,e.p.id=1):LOk m.es m.last:=⟨hm.srt,hm.rng,hm.par,hm.len,hm.lst,h⟩
theorem Zr0 {es es':List PE} {last:Int} (h:LOk es last) (s:Sm es es'):LOk es' last:=by
 have hids:=ZhS s;refine ⟨?_,fun b hb=>?_,fun b hb=>?_,by rw [← ZrP s];exact h.len,h.lst,?_⟩
 ·have h1:=h.srt;rw [← Uy (f:=fun e:PE=>e.p.id) (R:=fun a b=>a < b)] at h1 ⊢;rw [← hids];exact h1
 ·obtain ⟨a,ha,hr⟩:=ZnE s hb;rw [← hr.id];exact h.rng a ha
 ·obtain ⟨a,ha,hr⟩:=ZnE s hb;rw [← hr.id,← hr.parent];exact h.par a ha
 ·obtain ⟨a,ha,h1⟩:=h.one
  have:(1:Int)∈es'.map fun e=>e.p.id:=by
   rw [← hids];exact Xj.2 ⟨a,ha,h1⟩
  obtain ⟨b,hb,h2⟩:=Xj.1 this;exact ⟨b,hb,h2⟩
theorem mvR {A R F1 F:JZ} (h:ZC rows (A++(F1++(R++F)))):ZC rows (R++(A++(F1++F))):=by
 rw [← Xo] at h;have:=h.perm (X4 (A++F1) R F);rw [Xo] at this;exact this
theorem mvM {A R G F:JZ} (h:ZC rows (R++(G++(A++F)))):ZC rows (A++(R++(G++F))):=mvR h
theorem Bo.step {m m':MS} {r r':RS} {F F':JZ} {rows rows':LL} (b:Bo rows m r F) (h:ZC rows' (m'.frag++(r'.frag++F'))) (hm:m'.Ok) (hs:Sm m'.es r'.es) (hl:m'.last=r'.last) (st:Stp m.es m.last m'.es m'.last):Bo rows' m' r' F':=
 ⟨h,hm,hs,hl,Zr3 hm (Ztn b.lok st),Zul b.lok b.co st⟩
theorem ZeV {γ:Type} {l:List Zi4} {i:Nat} {a:Zi4} (h:l[i]? = Xa a) (k:Int×Int×Int→Option γ):Zk (ZX l) (i:Int) [.int .i64,.int .i64,.int .i64] k=k (a.1,a.2.1,a.2.2):=
 YM (l:=ZX l) (sh:=[.int .i64,.int .i64,.int .i64]) (cs:=[I a.1,I a.2.1,I a.2.2]) (r:=(a.1,a.2.1,a.2.2)) k (by omega) (by rw [Wv];simp only [ZX,Xl,h,Xw]) rfl
theorem Zkl (l:List Zi4) (hl:l.length≤1000000):∀ (d i k:Nat),i+d=l.length→d < k→Zqd k (ZX l) (ZX l) (i:Int)=Xa Xb
 | 0, i, k, hd, hk => by
  obtain ⟨k',rfl⟩:∃ k',k=k'+1:=⟨k-1,by omega⟩;have hlen:((ZX l).length:Int)=(l.length:Int):=by simp [ZX]
  rw [Zlt,hlen,if_neg (by simp [cop];omega)]
 | d + 1, i, k, hd, hk => by
  obtain ⟨k',rfl⟩:∃ k',k=k'+1:=⟨k-1,by omega⟩;have hlen:((ZX l).length:Int)=(l.length:Int):=by simp [ZX]
  have hi:i < l.length:=by omega
  have hz:=Xp hi;rw [Zlt,hlen,if_pos (by simp [cop];omega),ZeV hz,ZeV hz,ZaQ (by omega),if_neg (by simp [cop])];exact Zkl l hl d (i+1) k' (by omega) (by omega)
theorem s38 (l:List Zi4) (hl:l.length≤1000000):g38 (ZX l) (ZX l)=Xa Xb:=by
 rw [Zv0,if_neg (by simp [cop])];exact Zkl l hl l.length 0 Jl (by omega) (by unfold Jl;omega)
theorem W0 (st:Int):∀ (zs:List Int) (es:List PE) (last:Int),LOk es last→(Zi st es zs).2.length≤65*zs.length
 | [], _, _, _ => Xy _
 | z :: zs, es, last, ho => by
  have hl:=ho.len
  cases hr:Yn es z with
  | none =>
   simp only [Zi,hr,XA];have:=W0 st zs es last ho;omega
  | some e =>
   simp only [Zi,hr,XA,Xu];have:=W0 st zs _ last (Ve (pid:=z) (st:=st) ho);have:=Zcc es z st;omega
theorem s33 (a b c d:Int) (raw:Bool) (nm:ByteArray):∃ p q u v w,g33 a b c d raw nm=Xa (p,q,u,v,w)∧ByteArray.size w≤60:=by
 obtain ⟨y1,e1,_,_⟩:=Zfc b (n:=8) (by decide) (by decide);obtain ⟨y2,e2,_,_⟩:=Zfc c (n:=8) (by decide) (by decide);obtain ⟨y3,e3,_,_⟩:=Zfc d (n:=3) (by decide) (by decide);obtain ⟨y4,e4,_,_⟩:=Zfc c (n:=256) (by decide) (by decide);rw [ZuC,e1,e2,e3,e4]
 cases raw with
 | false => exact ⟨_, _, _, _, _, rfl, by decide⟩
 | true =>
  rw [if_pos rfl];by_cases h:nm.size≤60
  ·rw [if_pos (by simp [cop];omega)];exact ⟨_,_,_,_,_,rfl,h⟩
  ·rw [if_neg (by simp [cop];omega)];exact ⟨_,_,_,_,_,rfl,by decide⟩
end
section
open Go Go.AM Go.Proofs.Ytpjnmgjphfnmmaa
set_option maxRecDepth 100000
variable {rows:LL} {F:JZ}
theorem Ztd (z:Int):cop .eql z z=Xb:=by simp [cop]
theorem Zqk {m:MS} {r:RS} (b:Bo rows m r F) (zs:List Int) (st:Int) (hz:zs.length≤100):(Zi st m.es zs).2.length≤1000000:=by
 have:=W0 st zs m.es m.last b.lok;omega
theorem Zqb {es:List PE} {p:Pr} (h:es.map PE.p = [p]):∃ j c,es = [⟨j,c,p⟩]:=by
 match es,h with
 | [e], h =>
  rw [Xh,XF,List.cons.injEq] at h;exact ⟨e.j,e.c,by rw [← h.1]⟩
theorem s16 (h:ZC rows F) (core:Int):∃ rows' m r F' j c z,g16 core rows=Xa ([[.oref (m.jm+1) 0]],[[.oref (r.jr+1) 0]],Xb,rows')∧Bo rows' m r F'∧m.es = [⟨j,c,WC z⟩]∧m.last=1∧(0≤z∧z < 32):=by
 obtain ⟨z,hz,z0,z1⟩:=Zfc core (n:=3) (by decide) (by decide);obtain ⟨m,r1,q1,q2,q3,q4,q5⟩:=s8 (z:=z) (by omega) h;obtain ⟨j,c,hes⟩:=Zqb q4;obtain ⟨r,r2,t1,t2,t3,t4⟩:=s32 (z:=z) (by omega) q2;refine ⟨r2,m,r,F,j,c,z,?_,⟨t2.perm (X4 _ _ _),q3,?_,by rw [q5,t4],Zr3 q3 ⟨_,by rw [hes];exact XE.2 rfl,rfl⟩,?_⟩,hes,q5,by omega⟩
 ·rw [ZuK,hz,Xi,q1,Xi];dsimp only;rw [t1,Xi];dsimp only;rw [if_pos (by decide),if_pos (by decide),Zb (by simp [Zc,Zd,ZP,okL])];rfl
 ·rw [hes,t3];exact .cons ⟨rfl,rfl,rfl,rfl,rfl,List.Perm.refl _⟩ .nil
 ·intro e he;rw [hes,XE] at he;rw [he]
  exact ⟨TB _ _,fun y hy=>by
   have:y=z:=by simpa [WC] using hy
   omega⟩
end
section
open Go Go.AM Go.Proofs.Ytpjnmgjphfnmmaa
set_option maxRecDepth 100000
variable {rows:LL} {F:JZ} {m:MS}
def NC (es:List PE):Prop:=∀ e∈es,e.p.cores = []→e.c=Xc
def J6 (L i:Nat) (e:PE):PE:=⟨L+2+2*i,if e.p.cores = [] then Xc else Xa (L+3+2*i,0),e.p⟩
def JT (L:Nat):Nat→List PE→List PE
 | _, [] => []
 | i, e :: r => J6 L i e :: JT L (i + 1) r
def Zhy (L:Nat):Nat→List PE→JZ
 | _, [] => []
 | i, e :: r => (L + 2 + 2 * i, (J6 L i e).row) :: (L + 3 + 2 * i, e.arr 0) :: Zhy L (i + 1) r
theorem ZjM (L:Nat):∀ (i:Nat) (es:List PE),(JT L i es).map PE.p=es.map PE.p
 | _, [] => rfl
 | i, e :: r => by rw [JT, Xh, Xh, ZjM L (i + 1) r]; rfl
theorem ZhB (L:Nat):∀ (i:Nat) (es:List PE),JE L i (es.map PE.kv)=(JT L i es).map PE.kv
 | _, [] => rfl
 | i, e :: r => by
  rw [Xh,JE,JT,Xh,ZhB L (i+1) r];congr 1;show [I e.p.id,AV.oref (L+3+2*i) 0] = [I e.p.id,AV.oref (L+2+2*i+1) 0];rw [show L+3+2*i=L+2+2*i+1 by omega]
theorem clone_row (h:ZC rows (m.frag++F)) (hm:m.Ok) (hnc:NC m.es) {e:PE} (he:e∈m.es) (L i:Nat) :
  Kb rows (L+4+2*i) (ZG rows (kvJ e.kv))=((J6 L i e).row,e.arr 0):=by
 have hk:kvJ e.kv=e.j+1:=rfl;rw [hk,ZZ (Zhz h he)];have h3:e.row.getD 3 .dead=e.core:=rfl;unfold Kb;rw [h3];have hok:=hm.cor e he;unfold PE.ok at hok;by_cases hc0:e.p.cores = []
 ·have hc:=hnc e he hc0;have hco:e.core = .osl 0 0 0:=by unfold PE.core;rw [hc]
  rw [hco];dsimp only;have harr:e.arr 0 = []:=by unfold PE.arr;rw [hc0];rfl
  have hrow:(J6 L i e).row=e.row:=by
   unfold PE.row
   have:(J6 L i e).core=e.core:=by
    rw [hco];unfold PE.core J6;rw [if_pos hc0]
   rw [this];rfl
  rw [harr,hrow]
 ·cases hc:e.c with
  | none =>
   rw [hc] at hok;exact absurd hok hc0
  | some q =>
   have hco:e.core = .osl 3 (q.1+1) e.p.cores.length:=by unfold PE.core;rw [hc]
   rw [hco];dsimp only;have ha:=ZhL h he hc;have hl:(e.p.cores.map fun z=>I z).length=e.p.cores.length:=by simp
   have e1:(ZG rows (q.1+1)).take e.p.cores.length=e.arr 0:=by
    rw [ZZ ha];unfold PE.arr;rw [Tq hl];simp
   have e2:(J6 L i e).core = .osl 3 (L+4+2*i) e.p.cores.length:=by
    unfold PE.core J6;rw [if_neg hc0];show AV.osl 3 (L+3+2*i+1) _=_;rw [show L+3+2*i+1=L+4+2*i by omega]
   have e3:e.row.set 3 (.osl 3 (L+4+2*i) e.p.cores.length)=(J6 L i e).row:=by
    unfold PE.row;rw [e2];rfl
   rw [e1,e3]
theorem Zfs (h:ZC rows (m.frag++F)) (hm:m.Ok) (hnc:NC m.es) (L:Nat):∀ (es:List PE) (i:Nat) (R:LL) (H:JZ),(∀ e∈es,e∈m.es)→R.length=L+2+2*i→ZC R H→
  ZC (R++Z4 rows L i (es.map PE.kv)) (Zhy L i es++H)
 | [], i, R, H, _, _, hR => by rw [XF, Z4, XN]; exact hR
 | e :: es, i, R, H, hin, hl, hR => by
  have h1:=hR.push (J6 L i e).row;have h2:=h1.push (e.arr 0);have hl2:(R++[(J6 L i e).row]++[e.arr 0]).length=L+2+2*(i+1):=by simp;omega
  have ih:=Zfs h hm hnc L es (i+1) _ _ (fun a ha=>hin a (by simp [ha])) hl2 h2;rw [Xh,Z4,clone_row h hm hnc (hin e (by simp))];have e1:R++(J6 L i e).row::e.arr 0::Z4 rows L (i+1) (es.map PE.kv)=R++[(J6 L i e).row]++[e.arr 0]++Z4 rows L (i+1) (es.map PE.kv):=by simp
  rw [e1];refine ih.perm ?_;have hl1:(R++[(J6 L i e).row]).length=L+3+2*i:=by simp;omega
  rw [hl1,hl];rw [Zhy];refine List.perm_middle.trans ?_;rw [XJ,XJ];refine List.Perm.trans ?_ (List.Perm.swap _ _ _);exact List.Perm.cons _ UP
theorem Ze5 (L:Nat):∀ (i:Nat) (es:List PE),∃ G:JZ,(Zhy L i es).Perm ((JT L i es).flatMap PE.frag++G)
 | _, [] => ⟨[], List.Perm.refl _⟩
 | i, e :: es => by
  obtain ⟨G,hG⟩:=Ze5 L (i+1) es;rw [Zhy,JT,Uw];by_cases hc:e.p.cores = []
  ·refine ⟨(L+3+2*i,e.arr 0)::G,?_⟩
   have hf:(J6 L i e).frag = [(L+2+2*i,(J6 L i e).row)]:=by
    unfold PE.frag;have:(J6 L i e).c=Xc:=by unfold J6;rw [if_pos hc]
    rw [this];rfl
   rw [hf];refine List.Perm.cons _ ?_;exact (List.Perm.cons _ hG).trans List.perm_middle.symm
  ·refine ⟨G,?_⟩
   have hf:(J6 L i e).frag = [(L+2+2*i,(J6 L i e).row),(L+3+2*i,e.arr 0)]:=by
    unfold PE.frag;have:(J6 L i e).c=Xa (L+3+2*i,0):=by unfold J6;rw [if_neg hc]
    rw [this];rfl
   rw [hf];exact List.Perm.cons _ (List.Perm.cons _ hG)
theorem Zwl (h:ZC rows (m.frag++F)) (hm:m.Ok) (hnc:NC m.es) {e:PE} (he:e∈m.es) (hl:e.p.cores.length≤100):kvB rows e.kv=Xb:=by
 show Zg7 rows (ZG rows (e.j+1))=Xb;rw [ZZ (Zhz h he)];have hok:=hm.cor e he;unfold PE.ok at hok;by_cases hc0:e.p.cores = []
 ·have hc:=hnc e he hc0;unfold PE.row PE.core;rw [hc];rfl
 ·cases hc:e.c with
  | none =>
   rw [hc] at hok;exact absurd hok hc0
  | some q =>
   have ha:=ZhL h he hc;obtain ⟨n,hn⟩:∃ n,e.p.cores.length=n+1:=⟨e.p.cores.length-1,by have:=U4.2 hc0;omega⟩;unfold PE.row PE.core;rw [hc];dsimp only;rw [hn];have hlc:(e.p.cores.map fun z=>I z).length=n+1:=by simp [hn]
   show (ZU (ZG rows (q.1+1))&&decide (n+1≤(ZG rows (q.1+1)).length)&&decide (n≤100000)&&((ZG rows (q.1+1)).take (n+1)).all Znx)=Xb;rw [ZZ ha];have h1:ZU (e.arr q.2)=Xb:=Zkb e (by omega);have h2:(e.arr q.2).take (n+1)=e.p.cores.map fun z=>I z:=by unfold PE.arr;rw [Tq hlc]
   rw [h1,h2,decide_eq_true (show n+1≤(e.arr q.2).length by rw [Zox];omega),decide_eq_true (show n≤100000 by omega)];simp only [Wc];refine XD.2 fun c hcm=>?_;obtain ⟨z,_,rfl⟩:=Xj.1 hcm;rfl
theorem Zuk {x:LL} (h:ZC rows (m.frag++F)) (hm:m.Ok) (hnc:NC m.es) (hcl:∀ e∈m.es,e.p.cores.length≤100) (hx:Zd x = .oref (m.jm+1) 0) :
  ∃ (mc:MS) (rows':LL) (G:JZ),Zgq x rows=Xa ([[.oref (mc.jm+1) 0]],rows')∧ZC rows' (mc.frag++(G++(m.frag++F)))∧mc.Ok∧mc.es.map PE.p=m.es.map PE.p:=by
 obtain ⟨G,hG⟩:=Ze5 rows.length 0 m.es;have hkv:J5 (ZG rows (m.jq+1))=m.es.map PE.kv:=by rw [ZZ (map_at h)];rfl
 have hml:=hm.len;refine ⟨⟨rows.length+1,rows.length,JT rows.length 0 m.es,m.last⟩,rows++(ZD (JE rows.length 0 (m.es.map PE.kv))::[.omap (rows.length+1),I m.last]::Z4 rows rows.length 0 (m.es.map PE.kv)),G,?_,?_,?_,ZjM _ _ _⟩
 ·unfold Zgq;rw [hx]
  show (match ZG rows (m.jm+1) with
   | [.omap (jq + 1), .val (.int .i64 last)] =>
    Zf (JR (ZG rows (jq+1))=Xb∧(J5 (ZG rows (jq+1))).length≤1000∧(J5 (ZG rows (jq+1))).all (kvB rows)=Xb)<|
     Xa ([[.oref (rows.length+2) 0]],rows++(ZD (JE rows.length 0 (J5 (ZG rows (jq+1))))::[.omap (rows.length+1),.val (.int .i64 last)]::Z4 rows rows.length 0 (J5 (ZG rows (jq+1)))))
   | _ => Xc : Option (LL × LL)) = _
  rw [ZZ (head_at h)];show Zf _ _=_;rw [hkv,Zb];refine ⟨by rw [ZZ (map_at h)];rfl,by simp;omega,?_⟩;refine XD.2 fun kv hk=>?_;obtain ⟨e,he,rfl⟩:=Xj.1 hk;exact Zwl h hm hnc he (hcl e he)
 ·have h1:=h.push (ZD (JE rows.length 0 (m.es.map PE.kv)));have h2:=h1.push [.omap (rows.length+1),I m.last];have hl1:(rows++[ZD (JE rows.length 0 (m.es.map PE.kv))]).length=rows.length+1:=by simp
  rw [hl1] at h2;have h3:=Zfs h hm hnc rows.length m.es 0 _ _ (fun e he=>he) (by simp) h2;have e1:rows++(ZD (JE rows.length 0 (m.es.map PE.kv))::[.omap (rows.length+1),I m.last]::Z4 rows rows.length 0 (m.es.map PE.kv))=rows++[ZD (JE rows.length 0 (m.es.map PE.kv))]++[[.omap (rows.length+1),I m.last]]++Z4 rows rows.length 0 (m.es.map PE.kv):=by simp
  rw [e1];refine h3.perm ?_;refine (List.Perm.append_right _ hG).trans ?_;rw [ZhB];show ((JT rows.length 0 m.es).flatMap PE.frag++G++((rows.length+1,[AV.omap (rows.length+1),I m.last])::(rows.length,ZD ((JT rows.length 0 m.es).map PE.kv))::(m.frag++F))).Perm ((rows.length+1,[AV.omap (rows.length+1),I m.last])::(rows.length,ZD ((JT rows.length 0 m.es).map PE.kv))::(JT rows.length 0 m.es).flatMap PE.frag++(G++(m.frag++F)));rw [Xo];have:=X4 ((JT rows.length 0 m.es).flatMap PE.frag++G) [(rows.length+1,[AV.omap (rows.length+1),I m.last]),(rows.length,ZD ((JT rows.length 0 m.es).map PE.kv))] (m.frag++F);simp only [Xo,XJ,XM] at this ⊢;exact this
 ·have hp:=ZjM rows.length 0 m.es
  have hids:∀ (R:Pr→Pr→Prop),m.es.Pairwise (fun a b=>R a.p b.p)→(JT rows.length 0 m.es).Pairwise fun a b=>R a.p b.p:=fun R hR=>by
   have h1:(m.es.map PE.p).Pairwise R:=Uy.2 hR;rw [← hp] at h1;exact Uy.1 h1
  have hall:∀ (Q:Pr→Prop),(∀ e∈m.es,Q e.p)→∀ e∈JT rows.length 0 m.es,Q e.p:=fun Q hQ e he=>by
   have h1:e.p∈(JT rows.length 0 m.es).map PE.p:=Xj.2 ⟨e,he,rfl⟩;rw [hp] at h1;obtain ⟨a,ha,hap⟩:=Xj.1 h1;rw [← hap];exact hQ a ha
  have hcor:∀ (es:List PE) (i:Nat),∀ e∈JT rows.length i es,e.ok:=by
   intro es
   induction es with
   | nil => intro i e he; cases he
   | cons a es ih =>
    intro i e he;rcases Xq.1 he with rfl | he
    ·unfold PE.ok J6;by_cases hc:a.p.cores = []
     ·rw [if_pos hc];exact hc
     ·rw [if_neg hc];have:=U4.2 hc;dsimp only;omega
    ·exact ih (i+1) e he
  have hlen:(JT rows.length 0 m.es).length=m.es.length:=by
   have:=congrArg Xn hp;simpa using this
  exact ⟨hids (fun a b=>a.id < b.id) hm.srt,hall (fun p=>1≤p.id∧p.id≤m.last) hm.rng,hcor m.es 0,hall (fun p=>0≤p.parent∧p.parent < p.id) hm.par,by rw [hlen];exact hml,hm.lst⟩
end
section
open Go Go.AM Go.Proofs.Ytpjnmgjphfnmmaa
set_option maxRecDepth 100000
variable {rows:LL} {F:JZ} {m:MS}
theorem Ztq {es:List PE} {p:Pr} (h:es.map PE.p = [p]):∃ j c,es = [⟨j,c,p⟩]:=by
 match es,h with
 | [e], h =>
  rw [Xh,XF,List.cons.injEq] at h;exact ⟨e.j,e.c,by rw [← h.1]⟩
theorem ZwK {e:PE} {p:Pr} (h:e.p=p):∃ j c,e=⟨j,c,p⟩:=⟨e.j,e.c,by rw [← h]⟩
theorem Zv1:Zgp ⟨#[97]⟩=Xb:=by decide
theorem Zow {γ:Type} (a:Zi4) (k:Int×Int×Int→Option γ):Zk (ZX [a]) 0 [.int .i64,.int .i64,.int .i64] k=k (a.1,a.2.1,a.2.2):=YM (l:=ZX [a]) (sh:=[.int .i64,.int .i64,.int .i64]) (cs:=[I a.1,I a.2.1,I a.2.2]) (r:=(a.1,a.2.1,a.2.2)) k (by decide:(0:Int)≤0) rfl rfl
theorem s15 (h:ZC rows F):∃ rows',g15 rows=Xa (Xb,rows'):=by
 obtain ⟨m,r1,q1,q2,q3,q4,q5⟩:=s8 (z:=0) (by decide) h;obtain ⟨j0,c0,hes⟩:=Ztq q4;have hx:Zd [[.oref (m.jm+1) 0]] = .oref (m.jm+1) 0:=rfl;have hn:g28 ⟨#[97]⟩=Xa Xb:=by rw [s28 _ (by decide),Zv1]
 obtain ⟨r2,e1,t1,t2,t3,t4⟩:=s10 q2 q3 hx (parent:=1) (core:=0) hn (by rw [hes];rfl) (by rw [q5];decide);rw [q5] at t1 t2;obtain ⟨j1,c1,rfl⟩:=ZwK t2;obtain ⟨r3,F3,u1,u2,u3⟩:=s11 t3 t4 hx 1
 have hw:YD ({ m with es:=m.es++[⟨j1,c1,⟨1+1,1,⟨#[97]⟩,[0],Xe,0,Xe⟩⟩],last:=m.last+1 } : MS).es 1=([⟨j0,c0,⟨1,0,Zbq,[0],Xe,0,Xb⟩⟩,⟨j1,c1,⟨2,1,⟨#[97]⟩,[0],Xe,0,Xe⟩⟩],0,0,0,Xe,0):=by
  show YD (m.es++_) 1=_;rw [hes];rfl
 rw [hw] at u1 u2 u3;obtain ⟨r4,F4,v1,v2,v3⟩:=s13 u2 u3 hx 2 7;have he:KW [⟨j0,c0,⟨1,0,Zbq,[0],Xe,0,Xb⟩⟩,⟨j1,c1,⟨2,1,⟨#[97]⟩,[0],Xe,0,Xe⟩⟩] 2 7=(([⟨j0,c0,⟨1,0,Zbq,[0],Xe,0,Xe⟩⟩],[(1,2,7)]),0):=rfl;have he2:KW ({ m with es:=[⟨j0,c0,⟨1,0,Zbq,[0],Xe,0,Xb⟩⟩,⟨j1,c1,⟨2,1,⟨#[97]⟩,[0],Xe,0,Xe⟩⟩],last:=m.last+1 } : MS).es 2 7=(([⟨j0,c0,⟨1,0,Zbq,[0],Xe,0,Xe⟩⟩],[(1,2,7)]),0):=he;rw [he2] at v1 v2 v3
 obtain ⟨r5,F5,w1,w2⟩:=s14 v2 v3 hx (fun e he=>by
  rw [XE] at he;subst he;show (1:Nat)≤100000;decide)
 refine ⟨r5,?_⟩;rw [Zu3,q1,Xi];dsimp only;rw [if_neg (by decide),Zb (by simp [Zc,Zd,ZP,okL]),if_neg (by simp [Zc,Zd,ZP,okL,cop]),t1,Xi];dsimp only;rw [u1,Xi];dsimp only;rw [v1,Xi];dsimp only;rw [if_pos (by decide),if_pos (by decide),if_pos (by decide),if_pos (by decide),if_pos (by decide),if_pos (by decide)];rw [Zow,if_pos (by decide),w1];rfl
end
end Go.W
