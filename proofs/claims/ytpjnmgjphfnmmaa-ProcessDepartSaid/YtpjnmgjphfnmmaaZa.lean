import Derived.Test.YtpjnmgjphfnmmaaM5
import Derived.Test.YtpjnmgjphfnmmaaFT
open Bool renaming false→Xc
open List renaming mem_map→Xj,getElem?_map→Xl
open Int renaming toNat_natCast→Wr
set_option linter.unusedVariables false
set_option linter.unusedSimpArgs false
set_option linter.defProp false
namespace Go.W
open Go Go.AM Go.Proofs.Ytpjnmgjphfnmmaa
set_option maxRecDepth 100000
variable {rows:LL} {F:Ym}
structure ZsT where
 k:Int
 a:Int
 b:Int
 c:Int
 raw:Bool
 nm:ByteArray
def stepc (s:ZsT):List AV:=[I s.k,I s.a,I s.b,I s.c,B s.raw,.val (.string s.nm)]
theorem Zn1 {γ:Type} {l:List ZsT} {i:Nat} {s:ZsT} (h:l[i]? = some s) (k:Int×Int×Int×Int×Bool×ByteArray→Option γ):Zl (l.map stepc) (i:Int) [.int .i64,.int .i64,.int .i64,.int .i64,.bool,.str] k=k (s.k,s.a,s.b,s.c,s.raw,s.nm):=
 YH (l:=l.map stepc) (sh:=[.int .i64,.int .i64,.int .i64,.int .i64,.bool,.str]) (cs:=stepc s) (r:=(s.k,s.a,s.b,s.c,s.raw,s.nm)) k (by omega) (by rw [Wr,Xl,h];rfl) rfl
def v7 (p:Pr):Int×Int×ByteArray×LL×Bool×Int×Bool:=(p.id,p.parent,p.name,ints p.cores,p.ended,p.status,p.waiting)
theorem ZcX {γ:Type} {l:List Pr} {i:Nat} {p:Pr} (h:l[i]? = some p) (k:Int×Int×ByteArray×LL×Bool×Int×Bool→Option γ):Zl (l.map Zaj) (i:Int) [.int .i64,.int .i64,.str,.slice 1,.bool,.int .i64,.bool] k=k (v7 p):=
 YH (l:=l.map Zaj) (sh:=[.int .i64,.int .i64,.str,.slice 1,.bool,.int .i64,.bool]) (cs:=Zaj p) (r:=v7 p) k (by omega) (by rw [Wr,Xl,h];rfl) rfl
def at8 (o:Option Pr):Int×Int×ByteArray×LL×Bool×Int×Bool×Bool:=match o with
 | none => (0, 0, ⟨#[]⟩, [], Xc, 0, Xc, Xc)
 | some p => (p.id, p.parent, p.name, ints p.cores, p.ended, p.status, p.waiting, true)
theorem Zle (l:List Pr) (hl:l.length≤1000) (id:Int):∀ (ks pre:List Pr) (q:Nat),l=pre++ks→ks.length < q→ZpZ q (l.map Zaj) id 0 0 ⟨#[]⟩ [] Xc 0 Xc (pre.length:Int)=some (at8 (ks.find? fun p=>decide (p.id=id)))
 | [], pre, q, hs, hq => by
  obtain ⟨q',rfl⟩:∃ q',q=q'+1:=⟨q-1,by simp at hq;omega⟩
  rw [List.append_nil] at hs
  have hlen:((l.map Zaj).length:Int)=(l.length:Int):=by simp
  rw [Zkc,hlen,hs,if_neg (by simp [cop])]
  rfl
 | p :: ks, pre, q, hs, hq => by
  obtain ⟨q',rfl⟩:∃ q',q=q'+1:=⟨q-1,by simp at hq;omega⟩
  have hz:l[pre.length]? = some p:=by rw [hs];simp
  have hi:=(List.getElem?_eq_some_iff.1 hz).1
  have hlen:((l.map Zaj).length:Int)=(l.length:Int):=by simp
  have hl1:((pre++[p]).length:Int)=((pre.length+1:Nat):Int):=by simp
  rw [Zkc,hlen,if_pos (by simp [cop];omega),ZcX hz,ZcX hz,ZaJ (by omega)]
  by_cases hp:p.id=id
  ·rw [if_pos (by simp [cop,v7,hp]),List.find?_cons_of_pos (by simp [hp])]
   rfl
  ·have ih:=Zle l hl id ks (pre++[p]) q' (by rw [hs];simp) (by simp at hq;omega)
   rw [hl1] at ih
   rw [if_neg (by simp [cop,v7,hp]),List.find?_cons_of_neg (by simp [hp]),ih]
theorem s20 (l:List Pr) (hl:l.length≤1000) (id:Int):g20 (l.map Zaj) id=some (at8 (l.find? fun p=>decide (p.id=id))):=by
 rw [Zui]
 exact Zle l hl id l [] Jv rfl (by unfold Jv;omega)
theorem Zt5 (es:List PE) (id:Int):(es.map PE.p).find? (fun p=>decide (p.id=id))=(es.find? fun e=>decide (e.p.id=id)).map PE.p:=by
 rw [List.find?_map]
 rfl
def RC (es:List PE):Prop:=∀ e∈es,e.p.ended=Xc→e.p.cores≠[]
theorem ZnR {K:List Int} {st:Int} {es es':List PE} (h:RC es) (hf:Fra K st es es'):RC es':=fun e he hen=>by
 obtain ⟨a,ha,_,h1⟩:=hf e he
 rcases h1 with ⟨h2,_,h3⟩ | ⟨_,_,h2,_⟩
 ·rw [h3];exact h a ha (by rw [← h2];exact hen)
 ·rw [h2] at hen;cases hen
theorem Zne {es:List PE} {last core:Int} (ho:LOk es last):RC (Zi (-2) (es.map (JS core)) (V4 core es)).1:=fun e he hen=>by
 have hl:=VH ho core
 obtain ⟨a,ha,hid,h1⟩:=Yx (-2) (V4 core es) _ hl e he
 rcases h1 with ⟨h2,_,h3⟩ | ⟨_,_,h2,_⟩
 ·intro hh
  obtain ⟨d,hd,rfl⟩:=Xj.1 ha
  have hb:d.p.id∈V4 core es:=Xj.2 ⟨d,List.mem_filter.2 ⟨hd,by rw [h3] at hh;exact decide_eq_true hh⟩,rfl⟩
  have hr:=W9 (-2) (V4 core es) _ hl _ hb
  have hf:=Jm (Y0 (V4 core es) _ hl (st:=-2)).srt he
  have hde:e.p.id=d.p.id:=hid.symm
  unfold J6 at hr
  rw [← hde,hf] at hr
  dsimp only at hr
  rw [hen] at hr
  simp at hr
 ·rw [h2] at hen;cases hen
theorem Ztf {es es':List PE} {last last':Int} (h:LOk es last) (hc:RC es) (s:Stp es last es' last'):RC es':=by
 cases s with
 | same => exact hc
 | spawn e' p parent core nm _ h1 h2 =>
  intro e he hen
  rcases List.mem_append.1 he with he | he
  ·exact hc e he hen
  ·rw [List.mem_singleton] at he
   rw [he,h2]
   simp
 | span k core L e h1 h2 h3 =>
  intro a ha hen
  obtain ⟨b,hb,rfl⟩:=Xj.1 ha
  split
  ·intro hh
   have:=Zas (b.p.cores++[core])
   have h0:(srt (b.p.cores++[core])).length=0:=congrArg List.length hh
   simp at this
   omega
  ·rename_i hbk
   rw [if_neg hbk] at hen
   exact hc b hb hen
 | exit k st e h1 => exact ZnR hc (Zgf h h1 st)
 | kill zs => exact ZnR hc (Yx (-1) zs es h)
 | wait k => exact ZnR (K := []) (st := 0) hc (Zj0 es k)
 | depart core _ => exact Zne h
end Go.W
