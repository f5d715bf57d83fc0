import Derived.Test.YtpjnmgjphfnmmaaM5
import Derived.Test.YtpjnmgjphfnmmaaFT
open Bool renaming false→Xc
open List renaming mem_map→Xj,getElem?_map→Xl
open Int renaming toNat_natCast→Wr
set_option linter.unusedVariables false
set_option linter.unusedSimpArgs false
set_option linter.defProp false
namespace Go.W
open Go Go.AM Go.Proofs.Ytpjnmgjphfnmmaa
set_option maxRecDepth 100000
variable {rows:LL} {F:Yo}
structure Zr6 where
 k:Int
 a:Int
 b:Int
 c:Int
 raw:Bool
 nm:ByteArray
def stepc (s:Zr6):List AV:=[I s.k,I s.a,I s.b,I s.c,B s.raw,.val (.string s.nm)]
theorem Znh {γ:Type} {l:List Zr6} {i:Nat} {s:Zr6} (h:l[i]? = some s) (k:Int×Int×Int×Int×Bool×ByteArray→Option γ):Zm (l.map stepc) (i:Int) [.int .i64,.int .i64,.int .i64,.int .i64,.bool,.str] k=k (s.k,s.a,s.b,s.c,s.raw,s.nm):=
 YB (l:=l.map stepc) (sh:=[.int .i64,.int .i64,.int .i64,.int .i64,.bool,.str]) (cs:=stepc s) (r:=(s.k,s.a,s.b,s.c,s.raw,s.nm)) k (by omega) (by rw [Wr,Xl,h];rfl) rfl
def v7 (p:Pr):Int×Int×ByteArray×LL×Bool×Int×Bool:=(p.id,p.parent,p.name,ints p.cores,p.ended,p.status,p.waiting)
theorem Zen {γ:Type} {l:List Pr} {i:Nat} {p:Pr} (h:l[i]? = some p) (k:Int×Int×ByteArray×LL×Bool×Int×Bool→Option γ):Zm (l.map Zak) (i:Int) [.int .i64,.int .i64,.str,.slice 1,.bool,.int .i64,.bool] k=k (v7 p):=
 YB (l:=l.map Zak) (sh:=[.int .i64,.int .i64,.str,.slice 1,.bool,.int .i64,.bool]) (cs:=Zak p) (r:=v7 p) k (by omega) (by rw [Wr,Xl,h];rfl) rfl
def at8 (o:Option Pr):Int×Int×ByteArray×LL×Bool×Int×Bool×Bool:=match o with
 | none => (0, 0, ⟨#[]⟩, [], Xc, 0, Xc, Xc)
 | some p => (p.id, p.parent, p.name, ints p.cores, p.ended, p.status, p.waiting, true)
theorem Zku (l:List Pr) (hl:l.length≤1000) (id:Int):∀ (ks pre:List Pr) (q:Nat),l=pre++ks→ks.length < q→Zpv q (l.map Zak) id 0 0 ⟨#[]⟩ [] Xc 0 Xc (pre.length:Int)=some (at8 (ks.find? fun p=>decide (p.id=id)))
 | [], pre, q, hs, hq => by
  obtain ⟨q',rfl⟩:∃ q',q=q'+1:=⟨q-1,by simp at hq;omega⟩
  rw [List.append_nil] at hs
  have hlen:((l.map Zak).length:Int)=(l.length:Int):=by simp
  rw [ZjQ,hlen,hs,if_neg (by simp [cop])]
  rfl
 | p :: ks, pre, q, hs, hq => by
  obtain ⟨q',rfl⟩:∃ q',q=q'+1:=⟨q-1,by simp at hq;omega⟩
  have hz:l[pre.length]? = some p:=by rw [hs];simp
  have hi:=(List.getElem?_eq_some_iff.1 hz).1
  have hlen:((l.map Zak).length:Int)=(l.length:Int):=by simp
  have hl1:((pre++[p]).length:Int)=((pre.length+1:Nat):Int):=by simp
  rw [ZjQ,hlen,if_pos (by simp [cop];omega),Zen hz,Zen hz,ZaE (by omega)]
  by_cases hp:p.id=id
  ·rw [if_pos (by simp [cop,v7,hp]),List.find?_cons_of_pos (by simp [hp])]
   rfl
  ·have ih:=Zku l hl id ks (pre++[p]) q' (by rw [hs];simp) (by simp at hq;omega)
   rw [hl1] at ih
   rw [if_neg (by simp [cop,v7,hp]),List.find?_cons_of_neg (by simp [hp]),ih]
theorem s20 (l:List Pr) (hl:l.length≤1000) (id:Int):g20 (l.map Zak) id=some (at8 (l.find? fun p=>decide (p.id=id))):=by
 rw [ZtJ]
 exact Zku l hl id l [] Jv rfl (by unfold Jv;omega)
theorem ZuR (es:List PE) (id:Int):(es.map PE.p).find? (fun p=>decide (p.id=id))=(es.find? fun e=>decide (e.p.id=id)).map PE.p:=by
 rw [List.find?_map]
 rfl
def RC (es:List PE):Prop:=∀ e∈es,e.p.ended=Xc→e.p.cores≠[]
theorem Zml {K:List Int} {st:Int} {es es':List PE} (h:RC es) (hf:Fra K st es es'):RC es':=fun e he hen=>by
 obtain ⟨a,ha,_,h1⟩:=hf e he
 rcases h1 with ⟨h2,_,h3⟩ | ⟨_,_,h2,_⟩
 ·rw [h3];exact h a ha (by rw [← h2];exact hen)
 ·rw [h2] at hen;cases hen
theorem Zn3 {es:List PE} {last core:Int} (ho:LOk es last):RC (Zj (-2) (es.map (JQ core)) (V5 core es)).1:=fun e he hen=>by
 have hl:=Vx ho core
 obtain ⟨a,ha,hid,h1⟩:=Yz (-2) (V5 core es) _ hl e he
 rcases h1 with ⟨h2,_,h3⟩ | ⟨_,_,h2,_⟩
 ·intro hh
  obtain ⟨d,hd,rfl⟩:=Xj.1 ha
  have hb:d.p.id∈V5 core es:=Xj.2 ⟨d,List.mem_filter.2 ⟨hd,by rw [h3] at hh;exact decide_eq_true hh⟩,rfl⟩
  have hr:=Zad (-2) (V5 core es) _ hl _ hb
  have hf:=Jn (Y0 (V5 core es) _ hl (st:=-2)).srt he
  have hde:e.p.id=d.p.id:=hid.symm
  unfold J6 at hr
  rw [← hde,hf] at hr
  dsimp only at hr
  rw [hen] at hr
  simp at hr
 ·rw [h2] at hen;cases hen
theorem Zt7 {es es':List PE} {last last':Int} (h:LOk es last) (hc:RC es) (s:Stp es last es' last'):RC es':=by
 cases s with
 | same => exact hc
 | spawn e' p parent core nm _ h1 h2 =>
  intro e he hen
  rcases List.mem_append.1 he with he | he
  ·exact hc e he hen
  ·rw [List.mem_singleton] at he
   rw [he,h2]
   simp
 | span k core L e h1 h2 h3 =>
  intro a ha hen
  obtain ⟨b,hb,rfl⟩:=Xj.1 ha
  split
  ·intro hh
   have:=ZaC (b.p.cores++[core])
   have h0:(srt (b.p.cores++[core])).length=0:=congrArg List.length hh
   simp at this
   omega
  ·rename_i hbk
   rw [if_neg hbk] at hen
   exact hc b hb hen
 | exit k st e h1 => exact Zml hc (Zgr h h1 st)
 | kill zs => exact Zml hc (Yz (-1) zs es h)
 | wait k => exact Zml (K := []) (st := 0) hc (Zj9 es k)
 | depart core _ => exact Zn3 h
end Go.W
