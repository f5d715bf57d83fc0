import Derived.Test.YtpjnmgjphfnmmaaM5
import Derived.Test.YtpjnmgjphfnmmaaFT
open List renaming getElem?_map→Xl
open Int renaming toNat_natCast→Wo
set_option linter.unusedVariables false
set_option linter.unusedSimpArgs false
set_option linter.defProp false
namespace Go.W
open Go Go.AM Go.Proofs.Ytpjnmgjphfnmmaa
set_option maxRecDepth 100000
variable {rows:LL} {F:Ym}
structure Zr8 where
 k:Int
 a:Int
 b:Int
 c:Int
 raw:Bool
 nm:ByteArray
def stepc (s:Zr8):List AV:=[I s.k,I s.a,I s.b,I s.c,B s.raw,.val (.string s.nm)]
theorem ZoO {γ:Type} {l:List Zr8} {i:Nat} {s:Zr8} (h:l[i]? = some s) (k:Int×Int×Int×Int×Bool×ByteArray→Option γ):Zl (l.map stepc) (i:Int) [.int .i64,.int .i64,.int .i64,.int .i64,.bool,.str] k=k (s.k,s.a,s.b,s.c,s.raw,s.nm):=
 YL (l:=l.map stepc) (sh:=[.int .i64,.int .i64,.int .i64,.int .i64,.bool,.str]) (cs:=stepc s) (r:=(s.k,s.a,s.b,s.c,s.raw,s.nm)) k (by omega) (by rw [Wo,Xl,h];rfl) rfl
def v7 (p:Pr):Int×Int×ByteArray×LL×Bool×Int×Bool:=(p.id,p.parent,p.name,ints p.cores,p.ended,p.status,p.waiting)
theorem ZcY {γ:Type} {l:List Pr} {i:Nat} {p:Pr} (h:l[i]? = some p) (k:Int×Int×ByteArray×LL×Bool×Int×Bool→Option γ):Zl (l.map V6) (i:Int) [.int .i64,.int .i64,.str,.slice 1,.bool,.int .i64,.bool] k=k (v7 p):=
 YL (l:=l.map V6) (sh:=[.int .i64,.int .i64,.str,.slice 1,.bool,.int .i64,.bool]) (cs:=V6 p) (r:=v7 p) k (by omega) (by rw [Wo,Xl,h];rfl) rfl
def at8 (o:Option Pr):Int×Int×ByteArray×LL×Bool×Int×Bool×Bool:=match o with
 | none => (0, 0, ⟨#[]⟩, [], false, 0, false, false)
 | some p => (p.id, p.parent, p.name, ints p.cores, p.ended, p.status, p.waiting, true)
theorem Zku (l:List Pr) (hl:l.length≤1000) (id:Int):∀ (ks pre:List Pr) (q:Nat),l=pre++ks→ks.length < q→Zqu q (l.map V6) id 0 0 ⟨#[]⟩ [] false 0 false (pre.length:Int)=some (at8 (ks.find? fun p=>decide (p.id=id)))
 | [], pre, q, hs, hq => by
  obtain ⟨q',rfl⟩:∃ q',q=q'+1:=⟨q-1,by simp at hq;omega⟩
  rw [List.append_nil] at hs
  have hlen:((l.map V6).length:Int)=(l.length:Int):=by simp
  rw [ZkU,hlen,hs,if_neg (by simp [cop])]
  rfl
 | p :: ks, pre, q, hs, hq => by
  obtain ⟨q',rfl⟩:∃ q',q=q'+1:=⟨q-1,by simp at hq;omega⟩
  have hz:l[pre.length]? = some p:=by rw [hs];simp
  have hi:=(List.getElem?_eq_some_iff.1 hz).1
  have hlen:((l.map V6).length:Int)=(l.length:Int):=by simp
  have hl1:((pre++[p]).length:Int)=((pre.length+1:Nat):Int):=by simp
  rw [ZkU,hlen,if_pos (by simp [cop];omega),ZcY hz,ZcY hz,ZaB (by omega)]
  by_cases hp:p.id=id
  ·rw [if_pos (by simp [cop,v7,hp]),List.find?_cons_of_pos (by simp [hp])]
   rfl
  ·have ih:=Zku l hl id ks (pre++[p]) q' (by rw [hs];simp) (by simp at hq;omega)
   rw [hl1] at ih
   rw [if_neg (by simp [cop,v7,hp]),List.find?_cons_of_neg (by simp [hp]),ih]
theorem s20 (l:List Pr) (hl:l.length≤1000) (id:Int):g20 (l.map V6) id=some (at8 (l.find? fun p=>decide (p.id=id))):=by
 rw [ZuG]
 exact Zku l hl id l [] Ju rfl (by unfold Ju;omega)
theorem Zrk (es:List PE) (id:Int):(es.map PE.p).find? (fun p=>decide (p.id=id))=(es.find? fun e=>decide (e.p.id=id)).map PE.p:=by
 rw [List.find?_map]
 rfl
end Go.W
