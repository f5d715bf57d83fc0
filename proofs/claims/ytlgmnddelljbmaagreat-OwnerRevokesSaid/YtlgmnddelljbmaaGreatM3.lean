/- AmMap, AmWp, AmSound, AmSnd2, AmSnd3, AmReg: texts of the proof, put together. -/
import Derived.Test.YtlgmnddelljbmaaGreatM2
import Derived.Below
import Derived.Orders

section
namespace Go.AM
open Go.MapKept
open Go.RowKit (Below Below.refl)
theorem Y7 (k:Int):IsKey (.int .i64) (.int .i64 k):=rfl
theorem V7 (z:Int) (c:List AV):ZI (.val (.int .i64 z)::c)=some z:=rfl
theorem Zdl {P:Program} {et:TypeId} {w:World} {lim:Nat→Nat} {es:Array MapEntry} {clock:Nat} {kvs:List (List AV)} (hl:es.size=kvs.length) (hs:Stamped es clock) (hr:∀ (i:Nat) (en:MapEntry) (row:List AV),es[i]? = some en→kvs[i]? = some row→Za2 P w lim et en row) (k:Int) :
  (∀ x∈es.toList,IsKey (.int .i64) x.key)∧
  ((Instr.findNow (.int .i64) (.int .i64 k) es.toList 0=some none∧(∀ x∈es.toList,x.key≠.int .i64 k)∧∀ r∈kvs,ZI r≠some k)∨
   ∃ j en row,Instr.findNow (.int .i64) (.int .i64 k) es.toList 0=some (some (j,en.val))∧es[j]? = some en∧kvs[j]? = some row∧en.key = .int .i64 k∧ZI row=some k∧kvs.find? (fun r=>ZI r == some k)=some row∧∀ i r,kvs[i]? = some r→i≠j→ZI r≠some k):=by
 have hat:∀ i (hi:i < es.size),∃ row,kvs[i]? = some row∧Za2 P w lim et es[i] row:=fun i hi=>by
  have hi':i < kvs.length:=by omega
  exact ⟨kvs[i],List.getElem?_eq_getElem hi',hr i _ _ (Array.getElem?_eq_getElem hi) (List.getElem?_eq_getElem hi')⟩
 have hkey:∀ x∈es.toList,IsKey (.int .i64) x.key:=fun x hx=>by
  obtain ⟨i,hi,rfl⟩:=List.mem_iff_getElem.1 hx
  have hi':i < es.size:=by simpa using hi
  obtain ⟨row,_,z,ys,_,h2,_⟩:=hat i hi'
  have:es.toList[i]=es[i]:=by simp
  rw [this,h2]
  exact rfl
 have hrk:∀ i r (hi:i < es.size),kvs[i]? = some r→ZI r=some k→es[i].key = .int .i64 k:=fun i r hi hr' hk=>by
  obtain ⟨row,h1,z,ys,h3,h2,_⟩:=hat i hi
  rw [h1] at hr'
  cases hr'
  rw [h3,V7] at hk
  cases hk
  exact h2
 refine ⟨hkey,?_⟩
 rcases findNow_spec (Y7 k) es.toList 0 hkey with ⟨h1,h2⟩ | ⟨j,en,h1,h2,h3⟩
 ·refine .inl ⟨h1,h2,fun r hrm hk=>?_⟩
  obtain ⟨i,hi,rfl⟩:=List.mem_iff_getElem.1 hrm
  have hi':i < es.size:=by omega
  exact h2 es[i] (by simp) (hrk i _ hi' (List.getElem?_eq_getElem hi) hk)
 ·rw [Nat.zero_add] at h1
  have hj:es[j]? = some en:=by simpa using h2
  have hjl:j < es.size:=(Array.getElem?_eq_some_iff.1 hj).1
  obtain ⟨row,h4,z,ys,h5,h6,h7⟩:=hat j hjl
  have hen:es[j]=en:=(Array.getElem?_eq_some_iff.1 hj).2
  rw [hen,h3] at h6
  cases h6
  have huniq:∀ i r,kvs[i]? = some r→i≠j→ZI r≠some k:=by
   intro i r hi hij hk
   have hil:i < es.size:=by have:=(List.getElem?_eq_some_iff.1 hi).1;omega
   have h8:=hrk i r hil hi hk
   have hn:=hs.2.2
   rw [List.Nodup,List.pairwise_iff_getElem] at hn
   have e1:(es.toList.map (·.key))[i]'(by simpa using hil) = .int .i64 k:=by simp [h8]
   have e2:(es.toList.map (·.key))[j]'(by simpa using hjl) = .int .i64 k:=by simp [hen,h3]
   rcases Nat.lt_or_gt_of_ne hij with hlt | hlt
   ·exact hn i j (by simpa using hil) (by simpa using hjl) hlt (e1.trans e2.symm)
   ·exact hn j i (by simpa using hjl) (by simpa using hil) hlt (e2.trans e1.symm)
  refine .inr ⟨j,en,row,h1,hj,h4,h3,by rw [h5];rfl,?_,huniq⟩
  have hjk:j < kvs.length:=by omega
  have hrow:kvs[j]=row:=(List.getElem?_eq_some_iff.1 h4).2
  have:kvs.find? (fun r=>ZI r == some k)=some kvs[j]:=by
   rw [List.find?_eq_some_iff_getElem]
   refine ⟨by rw [hrow,h5];simp [ZI],j,hjk,rfl,fun i hi=>?_⟩
   have:=huniq i kvs[i] (List.getElem?_eq_getElem (by omega)) (by omega)
   simpa using this
  rw [this,hrow]
def Vc (w:World) (b:Nat) (o:Obj):World:={ w with heap:=w.heap.setIfInBounds b o }
theorem KD {w:World} {b:Nat} {o o':Obj} (h:w.heap[b]? = some o):(Vc w b o').heap[b]? = some o':=(heap_set (o':=o') h).1
theorem JT {w:World} {b b':Nat} {o:Obj} (hb:b'≠b):(Vc w b o).heap[b']? = w.heap[b']?:=by
 unfold Vc
 simp [Ne.symm hb]
theorem ZeA {w:World} {lim:Nat→Nat} {b:Nat} {es es':Array MapEntry} {clock clock':Nat} (h:w.heap[b]? = some (.map es clock)) (hl:lim b=0):ZT w lim (Vc w b (.map es' clock')) lim (fun b'=>b'=b):=by
 refine ⟨rfl,rfl,rfl,by simp [Vc],fun a ha=>?_,fun b' _ hb=>⟨JT hb,rfl⟩,fun b' _=>⟨Nat.le_refl _,fun o u ho hu=>?_⟩⟩
 ·by_cases hb:a.block=b
  ·unfold World.frozen?
   rw [hb,h,KD h]
  ·unfold World.frozen?
   rw [JT hb]
 ·by_cases hb:b'=b
  ·subst hb;omega
  ·unfold World.cell? at hu ⊢
   rw [JT hb]
   exact hu
theorem Zcv {c:Ctx} {σ:Nat→AV} {tm:Array Value} {w:World} {lim:Nat→Nat} {X:Nat→Nat→Option Nat} (h:Sim c σ tm w lim X) {d:Nat} {e:TypeId} {kvs:List (List AV)} {tl:List AV} (hd:σ d = .own true e [.slice false 2 kvs::tl]) (h0:c.P.cellsOf e=0) :
  Zo c.P e=true∧∃ b es clock,X d 0=some b∧tm.getD d undef = .map (some b)∧w.heap[b]? = some (.map es clock)∧lim b=0∧es.size=kvs.length∧Stamped es clock∧
   ∃ et,VU c.P (e-1048576)=some et∧∀ (i:Nat) (en:MapEntry) (row:List AV),es[i]? = some en→kvs[i]? = some row→Za2 c.P w lim et en row:=by
 have hr:=h.rel d
 rw [hd] at hr
 rcases (show Z9 c.P w lim true e _ _ (X d 0) from hr) with ⟨us,_,_,_,h4,_⟩ | ⟨h1,_⟩ | ⟨_,hm,b,es,clock,kvs',et,het,h1,h2,h3,h4,⟨tl',h5⟩,h6,h7,h8⟩
 ·have:=h4 _ (List.mem_singleton.2 rfl)
  rw [h0] at this
  cases this
 ·cases h1
 ·simp only [List.cons.injEq,AV.slice.injEq,true_and,and_true] at h5
  obtain ⟨rfl,rfl⟩:=h5
  exact ⟨hm,b,es,clock,h1,h2,h3,h4,h6,h7,et,het,h8⟩
theorem Wz {c:Ctx} {σ:Nat→AV} {tm:Array Value} {w:World} {lim:Nat→Nat} {X:Nat→Nat→Option Nat} (h:Sim c σ tm w lim X) {d k:Nat} {e:TypeId} {kvs:List (List AV)} {tl:List AV} (hd:σ d = .own true e [.slice false 2 kvs::tl]) (h0:c.P.cellsOf e=0) {v:Value}
  (hv:ZK c.P w lim X σ k (.mref d 0) v):v=tm.getD d undef:=by
 obtain ⟨_,b,es,clock,h1,h2,h3,_⟩:=Zcv h hd h0
 obtain ⟨e',xs',m1,m2⟩:=hv
 rw [hd] at m1
 simp only [Zr,Option.some.injEq,Prod.mk.injEq] at m1
 obtain ⟨rfl,rfl⟩:=m1
 rcases m2 with ⟨m2,_⟩ | ⟨b',arr,cap,m2,m3,_⟩ | ⟨_,b',es',clock',m2,m3,m4⟩
 ·rw [h1] at m2;cases m2
 ·rw [h1] at m2;cases m2;rw [h3] at m3;cases m3
 ·rw [h1] at m2;cases m2;rw [m4,h2]
theorem Zhk {kvs:List (List AV)} {k:Int} {cl:AV} {j:Nat} {row:List AV} (hj:kvs[j]? = some row) (hk:ZI row=some k) (hu:∀ i r,kvs[i]? = some r→i≠j→ZI r≠some k) :
  ∀ i r,(YI kvs k cl)[i]? = some r→if i=j then r = [.val (.int .i64 k),cl] else kvs[i]? = some r∧ZI r≠some k:=by
 have hany:(kvs.any fun r=>ZI r == some k)=true:=List.any_eq_true.2 ⟨row,List.mem_of_getElem? hj,by simp [hk]⟩
 intro i r hi
 rw [YI,if_pos hany,List.getElem?_map] at hi
 cases hr:kvs[i]? with
 | none => rw [hr] at hi; cases hi
 | some r0 =>
  rw [hr] at hi
  simp only [Option.map_some,Option.some.injEq] at hi
  by_cases hij:i=j
  ·subst hij
   rw [hj] at hr
   cases hr
   rw [if_pos rfl,← hi,if_pos (by simp [hk])]
  ·rw [if_neg hij]
   have:=hu i r0 hr hij
   rw [if_neg (by simpa using this)] at hi
   subst hi
   exact ⟨rfl,this⟩
theorem Zkc {kvs:List (List AV)} {k:Int} {cl:AV} {j:Nat} {row:List AV} (hj:kvs[j]? = some row) (hk:ZI row=some k):(YI kvs k cl).length=kvs.length:=by
 have hany:(kvs.any fun r=>ZI r == some k)=true:=List.any_eq_true.2 ⟨row,List.mem_of_getElem? hj,by simp [hk]⟩
 rw [YI,if_pos hany,List.length_map]
theorem ZnP {kvs:List (List AV)} {k:Int} {cl:AV} (h:∀ r∈kvs,ZI r≠some k):YI kvs k cl=kvs++[[.val (.int .i64 k),cl]]:=by
 have hany:¬ (kvs.any fun r=>ZI r == some k)=true:=by
  rw [List.any_eq_true]
  rintro ⟨r,hr,hk⟩
  exact h r hr (by simpa using hk)
 rw [YI,if_neg hany]
theorem Sim.mapTake {c:Ctx} {σ:Nat→AV} {tm:Array Value} {w:World} {lim:Nat→Nat} {X:Nat→Nat→Option Nat} (h:Sim c σ tm w lim X) {d:Nat} {e et:TypeId} {kvs:List (List AV)} (k:Int) (hd:σ d = .own true e [[.slice false 2 kvs]]) (h0:c.P.cellsOf e=0) (het:VU c.P (e-1048576)=some et) {T kt vt:TypeId}
  (hT:c.P.underlying T=some (.map kt vt)) (hkt:c.P.underlying kt=some (.int .i64)) (hz:(zeroValue vt).run c.P w = .ok (.slice none 0 0) w) :
  ∃ X' v ob ys,(Instr.lookup T (tm.getD d undef) (.int .i64 k) false).run c.P w = .ok v w∧Sim c (upd σ d (.own true e (YB [[.slice false 2 kvs]] k))) tm w lim X'∧Z9 c.P w lim false et ys v ob∧ys=JL [[.slice false 2 kvs]] k∧
   ∀ b,ob=some b→(c.A b∨c.w0.heap.size≤b)∧∀ i j,X' i j≠some b:=by
 obtain ⟨hm,b,es,clock,hX,hv,hb,hlb,hl,hs,et',het',hr⟩:=Zcv h hd h0
 rw [het] at het'
 cases het'
 have hdn:d < c.nt:=by
  rcases Nat.lt_or_ge d c.nt with hlt | hge
  ·exact hlt
  ·have:=h.out d hge;rw [hd] at this;rcases this with h0 | h0<;>cases h0
 have hmo:=h.mp d e _ hd hm
 obtain ⟨hkeys,hfind⟩:=Zdl hl hs hr k
 -- the map with its hole, whatever is taken out
 have hole:∀ (r:Nat→Option Nat),(∀ q,r q=X d q∨r q=none)→r 0=X d 0→(∀ (i:Nat) (en:MapEntry) (row:List AV),es[i]? = some en→kvs[i]? = some row→ZI row≠some k→r (i+1)=X d (i+1))→
   Sim c (upd σ d (.own true e (YB [[.slice false 2 kvs]] k))) tm w lim (W2 X d r):=by
  intro r hr1 hr0 hr2
  have hsub:∀ q b',r q=some b'→X d q=some b':=fun q b' hq=>by
   rcases hr1 q with h1 | h1
   ·rw [← h1];exact hq
   ·rw [h1] at hq;cases hq
  refine h.putRow (S:=fun _=>False) r (ZT.refl w lim _) (fun _ hs=>hs.elim) hdn rfl (fun _ _=>rfl) (.inl fun cs hcs=>by rw [hd] at hcs;cases hcs) (fun i q hi hq=>⟨?_,?_,fun b' hb'=>.of rfl⟩) ?_
   (fun q b' hq=>⟨(h.ours d q b' (hsub q b' hq)).1,(h.ours d q b' (hsub q b' hq)).2,fun i j hij hx=>hij (h.dist i j d q b' hx (hsub q b' hq)).1⟩) (fun q q' b' hq hq'=>(h.dist d q d q' b' (hsub q b' hq) (hsub q' b' hq')).2) rfl ?_
  ·intro e1 xs1 ho
   rw [hd] at ho
   cases q with
   | zero => simp only [Zr, Option.some.injEq, Prod.mk.injEq] at ho; obtain ⟨rfl, rfl⟩ := ho; exact ⟨_, rfl, rfl⟩
   | succ q => cases ho
  ·obtain ⟨p,hp⟩:=K1 h hq
   rw [hd] at hp
   cases q with
   | zero => exact hr0
   | succ q => cases hp
  ·show Z9 c.P w lim true e _ _ (W2 X d r d 0)
   rw [Zs,hr0]
   exact .inr (.inr ⟨rfl,hm,b,es,clock,kvs,et,het,hX,hv,hb,hlb,⟨_,rfl⟩,hl,hs,hr⟩)
  ·intro e1 xs1 he
   injection he with _ h1 h2
   subst h1
   intro _ b1 es1 clock1 kvs1 tl1 et1 g0 g1 g2 g3 i en row g4 g5 g6
   rw [het] at g0
   cases g0
   rw [hr0,hX] at g1
   cases g1
   rw [hb] at g2
   cases g2
   rw [← h2] at g3
   simp only [YB,Kl,List.cons.injEq,AV.slice.injEq,true_and,and_true] at g3
   obtain ⟨rfl,rfl⟩:=g3
   have hne:ZI row≠some k:=by
    intro hk
    obtain ⟨z,ys,e1,_⟩:=hr i en row g4 g5
    rw [e1,V7] at hk
    cases hk
    exact g6 _ (List.mem_singleton.2 rfl) (by rw [e1];rfl)
   obtain ⟨z,ys,k1,k2⟩:=hmo b es clock kvs [] et het hX hb rfl i en row g4 g5 (by simp)
   exact ⟨z,ys,k1,by rw [hr2 i en row g4 g5 hne];exact k2⟩
 rcases hfind with ⟨h1,_,h2⟩ | ⟨j,en,row,h1,h2,h3,h4,h5,h6,h7⟩
 ·have hg:kvs.find? (fun r=>ZI r == some k)=none:=List.find?_eq_none.2 fun r hr=>by simpa using h2 r hr
  refine ⟨_,.slice none 0 0,none,[],?_,hole (X d) (fun _=>.inl rfl) rfl (fun _ _ _ _ _ _=>rfl),.inl ⟨[],World.ownsRow_nil _ 0 et _,rfl,by simp,by simp,by simp,by simp⟩,by simp [JL,Kl,hg],by simp⟩
  rw [hv]
  simp [Instr.lookup,run_underlying hT,MapKept.run_getObj_map hb,MapKept.run_checkKey hkt (Y7 k),MapKept.run_findKey hkt h1,hz,Result.andThen]
 ·obtain ⟨z,ys,k3,k2⟩:=hmo b es clock kvs [] et het hX hb rfl j en row h2 h3 (by simp)
  refine ⟨_,en.val,X d (j+1),ys,?_,hole (fun q=>if q=j+1 then none else X d q) (fun q=>by by_cases hq:q=j+1;exact .inr (if_pos hq);exact .inl (if_neg hq)) (if_neg (by omega)) (fun i en' row' g1 g2 g3=>if_neg fun hij=>?_),k2,?_,fun b1 hb1=>⟨(h.ours d _ b1 hb1).2,fun i j' hij=>?_⟩⟩
  ·rw [hv]
   simp [Instr.lookup,run_underlying hT,MapKept.run_getObj_map hb,MapKept.run_checkKey hkt (Y7 k),MapKept.run_findKey hkt h1,Result.andThen]
  ·have:i=j:=by omega
   subst this
   rw [h3] at g2
   cases g2
   exact g3 h5
  ·simp only [JL,Kl,h6,k3,ZiG]
  ·by_cases hid:i=d
   ·subst hid
    rw [Zs] at hij
    split at hij
    ·cases hij
    ·rename_i hne
     exact hne (h.dist i j' i (j+1) b1 hij hb1).2
   ·rw [Zw X _ hid] at hij
    exact hid (h.dist i j' d (j+1) b1 hij hb1).1
theorem Sim.mapFill {c:Ctx} {σ:Nat→AV} {tm:Array Value} {w:World} {lim:Nat→Nat} {X:Nat→Nat→Option Nat} (h:Sim c σ tm w lim X) {d:Nat} {e et:TypeId} {kvs:List (List AV)} {tl:List AV} (k:Int) (hd:σ d = .own true e [.slice false 2 kvs::tl]) (h0:c.P.cellsOf e=0) (het:VU c.P (e-1048576)=some et) {T kt vt:TypeId}
  (hT:c.P.underlying T=some (.map kt vt)) (hkt:c.P.underlying kt=some (.int .i64)) (htl:∀ x∈tl,x = .val (.int .i64 k)) {v:Value} {ob:Option Nat} {ys:List (List AV)} (hv:Z9 c.P w lim false et ys v ob)
  (ho:∀ b,ob=some b→(c.A b∨c.w0.heap.size≤b)∧∀ i j,X i j≠some b) :
  ∃ w' X',(Instr.mapUpdate T (tm.getD d undef) (.int .i64 k) v).run c.P w = .ok () w'∧Sim c (upd σ d (.own true e (Kj [.slice false 2 kvs::tl] k (c.P.cellsOf et) ys))) tm w' lim X':=by
 obtain ⟨hm,b,es,clock,hX,hvd,hb,hlb,hl,hs,et',het',hr⟩:=Zcv h hd h0
 rw [het] at het'
 cases het'
 have hdn:d < c.nt:=by
  rcases Nat.lt_or_ge d c.nt with hlt | hge
  ·exact hlt
  ·have:=h.out d hge;rw [hd] at this;rcases this with h0 | h0<;>cases h0
 have hmo:=h.mp d e _ hd hm
 obtain ⟨hkeys,hfind⟩:=Zdl hl hs hr k
 have hvr:=Z9.rep hv false rfl
 -- the new entries and rows
 have fill:∀ (j:Nat) (es':Array MapEntry) (clock':Nat) (kvs':List (List AV)),es'.size=kvs'.length→Stamped es' clock'→(∃ en,es'[j]? = some en∧en.key = .int .i64 k∧en.val=v)→(∃ row,kvs'[j]? = some row∧row = [.val (.int .i64 k),.slice false (c.P.cellsOf et) ys])→
   (∀ (i:Nat) (en:MapEntry) (row:List AV),i≠j→es'[i]? = some en→kvs'[i]? = some row→es[i]? = some en∧kvs[i]? = some row∧ZI row≠some k)→
   Sim c (upd σ d (.own true e [[.slice false 2 kvs']])) tm (Vc w b (.map es' clock')) lim (W2 X d fun q=>if q=j+1 then ob else X d q):=by
  intro j es' clock' kvs' g1 g2 g3 g4 g5
  obtain ⟨en0,g31,g32,g33⟩:=g3
  obtain ⟨row0,g41,g42⟩:=g4
  have hstep:=ZeA (es':=es') (clock':=clock') hb hlb
  have hrows:∀ (i:Nat) (en:MapEntry) (row:List AV),es'[i]? = some en→kvs'[i]? = some row→Za2 c.P (Vc w b (.map es' clock')) lim et en row:=by
   intro i en row m1 m2
   by_cases hij:i=j
   ·subst hij
    rw [g31] at m1
    rw [g41] at m2
    cases m1
    cases m2
    exact ⟨k,ys,g42,g32,by rw [g33];exact hvr.mono hstep.ext⟩
   ·obtain ⟨n1,n2,_⟩:=g5 i en row hij m1 m2
    obtain ⟨z,zs,p1,p2,p3⟩:=hr i en row n1 n2
    exact ⟨z,zs,p1,p2,p3.mono hstep.ext⟩
  have hsplit:∀ q b',(if q=j+1 then ob else X d q)=some b'→(q=j+1∧ob=some b')∨(q≠j+1∧X d q=some b'):=fun q b' hq=>by
   by_cases hqj:q=j+1
   ·rw [if_pos hqj] at hq;exact .inl ⟨hqj,hq⟩
   ·rw [if_neg hqj] at hq;exact .inr ⟨hqj,hq⟩
  have hobb:ob≠some b:=fun hc=>(ho b hc).2 d 0 hX
  refine h.putRow (S:=fun b'=>b'=b) (fun q=>if q=j+1 then ob else X d q) hstep (fun b' hb'=>⟨0,by rw [hb'];exact hX⟩) hdn rfl (fun _ _=>rfl) (.inl fun cs hcs=>by rw [hd] at hcs;cases hcs) (fun i q hi hq=>⟨?_,?_,fun b' hb'=>?_⟩) ?_
   (fun q b' hq=>?_) (fun q q' b' hq hq'=>?_) rfl ?_
  ·intro e1 xs1 hoa
   rw [hd] at hoa
   cases q with
   | zero => simp only [Zr, Option.some.injEq, Prod.mk.injEq] at hoa; obtain ⟨rfl, rfl⟩ := hoa; exact ⟨_, rfl, rfl⟩
   | succ q => cases hoa
  ·obtain ⟨p,hp⟩:=K1 h hq
   rw [hd] at hp
   cases q with
   | zero => exact if_neg (by omega)
   | succ q => cases hp
  ·by_cases hbb:b'=b
   ·subst hbb
    refine ⟨fun arr t m=>?_,fun es1 clock1 _=>⟨es',clock',KD hb⟩⟩
    rw [hb] at m;cases m
   ·exact .of (JT hbb)
  ·show Z9 c.P _ lim true e _ _ (W2 X d _ d 0)
   rw [Zs]
   refine .inr (.inr ⟨rfl,hm,b,es',clock',kvs',et,het,?_,hvd,KD hb,hlb,⟨_,rfl⟩,g1,g2,hrows⟩)
   rw [if_neg (by omega)]
   exact hX
  ·rcases hsplit q b' hq with ⟨_,h1⟩ | ⟨_,h1⟩
   ·refine ⟨Nat.lt_of_lt_of_le ?_ hstep.size,(ho b' h1).1,fun i jj _ hx=>(ho b' h1).2 i jj hx⟩
    have:=hv
    rw [h1] at this
    exact this.lt
   ·exact ⟨Nat.lt_of_lt_of_le (h.ours d q b' h1).1 hstep.size,(h.ours d q b' h1).2,fun i jj hij hx=>hij (h.dist i jj d q b' hx h1).1⟩
  ·rcases hsplit q b' hq with ⟨h1,h2⟩ | ⟨_,h2⟩ <;> rcases hsplit q' b' hq' with ⟨h3,h4⟩ | ⟨_,h4⟩
   ·omega
   ·exact ((ho b' h2).2 d q' h4).elim
   ·exact ((ho b' h4).2 d q h2).elim
   ·exact (h.dist d q d q' b' h2 h4).2
  ·intro e1 xs1 he
   injection he with _ h1 h2
   subst h1
   intro _ b1 es1 clock1 kvs1 tl1 et1 m0 m1 m2 m3 i en row m4 m5 m6
   rw [het] at m0
   cases m0
   have m1':X d 0=some b1:=by have:=m1;dsimp only at this;rwa [if_neg (by omega)] at this
   rw [hX] at m1'
   cases m1'
   rw [KD hb] at m2
   cases m2
   rw [← h2] at m3
   simp only [List.cons.injEq,AV.slice.injEq,true_and,and_true] at m3
   obtain ⟨rfl,rfl⟩:=m3
   by_cases hij:i=j
   ·subst hij
    rw [g31] at m4
    rw [g41] at m5
    cases m4
    cases m5
    refine ⟨k,ys,g42,?_⟩
    show Z9 c.P _ lim false et ys en0.val (if i+1=i+1 then ob else X d (i+1))
    rw [if_pos rfl,g33]
    exact hv.mono hstep.ext fun b1 hb1=>⟨JT fun hc=>hobb (by rw [hb1,hc]),rfl⟩
   ·obtain ⟨n1,n2,n3⟩:=g5 i en row hij m4 m5
    obtain ⟨z,zs,p1,p2⟩:=hmo b es clock kvs tl et het hX hb rfl i en row n1 n2 (fun x hx hc=>by
     rw [htl x hx] at hc
     cases row with
     | nil => cases hc
     | cons y row => simp only [List.head?_cons, Option.some.injEq] at hc; subst hc; exact n3 rfl)
    refine ⟨z,zs,p1,?_⟩
    show Z9 c.P _ lim false et zs en.val (if i+1=j+1 then ob else X d (i+1))
    rw [if_neg (by omega)]
    exact p2.mono hstep.ext fun b1 hb1=>⟨JT fun hc=>by subst hc;have:=(h.dist d (i+1) d 0 b1 hb1 hX).2;omega,rfl⟩
 rcases hfind with ⟨h1,h2,h3⟩ | ⟨j,en,row,h1,h2,h3,h4,h5,h6,h7⟩
 ·refine ⟨Vc w b (.map (es.push ⟨.int .i64 k,v,clock⟩) (clock+1)),W2 X d (fun q=>if q=es.size+1 then ob else X d q),?_,?_⟩
  rotate_left
  ·have:=fill es.size (es.push ⟨.int .i64 k,v,clock⟩) (clock+1) (kvs++[[.val (.int .i64 k),.slice false (c.P.cellsOf et) ys]]) (by simp [hl]) (stamped_push hs h2) ⟨⟨.int .i64 k,v,clock⟩,by simp,rfl,rfl⟩ ⟨[.val (.int .i64 k),.slice false (c.P.cellsOf et) ys],by rw [hl];simp,rfl⟩ (fun i en row hi m1 m2=>?_)
   ·simp only [Kj,Kl,ZnP h3]
    exact this
   ·have hlt:i < es.size:=by
     have:=(Array.getElem?_eq_some_iff.1 m1).1
     simp at this
     omega
    rw [Array.getElem?_push,if_neg (by omega)] at m1
    rw [List.getElem?_append_left (by omega)] at m2
    exact ⟨m1,m2,h3 row (List.mem_of_getElem? m2)⟩
  ·rw [hvd]
   simp [Instr.mapUpdate,run_underlying hT,MapKept.run_getObj_map hb,MapKept.run_checkKey hkt (Y7 k),MapKept.run_findKey hkt h1,MapKept.run_setObj_map _ hb,Result.andThen,Vc]
 ·have hj:es[j]? = some en:=h2
  have hjl:j < es.size:=(Array.getElem?_eq_some_iff.1 h2).1
  have hkeyf:∀ e',es[j]? = some e'→({ e' with key:=.int .i64 k,val:=v } : MapEntry).key=e'.key:=fun e' he'=>by rw [hj] at he';cases he';exact h4.symm
  refine ⟨Vc w b (.map (es.modify j fun e'=>{ e' with key:=.int .i64 k,val:=v }) clock),W2 X d (fun q=>if q=j+1 then ob else X d q),?_,?_⟩
  rotate_left
  ·have:=fill j (es.modify j fun e'=>{ e' with key:=.int .i64 k,val:=v }) clock (YI kvs k (.slice false (c.P.cellsOf et) ys)) (by rw [Array.size_modify,hl,Zkc h3 h5]) (stamped_modify hs _ _ (fun _ _=>rfl) (fun e' _ he'=>hkeyf e' he')) ⟨{ en with key:=.int .i64 k,val:=v },by simp [Array.getElem?_modify,hj],rfl,rfl⟩ ?_ (fun i en' row' hi m1 m2=>?_)
   ·simp only [Kj,Kl]
    exact this
   ·have hlen:=Zkc (cl:=.slice false (c.P.cellsOf et) ys) h3 h5
    have hjk:j < (YI kvs k (.slice false (c.P.cellsOf et) ys)).length:=by omega
    have:=Zhk (cl:=.slice false (c.P.cellsOf et) ys) h3 h5 h7 j _ (List.getElem?_eq_getElem hjk)
    rw [if_pos rfl] at this
    exact ⟨_,List.getElem?_eq_getElem hjk,this⟩
   ·have m3:=Zhk h3 h5 h7 i row' m2
    rw [if_neg hi] at m3
    rw [Array.getElem?_modify,if_neg (by omega)] at m1
    exact ⟨m1,m3⟩
  ·rw [hvd]
   simp [Instr.mapUpdate,run_underlying hT,MapKept.run_getObj_map hb,MapKept.run_checkKey hkt (Y7 k),MapKept.run_findKey hkt h1,hj,h4,MapKept.run_keyThatStays (Y7 k),MapKept.run_setObj_map _ hb,Result.andThen,Vc]
theorem Vl {P:Program} {T et:TypeId} (h:VU P T=some et):∃ kt vt,P.underlying T=some (.map kt vt)∧P.underlying kt=some (.int .i64)∧P.underlying vt=some (.slice et):=by
 unfold VU at h
 split at h
 ·rename_i kt vt hT
  split at h
  ·rename_i et' h1 h2
   cases h
   exact ⟨kt,vt,hT,h1,h2⟩
  ·cases h
 ·cases h
theorem Zhf {P:Program} {T kt vt:TypeId} (hT:P.underlying T=some (.map kt vt)) (h:ZpP P T=true) (w:World):(zeroValue vt).run P w = .ok (.slice none 0 0) w:=by
 unfold ZpP at h
 rw [hT] at h
 dsimp only at h
 split at h
 ·rename_i i hi
  split at h
  ·rename_i hz
   simp [zeroValue,typeInfo,run_program,hi,hz]
  ·cases h
 ·cases h
theorem ZjI {w:World} {lim:Nat→Nat} (o:Obj) (S:Nat→Prop):ZT w lim (w.alloc o) (fun b=>if b=w.heap.size then 0 else lim b) S where
 os:=rfl
 tape:=rfl
 output:=rfl
 size:=by simp
 frz a ha:=by
  unfold World.frozen?
  rw [heap_alloc_old w o ha]
 blk b hb _:=⟨heap_alloc_old w o hb,if_neg (by omega)⟩
 ext b hb:=⟨by show lim b≤if b=w.heap.size then 0 else lim b;rw [if_neg (by omega)];exact Nat.le_refl _,fun o' u _ hu=>by
  unfold World.cell? at hu ⊢
  rw [heap_alloc_old w o hb]
  exact hu⟩
theorem Zec {P:Program} {o:Oper} {σ:Nat→AV} {T et:TypeId} (ho:o.op = .makeMap T none) (hT:VU P T=some et):JK P o σ (.own true (T+1048576) [[.slice false 2 []]]) [] []:=by
 intro c hc σ' tm w lim X hid hag hsim next Q hn
 have hstep:=ZjI (w:=w) (lim:=lim) (.map #[] 0) (fun _=>False)
 have hw2:=hsim.world hstep fun _ hs=>hs.elim
 have hnew:(w.alloc (.map #[] 0)).heap[w.heap.size]? = some (.map #[] 0):=heap_alloc_new w _
 refine Zk (v:=.map (some w.heap.size)) (w':=w.alloc (.map #[] 0)) ?_ (hn _ _ (Z4 (ob:=some w.heap.size) hw2 (.inr (.inr ⟨rfl,by simp [Zo],w.heap.size,#[],0,[],et,by rw [Nat.add_sub_cancel,hc];exact hT,rfl,rfl,hnew,if_pos rfl,⟨_,rfl⟩,rfl,stamped_empty 0,fun i en row h=>by simp at h⟩)) (fun b hb=>?_) fun _=>.mv (.inr rfl)))
 ·have hr:(Instr.makeMap T none).run P w = .ok (.map (some w.heap.size)) (w.alloc (.map #[] 0)):=rfl
  simp only [execOp,ho,Option.map_none,hr,Sem.run_bind,Result.andThen_ok,Sem.run_pure]
 ·cases hb
  exact ⟨.inr hsim.frm.size,fun i j=>Ka hsim i j⟩
theorem Zf7 {P:Program} {o:Oper} {σ:Nat→AV} {T et e:TypeId} {m kx:Operand} {d:Nat} {kvs:List (List AV)} {tl:List AV} {k:Int} (ho:o.op = .lookup T m kx false) (hT:VU P T=some et) (hz:ZpP P T=true) (hm:Zm P σ m = .mref d 0) (hd:σ d = .own true e [.slice false 2 kvs::tl]) (h0:P.cellsOf e=0) (he:e=T+1048576)
  (hk:Zm P σ kx = .val (.int .i64 k)):JK P o σ (.slice false (P.cellsOf et) (JL [.slice false 2 kvs::tl] k)) [] [d]:=by
 refine Zv [d] rfl fun c hc σ' tm w lim X hg hfp hsim=>?_
 rw [ho] at hg
 have hv:=YF hc hsim hm (hg m (by simp [Op.operands]))
 have hkv:=Z6 hc hsim hk (hg kx (by simp [Op.operands]))
 have hd':σ' d = .own true e [.slice false 2 kvs::tl]:=by rw [hfp d (by simp),hd]
 rw [← hc] at hv
 have hmv:=Wz hsim hd' (by rw [hc];exact h0) hv
 obtain ⟨_,b,es,clock,hX,hvd,hb,hlb,hl,hs,et',het',hr⟩:=Zcv hsim hd' (by rw [hc];exact h0)
 rw [he,Nat.add_sub_cancel,hc,hT] at het'
 cases het'
 rw [hc] at hr
 obtain ⟨kt,vt,hT1,hkt,hvt⟩:=Vl hT
 obtain ⟨_,hfind⟩:=Zdl hl hs hr k
 have hzr:=Zhf hT1 hz w
 rcases hfind with ⟨h1,_,h2⟩ | ⟨j,en,row,h1,h2,h3,h4,h5,h6,h7⟩
 ·have hgn:kvs.find? (fun r=>ZI r == some k)=none:=List.find?_eq_none.2 fun r hr=>by simpa using h2 r hr
  refine ⟨.slice none 0 0,?_,?_⟩
  ·simp [execOp,ho,hmv,hvd,hkv,Instr.lookup,run_underlying hT1,MapKept.run_getObj_map hb,MapKept.run_checkKey hkt (Y7 k),MapKept.run_findKey hkt h1,hzr,Result.andThen]
  ·simp only [JL,Kl,hgn]
   exact .sliceN
 ·obtain ⟨z,ys,p1,p2,p3⟩:=hr j en row h2 h3
  refine ⟨en.val,?_,?_⟩
  ·simp [execOp,ho,hmv,hvd,hkv,Instr.lookup,run_underlying hT1,MapKept.run_getObj_map hb,MapKept.run_checkKey hkt (Y7 k),MapKept.run_findKey hkt h1,Result.andThen]
  ·simp only [JL,Kl,h6,p1,ZiG]
   exact p3
theorem Zat {P:Program} {o:Oper} {σ:Nat→AV} {T et e:TypeId} {m kx:Operand} {d:Nat} {kvs:List (List AV)} {k:Int} (ho:o.op = .lookup T m kx false) (hT:VU P T=some et) (hz:ZpP P T=true) (hm:Zm P σ m = .mref d 0) (hd:σ d = .own true e [[.slice false 2 kvs]]) (h0:P.cellsOf e=0) (he:e=T+1048576)
  (hk:Zm P σ kx = .val (.int .i64 k)):JK P o σ (.own false et (JL [[.slice false 2 kvs]] k)) [(d,.own true e (YB [[.slice false 2 kvs]] k))] []:=by
 intro c hc σ' tm w lim X hid hag hsim next Q hn
 have hg:∀ y∈o.op.operands,Zm P σ' y=Zm P σ y:=fun y hy=>ZF fun t ht=>hid t (by simp [Zu hy ht])
 rw [ho] at hg
 have hv:=YF hc hsim hm (hg m (by simp [Op.operands]))
 have hkv:=Z6 hc hsim hk (hg kx (by simp [Op.operands]))
 have hd':σ' d = .own true e [[.slice false 2 kvs]]:=by rw [hag d (by simp),hd]
 rw [← hc] at hv
 have hmv:=Wz hsim hd' (by rw [hc];exact h0) hv
 obtain ⟨kt,vt,hT1,hkt,hvt⟩:=Vl hT
 obtain ⟨X',v,ob,ys,r1,r2,r3,r4,r5⟩:=hsim.mapTake (et:=et) k hd' (by rw [hc];exact h0) (by rw [he,Nat.add_sub_cancel,hc];exact hT) (by rw [hc];exact hT1) (by rw [hc];exact hkt) (by rw [hc];exact Zhf hT1 hz w)
 rw [hc] at r1
 subst r4
 refine Zk (v:=v) (w':=w) ?_ (hn v w (Z4 r2 r3 r5 fun h=>by cases h))
 simp only [execOp,ho,hmv,hkv,r1,Sem.run_bind,Result.andThen_ok,Sem.run_pure]
theorem ZfH {P:Program} {o:Oper} {σ:Nat→AV} {T et e:TypeId} {m kx:Operand} {d t:Nat} {kvs ys:List (List AV)} {tl:List AV} {k:Int} (ho:o.op = .insert T m kx (.tmp t)∨o.op = .mapUpdate T m kx (.tmp t)) (hT:VU P T=some et) (hm:Zm P σ m = .mref d 0) (hd:σ d = .own true e [.slice false 2 kvs::tl]) (h0:P.cellsOf e=0) (he:e=T+1048576)
  (hk:Zm P σ kx = .val (.int .i64 k)) (htl:∀ x∈tl,x = .val (.int .i64 k)) (ht:σ t = .own false et ys):JK P o σ .dead [(t,.slice false (P.cellsOf et) ys),(d,.own true e (Kj [.slice false 2 kvs::tl] k (P.cellsOf et) ys))] []:=by
 intro c hc σ' tm w lim X hid hag hsim next Q hn
 have hg:∀ y∈o.op.operands,Zm P σ' y=Zm P σ y:=fun y hy=>ZF fun t ht=>hid t (by simp [Zu hy ht])
 have hgm:=hg m (by rcases ho with ho | ho<;>rw [ho]<;>simp [Op.operands])
 have hgk:=hg kx (by rcases ho with ho | ho<;>rw [ho]<;>simp [Op.operands])
 have hv:=YF hc hsim hm hgm
 have hkv:=Z6 hc hsim hk hgk
 have hd':σ' d = .own true e [.slice false 2 kvs::tl]:=by rw [hag d (by simp),hd]
 have ht':σ' t = .own false et ys:=by rw [hag t (by simp),ht]
 have htd:t≠d:=fun h=>by rw [h,hd'] at ht';cases ht'
 rw [← hc] at hv
 have hmv:=Wz hsim hd' (by rw [hc];exact h0) hv
 obtain ⟨kt,vt,hT1,hkt,hvt⟩:=Vl hT
 obtain ⟨f1,f2,f3⟩:=hsim.free ht' (hsim.noRefs fun q=>by rw [ht'];cases q<;>rfl)
 have hd2:upd σ' t (Wn c.P false et ys) d = .own true e [.slice false 2 kvs::tl]:=by rw [Zi _ _ (Ne.symm htd)];exact hd'
 obtain ⟨w',X',r1,r2⟩:=f1.mapFill (et:=et) k hd2 (by rw [hc];exact h0) (by rw [he,Nat.add_sub_cancel,hc];exact hT) (by rw [hc];exact hT1) (by rw [hc];exact hkt) htl f2 f3
 rw [hc] at r1
 refine YT (w':=w') ?_ (hn undef w' ?_)
 ·have hev:Act.eval ⟨tm,[]⟩ (.tmp t)=tm.getD t undef:=rfl
  rcases ho with ho | ho<;>simp only [execOp,ho,hmv,hkv,hev,r1,Sem.run_bind,Result.andThen_ok,Sem.run_pure]
 ·rw [← hc]
  exact Zy r2 rfl (k:=0) trivial
theorem Zbj {P:Program} {o:Oper} {σ:Nat→AV} {T et e:TypeId} {m kx vx:Operand} {d s:Nat} {kvs:List (List AV)} {tl:List AV} {k:Int} (ho:o.op = .insert T m kx vx∨o.op = .mapUpdate T m kx vx) (hT:VU P T=some et) (hm:Zm P σ m = .mref d 0) (hd:σ d = .own true e [.slice false 2 kvs::tl]) (h0:P.cellsOf e=0) (he:e=T+1048576)
  (hk:Zm P σ kx = .val (.int .i64 k)) (htl:∀ x∈tl,x = .val (.int .i64 k)) (hvx:Zm P σ vx = .slice true s []):JK P o σ .dead [(d,.own true e (Kj [.slice false 2 kvs::tl] k (P.cellsOf et) []))] []:=by
 intro c hc σ' tm w lim X hid hag hsim next Q hn
 have hg:∀ y∈o.op.operands,Zm P σ' y=Zm P σ y:=fun y hy=>ZF fun t ht=>hid t (by simp [Zu hy ht])
 have hgm:=hg m (by rcases ho with ho | ho<;>rw [ho]<;>simp [Op.operands])
 have hgk:=hg kx (by rcases ho with ho | ho<;>rw [ho]<;>simp [Op.operands])
 have hgv:=hg vx (by rcases ho with ho | ho<;>rw [ho]<;>simp [Op.operands])
 have hv:=YF hc hsim hm hgm
 have hkv:=Z6 hc hsim hk hgk
 have hvv:Rep w lim (.slice true s []) (Act.eval ⟨tm,[]⟩ vx):=YF hc hsim hvx hgv
 have hd':σ' d = .own true e [.slice false 2 kvs::tl]:=by rw [hag d (by simp),hd]
 rw [← hc] at hv
 have hmv:=Wz hsim hd' (by rw [hc];exact h0) hv
 obtain ⟨kt,vt,hT1,hkt,hvt⟩:=Vl hT
 have hown:Z9 c.P w lim false et [] (Act.eval ⟨tm,[]⟩ vx) none:=by
  generalize Act.eval ⟨tm,[]⟩ vx=v at hvv
  cases hvv with
  | sliceN => exact .inl ⟨[], World.ownsRow_nil _ 0 et _, rfl, by simp, by simp, by simp, by simp⟩
  | sliceE hf => rw [hf rfl]; exact .inr (.inl ⟨rfl, rfl, _, rfl⟩)
  | sliceC hs1 hc1 hf1 hle1 hl1 hus1 hcl1 h1 => rw [hf1 rfl]; exact .inr (.inl ⟨rfl, rfl, _, rfl⟩)
 obtain ⟨w',X',r1,r2⟩:=hsim.mapFill (et:=et) k hd' (by rw [hc];exact h0) (by rw [he,Nat.add_sub_cancel,hc];exact hT) (by rw [hc];exact hT1) (by rw [hc];exact hkt) htl hown (fun b hb=>by cases hb)
 rw [hc] at r1
 refine YT (w':=w') ?_ (hn undef w' ?_)
 ·rcases ho with ho | ho<;>simp only [execOp,ho,hmv,hkv,r1,Sem.run_bind,Result.andThen_ok,Sem.run_pure]
 ·rw [← hc]
  exact Zy r2 rfl (k:=0) trivial
def ZkU (x:MapEntry):Int:=match x.key with | .int _ z=>z | _=>0
def KU (P:Program) (ks:List (FuncId×FuncId×FuncId)):Prop:=
 ∀ p∈ks,Callable P p.1∧Callable P p.2.1∧
  (∀ (b:Nat) (w:World),Calls P p.1 #[.map (some b)] w fun e w'=>e = .returned (.func (.func p.2.2) #[] #[.pointer (some ⟨w.heap.size,0,none⟩)])∧∃ T,w'=w.alloc (.cells #[.map (some b)] T))∧
  ∀ (w:World) (B b:Nat) (es:Array MapEntry) (clock:Nat),w.cell? ⟨B,0,none⟩=some (.map (some b))→w.heap[b]? = some (.map es clock)→Stamped es clock→es.size≤1048576→
   (∀ x∈es.toList,∃ z:Int,x.key = .int .i64 z∧-9223372036854775808≤z∧z≤9223372036854775807)→
   Calls P p.2.1 #[.func (.func p.2.2) #[] #[.pointer (some ⟨B,0,none⟩)]] w fun e w'=>∃ v et,e = .returned v∧
    w'.ownsRow w.heap.size et 1 v es.size (((es.toList.map ZkU).mergeSort fun x y=>decide (x≤y)).map (Value.int .i64))∧Below w.heap.size w w'
theorem ZbS {w w':World} {lim:Nat→Nat} {N:Nat} (h:Below w.heap.size w w') (S:Nat→Prop):ZT w lim w' (fun b=>if b < w.heap.size then lim b else N) S where
 os:=h.os
 tape:=h.tape
 output:=h.output
 size:=h.size
 frz a ha:=by
  unfold World.frozen?
  rw [h.block _ ha]
 blk b hb _:=⟨h.block b hb,if_pos hb⟩
 ext b hb:=⟨by dsimp only;rw [if_pos hb];exact Nat.le_refl _,fun o' u _ hu=>by
  unfold World.cell? at hu ⊢
  rw [h.block b hb]
  exact hu⟩
theorem Zg8 {P:Program} {o:Oper} {cl:Call} {f:FuncId} {x:Operand} {tm:Array Value} {w:World} {v:Value} (ho:o.op = .call cl) (hcl:cl.callee = .value (.func f)) (hargs:cl.args.toList = [x]) (hf:Callable P f) (hv:Act.eval ⟨tm,[]⟩ x=v) :
  (execOp (Act.eval ⟨tm,[]⟩) o).run P w = .ok (.enter f #[v]) w:=by
 obtain ⟨fn,hfn,hname,hbody⟩:=hf
 have hargs':cl.args = #[x]:=by apply Array.toList_inj.1;rw [hargs]
 have hev:Act.eval ⟨tm,[]⟩ (.func f) = .func (.func f) #[] #[]:=rfl
 simp only [execOp,ho,Sem.run_bind,resolve,hcl,hev,Deferred.ofValue,Sem.run_pure,Result.andThen_ok,hargs',invoke,callFunc,run_program,hfn,hname,hbody]
 simp [hv]
theorem Zin {P:Program} {o:Oper} {σ:Nat→AV} {ks:List (FuncId×FuncId×FuncId)} {p:FuncId×FuncId×FuncId} {cl:Call} {x:Operand} {d:Nat} {e:TypeId} {kvs:List (List AV)} {tl:List AV} (hks:KU P ks) (hp:p∈ks) (ho:o.op = .call cl) (hcl:cl.callee = .value (.func p.1)) (hargs:cl.args.toList = [x])
  (hx:Zm P σ x = .mref d 0) (hd:σ d = .own true e [.slice false 2 kvs::tl]) (h0:P.cellsOf e=0):JK P o σ (.eref d 0 p.2.2) [] [d]:=by
 intro c hc σ' tm w lim X hid hag hsim next Q hn
 have hargs':cl.args = #[x]:=by apply Array.toList_inj.1;rw [hargs]
 have hgx:Zm P σ' x=Zm P σ x:=ZF fun t ht=>hid t (Zu (x:=x) (by rw [ho];simp [Op.operands,Call.operands,hcl,hargs']) ht)
 have hv:=YF hc hsim hx hgx
 have hd':σ' d = .own true e [.slice false 2 kvs::tl]:=by rw [hag d (by simp),hd]
 rw [← hc] at hv
 have hmv:=Wz hsim hd' (by rw [hc];exact h0) hv
 obtain ⟨hm,b,es,clock,hX,hvd,hb,hlb,hl,hs,et',het',hr⟩:=Zcv hsim hd' (by rw [hc];exact h0)
 obtain ⟨k1,_,k3,_⟩:=hks p hp
 unfold Oper.wp
 rw [Zg8 ho hcl hargs k1 (hmv.trans hvd),Oper.upon_enter]
 refine (k3 b w).mono ?_
 rintro e1 w' ⟨rfl,T,rfl⟩
 refine hn _ _ ?_
 have hstep:ZT w lim (w.alloc (.cells #[.map (some b)] T)) (fun b'=>if b' < w.heap.size then lim b' else 1) (fun _=>False):=ZbS ((Below.refl _ w).alloc (Nat.le_refl _) _) _
 have hw2:=hsim.world hstep fun _ hs=>hs.elim
 refine Zy hw2 rfl (k:=0) ⟨b,e,_,by show Zr (σ' d) 0=_;rw [hd'];rfl,hX,.inr ⟨hm,w.heap.size,rfl,?_,?_⟩⟩
 ·show 0 < if w.heap.size < w.heap.size then lim w.heap.size else 1
  rw [if_neg (by omega)]
  exact Nat.one_pos
 ·have:(w.alloc (.cells #[.map (some b)] T)).heap[w.heap.size]? = some (.cells #[.map (some b)] T (0,0)):=heap_alloc_new w _
  simp only [World.cell?,this]
  rfl
theorem ZeV {P:Program} {w:World} {lim:Nat→Nat} {et:TypeId} : ∀ (es:List MapEntry) (kvs:List (List AV)),es.length=kvs.length→(∀ (i:Nat) (en:MapEntry) (row:List AV),es[i]? = some en→kvs[i]? = some row→Za2 P w lim et en row)→kvs.filterMap ZI=es.map ZkU
 | [], [], _, _ => rfl
 | en :: es, row :: kvs, hl, h => by
  obtain ⟨z,ys,h1,h2,_⟩:=h 0 en row rfl rfl
  have hk:ZkU en=z:=by simp [ZkU,h2]
  rw [List.filterMap_cons,h1,V7,List.map_cons,hk,ZeV es kvs (by simpa using hl) fun i e r g1 g2=>h (i+1) e r g1 g2]
 | [], _ :: _, hl, _ => by simp at hl
 | _ :: _, [], hl, _ => by simp at hl
theorem ZeM:∀ (zs:List Int),(zs.map fun z=>[AV.val (.int .i64 z)]).flatten=zs.map fun z=>AV.val (.int .i64 z)
 | [] => rfl
 | z :: zs => by rw [List.map_cons, List.flatten_cons, ZeM zs]; rfl
theorem Zgl {P:Program} {o:Oper} {σ:Nat→AV} {ks:List (FuncId×FuncId×FuncId)} {p:FuncId×FuncId×FuncId} {cl:Call} {x:Operand} {d:Nat} {e:TypeId} {kvs:List (List AV)} (hks:KU P ks) (hp:p∈ks) (ho:o.op = .call cl) (hcl:cl.callee = .value (.func p.2.1)) (hargs:cl.args.toList = [x])
  (hx:Zm P σ x = .eref d 0 p.2.2) (hd:σ d = .own true e [[.slice false 2 kvs]]) (h0:P.cellsOf e=0) (hlen:kvs.length≤1048576) (hfine:∀ r∈kvs,VO r=true):JK P o σ (.slice false 1 (KV [[.slice false 2 kvs]])) [] [d]:=by
 intro c hc σ' tm w lim X hid hag hsim next Q hn
 have hargs':cl.args = #[x]:=by apply Array.toList_inj.1;rw [hargs]
 have hgx:Zm P σ' x=Zm P σ x:=ZF fun t ht=>hid t (Zu (x:=x) (by rw [ho];simp [Op.operands,Call.operands,hcl,hargs']) ht)
 have hv:=YF hc hsim hx hgx
 have hd':σ' d = .own true e [[.slice false 2 kvs]]:=by rw [hag d (by simp),hd]
 rw [← hc] at hv
 obtain ⟨hm,b,es,clock,hX,hvd,hb,hlb,hl,hs,et',het',hr⟩:=Zcv hsim hd' (by rw [hc];exact h0)
 obtain ⟨b',e',xs',m1,m2,m3⟩:=hv
 rw [hd'] at m1
 simp only [Zr,Option.some.injEq,Prod.mk.injEq] at m1
 obtain ⟨rfl,rfl⟩:=m1
 rw [hX] at m2
 cases m2
 rcases m3 with ⟨m3,_⟩ | ⟨_,B,hvx,hlB,hcB⟩
 ·rw [hm] at m3;cases m3
 obtain ⟨_,k2,_,k4⟩:=hks p hp
 unfold Oper.wp
 rw [Zg8 ho hcl hargs k2 hvx,Oper.upon_enter]
 have hrow:∀ i (hi:i < es.size),∃ row,kvs[i]? = some row∧Za2 c.P w lim et' es[i] row:=fun i hi=>⟨kvs[i]'(by omega),List.getElem?_eq_getElem _,hr i _ _ (Array.getElem?_eq_getElem hi) (List.getElem?_eq_getElem _)⟩
 refine (k4 w B b es clock hcB hb hs (by omega) fun y hy=>?_).mono ?_
 ·obtain ⟨i,hi,rfl⟩:=List.mem_iff_getElem.1 hy
  have hi':i < es.size:=by simpa using hi
  obtain ⟨row,h1,z,ys,h2,h3,_⟩:=hrow i hi'
  have hf:=hfine row (List.mem_of_getElem? h1)
  rw [h2] at hf
  simp only [VO,V7,Bool.and_eq_true,decide_eq_true_eq] at hf
  have:es.toList[i]=es[i]:=by simp
  exact ⟨z,by rw [this];exact h3,hf.1,hf.2⟩
 ·rintro e1 w' ⟨v,et,rfl,hown,hbel⟩
  refine hn _ _ ?_
  have hstep:ZT w lim w' (fun b'=>if b' < w.heap.size then lim b' else es.size) (fun _=>False):=ZbS hbel _
  have hw2:=hsim.world hstep fun _ hs=>hs.elim
  refine Zy hw2 rfl (k:=0) ?_
  have hks':kvs.filterMap ZI=es.toList.map ZkU:=ZeV es.toList kvs (by simpa using hl) fun i en row g1 g2=>hr i en row (by simpa using g1) g2
  show Rep w' _ (.slice false 1 (KV [[.slice false 2 kvs]])) v
  have hmk:KV [[.slice false 2 kvs]]=((es.toList.map ZkU).mergeSort fun x y=>decide (x≤y)).map fun z=>[.val (.int .i64 z)]:=by simp only [KV,Kl,hks']
  rw [hmk]
  generalize hz:(es.toList.map ZkU).mergeSort (fun x y=>decide (x≤y))=zs at hown
  have hzl:zs.length=es.size:=by rw [← hz];simp
  rcases hown.2 with ⟨rfl,hn0⟩ | ⟨g,cap,cur,rfl,hbg,hg,hnc,hcm,hcs,htake⟩
  ·have:zs = []:=List.eq_nil_of_length_eq_zero (by omega)
   subst this
   exact .sliceN
  ·rw [← hzl] at hnc ⊢
   have hl2:(zs.map fun z=>[AV.val (.int .i64 z)]).length=zs.length:=by simp
   have hfl:(zs.map fun z=>[AV.val (.int .i64 z)]).flatten=zs.map fun z=>AV.val (.int .i64 z):=by
    exact ZeM zs
   have key:=Rep.sliceC (w:=w') (lim:=fun b'=>if b' < w.heap.size then lim b' else zs.length) (full:=false) (s:=1) (xs:=zs.map fun z=>[AV.val (.int .i64 z)]) (b:=g) (o:=0) (cap:=cap) (us:=zs.map (Value.int .i64))
    (fun x hx=>by obtain ⟨z,_,rfl⟩:=List.mem_map.1 hx;rfl) (fun x hx y hy=>by obtain ⟨z,_,rfl⟩:=List.mem_map.1 hx;rw [List.mem_singleton.1 hy];rfl) (fun h=>by cases h) (by rw [hl2];exact hnc)
    (fun _=>by rw [if_neg (by omega)];simp) (by simp) (fun j u hj=>?_) (fun j y u hy hu=>?_)
   ·rw [hl2] at key
    exact key
   ·have hcell:=hown.cells (g:=g) rfl j u hj
    have hadd:(⟨g,0,none⟩:Addr).add j=⟨g,0+j,none⟩:=by unfold Addr.add;split<;>simp_all
    rw [hadd] at hcell
    exact hcell
   ·rw [hfl,List.getElem?_map] at hy
    rw [List.getElem?_map] at hu
    cases hzj:zs[j]? with
    | none => rw [hzj] at hy; cases hy
    | some z =>
     rw [hzj] at hy hu
     cases hy
     cases hu
     exact .val rfl
end Go.AM
end

section
namespace Go.AM
def Zo6 (A:Nat→List V→Prop) (n:Nat) (B:List V→Prop):Nat→List V→Prop:=fun i vs=>if i=n then B vs else A i vs
def STree.wp (P:Program) (R:AV→List AV→Prop):STree→(Nat→List V→Prop)→(Nat→V)→Prop
 | .stuck _, _, _ => False
 | .branch b t e, A, ρ => (b.den ρ = true → t.wp P R A ρ) ∧ (b.den ρ = false → e.wp P R A ρ)
 | .req p t, A, ρ => p.den ρ ∧ t.wp P R A ρ
 | .elem l i sh n t, A, ρ => ∃ vs, 0 ≤ i.den ρ ∧ (l.den ρ)[(i.den ρ).toNat]? = some ((ZQ sh n).map (SC.den (bind ρ n vs))) ∧ t.wp P R A (bind ρ n vs)
 | .nilq l n t, A, ρ => ∀ b : Bool, (b = true → l.den ρ = []) → t.wp P R A (bind ρ n [.b b])
 | .call f args res outs n _ t, A, ρ => ∃ vs, JI P f (args.map (SV.den ρ)) (res.den (bind ρ n vs)) (outs.map (SV.den (bind ρ n vs))) ∧ t.wp P R A (bind ρ n vs)
 | .loop lv init n t, A, ρ => ∃ (I : List V → Prop) (m : List V → Nat), I (init.map (VE.den ρ)) ∧
   ∀ vs,vs.length=init.length→I vs→t.wp P R (Zo6 A lv fun vs'=>I vs'∧m vs' < m vs) (bind Zfl n vs)
 | .again lv vals, A, ρ => A lv (vals.map (VE.den ρ))
 | .ret res outs, _, ρ => R (res.den ρ) (outs.map (SV.den ρ))
def YA:List Sh→List Value→Prop
 | [], [] => True
 | .int k :: L, .int k' _ :: us => k = k' ∧ YA L us
 | .bool :: L, .bool _ :: us => YA L us
 | _, _ => False
def eqV:List Value→List Value→Bool
 | .int _ a :: us, .int _ b :: vs => (a == b) && eqV us vs
 | .bool a :: us, .bool b :: vs => (a == b) && eqV us vs
 | _, _ => true
def Vf (P:Program) (plain:List TypeId):Prop:=
 ∀ T∈plain,P.eqGuardType P.depth T=false∧∀ L,Y0 P 8 T=some L→∀ (us vs:List Value),YA L us→YA L vs→∀ w,
  (Op.equalIn 10000 T (.agg us.toArray) (.agg vs.toArray)).run P w = .ok (eqV us vs) w
def EnvSound (P:Program) (E:Env):Prop:=Vf P E.plain∧KU P E.ks
end Go.AM
end

section
namespace Go.AM
theorem ZfV {P:Program} {R:AV→List AV→Prop} {A:Nat→List V→Prop} {ρ:Nat→V} {b:BE} {t e:STree} (h:(ZdV b t e).wp P R A ρ) :
  (b.den ρ=true→t.wp P R A ρ)∧(b.den ρ=false→e.wp P R A ρ):=by
 unfold ZdV at h
 split at h
 ·exact ⟨fun _=>h,fun hb=>by simp [BE.den] at hb⟩
 ·exact ⟨fun hb=>by simp [BE.den] at hb,fun _=>h⟩
 ·exact h
theorem Zkg (b:BE) (ρ:Nat→V):(ZiY b).den ρ = !b.den ρ:=by unfold ZiY;split<;>rfl
theorem ZlF {b:BE} {n:Nat} (h:b.bd n):(ZiY b).bd n:=by
 unfold ZiY
 split
 ·trivial
 ·exact h
theorem ZfJ {v:Value} (ρ:Nat→V):(ofC v).map (SC.den ρ)=ZoB v:=by
 cases v with
 | slice a l c => cases a <;> cases l <;> cases c <;> rfl
 | _ => rfl
theorem Y1 (ρ:Nat→V):∀ (vs:List Value),(Zfq vs).map (List.map (SC.den ρ))=W9 vs
 | [] => rfl
 | v :: vs => by
  have h1:=ZfJ (v:=v) ρ
  have h2:=Y1 ρ vs
  simp only [Zfq,W9]
  cases hc:ofC v<;>cases hcs:Zfq vs<;>rw [hc] at h1<;>rw [hcs] at h2<;>simp at h1 h2<;>rw [← h1]<;>try rw [← h2]
  ·simp
  ·simp
  ·simp
  ·simp
theorem Zmq {v:Value} {c:SC} {n:Nat} (h:ofC v=some c):c.bd n:=by
 unfold ofC at h
 split at h<;>simp at h<;>subst h<;>trivial
theorem KT {n:Nat} : ∀ {vs:List Value} {cs:List SC},Zfq vs=some cs→∀ c∈cs,c.bd n
 | [], cs, h => by simp [Zfq] at h; subst h; simp
 | v :: vs, cs, h => by
  simp only [Zfq] at h
  split at h
  ·rename_i c cs' hc hcs
   simp at h
   subst h
   intro x hx
   rcases List.mem_cons.1 hx with rfl | hx
   ·exact Zmq hc
   ·exact KT hcs x hx
  ·simp at h
theorem Zon (v:Value) (ρ:Nat→V):(ofV v).den ρ=Zm9 v:=by
 cases v with
 | agg cs =>
  have:=Y1 ρ cs.toList
  simp only [ofV,Zm9]
  rw [← this]
  cases Zfq cs.toList<;>rfl
 | slice a l c =>
  have:=ZfJ (v:=.slice a l c) ρ
  simp only [ofV,Zm9]
  rw [← this]
  cases ofC (.slice a l c)<;>rfl
 | _ => rfl
theorem ZpR (v:Value) (n:Nat):(ofV v).bd n:=by
 unfold ofV
 split
 ·split
  ·rename_i l hl;exact KT hl
  ·trivial
 ·split
  ·rename_i c hc;exact Zmq (v:=v) hc
  ·trivial
theorem Yt (P:Program) (g:Nat→SV) (ρ:Nat→V) (x:Operand):(Jj P g x).den ρ=Zm P (fun d=>(g d).den ρ) x:=by
 cases x with
 | tmp t =>
  simp only [Jj,Zm]
  cases g t with
  | c x => cases x <;> rfl
  | own x e xs => cases x <;> rfl
  | _ => rfl
 | const v => exact Zon v ρ
 | global g => rfl
 | func f => rfl
theorem ZD {P:Program} {g:Nat→SV} {n:Nat} (hg:∀ d,(g d).bd n) (x:Operand):(Jj P g x).bd n:=by
 cases x with
 | tmp t =>
  have:=hg t
  simp only [Jj]
  cases hs:g t with
  | own x e xs => rw [hs] at this; cases x <;> first | exact this | trivial
  | _ => rw [hs] at this; first | exact this | trivial
 | const v => exact ZpR v n
 | global g => trivial
 | func f => trivial
theorem Zg {P:Program} {g:Nat→SV} {x:Operand} {y:SV} (ρ:Nat→V) (h:Jj P g x=y):Zm P (fun d=>(g d).den ρ) x=y.den ρ:=by rw [← Yt,h]
def YZ (tx:Odr) (P:Program) (R:AV→List AV→Prop) (A:Nat→List V→Prop) (ρ:Nat→V) (g:Nat→SV) (o:Oper) (n:Nat) (k:K):Prop:=
 ∃ ρ' n' x us fp,n≤n'∧(∀ m,m < n→ρ' m=ρ m)∧x.bd n'∧(∀ u∈us,u.2.bd n')∧(k x us fp n').wp P R A ρ'∧
  KQ tx P o (fun d=>(g d).den ρ) (x.den ρ') (us.map fun u=>(u.1,u.2.den ρ')) fp
section
variable {tx:Odr} {P:Program} {R:AV→List AV→Prop} {A:Nat→List V→Prop} {ρ:Nat→V} {g:Nat→SV} {o:Oper} {n:Nat} {k:K}
theorem Zbq {x:SV} {us:Ups} {fp:List Nat} (hk:(k x us fp n).wp P R A ρ) (hx:x.bd n) (hus:∀ u∈us,u.2.bd n)
  (hex:JK P o (fun d=>(g d).den ρ) (x.den ρ) (us.map fun u=>(u.1,u.2.den ρ)) fp):YZ tx P R A ρ g o n k:=
 ⟨ρ,n,x,us,fp,Nat.le_refl _,fun _ _=>rfl,hx,hus,hk,hex.t⟩
theorem Za0 {x:SV} {us:Ups} {fp:List Nat} (hk:(k x us fp n).wp P R A ρ) (hx:x.bd n) (hus:∀ u∈us,u.2.bd n)
  (hex:KQ tx P o (fun d=>(g d).den ρ) (x.den ρ) (us.map fun u=>(u.1,u.2.den ρ)) fp):YZ tx P R A ρ g o n k:=
 ⟨ρ,n,x,us,fp,Nat.le_refl _,fun _ _=>rfl,hx,hus,hk,hex⟩
theorem ZN {x:SV} {fp:List Nat} (hk:(k x [] fp n).wp P R A ρ) (hx:x.bd n) (hex:JK P o (fun d=>(g d).den ρ) (x.den ρ) [] fp):YZ tx P R A ρ g o n k:=
 Zbq hk hx (by simp) hex
def Zdn (ρ:Nat→V):SC→Value
 | .int k e => .int k (e.den ρ)
 | .bool b => .bool (b.den ρ)
 | .str s => .string (s.den ρ)
 | .slice _ _ _ => .slice none 0 0
theorem Zby (ρ:Nat→V):∀ (L:List Sh) (cs:List SC),VH L cs=true→YA L (cs.map (Zdn ρ))∧cs.map (SC.den ρ)=(cs.map (Zdn ρ)).map AV.val∧∀ u∈cs.map (Zdn ρ),ZcG u=true
 | [], [], _ => ⟨trivial, rfl, by simp⟩
 | [], _ :: _, h => by simp [VH] at h
 | _ :: _, [], h => by simp [VH] at h
 | s :: L, c :: cs, h => by
  simp only [VH,Bool.and_eq_true] at h
  obtain ⟨h1,h2,h3⟩:=Zby ρ L cs h.2
  have h0:=h.1
  cases s<;>cases c<;>simp [Zmi] at h0
  ·refine ⟨⟨h0,h1⟩,by simp only [List.map_cons,h2];rfl,?_⟩
   intro u hu
   rw [List.map_cons] at hu
   rcases List.mem_cons.1 hu with rfl | hu
   ·rfl
   ·exact h3 u hu
  ·refine ⟨h1,by simp only [List.map_cons,h2];rfl,?_⟩
   intro u hu
   rw [List.map_cons] at hu
   rcases List.mem_cons.1 hu with rfl | hu
   ·rfl
   ·exact h3 u hu
theorem ZbA (ρ:Nat→V):∀ (xs ys:List SC) (e:BE),Zam xs ys=some e→e.den ρ=eqV (xs.map (Zdn ρ)) (ys.map (Zdn ρ))
 | [], [], e, h => by simp [Zam] at h; subst h; rfl
 | [], _ :: _, e, h => by simp [Zam] at h
 | _ :: _, [], e, h => by simp [Zam] at h
 | a :: aZ, b :: bs, e, h => by
  simp only [Zam] at h
  split at h
  ·rename_i x y hx hy
   simp at h
   subst h
   have ih:=ZbA ρ aZ bs y hy
   cases a<;>cases b<;>simp [Ziy] at hx
   ·obtain ⟨_,rfl⟩:=hx
    simp only [BE.den,List.map_cons,Zdn,eqV,ih,cop]
   ·subst hx
    simp only [BE.den,List.map_cons,Zdn,eqV,ih]
  ·simp at h
theorem Zhm {n:Nat} : ∀ (xs ys:List SC) (e:BE),(∀ c∈xs,c.bd n)→(∀ c∈ys,c.bd n)→Zam xs ys=some e→e.bd n
 | [], [], e, _, _, h => by simp [Zam] at h; subst h; trivial
 | [], _ :: _, e, _, _, h => by simp [Zam] at h
 | _ :: _, [], e, _, _, h => by simp [Zam] at h
 | a :: aZ, b :: bs, e, hx, hy, h => by
  simp only [Zam] at h
  split at h
  ·rename_i x y hx' hy'
   simp at h
   subst h
   have ih:=Zhm aZ bs y (fun c hc=>hx c (by simp [hc])) (fun c hc=>hy c (by simp [hc])) hy'
   have ha:=hx a (by simp)
   have hb:=hy b (by simp)
   cases a<;>cases b<;>simp [Ziy] at hx'
   ·obtain ⟨_,rfl⟩:=hx'
    exact ⟨⟨ha,hb⟩,ih⟩
   ·subst hx'
    exact ⟨⟨ha,hb⟩,ih⟩
  ·simp at h
theorem Zg4 {w:World} {lim:Nat→Nat} {us:List Value} {v:Value} (h:Rep w lim (.agg (us.map AV.val)) v):v = .agg us.toArray:=by
 have key:∀ y,Rep w lim y v→y = .agg (us.map AV.val)→v = .agg us.toArray:=by
  intro y hy he
  cases hy with
  | @agg cs vs hl hc hr =>
   injection he with he
   subst he
   have hlen:us.length=vs.length:=by simpa using hl
   have:vs=us:=by
    apply List.ext_getElem hlen.symm
    intro i h1 h2
    exact K4 (hr i (.val us[i]) vs[i] (by simp [h2]) (by simp [h1]))
   rw [this]
  | val _ => cases he
  | sliceN => cases he
  | sliceE _ => cases he
  | sliceC _ _ _ _ _ _ _ _ => cases he
 exact key _ h rfl
theorem Zbd {T T':TypeId} {x y:Operand} {op:BinOp} {us vs:List Value} {σ:Nat→AV} {L:List Sh} {plain:List TypeId} (hps:Vf P plain) (hT:T∈plain) (hL:Y0 P 8 T=some L) (ho:o.op = .binOp op T x y T')
  (hop:op = .eql∨op = .neq) (hx:Zm P σ x = .agg (us.map AV.val)) (hy:Zm P σ y = .agg (vs.map AV.val)) (hu:YA L us) (hv:YA L vs) :
  JK P o σ (.val (.bool (if op = .eql then eqV us vs else !eqV us vs))) [] []:=by
 refine Zv [] rfl fun c hc σ' tm w lim X hg hfp hsim=>⟨.bool (if op = .eql then eqV us vs else !eqV us vs),?_,.val rfl⟩
 rw [ho] at hg
 have h1:=Zg4 (YF hc hsim hx (hg x (by simp [Op.operands])))
 have h2:=Zg4 (YF hc hsim hy (hg y (by simp [Op.operands])))
 obtain ⟨p1,p2⟩:=hps T hT
 have p3:=p2 L hL us vs hu hv w
 rcases hop with rfl | rfl
 ·simp only [execOp,ho,h1,h2,Sem.run_bind,run_eqGuard_agg w .eql T x y us.toArray vs.toArray p1,Result.andThen_ok,run_eql_struct,p3]
  simp
 ·simp only [execOp,ho,h1,h2,Sem.run_bind,run_eqGuard_agg w .neq T x y us.toArray vs.toArray p1,Result.andThen_ok,run_neq_struct,p3]
  simp
theorem ZiS {plain:List TypeId} {op:BinOp} {T T':TypeId} {xo yo:Operand} (hps:Vf P plain) (hg:∀ d,(g d).bd n) (ho:o.op = .binOp op T xo yo T')
  (h:(bin P plain op T (Jj P g xo) (Jj P g yo) fun v=>k v [] [] n).wp P R A ρ):YZ tx P R A ρ g o n k:=by
 have bx:=ZD (P:=P) hg xo
 have bY:=ZD (P:=P) hg yo
 generalize hx:Jj P g xo=x at h bx
 generalize hy:Jj P g yo=y at h bY
 have sx:=Zg ρ hx
 have sy:=Zg ρ hy
 unfold bin at h
 split at h
 ·rename_i kx a ky b
  have arith:∀ (i:IOp),kx=ky→Zn5 op=some i→(i = .quo∨i = .rem→b.den ρ≠0)→(k (.c (.int kx (.bin i kx a b))) [] [] n).wp P R A ρ→YZ tx P R A ρ g o n k:=by
   intro i hk hi hz hk'
   subst hk
   exact ZN hk' ⟨bx,bY⟩ (Zlj ho hi sx sy hz)
  have comp:∀ (i:COp),kx=ky→Znz op=some i→(k (.c (.bool (.cmp i a b))) [] [] n).wp P R A ρ→YZ tx P R A ρ g o n k:=by
   intro i hk hi hk'
   subst hk
   exact ZN hk' ⟨bx,bY⟩ (Zk8 ho hi sx sy)
  split at h
  ·exact ZN h.2 ⟨bx,bY⟩ (ZcO ho (.inl ⟨rfl,rfl⟩) sx sy h.1)
  ·exact ZN h.2 ⟨bx,bY⟩ (ZcO ho (.inr ⟨rfl,rfl⟩) sx sy h.1)
  ·split at h
   ·rename_i hk
    split at h<;>first
     | exact h.elim
     | exact arith _ hk rfl (by simp) h
     | exact arith _ hk rfl (fun _ => h.1) h.2
     | exact comp _ hk rfl h
   ·exact h.elim
 ·rename_i a b
  split at h
  ·exact ZN h ⟨bx,bY⟩ (Zhe (op:=.eql) ho (.inl rfl) sx sy)
  ·exact ZN h ⟨bx,bY⟩ (Zhe (op:=.neq) ho (.inr rfl) sx sy)
  ·exact h.elim
 ·rename_i a b
  split at h
  ·rename_i hT
   split at h
   ·exact ZN h ⟨bx,bY⟩ (Zfm (op:=.eql) ho hT (.inl rfl) sx sy)
   ·exact ZN h ⟨bx,bY⟩ (Zfm (op:=.neq) ho hT (.inr rfl) sx sy)
   ·exact h.elim
  ·exact h.elim
 ·rename_i xs ys
  split at h
  ·rename_i e hpl he
   simp only [ZjZ,Bool.and_eq_true,List.contains_iff_mem] at hpl
   obtain ⟨hT,hk⟩:=hpl
   cases hL:Y0 P 8 T with
   | none => simp [hL] at hk
   | some L =>
    rw [hL] at hk
    simp only [Bool.and_eq_true] at hk
    obtain ⟨u1,u2,u3⟩:=Zby ρ L xs hk.1
    obtain ⟨v1,v2,v3⟩:=Zby ρ L ys hk.2
    have hbd:=Zhm xs ys e bx bY he
    have sx':Zm P (fun d=>(g d).den ρ) xo = .agg ((xs.map (Zdn ρ)).map AV.val):=by rw [sx,← u2];rfl
    have sy':Zm P (fun d=>(g d).den ρ) yo = .agg ((ys.map (Zdn ρ)).map AV.val):=by rw [sy,← v2];rfl
    split at h
    ·refine ZN h hbd ?_
     have:=Zbd (o:=o) (op:=.eql) hps hT hL ho (.inl rfl) sx' sy' u1 v1
     rw [if_pos rfl,← ZbA ρ xs ys e he] at this
     exact this
    ·refine ZN h hbd ?_
     have:=Zbd (o:=o) (op:=.neq) hps hT hL ho (.inr rfl) sx' sy' u1 v1
     rw [if_neg (by simp),← ZbA ρ xs ys e he] at this
     exact this
    ·exact h.elim
  ·exact h.elim
 ·exact h.elim
end
end Go.AM
end

section
namespace Go.AM
theorem ZhJ (ρ:Nat→V) (c:SC):(c.den ρ).isCell=true:=by cases c<;>rfl
theorem V9 {x:SV} {cs:List SC} (ρ:Nat→V) (h:x.cells=some cs):(x.den ρ).cells? = some (cs.map (SC.den ρ)):=by
 cases x with
 | c y =>
  simp only [SV.cells,Option.some.injEq] at h
  subst h
  cases y<;>rfl
 | agg ds =>
  simp only [SV.cells,Option.some.injEq] at h
  subst h
  rfl
 | _ => simp [SV.cells] at h
theorem ZaK {x:SV} {cs:List SC} {n:Nat} (h:x.cells=some cs) (hx:x.bd n):∀ c∈cs,c.bd n:=by
 cases x with
 | c y =>
  simp only [SV.cells,Option.some.injEq] at h
  subst h
  intro c hc
  simp at hc
  subst hc
  exact hx
 | agg ds =>
  simp only [SV.cells,Option.some.injEq] at h
  subst h
  exact hx
 | _ => simp [SV.cells] at h
theorem ZaQ (ρ:Nat→V) (place:Nat→Option (Nat×Nat)):∀ (parts:List (Nat×SV)) (cells out:List SC),ZdC place cells parts=some out→
  ZbJ place (cells.map (SC.den ρ)) (parts.map fun p=>(p.1,p.2.den ρ))=some (out.map (SC.den ρ))
 | [], cells, out, h => by simp only [ZdC, Option.some.injEq] at h; subst h; rfl
 | (i, v) :: parts, cells, out, h => by
  simp only [ZdC] at h
  split at h
  ·rename_i off size vc hp hv
   split at h
   ·rename_i hc
    have ih:=ZaQ ρ place parts _ out h
    simp only [List.map_append,List.map_take,List.map_drop] at ih
    simp only [List.map_cons,ZbJ,hp,V9 ρ hv]
    rw [if_pos (by simpa using hc)]
    exact ih
   ·cases h
  ·cases h
theorem Zc3 {n:Nat} (place:Nat→Option (Nat×Nat)):∀ (parts:List (Nat×SV)) (cells out:List SC),(∀ c∈cells,c.bd n)→(∀ p∈parts,p.2.bd n)→ZdC place cells parts=some out→∀ c∈out,c.bd n
 | [], cells, out, hc, _, h => by simp only [ZdC, Option.some.injEq] at h; subst h; exact hc
 | (i, v) :: parts, cells, out, hc, hp, h => by
  simp only [ZdC] at h
  split at h
  ·rename_i off size vc hpl hv
   split at h
   ·refine Zc3 place parts _ out (fun c hcc=>?_) (fun p hp'=>hp p (by simp [hp'])) h
    rcases List.mem_append.1 hcc with h1 | h1
    ·rcases List.mem_append.1 h1 with h1 | h1
     ·exact hc c (List.mem_of_mem_take h1)
     ·exact ZaK hv (hp (i,v) (by simp)) c h1
    ·exact hc c (List.mem_of_mem_drop h1)
   ·cases h
  ·cases h
theorem Wl (ρ:Nat→V):∀ (cs:List SC),(Zil cs).den ρ=cs.map (SC.den ρ)
 | [] => rfl
 | c :: cs => by simp only [Zil, CE.den, Wl ρ cs, List.map_cons]
theorem Zbp {n:Nat} : ∀ (cs:List SC),(∀ c∈cs,c.bd n)→(Zil cs).bd n
 | [], _ => trivial
 | c :: cs, h => ⟨h c (by simp), Zbp cs fun x hx => h x (by simp [hx])⟩
theorem ZkH (ρ:Nat→V) (size:Nat) (cs:List SC):∀ (n:Nat),(lOf size cs n).den ρ=Wh size (cs.map (SC.den ρ)) n
 | 0 => rfl
 | n + 1 => by
  simp only [lOf,LE.den,ZkH ρ size cs n,Wl,Wh,List.range_succ,List.map_append,List.map_cons,List.map_nil,List.map_take,List.map_drop]
theorem Zmn {m:Nat} (size:Nat) (cs:List SC) (h:∀ c∈cs,c.bd m):∀ (n:Nat),(lOf size cs n).bd m
 | 0 => trivial
 | n + 1 => ⟨Zmn size cs h n, Zbp _ fun c hc => h c (List.mem_of_mem_drop (List.mem_of_mem_take hc))⟩
theorem ZcA (P:Program) (ρ:Nat→V) (b:BC):(ZcC P b).den ρ=J8 P (b.den ρ):=by
 cases b with
 | c x => cases x <;> rfl
 | own x e l => rfl
 | gone => rfl
theorem ZbL {cs:List BC} (h:Vw cs=true) (ρ:Nat→V):Zbc (cs.map (BC.den ρ)):=by
 intro c hc e xs he
 obtain ⟨b,hb,rfl⟩:=List.mem_map.1 hc
 unfold Vw at h
 rw [List.all_eq_true] at h
 have:=h b hb
 cases b with
 | c x => cases x <;> cases he
 | own x e l =>
  cases x with
  | false => cases he
  | true => cases this
 | gone => cases he
theorem Zeb {cs:List BC} (h:Zac cs=true) (ρ:Nat→V):Whole (cs.map (BC.den ρ)):=by
 intro c hc he
 obtain ⟨b,hb,rfl⟩:=List.mem_map.1 hc
 unfold Zac at h
 rw [List.all_eq_true] at h
 have:=h b hb
 cases b with
 | c x => cases x <;> cases he
 | own x e l => cases he
 | gone => cases this
theorem ZkF {P:Program} {n:Nat} {b:BC} (h:b.bd n):(ZcC P b).bd n:=by
 cases b<;>exact h
theorem ZlN {P:Program} {T:TypeId} {cs:List BC} (ρ:Nat→V) (n:Nat) (h:ZnA P T=some cs) :
  ∃ i z,P.info? T=some i∧i.zero=some z∧Zmh (cs.map (BC.den ρ)) z.cells.toList∧∀ c∈cs,c.bd n:=by
 unfold ZnA at h
 split at h
 ·rename_i i hi
  split at h
  ·rename_i z hz
   split at h
   ·rename_i sc hsc
    split at h
    ·rename_i hlen
     simp only [Option.some.injEq] at h
     subst h
     have hl:sc.length=z.cells.toList.length:=by
      have h1:=Y1 ρ z.cells.toList
      rw [hsc] at h1
      have h2:=(Wi (w:=default) (lim:=fun _=>0) h1.symm).1
      simpa using h2
     refine ⟨i,z,hi,hz,⟨by simp [hlen,hl],fun j x u hx hu=>?_⟩,fun c hc=>?_⟩
     ·rw [List.getElem?_map,List.getElem?_zipWith] at hx
      cases h1:(YR P 8 T)[j]? with
      | none => simp [h1] at hx
      | some e =>
       cases h2:sc[j]? with
       | none => simp [h1, h2] at hx
       | some c =>
        simp only [h1,h2,Option.map_some,Option.some.injEq] at hx
        have hcu:ofC u=some c:=by
         have key:∀ (vs:List Value) (cs:List SC) (j:Nat),Zfq vs=some cs→cs[j]? = some c→vs[j]? = some u→ofC u=some c:=by
          intro vs
          induction vs with
          | nil => intro cs j _ _ h; simp at h
          | cons v vs ih =>
           intro cs j h hc hv
           simp only [Zfq] at h
           split at h
           ·rename_i c' cs' hc' hcs'
            simp only [Option.some.injEq] at h
            subst h
            cases j with
            | zero => simp at hc hv; subst hc; subst hv; exact hc'
            | succ j => exact ih cs' j hcs' (by simpa using hc) (by simpa using hv)
           ·cases h
         exact key _ _ j hsc h2 hu
        have hnorm:(∃ e',ZaA e c = .own false e' .nil∧u = .slice none 0 0)∨ZaA e c = .c c:=by
         cases e with
         | none => right; cases c <;> rfl
         | some e =>
          cases c with
          | slice f s l =>
           cases f with
           | false => right; cases l <;> rfl
           | true =>
            cases l with
            | nil =>
             left
             refine ⟨e,rfl,?_⟩
             unfold ofC at hcu
             split at hcu<;>simp at hcu
             rfl
            | _ => right; rfl
          | _ => right; rfl
        rcases hnorm with ⟨e',h3,h4⟩ | h3
        ·rw [h3] at hx
         exact .inr ⟨_,e',hx.symm,h4⟩
        ·rw [h3] at hx
         left
         rw [← ZfJ ρ,hcu,← hx]
         rfl
     ·obtain ⟨j,hj⟩:=List.mem_iff_getElem?.1 hc
      rw [List.getElem?_zipWith] at hj
      cases h1:(YR P 8 T)[j]? with
      | none => simp [h1] at hj
      | some e =>
       cases h2:sc[j]? with
       | none => simp [h1, h2] at hj
       | some c' =>
        simp only [h1,h2,Option.some.injEq] at hj
        subst hj
        have hb:c'.bd n:=KT hsc c' (List.mem_of_getElem? h2)
        unfold ZaA
        split
        ·trivial
        ·exact hb
    ·cases h
   ·cases h
  ·cases h
 ·cases h
theorem ZhF (s:Sh) (n:Nat):(YG s n).bd (n+1):=by cases s<;>exact Nat.lt_succ_self n
theorem JR:∀ (l:List Sh) (n:Nat),∀ c∈ZQ l n,c.bd (n+l.length)
 | [], n, c, h => by simp [ZQ] at h
 | s :: ss, n, c, h => by
  rcases List.mem_cons.1 h with rfl | h
  ·exact SC.bd_mono (by simp) _ (ZhF s n)
  ·have:=JR ss (n+1) c h
   exact SC.bd_mono (by simp only [List.length_cons];omega) _ this
theorem Zmf (s:Sh) (n:Nat):(Zny s n).bd (n+1):=by cases s<;>exact Nat.lt_succ_self n
theorem JU:∀ (l:List Sh) (n:Nat),∀ c∈Kc l n,c.bd (n+l.length)
 | [], n, c, h => by simp [Kc] at h
 | s :: ss, n, c, h => by
  rcases List.mem_cons.1 h with rfl | h
  ·exact BC.bd_mono (by simp) _ (Zmf s n)
  ·have:=JU ss (n+1) c h
   exact BC.bd_mono (by simp only [List.length_cons];omega) _ this
theorem YX:∀ (aZ:List SV) (n:Nat),n≤(Jd aZ n).2.2
 | [], n => Nat.le_refl n
 | a :: aZ, n => by
  cases a with
  | box cs =>
   simp only [Jd]
   exact Nat.le_trans (Nat.le_add_right _ _) (YX aZ _)
  | gbox cs =>
   simp only [Jd]
   exact Nat.le_trans (Nat.le_add_right _ _) (YX aZ _)
  | _ => exact YX aZ n
theorem ZcF:∀ (aZ:List SV) (n:Nat),(Jd aZ n).1.length=aZ.length
 | [], n => rfl
 | a :: aZ, n => by
  cases a<;>simp only [Jd,List.length_cons,ZcF aZ]
theorem WG:∀ (aZ:List SV) (n:Nat),∀ x∈(Jd aZ n).1,x.bd (Jd aZ n).2.2
 | [], n, x, h => by simp [Jd] at h
 | a :: aZ, n, x, h => by
  cases a with
  | box cs =>
   simp only [Jd] at h ⊢
   rcases List.mem_cons.1 h with rfl | h
   ·intro c hc
    have h1:=JU (cs.map Zl0) n c hc
    exact BC.bd_mono (YX aZ _) _ h1
   ·exact WG aZ _ x h
  | gbox cs =>
   simp only [Jd] at h ⊢
   rcases List.mem_cons.1 h with rfl | h
   ·intro c hc
    have h1:=JU (cs.map Zl0) n c hc
    exact BC.bd_mono (YX aZ _) _ h1
   ·exact WG aZ _ x h
  | _ =>
   simp only [Jd] at h ⊢
   rcases List.mem_cons.1 h with rfl | h
   ·trivial
   ·exact WG aZ _ x h
theorem Vr:∀ (aZ:List SV) (n i:Nat) (to:Bool) (cs:List BC) (y:SV),aZ[i]? = some (ZkS to cs)→(Jd aZ n).1[i]? = some y→∃ cs',y=ZkS to cs'
 | [], n, i, to, cs, y, h, _ => by simp at h
 | a :: aZ, n, i, to, cs, y, h, h' => by
  cases i with
  | zero =>
   simp only [List.getElem?_cons_zero,Option.some.injEq] at h
   subst h
   cases to with
   | false =>
    simp only [ZkS,Jd,List.getElem?_cons_zero,Option.some.injEq] at h'
    exact ⟨_,h'.symm⟩
   | true =>
    simp only [ZkS,Jd,List.getElem?_cons_zero,Option.some.injEq] at h'
    exact ⟨_,h'.symm⟩
  | succ i =>
   have h1:aZ[i]? = some (ZkS to cs):=by simpa using h
   cases a with
   | box ds => simp only [Jd, List.getElem?_cons_succ] at h'; exact Vr aZ _ i to cs y h1 h'
   | gbox ds => simp only [Jd, List.getElem?_cons_succ] at h'; exact Vr aZ _ i to cs y h1 h'
   | _ => simp only [Jd, List.getElem?_cons_succ] at h'; exact Vr aZ _ i to cs y h1 h'
theorem Zl8 (r:RSh) (n:Nat):(Zm6 r n).1.bd (n+(Zm6 r n).2.length):=by
 cases r with
 | c s => cases s <;> exact Nat.lt_succ_self n
 | agg l => exact JR l n
 | box l => exact JR l n
theorem VV {P:Program} {fresh:Nat} : ∀ (Ts:List TypeId) (n:Nat) (vs:List TC) (sh:List Sh) (n':Nat),Wa P fresh Ts n=some (vs,sh,n')→n≤n'∧∀ v∈vs,v.bd n'∧v≠.gone
 | [], n, vs, sh, n', h => by
  simp only [Wa,Option.some.injEq,Prod.mk.injEq] at h
  obtain ⟨rfl,rfl,rfl⟩:=h
  exact ⟨Nat.le_refl _,by simp⟩
 | T :: Ts, n, vs, sh, n', h => by
  simp only [Wa] at h
  split at h
  ·rename_i r hr
   split at h
   ·rename_i vs' sh' m hm
    simp only [Option.some.injEq,Prod.mk.injEq] at h
    obtain ⟨rfl,rfl,rfl⟩:=h
    obtain ⟨h1,h2⟩:=VV Ts _ vs' sh' m hm
    refine ⟨by omega,fun v hv=>?_⟩
    rcases List.mem_cons.1 hv with rfl | hv
    ·exact ⟨TC.bd_mono h1 _ (Zl8 r n),by cases r with | c s=>cases s<;>exact fun h=>(by cases h) | agg l=>exact fun h=>(by cases h) | box l=>exact fun h=>(by cases h)⟩
    ·exact h2 v hv
   ·cases h
  ·cases h
theorem Zc4 (ρ:Nat→V) (x:TC):(Zrb x).den ρ=x.den ρ:=by cases x<;>rfl
theorem Zm1 {n:Nat} {x:TC} (h:x.bd n):(Zrb x).bd n:=by cases x<;>exact h
theorem ZiU (ρ:Nat→V) (x:TC) (hx:x≠.gone):ZeY (x.den ρ):=by
 cases x with
 | c y => cases y <;> first | exact .inl (.inl ⟨_, rfl⟩) | exact .inl (.inr (.inr ⟨_, _, _, rfl⟩))
 | agg cs => exact .inl (.inr (.inl ⟨_, rfl⟩))
 | own x e l => exact .inr (.inl ⟨_, _, _, rfl⟩)
 | gone => exact (hx rfl).elim
theorem Zgk {P:Program} {fresh:Nat} {Ts:List TypeId} {n n':Nat} {res:SV} {sh:List Sh} (h:ZdI P fresh Ts n=some (res,sh,n')) :
  n≤n'∧res.bd n'∧∀ ρ,ZeY (res.den ρ):=by
 unfold ZdI at h
 split at h
 ·rename_i x sh' m hm
  simp only [Option.some.injEq,Prod.mk.injEq] at h
  obtain ⟨rfl,rfl,rfl⟩:=h
  obtain ⟨h1,h2⟩:=VV Ts n [x] sh' m hm
  exact ⟨h1,Zm1 (h2 x (by simp)).1,fun ρ=>by rw [Zc4];exact ZiU ρ x (h2 x (by simp)).2⟩
 ·rename_i vs sh' m _ hm
  simp only [Option.some.injEq,Prod.mk.injEq] at h
  obtain ⟨rfl,rfl,rfl⟩:=h
  obtain ⟨h1,h2⟩:=VV Ts n vs sh' m hm
  exact ⟨h1,fun v hv=>(h2 v hv).1,fun ρ=>.inr (.inr (.inl ⟨_,rfl⟩))⟩
 ·cases h
theorem Zh9 {P:Program} {E:Env} {f:FuncId} {Ts:List TypeId} {n n':Nat} {res:SV} {sh:List Sh} (h:ZfM P E f Ts n=some (res,sh,n')) :
  n≤n'∧res.bd n'∧∀ ρ,ZeY (res.den ρ):=by
 unfold ZfM at h
 split at h
 ·rename_i l _
  simp only [Option.some.injEq,Prod.mk.injEq] at h
  obtain ⟨rfl,rfl,rfl⟩:=h
  exact ⟨Nat.le_add_right _ _,JU l n,fun ρ=>.inr (.inr (.inr ⟨_,rfl⟩))⟩
 ·exact Zgk h
def SAK.den (ρ:Nat→V):SAK→AK
 | .imm x => .imm (x.den ρ)
 | .own t x e l => .own t x e (l.den ρ)
 | .box d fr to cs => .box d fr to (cs.map (BC.den ρ))
 | .clo g ds gs => .clo g ds gs
 | .ref t d q j => .ref t d q j
 | .pad => .pad
theorem ZaG (ρ:Nat→V) (gh:Bool) (cs:List BC):(ZkS gh cs).den ρ=mkB gh (cs.map (BC.den ρ)):=by cases gh<;>rfl
theorem ZmH (ρ:Nat→V) (a:SAK):(a.den ρ).av=a.sv.den ρ:=by
 cases a with
 | box d fr to cs => exact (ZaG ρ to cs).symm
 | _ => rfl
theorem ZaL (ρ:Nat→V) (a:SAK):(a.den ρ).slot=a.slot:=by cases a<;>rfl
theorem ZhD {x:SV} {ρ:Nat→V} {b:Bool} {e:TypeId} {ys:List (List AV)} (h:x.den ρ = .own b e ys):∃ l,x = .own b e l:=by
 cases x with
 | own b' e' l => simp only [SV.den, AV.own.injEq] at h; obtain ⟨rfl, rfl, _⟩ := h; exact ⟨l, rfl⟩
 | c y => cases y <;> cases h
 | _ => cases h
theorem Zgm {x:SV} {ρ:Nat→V} {d q:Nat} (h:x.den ρ = .mref d q):x = .mref d q:=by
 cases x with
 | mref d' q' => simp only [SV.den, AV.mref.injEq] at h; obtain ⟨rfl, rfl⟩ := h; rfl
 | c y => cases y <;> cases h
 | _ => cases h
theorem Zed {x:SV} {k:Nat} {e:TypeId} {l:LE} (ρ:Nat→V) (h:Jh x k=some (e,l)):Zr (x.den ρ) k=some (e,l.den ρ):=by
 unfold Jh at h
 split at h
 ·simp only [Option.some.injEq,Prod.mk.injEq] at h
  obtain ⟨rfl,rfl⟩:=h
  rfl
 ·rename_i cs q
  split at h
  ·rename_i e' l' hc
   simp only [Option.some.injEq,Prod.mk.injEq] at h
   obtain ⟨rfl,rfl⟩:=h
   simp only [SV.den,Zr,List.getElem?_map,hc]
   rfl
  ·cases h
 ·rename_i cs q
  split at h
  ·rename_i e' l' hc
   simp only [Option.some.injEq,Prod.mk.injEq] at h
   obtain ⟨rfl,rfl⟩:=h
   simp only [SV.den,Zr,List.getElem?_map,hc]
   rfl
  ·cases h
 ·cases h
theorem Zma {P:Program} {g:Nat→SV} {x:Operand} {a:SAK} (ρ:Nat→V) (h:Znd P g x=some a):(a.den ρ).ok P (fun d=>(g d).den ρ) (.op x)∧a.sv.isG=false∧∀ h ds gs,a = .clo h ds gs→gs = []:=by
 unfold Znd at h
 split at h
 ·rename_i t b e l h1 h2
  simp only [Option.some.injEq] at h
  subst h
  have hx:x = .tmp t:=by cases x<;>simp [ZO] at h1;rw [h1]
  subst hx
  simp only [ZO,Option.map_some,Option.some.injEq] at h2
  exact ⟨⟨rfl,by show (g t).den ρ=_;rw [h2];rfl⟩,rfl,fun _ _ _ h=>by cases h⟩
 ·rename_i hno
  split at h
  ·rename_i v hv
   simp only [Option.some.injEq] at h
   subst h
   refine ⟨.inl ⟨Zg ρ hv,?_⟩,rfl,fun _ _ _ h=>by cases h⟩
   cases v<;>first | exact .inl ⟨_,rfl⟩ | exact .inr (.inr ⟨_,_,_,rfl⟩)
  ·rename_i cs hv
   simp only [Option.some.injEq] at h
   subst h
   exact ⟨.inl ⟨Zg ρ hv,.inr (.inl ⟨_,rfl⟩)⟩,rfl,fun _ _ _ h=>by cases h⟩
  ·rename_i d hv
   split at h
   ·rename_i cs hcs
    split at h
    ·simp only [Option.some.injEq] at h
     subst h
     exact ⟨⟨Zg ρ hv,by show (g d).den ρ=_;rw [hcs];rfl,rfl,rfl⟩,rfl,fun _ _ _ h=>by cases h⟩
    ·cases h
   ·cases h
  ·rename_i f ds hv
   simp only [Option.some.injEq] at h
   subst h
   exact ⟨Zg ρ hv,rfl,fun _ _ _ h=>by cases h;rfl⟩
  ·rename_i d q hv
   split at h
   ·rename_i e l hp
    split at h
    ·rename_i h0
     simp only [Option.some.injEq] at h
     subst h
     refine ⟨.inr ⟨d,q,e,l.den ρ,⟨Zg ρ hv,fun t e' ys hx ht=>?_⟩,Zed ρ hp,⟨by omega,h0.2⟩,rfl⟩,rfl,fun _ _ _ h=>by cases h⟩
     obtain ⟨l',hl'⟩:=ZhD (show (g t).den ρ=_ from ht)
     subst hx
     exact hno t true e' l' rfl (by simp only [ZO,Option.map_some,hl'])
    ·cases h
   ·cases h
  ·cases h
def KO (P:Program) (g:Nat→SV) (ρ:Nat→V) (xs:List Zar) (aZ:List SAK):Prop:=
 xs.length=aZ.length∧∀ (i:Nat) (x:Zar) (a:SAK),xs[i]? = some x→aZ[i]? = some a→(a.den ρ).ok P (fun d=>(g d).den ρ) x
theorem KO.append {P:Program} {g:Nat→SV} {ρ:Nat→V} {xs ys:List Zar} {aZ bs:List SAK} (h:KO P g ρ xs aZ) (k:KO P g ρ ys bs):KO P g ρ (xs++ys) (aZ++bs):=by
 refine ⟨by rw [List.length_append,List.length_append,h.1,k.1],fun i x a hx ha=>?_⟩
 rcases Nat.lt_or_ge i xs.length with hi | hi
 ·rw [List.getElem?_append_left hi] at hx
  rw [List.getElem?_append_left (by rw [← h.1];exact hi)] at ha
  exact h.2 i x a hx ha
 ·rw [List.getElem?_append_right hi] at hx
  rw [List.getElem?_append_right (by rw [← h.1];exact hi),← h.1] at ha
  exact k.2 _ x a hx ha
def Raw (aZ:List SAK):Prop:=∀ a∈aZ,a.sv.isG=false∧∀ h ds gs,a = .clo h ds gs→gs = []
theorem ZlI {P:Program} {g:Nat→SV} {x:Operand} {a:SAK} (ρ:Nat→V) (h:Zbe g x=some a):(a.den ρ).ok P (fun d=>(g d).den ρ) (.op x)∧a.sv.isG=false∧(∀ h ds gs,a = .clo h ds gs→gs = [])∧∃ t d q j,a = .ref t d q j:=by
 unfold Zbe at h
 split at h
 ·rename_i t d q h1 h2
  simp only [Option.some.injEq] at h
  subst h
  have hx:x = .tmp t:=by cases x<;>simp [ZO] at h1;rw [h1]
  subst hx
  simp only [ZO,Option.map_some,Option.some.injEq] at h2
  exact ⟨⟨rfl,by show (g t).den ρ=_;rw [h2];rfl⟩,rfl,(fun _ _ _ h=>by cases h),t,d,q,0,rfl⟩
 ·cases h
def Zo4 (rf:List Nat) (g:Nat→SV) (xs:List Operand) (aZ:List SAK) (i0:Nat):Prop:=∀ (i:Nat) (a:SAK) (x:Operand),xs[i]? = some x→aZ[i]? = some a→(rf.contains (i0+i)&&(Zbe g x).isSome)=true→∃ t d q j,a = .ref t d q j
theorem V3 {P:Program} {g:Nat→SV} {rf:List Nat} (ρ:Nat→V):∀ (xs:List Operand) (i0:Nat) (aZ:List SAK),Zbs P g rf xs i0=some aZ→KO P g ρ (xs.map .op) aZ∧Raw aZ∧Zo4 rf g xs aZ i0
 | [], i0, aZ, h => by simp only [Zbs, Option.some.injEq] at h; subst h; exact ⟨⟨rfl, by simp⟩, by simp [Raw], by simp [Zo4]⟩
 | x :: xs, i0, aZ, h => by
  simp only [Zbs] at h
  split at h
  ·rename_i a as' ha has
   simp only [Option.some.injEq] at h
   subst h
   obtain ⟨⟨h1,h2⟩,h3,h4⟩:=V3 ρ xs (i0+1) as' has
   obtain ⟨k1,k2,k3,k4⟩:(a.den ρ).ok P (fun d=>(g d).den ρ) (.op x)∧a.sv.isG=false∧(∀ h ds gs,a = .clo h ds gs→gs = [])∧((rf.contains i0&&(Zbe g x).isSome)=true→∃ t d q j,a = .ref t d q j):=by
    split at ha
    ·obtain ⟨k1,k2,k3,k4⟩:=ZlI (P:=P) ρ ha
     exact ⟨k1,k2,k3,fun _=>k4⟩
    ·rename_i hn
     obtain ⟨k1,k2,k3⟩:=Zma ρ ha
     exact ⟨k1,k2,k3,fun h=>(hn h).elim⟩
   refine ⟨⟨by simpa using h1,fun i y b hy hb=>?_⟩,fun b hb=>?_,fun i b y hy hb hc=>?_⟩
   ·cases i with
    | zero =>
     simp only [List.map_cons,List.getElem?_cons_zero,Option.some.injEq] at hy hb
     subst hy
     subst hb
     exact k1
    | succ i => exact h2 i y b (by simpa using hy) (by simpa using hb)
   ·rcases List.mem_cons.1 hb with rfl | hb
    ·exact ⟨k2,k3⟩
    ·exact h3 b hb
   ·cases i with
    | zero =>
     simp only [List.getElem?_cons_zero,Option.some.injEq] at hb hy
     subst hb
     subst hy
     exact k4 hc
    | succ i => exact h4 i b y (by simpa using hy) (by simpa using hb) (by rw [Nat.add_assoc, Nat.add_comm 1 i]; exact hc)
  ·cases h
theorem Zle {g:Nat→SV} {to:Bool} {d:Nat} {a:SAK} (ρ:Nat→V) (h:Znl g to d=some a):∃ fr cs,a = .box d fr to cs∧(g d).den ρ=mkB fr (cs.map (BC.den ρ)):=by
 unfold Znl at h
 split at h
 ·rename_i cs hcs
  split at h
  ·simp only [Option.some.injEq] at h
   exact ⟨false,cs,h.symm,by rw [hcs];rfl⟩
  ·cases h
 ·rename_i cs hcs
  split at h
  ·simp only [Option.some.injEq] at h
   exact ⟨true,cs,h.symm,by rw [hcs];rfl⟩
  ·cases h
 ·cases h
theorem WB {g:Nat→SV} {to:Bool} (ρ:Nat→V):∀ (ds:List Nat) (aZ:List SAK),Wd g to ds=some aZ→aZ.length=ds.length∧∀ (i d:Nat),ds[i]? = some d→∃ fr cs,aZ[i]? = some (.box d fr to cs)∧
  (g d).den ρ=mkB fr (cs.map (BC.den ρ))
 | [], aZ, h => by simp only [Wd, Option.some.injEq] at h; subst h; exact ⟨rfl, by simp⟩
 | d :: ds, aZ, h => by
  simp only [Wd] at h
  split at h
  ·rename_i a as' ha has
   simp only [Option.some.injEq] at h
   subst h
   obtain ⟨h1,h2⟩:=WB ρ ds as' has
   refine ⟨by simp [h1],fun i e he=>?_⟩
   cases i with
   | zero =>
    simp only [List.getElem?_cons_zero,Option.some.injEq] at he
    subst he
    obtain ⟨fr,cs,rfl,k2⟩:=Zle ρ ha
    exact ⟨fr,cs,rfl,k2⟩
   | succ i => exact h2 i e (by simpa using he)
  ·cases h
theorem ZnG {P:Program} {g:Nat→SV} (ρ:Nat→V) {ds:List Nat} {aZ:List SAK} (h:Wd g false ds=some aZ):KO P g ρ (ds.map .cap) aZ∧Raw aZ:=by
 obtain ⟨h1,h2⟩:=WB ρ ds aZ h
 refine ⟨⟨by simp [h1],fun i x a hx ha=>?_⟩,fun a ha=>?_⟩
 ·rw [List.getElem?_map] at hx
  cases hd:ds[i]? with
  | none => rw [hd] at hx; cases hx
  | some d =>
   rw [hd] at hx
   simp only [Option.map_some,Option.some.injEq] at hx
   subst hx
   obtain ⟨fr,cs,k1,k2⟩:=h2 i d hd
   rw [k1] at ha
   simp only [Option.some.injEq] at ha
   subst ha
   exact ⟨rfl,k2,rfl⟩
 ·obtain ⟨i,hi⟩:=List.mem_iff_getElem?.1 ha
  have hlt:i < ds.length:=by rw [← h1];exact (List.getElem?_eq_some_iff.1 hi).1
  obtain ⟨fr,cs,k1,_⟩:=h2 i _ (List.getElem?_eq_getElem hlt)
  rw [k1] at hi
  simp only [Option.some.injEq] at hi
  subst hi
  exact ⟨rfl,fun _ _ _ h=>by cases h⟩
theorem Zjv {P:Program} {g:Nat→SV} (ρ:Nat→V) {ds:List Nat} {aZ:List SAK} (h:Wd g true ds=some aZ):KO P g ρ (ds.map fun _=>.ghost) aZ:=by
 obtain ⟨h1,h2⟩:=WB ρ ds aZ h
 refine ⟨by simp [h1],fun i x a hx ha=>?_⟩
 rw [List.getElem?_map] at hx
 cases hd:ds[i]? with
 | none => rw [hd] at hx; cases hx
 | some d =>
  rw [hd] at hx
  simp only [Option.map_some,Option.some.injEq] at hx
  subst hx
  obtain ⟨fr,cs,k1,k2⟩:=h2 i d hd
  rw [k1] at ha
  simp only [Option.some.injEq] at ha
  subst ha
  exact ⟨k2,rfl⟩
theorem Kf:∀ (aZ:List SAK) (h:FuncId) (ds gs:List Nat),SAK.clo h ds gs∈aZ→∀ d∈ds,d∈Zj aZ
 | [], _, _, _, hm, _, _ => by simp at hm
 | a :: aZ, h, ds, gs, hm, d, hd => by
  have htail:d∈Zj aZ→d∈Zj (a::aZ):=by
   intro hx
   cases a with
   | clo _ _ _ => exact List.mem_append.2 (.inr hx)
   | ref _ _ _ _ =>
    simp only [Zj]
    split
    ·exact hx
    ·exact List.mem_cons_of_mem _ hx
   | _ => exact hx
  rcases List.mem_cons.1 hm with rfl | hm
  ·by_cases hx:d∈Zj aZ
   ·exact htail hx
   ·refine List.mem_append.2 (.inl ?_)
    rw [List.mem_eraseDups,List.mem_filter]
    exact ⟨hd,by simpa using hx⟩
  ·exact htail (Kf aZ h ds gs hm d hd)
theorem YW:∀ (aZ:List SAK) (t d q j:Nat),SAK.ref t d q j∈aZ→d∈Zj aZ
 | [], _, _, _, _, hm => by simp at hm
 | a :: aZ, t, d, q, j, hm => by
  rcases List.mem_cons.1 hm with rfl | hm
  ·simp only [Zj]
   split
   ·rename_i hx;simpa using hx
   ·exact List.mem_cons_self
  ·have hx:=YW aZ t d q j hm
   cases a with
   | clo _ _ _ => exact List.mem_append.2 (.inr hx)
   | ref _ _ _ _ =>
    simp only [Zj]
    split
    ·exact hx
    ·exact List.mem_cons_of_mem _ hx
   | _ => exact hx
theorem ZfW:∀ (l:List Nat) (d:Nat),d∈l→l[ZkV d l]? = some d
 | [], _, h => by simp at h
 | x :: xs, d, h => by
  unfold ZkV
  split
  ·rename_i hx;rw [hx];rfl
  ·rename_i hx
   rcases List.mem_cons.1 h with rfl | h
   ·exact (hx rfl).elim
   ·simpa using ZfW xs d h
theorem Zkp {P:Program} {σ:Nat→AV} {ρ:Nat→V} {base:Nat} {gh:List Nat} {x:Zar} {a:SAK} (h:(a.den ρ).ok P σ x):((Zaq base gh a).den ρ).ok P σ x:=by
 cases a with
 | clo f ds gs => cases x <;> exact h
 | ref t d q j => cases x <;> exact h
 | _ => exact h
theorem W8 (ρ:Nat→V) {x:SC} (h:Zai x=true):Wt (x.den ρ)=true:=by cases x<;>first | rfl | cases h
theorem Zcm (ρ:Nat→V) {x:SV} (h:Zgz x=true):ZeI (x.den ρ)=true:=by
 have hcs:∀ cs:List SC,cs.all Zai=true→(cs.map (SC.den ρ)).all Wt=true:=by
  intro cs h
  rw [List.all_eq_true] at h ⊢
  intro y hy
  obtain ⟨z,hz,rfl⟩:=List.mem_map.1 hy
  exact W8 ρ (h z hz)
 have hbs:∀ cs:List BC,cs.all ZiL=true→(cs.map (BC.den ρ)).all Wt=true:=by
  intro cs h
  rw [List.all_eq_true] at h ⊢
  intro y hy
  obtain ⟨z,hz,rfl⟩:=List.mem_map.1 hy
  have:=h z hz
  cases z with
  | c w => exact W8 ρ this
  | own _ _ _ => cases this
  | gone => cases this
 cases x with
 | c y => cases y <;> first | rfl | cases h
 | dead => rfl
 | agg cs => exact hcs cs h
 | box cs => exact hbs cs h
 | gbox cs => exact hbs cs h
 | tuple vs =>
  simp only [Zgz,List.all_eq_true] at h
  simp only [SV.den,ZeI,List.all_eq_true]
  intro y hy
  obtain ⟨z,hz,rfl⟩:=List.mem_map.1 hy
  have:=h z hz
  cases z with
  | c w =>
   have h2:=W8 ρ (show Zai w=true from this)
   cases w<;>first | rfl | cases this
  | agg cs => exact hcs cs this
  | own _ _ _ => cases this
  | gone => cases this
 | _ => cases h
theorem Zfi {P:Program} {g:Nat→SV} {rf:List Nat} (ρ:Nat→V):∀ {args:List Operand} {i0 i:Nat} {x:Operand} {d q:Nat},args[i]? = some x→(rf.contains (i0+i)&&(Zbe g x).isSome)=false→Zm P (fun d=>(g d).den ρ) x = .mref d q→(∀ t e' ys,x = .tmp t→(g t).den ρ≠.own true e' ys)→(d,q)∈VI P g rf args i0
 | [], _, i, _, _, _, hx, _, _, _ => by simp at hx
 | y :: rest, i0, i, x, d, q, hx, hi, h, hno => by
  have hg:Jj P g x = .mref d q:=Zgm (ρ:=ρ) (by rw [Yt];exact h)
  unfold VI
  cases i with
  | zero =>
   simp only [List.getElem?_cons_zero,Option.some.injEq] at hx
   subst hx
   rw [if_neg (by rw [Nat.add_zero] at hi;rw [hi];simp)]
   split
   ·rename_i b e l hb
    cases y with
    | tmp t =>
     simp only [ZO,Option.map_some,Option.some.injEq] at hb
     cases b with
     | true => exact (hno t e (l.den ρ) rfl (by rw [hb]; rfl)).elim
     | false => simp only [Jj, hb] at hg; cases hg
    | _ => simp [ZO] at hb
   ·rw [hg]
    exact List.mem_cons_self
  | succ i =>
   have ih:=Zfi (P:=P) (g:=g) (rf:=rf) ρ (args:=rest) (i0:=i0+1) (i:=i) (by simpa using hx) (by rw [Nat.add_assoc,Nat.add_comm 1 i];exact hi) h hno
   split
   ·exact ih
   ·split
    ·exact ih
    ·split
     ·exact List.mem_cons_of_mem _ ih
     ·exact ih
theorem Ks (ρ:Nat→V):∀ (aZ:List SAK),(∀ a∈aZ,a.sv.isG=false)→((aZ.map (SAK.den ρ)).map AK.av).countP AV.isG=0
 | [], _ => rfl
 | a :: aZ, h => by
  have h0:=h a (by simp)
  have:(a.den ρ).av.isG=false:=by
   rw [ZmH]
   cases a with
   | imm x => cases x <;> first | rfl | (rename_i y; cases y <;> rfl) | (simp [SAK.sv, SV.isG] at h0)
   | own t x e l => rfl
   | box d fr to cs => cases to <;> first | rfl | (simp [SAK.sv, ZkS, SV.isG] at h0)
   | clo g ds gs => rfl
   | ref t d q j => rfl
   | pad => rfl
  rw [List.map_cons,List.map_cons,List.countP_cons,Ks ρ aZ fun b hb=>h b (by simp [hb]),this]
  rfl
theorem ZhV {P:Program} {g:Nat→SV} (ρ:Nat→V) {xs:List Zar} {aZ saks:List SAK} {nt:Nat} (hx:KO P g ρ xs aZ) (hr:Raw aZ) (h:W5 g nt aZ=some saks) :
  ∃ tail,KO P g ρ (xs++tail) saks∧(∀ x∈tail,x = .pad∨x = .ghost)∧xs.length+((saks.map (SAK.den ρ)).map AK.av).countP AV.isG≤saks.length∧Zqh (saks.map (SAK.den ρ))∧ZpI (saks.map (SAK.den ρ))∧∀ (i t d q j:Nat),aZ[i]? = some (SAK.ref t d q j)→∃ j',saks[i]? = some (SAK.ref t d q j'):=by
 unfold W5 at h
 split at h
 ·rename_i hg
  simp only [Option.some.injEq] at h
  subst h
  refine ⟨[],by rw [List.append_nil];exact hx,by simp,by rw [Ks ρ aZ fun a ha=>(hr a ha).1,hx.1];exact Nat.le_refl _,fun i f ds gs hi=>?_,fun i t d q j hi=>?_,fun i t d q j hi=>⟨j,hi⟩⟩
  case refine_2=>
   rw [List.getElem?_map] at hi
   cases ha:aZ[i]? with
   | none => rw [ha] at hi; cases hi
   | some a =>
    rw [ha] at hi
    simp only [Option.map_some,Option.some.injEq] at hi
    cases a<;>simp only [SAK.den,reduceCtorEq] at hi
    have:=YW aZ _ _ _ _ (List.mem_of_getElem? ha)
    rw [hg] at this
    cases this
  rw [List.getElem?_map] at hi
  cases ha:aZ[i]? with
  | none => rw [ha] at hi; cases hi
  | some a =>
   rw [ha] at hi
   simp only [Option.map_some,Option.some.injEq] at hi
   have hm:=List.mem_of_getElem? ha
   cases a<;>simp only [SAK.den,reduceCtorEq] at hi
   rename_i f' ds' gs'
   simp only [AK.clo.injEq] at hi
   obtain ⟨rfl,rfl,rfl⟩:=hi
   have hgs:=(hr _ hm).2 _ _ _ rfl
   have hds:ds' = []:=by
    refine List.eq_nil_iff_forall_not_mem.2 fun d hd=>?_
    have:=Kf aZ f' ds' gs' hm d hd
    rw [hg] at this
    cases this
   subst hgs
   subst hds
   exact ⟨rfl,fun k d j hk=>by simp at hk⟩
 ·split at h
  ·rename_i hle
   cases hc:Wd g true (Zj aZ) with
   | none => rw [hc] at h; cases h
   | some gs =>
    rw [hc] at h
    simp only [Option.map_some,Option.some.injEq] at h
    subst h
    obtain ⟨c1,c2⟩:=WB ρ (Zj aZ) gs hc
    have hpad:KO P g ρ (List.replicate (nt-aZ.length) Zar.pad) (List.replicate (nt-aZ.length) SAK.pad):=by
     refine ⟨by simp,fun i x a hx ha=>?_⟩
     have h1:=List.mem_of_getElem? hx
     have h2:=List.mem_of_getElem? ha
     rw [(List.mem_replicate.1 h1).2,(List.mem_replicate.1 h2).2]
     trivial
    have hset:KO P g ρ xs (aZ.map (Zaq nt (Zj aZ))):=by
     refine ⟨by simp [hx.1],fun i x a hxi ha=>?_⟩
     rw [List.getElem?_map] at ha
     cases hai:aZ[i]? with
     | none => rw [hai] at ha; cases ha
     | some b =>
      rw [hai] at ha
      simp only [Option.map_some,Option.some.injEq] at ha
      subst ha
      exact Zkp (hx.2 i x b hxi hai)
    refine ⟨List.replicate (nt-aZ.length) Zar.pad++(Zj aZ).map fun _=>Zar.ghost,?_,fun x hx=>?_,?_,fun i f ds js hi=>?_,fun i t d q j hi=>?_,fun i t d q j hi=>?_⟩
    ·rw [← List.append_assoc]
     exact (hset.append hpad).append (Zjv ρ hc)
    ·rcases List.mem_append.1 hx with hx | hx
     ·exact .inl (List.mem_replicate.1 hx).2
     ·obtain ⟨_,_,rfl⟩:=List.mem_map.1 hx
      exact .inr rfl
    ·have hz1:(((aZ.map (Zaq nt (Zj aZ))).map (SAK.den ρ)).map AK.av).countP AV.isG=0:=Ks ρ _ fun a ha=>by
      obtain ⟨b,hb,rfl⟩:=List.mem_map.1 ha
      have:=(hr b hb).1
      cases b<;>exact this
     have hz2:(((List.replicate (nt-aZ.length) SAK.pad).map (SAK.den ρ)).map AK.av).countP AV.isG=0:=Ks ρ _ fun a ha=>by
      rw [(List.mem_replicate.1 ha).2];rfl
     have hz3:((gs.map (SAK.den ρ)).map AK.av).countP AV.isG≤gs.length:=by
      have:=List.countP_le_length (p:=AV.isG) (l:=(gs.map (SAK.den ρ)).map AK.av)
      simpa using this
     simp only [List.map_append,List.countP_append,List.length_append,List.length_map,List.length_replicate] at hz1 hz2 hz3 ⊢
     rw [hz1,hz2,hx.1]
     omega
    ·rw [List.getElem?_map] at hi
     have hin:∃ a,(aZ.map (Zaq nt (Zj aZ)))[i]? = some a∧a.den ρ = .clo f ds js:=by
      cases hs:(aZ.map (Zaq nt (Zj aZ))++List.replicate (nt-aZ.length) .pad++gs)[i]? with
      | none => rw [hs] at hi; cases hi
      | some a =>
       rw [hs] at hi
       simp only [Option.map_some,Option.some.injEq] at hi
       rcases Nat.lt_or_ge i aZ.length with h1 | h1
       ·rw [List.append_assoc,List.getElem?_append_left (by simpa using h1)] at hs
        exact ⟨a,hs,hi⟩
       ·rw [List.append_assoc,List.getElem?_append_right (by simpa using h1)] at hs
        rcases List.mem_append.1 (List.mem_of_getElem? hs) with hm | hm
        ·rw [(List.mem_replicate.1 hm).2] at hi;cases hi
        ·obtain ⟨k,hk⟩:=List.mem_iff_getElem?.1 hm
         have hlt:k < (Zj aZ).length:=by rw [← c1];exact (List.getElem?_eq_some_iff.1 hk).1
         obtain ⟨fr,cs,e1,_⟩:=c2 k _ (List.getElem?_eq_getElem hlt)
         rw [e1] at hk
         simp only [Option.some.injEq] at hk
         subst hk
         cases hi
     obtain ⟨a,ha,hden⟩:=hin
     rw [List.getElem?_map] at ha
     cases hai:aZ[i]? with
     | none => rw [hai] at ha; cases ha
     | some b =>
      rw [hai] at ha
      simp only [Option.map_some,Option.some.injEq] at ha
      subst ha
      have hm:=List.mem_of_getElem? hai
      cases b<;>simp only [Zaq,SAK.den,reduceCtorEq] at hden
      rename_i f' ds' gs'
      simp only [AK.clo.injEq] at hden
      obtain ⟨rfl,rfl,rfl⟩:=hden
      refine ⟨by simp,fun k d j hk hj=>?_⟩
      rw [List.getElem?_map,hk] at hj
      simp only [Option.map_some,Option.some.injEq] at hj
      subst hj
      have hd:=Kf aZ f' ds' gs' hm d (List.mem_of_getElem? hk)
      obtain ⟨fr,cs,e1,_⟩:=c2 _ d (ZfW _ d hd)
      refine ⟨fr,cs.map (BC.den ρ),?_⟩
      rw [List.getElem?_map,List.getElem?_append_right (by simp;omega)]
      have:nt+ZkV d (Zj aZ)-(aZ.map (Zaq nt (Zj aZ))++List.replicate (nt-aZ.length) SAK.pad).length=ZkV d (Zj aZ):=by
       simp;omega
      rw [this,e1]
      rfl
    ·rw [List.getElem?_map] at hi
     have hin:∃ a,(aZ.map (Zaq nt (Zj aZ)))[i]? = some a∧a.den ρ = .ref t d q j:=by
      cases hs:(aZ.map (Zaq nt (Zj aZ))++List.replicate (nt-aZ.length) .pad++gs)[i]? with
      | none => rw [hs] at hi; cases hi
      | some a =>
       rw [hs] at hi
       simp only [Option.map_some,Option.some.injEq] at hi
       rcases Nat.lt_or_ge i aZ.length with h1 | h1
       ·rw [List.append_assoc,List.getElem?_append_left (by simpa using h1)] at hs
        exact ⟨a,hs,hi⟩
       ·rw [List.append_assoc,List.getElem?_append_right (by simpa using h1)] at hs
        rcases List.mem_append.1 (List.mem_of_getElem? hs) with hm | hm
        ·rw [(List.mem_replicate.1 hm).2] at hi;cases hi
        ·obtain ⟨k,hk⟩:=List.mem_iff_getElem?.1 hm
         have hlt:k < (Zj aZ).length:=by rw [← c1];exact (List.getElem?_eq_some_iff.1 hk).1
         obtain ⟨fr,cs,e1,_⟩:=c2 k _ (List.getElem?_eq_getElem hlt)
         rw [e1] at hk
         simp only [Option.some.injEq] at hk
         subst hk
         cases hi
     obtain ⟨a,ha,hden⟩:=hin
     rw [List.getElem?_map] at ha
     cases hai:aZ[i]? with
     | none => rw [hai] at ha; cases ha
     | some b =>
      rw [hai] at ha
      simp only [Option.map_some,Option.some.injEq] at ha
      subst ha
      have hm:=List.mem_of_getElem? hai
      cases b<;>simp only [Zaq,SAK.den,reduceCtorEq] at hden
      rename_i t' d' q' j'
      simp only [AK.ref.injEq] at hden
      obtain ⟨rfl,rfl,rfl,rfl⟩:=hden
      have hd:=YW aZ _ _ _ _ hm
      obtain ⟨fr,cs,e1,_⟩:=c2 _ _ (ZfW _ _ hd)
      refine ⟨fr,cs.map (BC.den ρ),?_⟩
      rw [List.getElem?_map,List.getElem?_append_right (by simp;omega)]
      have:nt+ZkV d' (Zj aZ)-(aZ.map (Zaq nt (Zj aZ))++List.replicate (nt-aZ.length) SAK.pad).length=ZkV d' (Zj aZ):=by
       simp;omega
      rw [this,e1]
      rfl
    ·have hlt:=(List.getElem?_eq_some_iff.1 hi).1
     refine ⟨nt+ZkV d (Zj aZ),?_⟩
     rw [List.append_assoc,List.getElem?_append_left (by simpa using hlt),List.getElem?_map,hi]
     rfl
  ·cases h
theorem We:∀ (l:List Nat),Zcb l=true→l.Nodup
 | [], _ => List.nodup_nil
 | x :: xs, h => by
  simp only [Zcb,Bool.and_eq_true,Bool.not_eq_true',List.contains_eq_mem,decide_eq_false_iff_not] at h
  exact List.nodup_cons.2 ⟨h.1,We xs h.2⟩
theorem Zk3 (ρ:Nat→V) (fr to:Bool) (o:SV):(Zrm fr to o).den ρ=reB fr to (o.den ρ):=by
 cases to with
 | true => cases o <;> first | exact ZaG ρ fr _ | rfl | (rename_i x; cases x <;> rfl)
 | false => cases o <;> first | exact ZaG ρ fr _ | rfl | (rename_i x; cases x <;> rfl)
theorem Zok {fr to:Bool} {o:SV} {n:Nat} (h:o.bd n):(Zrm fr to o).bd n:=by
 unfold Zrm
 split
 ·cases fr<;>exact h
 ·cases fr<;>exact h
 ·trivial
theorem Zfx (ρ ρ':Nat→V):∀ (aZ:List SAK) (os:List SV),ZbX (aZ.map (SAK.den ρ)) (os.map (SV.den ρ'))=(WJ aZ os).map fun u=>(u.1,u.2.den ρ')
 | [], os => by cases os <;> rfl
 | a :: aZ, [] => by cases a <;> rfl
 | a :: aZ, o :: os => by
  cases a<;>simp only [List.map_cons,SAK.den,ZbX,WJ,Zfx ρ ρ' aZ os,Zk3]<;>rfl
theorem KA {n:Nat} : ∀ (aZ:List SAK) (os:List SV),(∀ o∈os,o.bd n)→∀ u∈WJ aZ os,u.2.bd n
 | [], os, _, u, h => by cases os <;> simp [WJ] at h
 | a :: aZ, [], _, u, h => by cases a <;> simp [WJ] at h
 | a :: aZ, o :: os, ho, u, h => by
  cases a with
  | imm x => exact KA aZ os (fun o' h' => ho o' (by simp [h'])) u h
  | clo _ _ _ => exact KA aZ os (fun o' h' => ho o' (by simp [h'])) u h
  | pad => exact KA aZ os (fun o' h' => ho o' (by simp [h'])) u h
  | own t x e l =>
   rcases List.mem_cons.1 h with rfl | h
   ·trivial
   ·exact KA aZ os (fun o' h'=>ho o' (by simp [h'])) u h
  | ref t x e l =>
   rcases List.mem_cons.1 h with rfl | h
   ·trivial
   ·exact KA aZ os (fun o' h'=>ho o' (by simp [h'])) u h
  | box d fr to cs =>
   rcases List.mem_cons.1 h with rfl | h
   ·exact Zok (ho o (by simp))
   ·exact KA aZ os (fun o' h'=>ho o' (by simp [h'])) u h
end Go.AM
end

section
namespace Go.AM
theorem us1 {t n:Nat} {x:SV} (h:x.bd n):∀ u∈[(t,x)],u.2.bd n:=by
 intro u hu
 rw [List.mem_singleton] at hu
 subst hu
 exact h
theorem us2 {t t' n:Nat} {x y:SV} (h:x.bd n) (h':y.bd n):∀ u∈[(t,x),(t',y)],u.2.bd n:=by
 intro u hu
 rcases List.mem_cons.1 hu with rfl | hu
 ·exact h
 ·exact us1 h' u hu
theorem JG {g:Nat→SV} {d:Nat} : ∀ (n:Nat) (u:Nat×SV),u∈Ja g d n↔u.2 = .dead∧u.1 < n∧u.1≠d∧Zcj d (g u.1)=true
 | 0, u => by simp [Ja]
 | n + 1, u => by
  have ih:=JG (g:=g) (d:=d) n u
  have key:∀ p:Prop,(u∈(if n≠d∧Zcj d (g n)=true then (n,SV.dead)::Ja g d n else Ja g d n)↔p)→(u∈Ja g d (n+1)↔p):=fun p h=>h
  apply key
  split
  ·rename_i h
   rw [List.mem_cons,ih]
   constructor
   ·rintro (rfl | ⟨h1,h2,h3⟩)
    ·exact ⟨rfl,Nat.lt_succ_self n,h.1,h.2⟩
    ·exact ⟨h1,by omega,h3⟩
   ·rintro ⟨h1,h2,h3⟩
    by_cases hn:u.1=n
    ·left
     obtain ⟨a,b⟩:=u
     simp only at h1 hn
     rw [h1,hn]
    ·exact .inr ⟨h1,by omega,h3⟩
  ·rename_i h
   rw [ih]
   constructor
   ·rintro ⟨h1,h2,h3⟩
    exact ⟨h1,by omega,h3⟩
   ·rintro ⟨h1,h2,h3,h4⟩
    refine ⟨h1,?_,h3,h4⟩
    by_cases hn:u.1=n
    ·subst hn;exact (h ⟨h3,h4⟩).elim
    ·omega
theorem WT (ρ:Nat→V) (d:Nat) (x:SV):Zcj d x=true↔∃ k,Jg (x.den ρ) d k:=by
 cases x with
 | mref d' k' =>
  simp only [Zcj,beq_iff_eq]
  constructor
  ·rintro rfl;exact ⟨k',.inl rfl⟩
  ·rintro ⟨k,h | ⟨_,h⟩⟩ <;> cases h
   rfl
 | eref d' k' i s o =>
  simp only [Zcj,beq_iff_eq]
  constructor
  ·rintro rfl;exact ⟨k',.inr ⟨_,rfl⟩⟩
  ·rintro ⟨k,h | ⟨_,h⟩⟩ <;> cases h
   rfl
 | c y =>
  constructor
  ·intro h;cases h
  ·rintro ⟨k,h | ⟨_,h⟩⟩ <;> cases y<;>cases h
 | _ =>
  constructor
  ·intro h;cases h
  ·rintro ⟨k,h | ⟨_,h⟩⟩ <;> cases h
theorem JQ {g:Nat→SV} (ρ:Nat→V) {d top:Nat} (htop:∀ i,top≤i→g i = .dead):Ku (fun d=>(g d).den ρ) d ((Ja g d top).map fun u=>(u.1,u.2.den ρ)):=by
 refine ⟨fun u hu=>?_,fun i k hi hr=>?_⟩
 ·obtain ⟨v,hv,rfl⟩:=List.mem_map.1 hu
  obtain ⟨h1,h2,h3,h4⟩:=(JG top v).1 hv
  exact ⟨h3,by show v.2.den ρ=_;rw [h1];rfl,(WT ρ d _).1 h4⟩
 ·have hr':=(WT ρ d (g i)).2 ⟨k,hr⟩
  have hlt:i < top:=by
   rcases Nat.lt_or_ge i top with h | h
   ·exact h
   ·rw [htop i h] at hr';cases hr'
  rw [List.map_map]
  exact List.mem_map.2 ⟨(i,.dead),(JG top (i,.dead)).2 ⟨rfl,hlt,hi,hr'⟩,rfl⟩
theorem Zkq {g:Nat→SV} (ρ:Nat→V) {top:Nat} (htop:∀ i,top≤i→g i = .dead) {txt:Odr} {d:Nat} {us:Ups} (h:Zjj txt g top d=some us) :
  (∀ u∈us,u.2 = .dead)∧J9 txt (fun d=>(g d).den ρ) d (us.map fun u=>(u.1,u.2.den ρ)):=by
 unfold Zjj at h
 split at h
 ·simp only [Option.some.injEq] at h
  subst h
  exact ⟨fun u hu=>((JG top u).1 hu).1,.inl ⟨rfl,JQ ρ htop⟩⟩
 ·split at h
  ·rename_i N M K hN
   simp only [Option.some.injEq] at h
   subst h
   exact ⟨fun u hu=>by simp at hu,.inr ⟨N,M,_,rfl,hN,rfl⟩⟩
  ·cases h
theorem ZgJ {P:Program} {e:TypeId} {l:LE} (ρ:Nat→V) (h:mvB P e l=true):Mv P e (l.den ρ):=by
 unfold mvB at h
 rcases Bool.or_eq_true_iff.1 h with h | h
 ·exact .inl (by simpa using h)
 ·unfold ZgL at h
  split at h
  ·exact .inr rfl
  ·cases h
theorem Zhv {P:Program} {res:SV} (ρ:Nat→V) (h:Zlw P res=true):∀ e xs,res.den ρ = .own true e xs→Zo P e=false:=by
 intro e xs he
 cases res with
 | own x e' l =>
  simp only [SV.den,AV.own.injEq] at he
  obtain ⟨rfl,rfl,_⟩:=he
  simpa [Zlw] using h
 | c y => cases y <;> cases he
 | _ => cases he
theorem Ys {P:Program} {g:Nat→SV} (ρ:Nat→V) {top:Nat} (htop:∀ i,top≤i→g i = .dead) {txt:Odr} {x:Bool} {t:Nat} {e:TypeId} {l:LE} {us:Ups} (ht:g t = .own x e l) (h:Ke P txt g top t x e l=some us) :
  ∃ us',us=us'∧(us'.map fun u=>(u.1,u.2.den ρ))=(t,Wn P x e (l.den ρ))::(us'.tail.map fun u=>(u.1,u.2.den ρ))∧((x=false∧(us'.tail.map fun u=>(u.1,u.2.den ρ)) = [])∨J9 txt (fun d=>(g d).den ρ) t (us'.tail.map fun u=>(u.1,u.2.den ρ)))∧(x=true→Mv P e (l.den ρ)):=by
 unfold Ke at h
 split at h
 ·simp only [Option.some.injEq] at h
  subst h
  exact ⟨_,rfl,rfl,.inl ⟨rfl,rfl⟩,fun h=>by cases h⟩
 ·split at h
  case isFalse=>cases h
  rename_i hmv
  split at h
  ·simp only [Option.some.injEq] at h
   subst h
   exact ⟨_,rfl,rfl,.inr (.inl ⟨rfl,JQ ρ htop⟩),fun _=>ZgJ ρ hmv⟩
  ·rename_i N M K
   split at h
   ·rename_i hN
    simp only [Option.some.injEq] at h
    subst h
    exact ⟨_,rfl,rfl,.inr (.inr ⟨N,M,_,rfl,hN,rfl⟩),fun _=>ZgJ ρ hmv⟩
   ·cases h
theorem Yn {P:Program} {g:Nat→SV} {top n:Nat} {txt:Odr} {x:Bool} {t:Nat} {e:TypeId} {l:LE} {us:Ups} (h:Ke P txt g top t x e l=some us) (hl:l.bd n):∀ u∈us,u.2.bd n:=by
 unfold Ke at h
 split at h
 ·simp only [Option.some.injEq] at h
  subst h
  exact us1 hl
 ·split at h
  case isFalse=>cases h
  split at h
  ·simp only [Option.some.injEq] at h
   subst h
   intro u hu
   rcases List.mem_cons.1 hu with rfl | hu
   ·trivial
   ·rw [((JG top u).1 hu).1];trivial
  ·split at h
   ·simp only [Option.some.injEq] at h
    subst h
    exact us1 trivial
   ·cases h
theorem Vg {cs:List BC} {off m:Nat} (h:Vw ((cs.drop off).take m)=true) (ρ:Nat→V):Zbc (((cs.map (BC.den ρ)).drop off).take m):=by
 rw [← List.map_drop,← List.map_take]
 exact ZbL h ρ
theorem Zcl {cs:List BC} {off m:Nat} (h:Zac ((cs.drop off).take m)=true) (ρ:Nat→V):Whole (((cs.map (BC.den ρ)).drop off).take m):=by
 rw [← List.map_drop,← List.map_take]
 exact Zeb h ρ
theorem Zg3 {g:Nat→SV} (ρ:Nat→V) {top:Nat} (htop:∀ i,top≤i→g i = .dead) {txt:Odr} {d:Nat} {cs:List BC} {off m:Nat} (h:(Vw ((cs.drop off).take m)||ZdZ txt g top d)=true) :
  Zbc (((cs.map (BC.den ρ)).drop off).take m)∨J9 txt (fun d=>(g d).den ρ) d []:=by
 rcases Bool.or_eq_true_iff.1 h with h | h
 ·exact .inl (Vg h ρ)
 ·right
  unfold ZdZ at h
  split at h
  ·simp only [List.isEmpty_iff] at h
   refine .inl ⟨rfl,by simp,fun j q hj hr=>?_⟩
   have:=(JQ ρ htop (d:=d)).2 j q hj hr
   rw [h] at this
   exact this
  ·exact .inr ⟨_,_,_,rfl,h,rfl⟩
theorem ZfU {x:SV} (ρ:Nat→V) (h:x.isG=false):(x.den ρ).isG=false:=by
 cases x with
 | gbox cs => cases h
 | c y => cases y <;> rfl
 | _ => rfl
theorem Z2 {x:SV} {k:Nat} {e:TypeId} {l:LE} (ρ:Nat→V) (h:Jh x k=some (e,l)):Zr (x.den ρ) k=some (e,l.den ρ):=by
 unfold Jh at h
 split at h
 ·simp only [Option.some.injEq,Prod.mk.injEq] at h
  obtain ⟨rfl,rfl⟩:=h
  rfl
 ·rename_i cs q
  split at h
  ·rename_i e' l' hc
   simp only [Option.some.injEq,Prod.mk.injEq] at h
   obtain ⟨rfl,rfl⟩:=h
   simp only [SV.den,Zr,List.getElem?_map,hc]
   rfl
  ·cases h
 ·rename_i cs q
  split at h
  ·rename_i e' l' hc
   simp only [Option.some.injEq,Prod.mk.injEq] at h
   obtain ⟨rfl,rfl⟩:=h
   simp only [SV.den,Zr,List.getElem?_map,hc]
   rfl
  ·cases h
 ·cases h
theorem YO {x:SV} {k n:Nat} {e:TypeId} {l:LE} (h:Jh x k=some (e,l)) (hb:x.bd n):l.bd n:=by
 unfold Jh at h
 split at h
 ·simp only [Option.some.injEq,Prod.mk.injEq] at h
  obtain ⟨rfl,rfl⟩:=h
  exact hb
 ·rename_i cs q
  split at h
  ·rename_i e' l' hc
   simp only [Option.some.injEq,Prod.mk.injEq] at h
   obtain ⟨rfl,rfl⟩:=h
   exact hb _ (List.mem_of_getElem? hc)
  ·cases h
 ·rename_i cs q
  split at h
  ·rename_i e' l' hc
   simp only [Option.some.injEq,Prod.mk.injEq] at h
   obtain ⟨rfl,rfl⟩:=h
   exact hb _ (List.mem_of_getElem? hc)
  ·cases h
 ·cases h
theorem K7 (ρ:Nat→V) (x:SV) (k:Nat) (b:Bool) (e:TypeId) (l:LE):(Y4 x k b e l).den ρ=ZE (x.den ρ) k b e (l.den ρ):=by
 cases x with
 | own x e' l' => cases k <;> rfl
 | box cs =>
  cases k with
  | zero => rfl
  | succ k => simp only [Y4, SV.den, ZE, List.map_set]; rfl
 | c y => cases y <;> rfl
 | _ => cases k <;> rfl
theorem VY {x:SV} {k n:Nat} {b:Bool} {e:TypeId} {l:LE} (hx:x.bd n) (hl:l.bd n):(Y4 x k b e l).bd n:=by
 unfold Y4
 split
 ·exact hl
 ·intro c hc
  rcases List.mem_or_eq_of_mem_set hc with hc | rfl
  ·exact hx c hc
  ·exact hl
 ·exact hx
section
variable {P:Program} {E:Env} {tx:Odr} {tk:Bool} {R:AV→List AV→Prop} {A:Nat→List V→Prop} {ρ:Nat→V} {g:Nat→SV} {o:Oper} {n:Nat} {k:K}
theorem ZnX {x:Operand} (hg:∀ d,(g d).bd n) (htop:∀ i,E.top≤i→g i = .dead) (ho:o.op = .move x) (h:(JN P E tx tk g o n k).wp P R A ρ):YZ tx P R A ρ g o n k:=by
 have plain:(k (Jj P g x) [] [] n).wp P R A ρ→YZ tx P R A ρ g o n k:=fun hk=>ZN hk (ZD hg x) (by rw [Yt];exact Zes (.inl ho))
 simp only [JN,ho] at h
 split at h
 ·rename_i t
  have ht:=hg t
  split at h
  ·rename_i vs hv
   rw [hv] at ht
   exact Zbq h ht (us1 trivial) (ZhY ho (by rw [hv];rfl))
  ·rename_i b e xs hv
   rw [hv] at ht
   unfold Zdd at h
   split at h
   ·split at h
    ·rename_i hb
     obtain rfl:b=true:=by cases b<;>simp_all
     refine plain ?_
     have:Jj P g (.tmp t) = .mref t 0:=by simp only [Jj,hv]
     rw [this]
     exact h
    split at h
    ·rename_i us hus
     obtain ⟨us',rfl,q1,q2,q3⟩:=Ys ρ htop (t:=t) hv hus
     exact Za0 h ht (Yn hus ht) (by rw [q1];exact ZeK (.inl ho) (by rw [hv];rfl) q2 q3)
    ·exact h.elim
   ·refine plain ?_
    have:Jj P g (.tmp t)=match b with | true=>.mref t 0 | false=>.c (.slice false (P.cellsOf e) xs):=by simp only [Jj,hv];cases b<;>rfl
    rw [this]
    cases b<;>exact h
  ·exact plain h
 ·exact plain h
theorem ZiV {x:Operand} (hg:∀ d,(g d).bd n) (htop:∀ i,E.top≤i→g i = .dead) (ho:o.op = .assign x) (h:(JN P E tx tk g o n k).wp P R A ρ):YZ tx P R A ρ g o n k:=by
 have plain:(k (Jj P g x) [] [] n).wp P R A ρ→YZ tx P R A ρ g o n k:=fun hk=>ZN hk (ZD hg x) (by rw [Yt];exact Zes (.inr ho))
 simp only [JN,ho] at h
 split at h
 ·rename_i t
  have ht:=hg t
  split at h
  ·exact h.elim
  ·rename_i b e xs hv
   rw [hv] at ht
   unfold Zdd at h
   split at h
   ·split at h
    ·rename_i hb
     obtain rfl:b=true:=by cases b<;>simp_all
     refine plain ?_
     have:Jj P g (.tmp t) = .mref t 0:=by simp only [Jj,hv]
     rw [this]
     exact h
    split at h
    ·rename_i us hus
     obtain ⟨us',rfl,q1,q2,q3⟩:=Ys ρ htop (t:=t) hv hus
     exact Za0 h ht (Yn hus ht) (by rw [q1];exact ZeK (.inr ho) (by rw [hv];rfl) q2 q3)
    ·exact h.elim
   ·refine plain ?_
    have:Jj P g (.tmp t)=match b with | true=>.mref t 0 | false=>.c (.slice false (P.cellsOf e) xs):=by simp only [Jj,hv];cases b<;>rfl
    rw [this]
    cases b<;>exact h
  ·exact plain h
 ·split at h
  ·exact ZN h trivial (Zl1 ho)
  ·exact h.elim
 ·exact plain h
theorem Znn {c a b:Operand} (hg:∀ d,(g d).bd n) (ho:o.op = .pick c a b) (h:(JN P E tx tk g o n k).wp P R A ρ):YZ tx P R A ρ g o n k:=by
 simp only [JN,ho] at h
 split at h
 ·rename_i v hv
  obtain ⟨h1,h2⟩:=ZfV h
  have hc:=Zg ρ hv
  have hex:=Zj8 ho hc
  cases hb:v.den ρ with
  | true =>
   rw [hb,if_pos rfl] at hex
   exact ZN (h1 hb) (ZD hg a) (by rw [Yt];exact hex)
  | false =>
   rw [hb,if_neg (by simp)] at hex
   exact ZN (h2 hb) (ZD hg b) (by rw [Yt];exact hex)
 ·exact h.elim
theorem Zl2 {T:TypeId} (ho:o.op = .alloc T) (h:(JN P E tx tk g o n k).wp P R A ρ):YZ tx P R A ρ g o n k:=by
 simp only [JN,ho] at h
 split at h
 ·rename_i cs hcs
  obtain ⟨i,z,h1,h2,h3,h4⟩:=ZlN ρ n hcs
  exact ZN h h4 (ZhM ho h1 h2 h3)
 ·exact h.elim
theorem Zqf {T:TypeId} {x:Operand} (hg:∀ d,(g d).bd n) (ho:o.op = .box T x) (h:(JN P E tx tk g o n k).wp P R A ρ):YZ tx P R A ρ g o n k:=by
 simp only [JN,ho] at h
 split at h
 ·rename_i cs hcs
  refine ZN h (fun c hc=>?_) ?_
  ·obtain ⟨y,hy,rfl⟩:=List.mem_map.1 hc
   exact ZaK hcs (ZD hg x) y hy
  ·have hd:=V9 ρ hcs
   have:=ZlQ ho (Yt P g ρ x).symm hd
   have he:((SV.box (cs.map .c)).den ρ) = .box (cs.map (SC.den ρ)):=by simp only [SV.den,List.map_map];rfl
   rw [he]
   exact this
 ·exact h.elim
theorem ZeW (parts:Array (Nat×Operand)):(parts.toList.map fun p=>(p.1,Zm P (fun d=>(g d).den ρ) p.2))=(parts.toList.map fun p=>(p.1,Jj P g p.2)).map fun p=>(p.1,p.2.den ρ):=by
 rw [List.map_map]
 refine List.map_congr_left fun p _=>?_
 simp only [Function.comp,Yt]
theorem Zgv (hg:∀ d,(g d).bd n) (parts:Array (Nat×Operand)):∀ p∈(parts.toList.map fun p=>(p.1,Jj P g p.2)),p.2.bd n:=by
 intro p hp
 obtain ⟨q,_,rfl⟩:=List.mem_map.1 hp
 exact ZD hg q.2
theorem ZfN {T:TypeId} {parts:Array (Nat×Operand)} {f t:Nat} {e:TypeId} {l:LE} (hg:∀ d,(g d).bd n) (htop:∀ i,E.top≤i→g i = .dead) (ho:o.op = .build T parts) (hp:Zf0 g parts.toList=some (f,t,e,l)) (h:(Zdx P E tx g T f t e l n k).wp P R A ρ):YZ tx P R A ρ g o n k:=by
 have hparts:parts.toList = [(f,.tmp t)]∧g t = .own true e l:=by
  unfold Zf0 at hp
  split at hp
  ·split at hp
   ·rename_i h1 _ _ _ h2
    simp only [Option.some.injEq,Prod.mk.injEq] at hp
    obtain ⟨rfl,rfl,rfl,rfl⟩:=hp
    exact ⟨h1,h2⟩
   ·cases hp
  ·cases hp
 obtain ⟨hp1,ht⟩:=hparts
 have hbl:=hg t
 rw [ht] at hbl
 unfold Zdx at h
 split at h
 ·rename_i fs i hT hi
  split at h
  ·rename_i hall
   split at h
   ·rename_i z fd hz hfd
    split at h
    ·rename_i zc us hzc hus
     split at h
     ·rename_i hh
      have h1:=Y1 ρ z.cells.toList
      rw [hzc] at h1
      have hz1:W9 z.cells.toList=some (zc.map (SC.den ρ)):=h1.symm
      obtain ⟨us',rfl,q1,q2,q3⟩:=Ys ρ htop (t:=t) ht hus
      refine Za0 h (fun c hc=>?_) (Yn hus hbl) ?_
      ·rcases List.mem_or_eq_of_mem_set hc with hc | rfl
       ·obtain ⟨y,hy,rfl⟩:=List.mem_map.1 hc
        exact KT hzc y hy
       ·exact hbl
      ·have hod:J9 tx (fun d=>(g d).den ρ) t (us.tail.map fun u=>(u.1,u.2.den ρ)):=by
        rcases q2 with ⟨h0,_⟩ | q2
        ·cases h0
        ·exact q2
       have:=Zb1 (zc:=zc.map (SC.den ρ)) ho hp1 hT hi hz hz1 hall hfd hh.1 (by simpa using hh.2) (show (fun d=>(g d).den ρ) t = .own true e (l.den ρ) by show (g t).den ρ=_;rw [ht];rfl) hod
       rw [q1]
       have he:(SV.aggo ((zc.map .c).set fd.offset (.own true e l))).den ρ = .aggo ((zc.map (SC.den ρ)).set fd.offset (.own true e (l.den ρ))):=by
        simp only [SV.den,List.map_set,List.map_map]
        rfl
       rw [he]
       exact this
     ·exact h.elim
    ·exact h.elim
   ·exact h.elim
  ·exact h.elim
 ·exact h.elim
theorem Zln {T:TypeId} {parts:Array (Nat×Operand)} (hg:∀ d,(g d).bd n) (htop:∀ i,E.top≤i→g i = .dead) (ho:o.op = .build T parts) (h:(JN P E tx tk g o n k).wp P R A ρ):YZ tx P R A ρ g o n k:=by
 simp only [JN,ho] at h
 split at h
 ·rename_i f t e l hp
  exact ZfN hg htop ho hp h
 split at h
 ·rename_i fs i hT hi
  split at h
  ·rename_i hall
   split at h
   ·rename_i z hz
    split at h
    ·rename_i zc hzc
     split at h
     ·rename_i cs hcs
      refine ZN h (Zc3 _ _ _ _ (KT hzc) (Zgv hg parts) hcs) ?_
      have h1:=Y1 ρ z.cells.toList
      rw [hzc] at h1
      refine Zie ho hT hi hz h1.symm hall ?_
      rw [ZeW]
      exact ZaQ ρ _ _ _ _ hcs
     ·exact h.elim
    ·exact h.elim
   ·exact h.elim
  ·exact h.elim
 ·exact h.elim
theorem VX {w:World} {lim:Nat→Nat} {f g:Bool} {s s':Nat} {v:Value} (hg:g=true→f=true) (h:Rep w lim (.slice f s []) v):Rep w lim (.slice g s' []) v:=by
 have key:∀ (y:AV),Rep w lim y v→y = .slice f s []→Rep w lim (.slice g s' []) v:=by
  intro y hy hye
  cases hy with
  | sliceN => exact .sliceN
  | @sliceE f' s2 a cap hf =>
   injection hye with h1 h2 h3
   exact .sliceE fun h=>hf (h1.trans (hg h))
  | @sliceC f' s2 xs b o cap us hs hc hf hle hlim hus hcell hr =>
   injection hye with h1 h2 h3
   subst h3
   exact .sliceE fun h=>by have:=hf (h1.trans (hg h));simpa using this
  | val _ => cases hye
  | agg _ _ _ => cases hye
 exact key _ h rfl
theorem Zgb {w:World} {lim:Nat→Nat} {f:Bool} {s:Nat} {xs:List (List AV)} {v:Value} (h:Rep w lim (.slice f s xs) v):Rep w lim (.slice false s xs) v:=by
 have key:∀ (y:AV),Rep w lim y v→y = .slice f s xs→Rep w lim (.slice false s xs) v:=by
  intro y hy hye
  cases hy with
  | sliceN => injection hye with h1 h2 h3; subst h3; exact .sliceN
  | @sliceE f' s2 a cap hf => injection hye with h1 h2 h3; subst h3; exact .sliceE fun h => by cases h
  | @sliceC f' s2 xs b o cap us hs hc hf hle hlim hus hcell hr =>
   injection hye with h1 h2 h3
   subst h2
   subst h3
   exact .sliceC hs hc (fun h=>by cases h) hle hlim hus hcell hr
  | val _ => cases hye
  | agg _ _ _ => cases hye
 exact key _ h rfl
theorem ZlH (ρ:Nat→V) {s:Sh} {c c':SC} (h:Zkt s c=some c'):∀ (w:World) (lim:Nat→Nat) (u:Value),Rep w lim (c.den ρ) u→Rep w lim (c'.den ρ) u:=by
 unfold Zkt at h
 split at h
 ·split at h
  ·simp only [Option.some.injEq] at h
   subst h
   rename_i hk
   subst hk
   exact fun w lim u hr=>Zgb hr
  ·split at h
   ·simp only [Option.some.injEq] at h
    subst h
    exact fun w lim u hr=>VX (fun h=>by cases h) hr
   ·cases h
 ·simp only [Option.some.injEq] at h
  subst h
  exact fun _ _ _ h=>h
theorem Zk0 {n:Nat} {s:Sh} {c c':SC} (h:Zkt s c=some c') (hb:c.bd n):c'.bd n:=by
 unfold Zkt at h
 split at h
 ·split at h
  ·simp only [Option.some.injEq] at h
   subst h
   exact hb
  ·split at h
   ·simp only [Option.some.injEq] at h
    subst h
    trivial
   ·cases h
 ·simp only [Option.some.injEq] at h
  subst h
  exact hb
theorem K0 {n:Nat} : ∀ (l:List Sh) (cs cs':List SC),YH l cs=some cs'→(∀ c∈cs,c.bd n)→∀ c∈cs',c.bd n
 | [], [], _, h, _ => by simp only [YH, Option.some.injEq] at h; subst h; simp
 | [], _ :: _, _, h, _ => by simp [YH] at h
 | _ :: _, [], _, h, _ => by simp [YH] at h
 | s :: ss, c :: cs, r, h, hb => by
  simp only [YH] at h
  split at h
  ·rename_i v vs hv hvs
   simp only [Option.some.injEq] at h
   subst h
   intro x hx
   rcases List.mem_cons.1 hx with rfl | hx
   ·exact Zk0 hv (hb c (by simp))
   ·exact K0 ss cs vs hvs (fun y hy=>hb y (by simp [hy])) x hx
  ·cases h
theorem ZeH (ρ:Nat→V):∀ (l:List Sh) (cs cs':List SC),YH l cs=some cs'→cs'.length=cs.length∧∀ (i:Nat) (c:SC),cs'[i]? = some c→∃ c0,cs[i]? = some c0∧∀ (w:World) (lim:Nat→Nat) (u:Value),Rep w lim (c0.den ρ) u→Rep w lim (c.den ρ) u
 | [], [], _, h => by simp only [YH, Option.some.injEq] at h; subst h; exact ⟨rfl, by simp⟩
 | [], _ :: _, _, h => by simp [YH] at h
 | _ :: _, [], _, h => by simp [YH] at h
 | s :: ss, c :: cs, r, h => by
  simp only [YH] at h
  split at h
  ·rename_i v vs hv hvs
   simp only [Option.some.injEq] at h
   subst h
   obtain ⟨h1,h2⟩:=ZeH ρ ss cs vs hvs
   refine ⟨by simp [h1],fun i x hx=>?_⟩
   cases i with
   | zero =>
    simp only [List.getElem?_cons_zero,Option.some.injEq] at hx
    subst hx
    exact ⟨c,rfl,ZlH ρ hv⟩
   | succ i => exact h2 i x (by simpa using hx)
  ·cases h
theorem Wo (ρ:Nat→V) (l:List Sh) (cs cs':List SC) (h:YH l cs=some cs'):(cs'.map (SC.den ρ)).length=(cs.map (SC.den ρ)).length∧
  ∀ (w:World) (lim:Nat→Nat) (us:List Value),J7 w lim (cs.map (SC.den ρ)) us→J7 w lim (cs'.map (SC.den ρ)) us:=by
 obtain ⟨h1,h2⟩:=ZeH ρ l cs cs' h
 refine ⟨by simp [h1],fun w lim us hr=>⟨by rw [← hr.1];simp [h1],fun x hx=>?_,fun i x u hx hu=>?_⟩⟩
 ·obtain ⟨y,_,rfl⟩:=List.mem_map.1 hx
  exact ZhJ ρ y
 ·rw [List.getElem?_map] at hx
  cases hc:cs'[i]? with
  | none => rw [hc] at hx; cases hx
  | some c =>
   rw [hc] at hx
   simp only [Option.map_some,Option.some.injEq] at hx
   subst hx
   obtain ⟨c0,g1,g2⟩:=h2 i c hc
   exact g2 w lim u (hr.2.2 i _ u (by rw [List.getElem?_map,g1];rfl) hu)
theorem ZfO (ρ:Nat→V) (s:Sh) (c:SC):(∀ n,c.bd n→(ZoA s c).bd n)∧((c.den ρ).isCell=true→((ZoA s c).den ρ).isCell=true)∧∀ (w:World) (lim:Nat→Nat) (u:Value),Rep w lim (c.den ρ) u→Rep w lim ((ZoA s c).den ρ) u:=by
 unfold ZoA
 split
 ·exact ⟨fun _ h=>h,fun _=>rfl,fun w lim u h=>VX (fun h=>h) h⟩
 ·exact ⟨fun _ h=>h,fun h=>h,fun _ _ _ h=>h⟩
theorem ZfA (ρ:Nat→V):∀ (l:List Sh) (cs:List SC),(Zl3 l cs).length=cs.length∧∀ (i:Nat) (c:SC),(Zl3 l cs)[i]? = some c→∃ c0 s,cs[i]? = some c0∧(c=c0∨c=ZoA s c0)
 | [], cs => by cases cs <;> exact ⟨rfl, fun i c h => ⟨c, .bool, h, .inl rfl⟩⟩
 | s :: ss, [] => ⟨rfl, fun i c h => by simp [Zl3] at h⟩
 | s :: ss, c :: cs => by
  obtain ⟨h1,h2⟩:=ZfA ρ ss cs
  refine ⟨by simp [Zl3,h1],fun i x hx=>?_⟩
  cases i with
  | zero =>
   simp only [Zl3,List.getElem?_cons_zero,Option.some.injEq] at hx
   exact ⟨c,s,rfl,.inr hx.symm⟩
  | succ i => exact h2 i x (by simpa [Zl3] using hx)
theorem ZpB {n:Nat} (P:Program) (T:TypeId) {vc:List SC} (h:∀ c∈vc,c.bd n):∀ c∈nrm P T vc,c.bd n:=by
 unfold nrm
 split
 ·rename_i sh _
  intro c hc
  obtain ⟨i,hi⟩:=List.mem_iff_getElem?.1 hc
  obtain ⟨c0,s,h0,e | e⟩:=(ZfA (fun _=>.i 0) sh vc).2 i c hi
  ·rw [e];exact h c0 (List.mem_of_getElem? h0)
  ·rw [e];exact (ZfO (fun _=>.i 0) s c0).1 n (h c0 (List.mem_of_getElem? h0))
 ·exact h
theorem Zpx (ρ:Nat→V) (P:Program) (T:TypeId) (vc:List SC):((nrm P T vc).map (SC.den ρ)).length=(vc.map (SC.den ρ)).length∧
  ∀ (w:World) (lim:Nat→Nat) (us:List Value),J7 w lim (vc.map (SC.den ρ)) us→J7 w lim ((nrm P T vc).map (SC.den ρ)) us:=by
 unfold nrm
 split
 ·rename_i sh _
  obtain ⟨h1,h2⟩:=ZfA ρ sh vc
  have hat:∀ (i:Nat) (x:AV),((Zl3 sh vc).map (SC.den ρ))[i]? = some x→∃ x0,(vc.map (SC.den ρ))[i]? = some x0∧(x0.isCell=true→x.isCell=true)∧∀ (w:World) (lim:Nat→Nat) (u:Value),Rep w lim x0 u→Rep w lim x u:=by
   intro i x hx
   rw [List.getElem?_map] at hx
   obtain ⟨c,hc,rfl⟩:=Option.map_eq_some_iff.1 hx
   obtain ⟨c0,s,h0,e | e⟩:=h2 i c hc
   ·subst e
    exact ⟨_,by rw [List.getElem?_map,h0];rfl,fun h=>h,fun _ _ _ h=>h⟩
   ·subst e
    exact ⟨_,by rw [List.getElem?_map,h0];rfl,(ZfO ρ s c0).2.1,(ZfO ρ s c0).2.2⟩
  refine ⟨by simp [h1],fun w lim us hr=>⟨by rw [← hr.1];simp [h1],fun x hx=>?_,fun i x u hx hu=>?_⟩⟩
  ·obtain ⟨i,hi⟩:=List.mem_iff_getElem?.1 hx
   obtain ⟨x0,h0,h3,_⟩:=hat i x hi
   exact h3 (hr.2.1 x0 (List.mem_of_getElem? h0))
  ·obtain ⟨x0,h0,_,h4⟩:=hat i x hx
   exact h4 w lim u (hr.2.2 i x0 u h0 hu)
 ·exact ⟨rfl,fun _ _ _ h=>h⟩
theorem Zf3 (o:BC) (x:SC):ZlR o x = .c x∨∃ e s,ZlR o x = .own true e .nil∧x = .slice true s .nil:=by
 unfold ZlR
 split
 ·exact .inr ⟨_,_,rfl,rfl⟩
 ·exact .inl rfl
theorem ZcV:∀ (os:List BC) (xs:List SC),(Yy os xs).length=xs.length
 | [], xs => by simp [Yy]
 | _ :: _, [] => rfl
 | _ :: os, _ :: xs => by simp [Yy, ZcV os xs]
theorem WH:∀ (os:List BC) (xs:List SC) (i:Nat) (y:BC),(Yy os xs)[i]? = some y→∃ x,xs[i]? = some x∧(y = .c x∨∃ e s,y = .own true e .nil∧x = .slice true s .nil)
 | [], xs, i, y, h => by
  simp only [Yy,List.getElem?_map] at h
  obtain ⟨x,hx,rfl⟩:=Option.map_eq_some_iff.1 h
  exact ⟨x,hx,.inl rfl⟩
 | _ :: _, [], i, y, h => by simp [Yy] at h
 | o :: _, x :: _, 0, y, h => by
  simp only [Yy,List.getElem?_cons_zero,Option.some.injEq] at h
  subst h
  exact ⟨x,rfl,Zf3 o x⟩
 | o :: os, x :: xs, i + 1, y, h => by
  simp only [Yy,List.getElem?_cons_succ] at h
  obtain ⟨x',h1,h2⟩:=WH os xs i y h
  exact ⟨x',by simpa using h1,h2⟩
theorem ZiB {n:Nat} (os:List BC) (xs:List SC) (h:∀ c∈xs,c.bd n):∀ c∈Yy os xs,c.bd n:=by
 intro c hc
 obtain ⟨i,hi⟩:=List.mem_iff_getElem?.1 hc
 obtain ⟨x,h1,rfl | ⟨e,s,rfl,rfl⟩⟩:=WH os xs i c hi
 ·exact h x (List.mem_of_getElem? h1)
 ·trivial
theorem Zn6 {P:Program} (ρ:Nat→V) (os:List BC) {vc0:List AV} {xs:List SC}
  (h:(xs.map (SC.den ρ)).length=vc0.length∧∀ (w:World) (lim:Nat→Nat) (us:List Value),J7 w lim vc0 us→J7 w lim (xs.map (SC.den ρ)) us) :
  ((Yy os xs).map (BC.den ρ)).length=vc0.length∧∀ (w:World) (lim:Nat→Nat) (us:List Value),J7 w lim vc0 us→
   (∀ z∈(Yy os xs).map (BC.den ρ),ZbN z)∧∀ (j:Nat) (z:AV) (u:Value),((Yy os xs).map (BC.den ρ))[j]? = some z→us[j]? = some u→JX P w lim none z u:=by
 refine ⟨by rw [List.length_map,ZcV,← h.1,List.length_map],fun w lim us hr=>?_⟩
 have hr:=h.2 w lim us hr
 refine ⟨fun z hz=>?_,fun j z u hz hu=>?_⟩
 ·obtain ⟨y,hy,rfl⟩:=List.mem_map.1 hz
  obtain ⟨i,hi⟩:=List.mem_iff_getElem?.1 hy
  obtain ⟨x,h1,rfl | ⟨e,s,rfl,rfl⟩⟩:=WH os xs i y hi
  ·exact .inl (hr.2.1 _ (List.mem_map.2 ⟨x,List.mem_of_getElem? h1,rfl⟩))
  ·exact .inr (.inl ⟨_,_,_,rfl⟩)
 ·rw [List.getElem?_map] at hz
  obtain ⟨y,hy,rfl⟩:=Option.map_eq_some_iff.1 hz
  obtain ⟨x,h1,he⟩:=WH os xs j y hy
  have hx:(xs.map (SC.den ρ))[j]? = some (x.den ρ):=by rw [List.getElem?_map,h1];rfl
  have hc:=hr.2.1 _ (List.mem_of_getElem? hx)
  have hrep:=hr.2.2 j _ u hx hu
  rcases he with rfl | ⟨e,s,rfl,rfl⟩
  ·show JX P w lim none (x.den ρ) u
   cases hxd:x.den ρ<;>rw [hxd] at hc hrep<;>simp [AV.isCell] at hc<;>exact hrep
  ·exact ZaJ (s:=s) hrep
theorem ZdS {T:TypeId} {len:Nat} {parts:Array (Nat×Operand)} (hg:∀ d,(g d).bd n) (ho:o.op = .buildSlice T len parts) (h:(JN P E tx tk g o n k).wp P R A ρ):YZ tx P R A ρ g o n k:=by
 simp only [JN,ho] at h
 split at h
 ·rename_i e hT
  split at h
  ·rename_i i hi
   split at h
   ·rename_i z hz
    split at h
    ·rename_i zc hzc
     split at h
     ·rename_i hh
      split at h
      ·rename_i cs sh hcs hsh
       split at h
       ·rename_i cs' hcs'
        have hb:∀ c∈cs,c.bd n:=Zc3 _ _ _ _ (fun c hc=>by
         obtain ⟨l,hl,hc⟩:=List.mem_flatten.1 hc
         rw [(List.mem_replicate.1 hl).2] at hc
         exact KT hzc c hc) (Zgv hg parts) hcs
        refine ZN h (x:=.own _ e _) (Zmn _ _ (K0 _ _ _ hcs' hb) _) ?_
        have h1:=Y1 ρ z.cells.toList
        rw [hzc] at h1
        have h2:=ZaQ ρ _ _ _ _ hcs
        rw [← ZeW,List.map_flatten,List.map_replicate] at h2
        have:=ZbT (E.exO o) ho hT hi hz h1.symm hh.1 hh.2.1 hh.2.2 h2 (Wo ρ _ _ _ hcs')
        rw [← ZkH] at this
        exact this
       ·exact h.elim
      ·exact h.elim
     ·exact h.elim
    ·exact h.elim
   ·exact h.elim
  ·exact h.elim
 ·exact h.elim
theorem Zk9 (ρ:Nat→V) (x:SC):J8 P (x.den ρ)=x.den ρ:=by cases x<;>rfl
theorem Zn1 {T:TypeId} {a:Operand} (hg:∀ d,(g d).bd n) (htop:∀ i,E.top≤i→g i = .dead) (ho:o.op = .load T a) (h:(JN P E tx tk g o n k).wp P R A ρ):YZ tx P R A ρ g o n k:=by
 have ba:=ZD (P:=P) hg a
 simp only [JN,ho] at h
 split at h
 ·rename_i d off hT ha
  split at h
  ·rename_i cs hcs
   split at h
   ·rename_i hle
    have hb:=hg d
    rw [hcs] at hb
    refine Za0 h (fun c hc=>?_) (by simp) ?_
    ·obtain ⟨y,hy,rfl⟩:=List.mem_map.1 hc
     exact ZkF (hb y (List.mem_of_mem_drop (List.mem_of_mem_take hy)))
    ·have:KQ tx P o (fun d=>(g d).den ρ) (.agg (((((cs.map (BC.den ρ)).drop off).take (P.cellsOf T))).map (J8 P))) [] (fpL tx d off (P.cellsOf T)):=by
      unfold fpL
      split
      ·rename_i hk
       simp only [Bool.and_eq_true,decide_eq_true_eq,List.all_eq_true,List.mem_range] at hk
       exact Ws (cs:=cs.map (BC.den ρ)) ho hT (Zg ρ ha) (by rw [hcs];rfl) (by simpa using hle.1) (Vg hle.2.1 ρ) (Zcl hle.2.2 ρ) hk.1 hk.2
      ·exact (Wx (cs:=cs.map (BC.den ρ)) ho hT (Zg ρ ha) (by rw [hcs];rfl) (by simpa using hle.1) (Vg hle.2.1 ρ) (Zcl hle.2.2 ρ)).t
     have he:(SV.agg (((cs.drop off).take (P.cellsOf T)).map (ZcC P))).den ρ = .agg (((((cs.map (BC.den ρ)).drop off).take (P.cellsOf T))).map (J8 P)):=by
      simp only [SV.den,List.map_map,← List.map_take,← List.map_drop]
      congr 1
      exact List.map_congr_left fun b _=>ZcA P ρ b
     rw [he]
     exact this
   ·exact h.elim
  ·exact h.elim
 ·rename_i d off hT ha
  split at h
  ·rename_i cs hcs
   have hb:=hg d
   rw [hcs] at hb
   have hd:(fun d=>(g d).den ρ) d = .box (cs.map (BC.den ρ)):=by show (g d).den ρ=_;rw [hcs];rfl
   split at h
   ·rename_i b e xs hx
    have hx':(cs.map (BC.den ρ))[off]? = some (.own b e (xs.den ρ)):=by rw [List.getElem?_map,hx];rfl
    have hbx:=hb _ (List.mem_of_getElem? hx)
    split at h
    ·split at h
     ·rename_i us _ hus
      obtain ⟨q1,q2⟩:=Zkq ρ htop hus
      split at h
      case isFalse=>exact h.elim
      rename_i hmv
      refine Za0 h hbx (fun u hu=>?_) ?_
      ·rcases List.mem_append.1 hu with hu | hu
       ·rw [q1 u hu];trivial
       ·rw [List.mem_singleton] at hu
        subst hu
        intro c hc
        rcases List.mem_or_eq_of_mem_set hc with hc | rfl
        ·exact hb c hc
        ·trivial
      ·have:=Zb5 (T':=tx) ho hT (Zg ρ ha) hd hx' q2 (ZgJ ρ hmv)
       rw [List.map_append]
       simp only [List.map_cons,List.map_nil,SV.den,List.map_set]
       exact this
     ·exact ZN h trivial (Zd1 ho hT (Zg ρ ha) hd hx')
    ·split at h
     ·refine Zbq h hbx (us1 (fun c hc=>?_)) ?_
      ·rcases List.mem_or_eq_of_mem_set hc with hc | rfl
       ·exact hb c hc
       ·exact hbx
      ·have:=ZdT ho hT (Zg ρ ha) hd hx'
       simp only [List.map_cons,List.map_nil,SV.den,List.map_set]
       exact this
     ·exact ZN h hbx (Kb ho hT (Zg ρ ha) hd hx' (fun e xs h=>by cases h) (fun h=>by cases h))
   ·rename_i x hx
    have hx':(cs.map (BC.den ρ))[off]? = some (x.den ρ):=by rw [List.getElem?_map,hx];rfl
    have:KQ tx P o (fun d=>(g d).den ρ) (J8 P (x.den ρ)) [] (fpL tx d off 1):=by
     unfold fpL
     split
     ·rename_i hk
      simp only [Bool.and_eq_true,decide_eq_true_eq,List.all_eq_true,List.mem_range] at hk
      exact VK ho hT (Zg ρ ha) hd hx' (fun e xs h=>by cases x<;>cases h) (fun h=>by cases x<;>cases h) (by simpa using hk.2 0 (by omega))
     ·exact (Kb ho hT (Zg ρ ha) hd hx' (fun e xs h=>by cases x<;>cases h) (fun h=>by cases x<;>cases h)).t
    rw [Zk9] at this
    exact Za0 h (hb _ (List.mem_of_getElem? hx)) (by simp) this
   ·exact h.elim
   ·exact h.elim
  ·exact h.elim
 ·rename_i agg d q i s off hT ha
  split at h
  ·rename_i e l hp
   split at h
   ·rename_i sh hsh
    split at h
    ·rename_i hh
     obtain ⟨rfl,h2,h3,h4,hnm⟩:=hh
     obtain ⟨vs,w1,w2,w3⟩:=h
     have hbd:=JR sh n
     have hat:=Z2 ρ hp
     have hlen:(ZQ sh n).length=P.cellsOf e:=by
      have hsl:∀ (l:List Sh) (n:Nat),(ZQ l n).length=l.length:=by
       intro l
       induction l with
       | nil => intro n; rfl
       | cons s l ih => intro n; simp only [ZQ, List.length_cons, ih]
      rw [hsl,h2]
     refine ⟨bind ρ n vs,n+sh.length,_,[],[d],Nat.le_add_right _ _,ZdO ρ n vs,?_,by simp,w3,?_⟩
     ·cases agg with
      | true => exact fun c hc => hbd c (List.mem_of_mem_drop (List.mem_of_mem_take hc))
      | false =>
       show SV.bd _ (match (ZQ sh n)[off]? with | some x=>.c x | none=>.dead)
       split
       ·rename_i x hx;exact hbd x (List.mem_of_getElem? hx)
       ·trivial
     ·cases agg with
      | true =>
       have:=Wu ho hT (Zg ρ ha) (show Zr ((fun d=>(g d).den ρ) d) q=_ from hat) w2 h3 hnm
       rw [← List.map_drop,← List.map_take] at this
       exact this.t
      | false =>
       have hon:P.cellsOf T=1∨off < (ZQ sh n).length:=.inr (by omega)
       have hlt:off < (ZQ sh n).length:=by omega
       show KQ tx P o _ ((match (ZQ sh n)[off]? with | some x=>SV.c x | none=>.dead).den (bind ρ n vs)) _ _
       rw [List.getElem?_eq_getElem hlt]
       exact (VP ho hT (Zg ρ ha) (show Zr ((fun d=>(g d).den ρ) d) q=_ from hat) w2 (by omega) (by rw [List.getElem?_map,List.getElem?_eq_getElem hlt];rfl) hnm).t
    ·exact h.elim
   ·exact h.elim
  ·exact h.elim
 ·rename_i cs hT ha
  rw [ha] at ba
  split at h
  ·rename_i hle
   refine ZN h (fun c hc=>ba c (List.mem_of_mem_take hc)) ?_
   have:=ZbY (cs:=cs.map (SC.den ρ)) ho hT (Zg ρ ha) (by simpa using hle)
   rw [← List.map_take] at this
   exact this
  ·exact h.elim
 ·rename_i cs hT ha
  rw [ha] at ba
  split at h
  ·rename_i x rest
   exact ZN h (ba x (by simp)) (Zbb (cs:=rest.map (SC.den ρ)) ho hT (Zg ρ ha))
  ·exact h.elim
 ·exact h.elim
theorem ZkW {T:TypeId} {a x:Operand} (hg:∀ d,(g d).bd n) (htop:∀ i,E.top≤i→g i = .dead) (ho:o.op = .store T a x) (h:(JN P E tx tk g o n k).wp P R A ρ):YZ tx P R A ρ g o n k:=by
 have bx:=ZD (P:=P) hg x
 simp only [JN,ho] at h
 split at h
 ·rename_i d off ha
  split at h
  ·rename_i cs hcs
   have hb:=hg d
   rw [hcs] at hb
   have hd:(fun d=>(g d).den ρ) d = .box (cs.map (BC.den ρ)):=by show (g d).den ρ=_;rw [hcs];rfl
   split at h
   ·rename_i t b e xs h1 h2
    have hx:x = .tmp t:=by cases x<;>simp [ZO] at h1;rw [h1]
    subst hx
    simp only [ZO,Option.map_some,Option.some.injEq] at h2
    have ht:=hg t
    rw [h2] at ht
    split at h
    ·rename_i us hus
     split at h
     ·rename_i hh
      obtain ⟨us',rfl,q1,q2,q3⟩:=Ys ρ htop (t:=t) h2 hus
      refine Za0 h trivial (fun u hu=>?_) ?_
      ·rcases List.mem_append.1 hu with hu | hu
       ·exact Yn hus ht u hu
       ·rw [List.mem_singleton] at hu
        subst hu
        intro c hc
        rcases List.mem_or_eq_of_mem_set hc with hc | rfl
        ·exact hb c hc
        ·exact ht
      ·have:=Zb8 (T':=tx) (e:=e) (xs:=xs.den ρ) ho (Zg ρ ha) hd (by show (g t).den ρ=_;rw [h2];rfl) hh.1 (by simpa using hh.2.1) (Zg3 ρ htop hh.2.2) q2
       rw [List.map_append,q1]
       simp only [List.map_cons,List.map_nil,SV.den,List.map_set]
       exact this
     ·exact h.elim
    ·exact h.elim
   ·rename_i t vc h1 h2
    have hx:x = .tmp t:=by cases x<;>simp [ZO] at h1;rw [h1]
    subst hx
    simp only [ZO,Option.map_some,Option.some.injEq] at h2
    have ht:=hg t
    rw [h2] at ht
    split at h
    ·rename_i hh
     refine Zbq h trivial (us2 trivial (fun c hc=>?_)) ?_
     ·rcases List.mem_append.1 hc with hc | hc
      ·rcases List.mem_append.1 hc with hc | hc
       ·exact hb c (List.mem_of_mem_take hc)
       ·exact ht c hc
      ·exact hb c (List.mem_of_mem_drop hc)
     ·have:=Za9 (vc:=vc.map (BC.den ρ)) ho (Zg ρ ha) hd (show (fun d=>(g d).den ρ) t = .aggo (vc.map (BC.den ρ)) by show (g t).den ρ=_;rw [h2];rfl) (by simpa using hh.1) (by omega) (by simpa using hh.2.2.1) (Vg hh.2.2.2 ρ)
      have he:(SV.box (cs.take off++vc++cs.drop (off+P.cellsOf T))).den ρ = .box ((cs.map (BC.den ρ)).take off++vc.map (BC.den ρ)++(cs.map (BC.den ρ)).drop (off+P.cellsOf T)):=by
       simp only [SV.den,List.map_append,List.map_take,List.map_drop]
      simp only [List.map_cons,List.map_nil,he]
      exact this
    ·exact h.elim
   ·split at h
    ·rename_i vc hvc
     split at h
     ·rename_i hh
      refine Za0 h trivial (fun u hu=>?_) ?_
      ·rw [List.mem_singleton] at hu;subst hu;intro c hc
       rcases List.mem_append.1 hc with hc | hc
       ·rcases List.mem_append.1 hc with hc | hc
        ·exact hb c (List.mem_of_mem_take hc)
        ·exact ZiB _ _ (ZpB P T (ZaK hvc bx)) c hc
       ·exact hb c (List.mem_of_mem_drop hc)
      ·have:=Zih (vc:=(Yy (cs.drop off) (nrm P T vc)).map (BC.den ρ)) ho (Zg ρ ha) hd (Yt P g ρ x).symm (V9 ρ hvc) (by simpa using hh.1) (by omega) (by simpa using hh.2.2.1) (Zg3 ρ htop hh.2.2.2) (Zn6 ρ (cs.drop off) (Zpx ρ P T vc))
       have he:(SV.box (cs.take off++Yy (cs.drop off) (nrm P T vc)++cs.drop (off+P.cellsOf T))).den ρ = .box ((cs.map (BC.den ρ)).take off++(Yy (cs.drop off) (nrm P T vc)).map (BC.den ρ)++(cs.map (BC.den ρ)).drop (off+P.cellsOf T)):=by
        simp only [SV.den,List.map_append,List.map_take,List.map_drop]
       simp only [List.map_cons,List.map_nil,he]
       exact this
     ·exact h.elim
    ·exact h.elim
  ·exact h.elim
 ·rename_i d q i s off ha
  split at h
  ·rename_i e l vc hp hvc
   have hpt:=ZD (P:=P) hg a
   rw [ha] at hpt
   have hat:=Z2 ρ hp
   split at h
   ·rename_i sh hsh
    split at h
    ·rename_i vc' hvc'
     split at h
     ·rename_i hh
      obtain ⟨r1,r2,h⟩:=h
      have r1':0≤i.den ρ:=r1
      have r2':i.den ρ < ((l.den ρ).length:Int):=r2
      have hbv:=K0 _ _ _ hvc' (ZaK hvc bx)
      refine Zbq h trivial (us1 (VY (hg d) ⟨YO hp (hg d),hpt,Zbp _ hbv⟩)) ?_
      obtain ⟨h1,h2,h3,h4,h5,hnm⟩:=hh
      subst h1
      have:=ZbH (vc:=vc.map (SC.den ρ)) (vc':=vc'.map (SC.den ρ)) ho (Zg ρ ha) (show Zr ((fun d=>(g d).den ρ) d) q=_ from hat) (ZfU ρ h5) (Yt P g ρ x).symm (V9 ρ hvc) (by simpa using h2) (by omega) (by omega) h4 (Wo ρ _ _ _ hvc') hnm
      rw [← Wl] at this
      simp only [List.map_cons,List.map_nil,K7]
      exact this
     ·exact h.elim
    ·exact h.elim
   ·exact h.elim
  ·exact h.elim
 ·exact h.elim
theorem ZfR {x:Operand} (hg:∀ d,(g d).bd n) (ho:o.op = .nilCheck x) (h:(JN P E tx tk g o n k).wp P R A ρ):YZ tx P R A ρ g o n k:=by
 have bx:=ZD (P:=P) hg x
 simp only [JN,ho] at h
 split at h
 ·rename_i d off hx
  exact ZN h trivial (KE ho (Zg ρ hx) (.inl ⟨_,_,rfl⟩))
 ·rename_i cs hx
  rw [hx] at bx
  exact ZN h bx (KE ho (Zg ρ hx) (.inr (.inl ⟨_,rfl⟩)))
 ·rename_i d q i s off hx
  rw [hx] at bx
  split at h
  ·rename_i e l hpl
   split at h
   ·rename_i hm
    exact ZN h bx (KE ho (Zg ρ hx) (.inr (.inr ⟨_,_,_,_,_,rfl,Z2 ρ hpl,hm,by simp⟩)))
   ·exact h.elim
  ·exact h.elim
 ·exact h.elim
theorem Znv {op:UnOp} {T:TypeId} {x:Operand} (hg:∀ d,(g d).bd n) (ho:o.op = .unOp op T x) (h:(JN P E tx tk g o n k).wp P R A ρ):YZ tx P R A ρ g o n k:=by
 have bx:=ZD (P:=P) hg x
 simp only [JN,ho] at h
 split at h
 ·rename_i b hx
  rw [hx] at bx
  refine ZN h (ZlF bx) ?_
  have:=Zmd ho (Zg ρ hx)
  rw [← Zkg] at this
  exact this
 ·rename_i kd e hx
  rw [hx] at bx
  exact ZN h ⟨trivial,bx⟩ (Zk7 ho (Zg ρ hx))
 ·rename_i kd e hx
  rw [hx] at bx
  exact ZN h ⟨trivial,bx⟩ (ZhL ho (Zg ρ hx))
 ·exact h.elim
theorem ZhS {S T:TypeId} {x:Operand} (hg:∀ d,(g d).bd n) (ho:o.op = .convert S T x) (h:(JN P E tx tk g o n k).wp P R A ρ):YZ tx P R A ρ g o n k:=by
 have bx:=ZD (P:=P) hg x
 simp only [JN,ho] at h
 split at h
 ·rename_i hS hT hx
  rw [hx] at bx
  exact ZN h bx (Ziw ho hS hT (Zg ρ hx))
 ·rename_i hS hT hx
  rw [hx] at bx
  split at h
  ·rename_i he
   split at h
   ·rename_i hs
    subst hs
    exact ZN h.2 bx (Zic ho hS he hT (Zg ρ hx) h.1)
   ·exact h.elim
  ·exact h.elim
 ·exact h.elim
theorem Ze5 {T:TypeId} {x:Operand} {f:Nat} (hg:∀ d,(g d).bd n) (ho:o.op = .fieldAddr T x f) (h:(JN P E tx tk g o n k).wp P R A ρ):YZ tx P R A ρ g o n k:=by
 have bx:=ZD (P:=P) hg x
 simp only [JN,ho] at h
 split at h
 ·rename_i hf hx
  exact ZN h trivial (ZbZ ho hf (Zg ρ hx))
 ·rename_i off cs hf hx
  rw [hx] at bx
  refine ZN h (fun c hc=>bx c (List.mem_of_mem_drop hc)) ?_
  have:=Zbt (cs:=cs.map (SC.den ρ)) ho hf (Zg ρ hx)
  rw [← List.map_drop] at this
  exact this
 ·rename_i off d q i s off' hf hx
  rw [hx] at bx
  split at h
  ·rename_i e l hpl
   split at h
   ·rename_i hm
    refine ZN h bx ?_
    have:=Za5 ho hf (Zg ρ hx) (Z2 ρ hpl) hm
    rw [Nat.add_assoc] at this
    exact this
   ·exact h.elim
  ·exact h.elim
 ·exact h.elim
theorem ZlS {T:TypeId} {x:Operand} {f:Nat} (hg:∀ d,(g d).bd n) (ho:o.op = .field T x f) (h:(JN P E tx tk g o n k).wp P R A ρ):YZ tx P R A ρ g o n k:=by
 have bx:=ZD (P:=P) hg x
 simp only [JN,ho] at h
 split at h
 ·rename_i off agg sz cs hf hs hx
  rw [hx] at bx
  split at h
  ·rename_i hh
   have hx':Zm P (fun d=>(g d).den ρ) x = .agg (cs.map (SC.den ρ)):=Zg ρ hx
   cases agg with
   | true =>
    simp only at h
    refine ZN h (fun c hc=>bx c (List.mem_of_mem_drop (List.mem_of_mem_take hc))) ?_
    have:=Zbz (y:=.agg (((cs.map (SC.den ρ)).drop off).take sz)) ho hf hs hx' (by simpa using hh.1) hh.2 (.inl ⟨rfl,rfl⟩)
    rw [← List.map_drop,← List.map_take] at this
    exact this
   | false =>
    simp only at h
    split at h
    ·rename_i c hc
     refine ZN h (bx c (List.mem_of_getElem? hc)) ?_
     exact Zbz (y:=c.den ρ) ho hf hs hx' (by simpa using hh.1) hh.2 (.inr ⟨rfl,by simp [hc],by cases c<;>rfl⟩)
    ·exact h.elim
  ·exact h.elim
 ·exact h.elim
theorem Zhd {ix:IE} {d off s m:Nat} {kk:SV→STree} : ∀ (j:Nat),j≤m→(Znw ix d off s m kk j).wp P R A ρ→∃ i:Nat,i < m∧ix.den ρ=(i:Int)∧(kk (.ptr d (off+i*s))).wp P R A ρ
 | 0, _, h => h.elim
 | 1, hj, h => by
  obtain ⟨h1,h2,h3⟩:=h
  have h1':((m-1:Nat):Int)≤ix.den ρ:=h1
  have h2':ix.den ρ≤((m-1:Nat):Int):=h2
  exact ⟨m-1,by omega,by omega,h3⟩
 | j + 2, hj, h => by
  obtain ⟨h1,h2⟩:=h
  by_cases he:ix.den ρ=((m-(j+2):Nat):Int)
  ·exact ⟨m-(j+2),by omega,he,h1 (by simp [BE.den,IE.den,cop,he])⟩
  ·exact Zhd (j+1) (by omega) (h2 (by simp [BE.den,IE.den,cop,he]))
theorem ZeD {T:TypeId} {x i:Operand} (hg:∀ d,(g d).bd n) (ho:o.op = .indexAddr T x i) (h:(JN P E tx tk g o n k).wp P R A ρ):YZ tx P R A ρ g o n k:=by
 simp only [JN,ho] at h
 split at h
 ·rename_i hT hx hi
  split at h
  ·rename_i sh hsh
   split at h
   ·rename_i hh
    obtain ⟨vs,h1,h2,h3⟩:=h
    exact ⟨bind ρ n vs,n+sh.length,.eptr (ZQ sh n),[],[],Nat.le_add_right _ _,ZdO ρ n vs,JR sh n,by simp,h3,
     (Zhz ho hT hh.1 (by omega) (Zg ρ hx) (Zg ρ hi) h1 h2).t⟩
   ·exact h.elim
  ·exact h.elim
 ·rename_i m e d off kd ix hT hx hi
  split at h
  ·rename_i hh
   split at h
   ·rename_i z
    split at h
    ·rename_i hz
     exact ZN h trivial (Vx (kd:=kd) (z:=z) ho hT (by omega) (Zg ρ hx) (Zg ρ hi) hz.1 hz.2)
    ·exact h.elim
   ·obtain ⟨i',h1,h2,h3⟩:=Zhd m (Nat.le_refl _) h
    have:=Vx (kd:=kd) (z:=(i':Int)) ho hT (by omega) (Zg ρ hx) (by rw [← h2];exact Zg ρ hi) (by omega) (by omega)
    rw [Int.toNat_natCast] at this
    exact ZN h3 trivial this
  ·exact h.elim
 ·rename_i e d q kd ix hT hx hi
  split at h
  ·rename_i e' l hp
   split at h
   ·rename_i hh
    obtain ⟨rfl,h0,hnm⟩:=hh
    obtain ⟨r1,r2,h⟩:=h
    have r1':0≤ix.den ρ:=r1
    have r2':ix.den ρ < ((l.den ρ).length:Int):=r2
    have bi:=ZD (P:=P) hg i
    rw [hi] at bi
    exact ZN h bi (ZbK ho hT (by omega) (Zg ρ hx) (show Zr ((fun d=>(g d).den ρ) d) q=_ from Z2 ρ hp) (Zg ρ hi) r1' (by omega) hnm)
   ·exact h.elim
  ·exact h.elim
 ·exact h.elim
theorem Zn9 {T:TypeId} {a b:Operand} (hg:∀ d,(g d).bd n) (ho:o.op = .makeSlice T a b) (h:(JN P E tx tk g o n k).wp P R A ρ):YZ tx P R A ρ g o n k:=by
 simp only [JN,ho] at h
 split at h
 ·rename_i m m' ha hb
  split at h
  ·rename_i e hT
   have bm:=ZD (P:=P) hg a
   rw [ha] at bm
   split at h
   ·rename_i i hi
    split at h
    ·rename_i z hz
     split at h
     ·rename_i zc sh hzc hsh
      split at h
      ·rename_i zc' hzc'
       split at h
       ·rename_i hzs
        have h1:=Y1 ρ z.cells.toList
        rw [hzc] at h1
        obtain ⟨r1,r2,r3,h⟩:=h
        have r2':m.den ρ≤m'.den ρ:=r2
        have r3':m'.den ρ≤m.den ρ:=r3
        have hmm:m'.den ρ=m.den ρ:=by omega
        refine ZN h (x:=.own (!(E.exO o)) e _) ⟨bm,Zbp _ (K0 _ _ _ hzc' (KT hzc))⟩ ?_
        have hb':Zm P (fun d=>(g d).den ρ) b = .val (.int .i64 (m.den ρ)):=by rw [← hmm];exact Zg ρ hb
        have:=ZiO (!(E.exO o)) (zc:=zc.map (SC.den ρ)) (zc':=zc'.map (SC.den ρ)) ho hT hi hz hzs h1.symm (Zg ρ ha) hb' r1.1 r1.2 (Wo ρ _ _ _ hzc')
        rw [← Wl] at this
        exact this
       ·exact h.elim
      ·exact h.elim
     ·exact h.elim
    ·exact h.elim
   ·exact h.elim
  ·exact h.elim
 ·exact h.elim
theorem Zlt {T:TypeId} {x:Operand} {lo hi mx:Option Operand} (hg:∀ d,(g d).bd n) (htop:∀ i,E.top≤i→g i = .dead) (ho:o.op = .slice T x lo hi mx) (h:(JN P E tx tk g o n k).wp P R A ρ):YZ tx P R A ρ g o n k:=by
 have bx:=ZD (P:=P) hg x
 simp only [JN,ho] at h
 split at h
 ·rename_i e full s xs hT hx
  rw [hx] at bx
  have sx:=Zg ρ hx
  split at h
  ·rename_i hh
   have hs0:P.cellsOf e≠0:=by omega
   unfold ZkD at h
   split at h
   ·rename_i k1 k2 h1 h2 h3
    cases lo with
    | some y => simp at h1
    | none =>
     cases hi with
     | none => simp at h2
     | some y =>
      cases mx with
      | none => simp at h3
      | some z =>
       simp only [Option.map_some,Option.some.injEq] at h2 h3
       exact ZN h trivial (ZhR ho hT hs0 sx (Zg ρ h2) (Zg ρ h3))
   ·rename_i h1 h2 h3
    cases lo with
    | some y => simp at h1
    | none =>
     cases hi with
     | some y => simp at h2
     | none =>
      cases mx with
      | some z => simp at h3
      | none =>
       have:=Zaw (l:=0) (h:=(xs.den ρ).length) (f':=full) ho hT hh.1 hs0 sx (Nat.zero_le _) (Nat.le_refl _) (.inl ⟨rfl,rfl⟩) (.inl ⟨rfl,rfl⟩) (fun h=>⟨h,rfl⟩)
       rw [List.take_length,List.drop_zero] at this
       exact ZN h bx this
   ·rename_i kl l h1 h2 h3
    cases lo with
    | none => simp at h1
    | some y =>
     cases hi with
     | some y => simp at h2
     | none =>
      cases mx with
      | some z => simp at h3
      | none =>
       simp only [Option.map_some,Option.some.injEq] at h1
       have by1:=ZD (P:=P) hg y
       rw [h1] at by1
       obtain ⟨r1,r2,h⟩:=h
       have r1':0≤l.den ρ:=r1
       have r2':l.den ρ≤((xs.den ρ).length:Int):=r2
       have sy:=Zg ρ h1
       have e1:((l.den ρ).toNat:Int)=l.den ρ:=Int.toNat_of_nonneg r1'
       have:=Zaw (l:=(l.den ρ).toNat) (h:=(xs.den ρ).length) (f':=full) ho hT hh.1 hs0 sx (by omega) (Nat.le_refl _) (.inr ⟨y,kl,rfl,by rw [e1];exact sy⟩) (.inl ⟨rfl,rfl⟩) (fun h=>⟨h,rfl⟩)
       rw [List.take_length] at this
       exact ZN h ⟨bx,by1⟩ this
   ·rename_i kl l h1 h2 h3
    cases lo with
    | some y => simp at h1
    | none =>
     cases hi with
     | none => simp at h2
     | some y =>
      cases mx with
      | some z => simp at h3
      | none =>
       simp only [Option.map_some,Option.some.injEq] at h2
       have by1:=ZD (P:=P) hg y
       rw [h2] at by1
       obtain ⟨r1,r2,h⟩:=h
       have r1':0≤l.den ρ:=r1
       have r2':l.den ρ≤((xs.den ρ).length:Int):=r2
       have sy:=Zg ρ h2
       have e1:((l.den ρ).toNat:Int)=l.den ρ:=Int.toNat_of_nonneg r1'
       have:=Zaw (l:=0) (h:=(l.den ρ).toNat) (f':=false) ho hT hh.1 hs0 sx (Nat.zero_le _) (by omega) (.inl ⟨rfl,rfl⟩) (.inr ⟨y,kl,rfl,by rw [e1];exact sy⟩) (fun h=>by simp at h)
       rw [List.drop_zero] at this
       exact ZN h ⟨bx,by1⟩ this
   ·rename_i kl l kh hb h1 h2 h3
    cases lo with
    | none => simp at h1
    | some y =>
     cases hi with
     | none => simp at h2
     | some z =>
      cases mx with
      | some z => simp at h3
      | none =>
       simp only [Option.map_some,Option.some.injEq] at h1 h2
       have by1:=ZD (P:=P) hg y
       rw [h1] at by1
       have by2:=ZD (P:=P) hg z
       rw [h2] at by2
       obtain ⟨r1,r2,r3,h⟩:=h
       have r1':0≤l.den ρ:=r1
       have r2':l.den ρ≤hb.den ρ:=r2
       have r3':hb.den ρ≤((xs.den ρ).length:Int):=r3
       have sy:=Zg ρ h1
       have sz:=Zg ρ h2
       have e1:((l.den ρ).toNat:Int)=l.den ρ:=Int.toNat_of_nonneg r1'
       have e2:((hb.den ρ).toNat:Int)=hb.den ρ:=Int.toNat_of_nonneg (by omega)
       have:=Zaw (l:=(l.den ρ).toNat) (h:=(hb.den ρ).toNat) (f':=false) ho hT hh.1 hs0 sx (by omega) (by omega) (.inr ⟨y,kl,rfl,by rw [e1];exact sy⟩) (.inr ⟨z,kh,rfl,by rw [e2];exact sz⟩) (fun h=>by simp at h)
       exact ZN h ⟨⟨bx,by2⟩,by1⟩ this
   ·exact h.elim
  ·exact h.elim
 ·rename_i e d q hT hx
  split at h
  ·rename_i k1 k2 h2 h3
   split at h
   ·rename_i e' l' hp
    split at h
    ·rename_i h0
     cases hi with
     | none => simp at h2
     | some y =>
      cases mx with
      | none => simp at h3
      | some z =>
       simp only [Option.map_some,Option.some.injEq] at h2 h3
       exact ZN h trivial (Za4 ho hT (by omega) (Zg ρ hx) (Zg ρ h2) (Zg ρ h3) (show Zr ((fun d=>(g d).den ρ) d) q=_ from Z2 ρ hp) h0.2)
    ·exact h.elim
   ·exact h.elim
  split at h
  case isFalse=>exact h.elim
  rename_i hq0
  subst hq0
  split at h
  ·rename_i kh hv e' l hhi hd _
   have hb:=hg d
   rw [hd] at hb
   split at h
   ·rename_i us hus
    split at h
    ·rename_i hh
     obtain ⟨rfl,h0,hnm⟩:=hh
     cases hi with
     | none => simp at hhi
     | some z =>
      simp only [Option.map_some,Option.some.injEq] at hhi
      have bz:=ZD (P:=P) hg z
      rw [hhi] at bz
      obtain ⟨r1,r2,h⟩:=h
      have r1':0≤hv.den ρ:=r1
      have r2':hv.den ρ≤((l.den ρ).length:Int):=r2
      have e1:((hv.den ρ).toNat:Int)=hv.den ρ:=Int.toNat_of_nonneg r1'
      obtain ⟨us',rfl,q1,q2,q3⟩:=Ys ρ htop (t:=d) hd hus
      have hod:J9 tx (fun d=>(g d).den ρ) d (us.tail.map fun u=>(u.1,u.2.den ρ)):=by
       rcases q2 with ⟨h0,_⟩ | q2
       ·cases h0
       ·exact q2
      refine Za0 h ⟨hb,bz⟩ (Yn hus hb) ?_
      rw [q1]
      exact Zgi (h:=(hv.den ρ).toNat) ho hT (by omega) (Zg ρ hx) (show (fun d=>(g d).den ρ) d = .own true e' (l.den ρ) by show (g d).den ρ=_;rw [hd];rfl) (by rw [e1];exact Zg ρ hhi) (by omega) hod hnm
    ·exact h.elim
   ·exact h.elim
  ·exact h.elim
 ·exact h.elim
theorem Zii {x:Operand} {i:Nat} (hg:∀ d,(g d).bd n) (ho:o.op = .extract x i) (h:(JN P E tx tk g o n k).wp P R A ρ):YZ tx P R A ρ g o n k:=by
 simp only [JN,ho] at h
 split at h
 ·rename_i t vs h1 h2
  have hx:x = .tmp t:=by cases x<;>simp [ZO] at h1;rw [h1]
  subst hx
  simp only [ZO,Option.map_some,Option.some.injEq] at h2
  have hb:=hg t
  rw [h2] at hb
  have ht:(fun d=>(g d).den ρ) t = .tuple (vs.map (TC.den ρ)):=by show (g t).den ρ=_;rw [h2];rfl
  split at h
  ·rename_i b e xs hv
   have hv':(vs.map (TC.den ρ))[i]? = some (.own b e (xs.den ρ)):=by rw [List.getElem?_map,hv];rfl
   have hbx:=hb _ (List.mem_of_getElem? hv)
   split at h
   case isFalse=>exact h.elim
   rename_i hmv
   have hmv':b=true→Mv P e (xs.den ρ):=fun hb=>ZgJ ρ (by rw [hb] at hmv;simpa using hmv)
   refine Zbq h hbx (us1 (fun c hc=>?_)) ?_
   ·rcases List.mem_or_eq_of_mem_set hc with hc | rfl
    ·exact hb c hc
    ·cases b<;>first | exact hbx | trivial
   ·have:=Zan (P:=P) (σ:=fun d=>(g d).den ρ) ho ht hv' hmv'
    simp only [List.map_cons,List.map_nil,SV.den,List.map_set]
    cases b<;>exact this
  ·rename_i y hv
   have hv':(vs.map (TC.den ρ))[i]? = some (y.den ρ):=by rw [List.getElem?_map,hv];rfl
   refine ZN h (hb _ (List.mem_of_getElem? hv)) (Zaf (σ:=fun d=>(g d).den ρ) ho ht hv' ?_ ?_ ?_ ?_ ?_)
   ·cases y<;>rfl
   all_goals first
    | (intro d p; cases y <;> simp [SV.den, SC.den])
    | (intro d; cases y <;> simp [SV.den, SC.den])
    | (cases y <;> simp [SV.den, SC.den])
  ·rename_i cs hv
   have hv':(vs.map (TC.den ρ))[i]? = some (.agg (cs.map (SC.den ρ))):=by rw [List.getElem?_map,hv];rfl
   exact ZN h (hb _ (List.mem_of_getElem? hv)) (Zaf (σ:=fun d=>(g d).den ρ) ho ht hv' rfl (fun _ _ h=>by cases h) (fun _ h=>by cases h) (fun h=>by cases h) (fun h=>by cases h))
  ·exact h.elim
  ·exact h.elim
 ·exact h.elim
theorem ZoY {c:Call} (hg:∀ d,(g d).bd n) (ho:o.op = .call c) (hc:c.callee = .builtin .len) (h:(JN P E tx tk g o n k).wp P R A ρ):YZ tx P R A ρ g o n k:=by
 simp only [JN,ho,hc] at h
 split at h
 ·rename_i x T hargs hts
  have bx:=ZD (P:=P) hg x
  split at h
  ·rename_i d q hx
   split at h
   ·rename_i e e' l hT hp
    split at h
    ·rename_i hnm
     exact ZN h (YO hp (hg d)) (Zdz ho hc hargs hts hT (Zg ρ hx) (show Zr ((fun d=>(g d).den ρ) d) q=_ from Z2 ρ hp) hnm)
    ·exact h.elim
   ·exact h.elim
  ·unfold Zpi at h
   split at h
   ·rename_i hT hx
    rw [hx] at bx
    exact ZN h bx (Zb7 ho hc hargs hts hT (Zg ρ hx))
   ·rename_i hT hx
    rw [hx] at bx
    exact ZN h bx (Zep ho hc hargs hts hT (Zg ρ hx))
   ·exact h.elim
 ·exact h.elim
theorem Zoe {c:Call} (hg:∀ d,(g d).bd n) (ho:o.op = .call c) (hc:c.callee = .builtin .copy) (h:(JN P E tx tk g o n k).wp P R A ρ):YZ tx P R A ρ g o n k:=by
 simp only [JN,ho,hc] at h
 split at h
 ·rename_i x y T T' hargs hts
  split at h
  ·rename_i e d q f s ys hT hx hy
   split at h
   ·rename_i e' l hp
    split at h
    ·rename_i hh
     obtain ⟨rfl,h1,rfl,h5,hnm⟩:=hh
     have by1:=ZD (P:=P) hg y
     rw [hy] at by1
     refine Zbq h trivial (us1 (VY (hg d) ⟨YO hp (hg d),by1⟩)) ?_
     simp only [List.map_cons,List.map_nil,K7]
     exact Zca (f:=f) ho hc hargs hts hT h1 (Zg ρ hx) (show Zr ((fun d=>(g d).den ρ) d) q=_ from Z2 ρ hp) (ZfU ρ h5) (Zg ρ hy) hnm
    ·exact h.elim
   ·exact h.elim
  ·exact h.elim
 ·exact h.elim
theorem ZbO {c:Call} {T:TypeId} {x y:Operand} (src:Option Nat) {xv:SV} {ex:Bool} (hg:∀ d,(g d).bd n) (htop:∀ i,E.top≤i→g i = .dead) (ho:o.op = .call c) (hc:c.callee = .builtin .append) (hargs:c.args.toList = [x,y])
  (hts:c.argTypes.toList = [T,T]) (hsrc:∀ t,src=some t→x = .tmp t∧xv=g t) (hnone:src=none→xv=Jj P g x)
  (h:(ZaH P T tx g E.top ex src xv (Jj P g y) fun v us=>k v us [] n).wp P R A ρ):YZ tx P R A ρ g o n k:=by
 have bY:=ZD (P:=P) hg y
 have hxv:xv.bd n:=by
  cases src with
  | none => rw [hnone rfl]; exact ZD hg x
  | some t => rw [(hsrc t rfl).2]; exact hg t
 unfold ZaH at h
 split at h
 ·rename_i e hT
  split at h
  ·rename_i i hi
   split at h
   ·rename_i z hz
    split at h
    ·rename_i hh
     split at h
     ·rename_i b e' xs f s ys hy
      rw [hy] at bY
      split at h
      ·rename_i t
       obtain ⟨rfl,hx⟩:=hsrc t rfl
       split at h
       ·rename_i us hus
        split at h
        ·rename_i he
         obtain ⟨rfl,rfl⟩:=he
         obtain ⟨us',rfl,q1,q2,q3⟩:=Ys ρ htop (t:=t) hx.symm hus
         refine Za0 h.2 ⟨hxv,bY⟩ (Yn hus hxv) ?_
         rw [q1]
         exact ZbG (σ:=fun d=>(g d).den ρ) ho hc hargs hts hT hi hz hh.1 (by show (g t).den ρ=_;rw [← hx];rfl) (Zg ρ hy) h.1 q2 hh.2.2
        ·exact h.elim
       ·exact h.elim
      ·exact h.elim
     ·rename_i s0 f s ys hy
      rw [hy] at bY
      split at h
      ·rename_i he
       subst he
       refine Zbq h.2 bY (by simp) ?_
       have hx:Zm P (fun d=>(g d).den ρ) x = .slice true s0 []:=by
        cases src with
        | none => exact Zg ρ (hnone rfl).symm
        | some t =>
         obtain ⟨rfl,hx⟩:=hsrc t rfl
         simp only [Zm,← hx]
         rfl
       exact Zao (σ:=fun d=>(g d).den ρ) ex ho hc hargs hts hT hi hz hh.1 hx (Zg ρ hy) h.1 hh.2.2
      ·exact h.elim
     ·exact h.elim
    ·exact h.elim
   ·exact h.elim
  ·exact h.elim
 ·exact h.elim
theorem Zad {c:Call} {T:TypeId} {x y:Operand} (src:Option Nat) {xv:SV} {ex:Bool} {d q:Nat} (hg:∀ d,(g d).bd n) (htop:∀ i,E.top≤i→g i = .dead) (ho:o.op = .call c) (hc:c.callee = .builtin .append) (hargs:c.args.toList = [x,y])
  (hts:c.argTypes.toList = [T,T]) (hy:Jj P g y = .mref d q) (hsrc:∀ t,src=some t→x = .tmp t∧xv=g t) (hnone:src=none→xv=Jj P g x)
  (h:(WA P T tx g E.top ex src xv (Jh (g d) q) fun v us=>k v us [d] n).wp P R A ρ):YZ tx P R A ρ g o n k:=by
 have hxv:xv.bd n:=by
  cases src with
  | none => rw [hnone rfl]; exact ZD hg x
  | some t => rw [(hsrc t rfl).2]; exact hg t
 unfold WA at h
 split at h
 ·rename_i e hT
  split at h
  ·rename_i i hi
   split at h
   ·rename_i z hz
    split at h
    ·rename_i hh
     split at h
     ·rename_i b e' xs e2 ys hp
      split at h
      ·rename_i t
       obtain ⟨rfl,hx⟩:=hsrc t rfl
       split at h
       ·rename_i us hus
        split at h
        ·rename_i he
         obtain ⟨rfl,rfl⟩:=he
         obtain ⟨us',rfl,q1,q2,q3⟩:=Ys ρ htop (t:=t) hx.symm hus
         refine Za0 h.2 ⟨hxv,YO hp (hg d)⟩ (Yn hus hxv) ?_
         rw [q1]
         exact Vs (σ:=fun d=>(g d).den ρ) ho hc hargs hts hT hi hz hh.1 (by show (g t).den ρ=_;rw [← hx];rfl) (Zg ρ hy) (show Zr ((fun d=>(g d).den ρ) d) q=_ from Z2 ρ hp) h.1 q2 hh.2.2
        ·exact h.elim
       ·exact h.elim
      ·exact h.elim
     ·rename_i s0 e' ys hp
      split at h
      ·rename_i he
       subst he
       have hx':Zm P (fun d=>(g d).den ρ) x = .slice true s0 []:=by
        cases src with
        | none => exact Zg ρ (hnone rfl).symm
        | some t =>
         obtain ⟨rfl,hx⟩:=hsrc t rfl
         simp only [Zm,← hx]
         rfl
       refine ZN h.2 (YO hp (hg d)) ?_
       exact KW (σ:=fun d=>(g d).den ρ) ex ho hc hargs hts hT hi hz hh.1 hx' (Zg ρ hy) (show Zr ((fun d=>(g d).den ρ) d) q=_ from Z2 ρ hp) h.1 hh.2.2
      ·exact h.elim
     ·exact h.elim
    ·exact h.elim
   ·exact h.elim
  ·exact h.elim
 ·exact h.elim
theorem Zku {c:Call} (hg:∀ d,(g d).bd n) (htop:∀ i,E.top≤i→g i = .dead) (ho:o.op = .call c) (hc:c.callee = .builtin .append) (h:(JN P E tx tk g o n k).wp P R A ρ):YZ tx P R A ρ g o n k:=by
 simp only [JN,ho,hc] at h
 split at h
 ·rename_i x y T T' hargs hts
  split at h
  ·rename_i hTT
   subst hTT
   split at h
   ·rename_i d q hy
    split at h
    ·rename_i t ht
     have hx:x = .tmp t:=by cases x<;>simp [ZO] at ht;rw [ht]
     exact Zad (some t) hg htop ho hc hargs hts hy (fun t' ht'=>by simp only [Option.some.injEq] at ht';subst ht';exact ⟨hx,rfl⟩) (fun h=>by cases h) h
    ·exact Zad none hg htop ho hc hargs hts hy (fun t' ht'=>by cases ht') (fun _=>rfl) h
   split at h
   ·rename_i t ht
    have hx:x = .tmp t:=by cases x<;>simp [ZO] at ht;rw [ht]
    exact ZbO (some t) hg htop ho hc hargs hts (fun t' ht'=>by simp only [Option.some.injEq] at ht';subst ht';exact ⟨hx,rfl⟩) (fun h=>by cases h) h
   ·exact ZbO none hg htop ho hc hargs hts (fun t' ht'=>by cases ht') (fun _=>rfl) h
  ·exact h.elim
 ·exact h.elim
theorem Zmj {c:Call} {ka kb:IntKind} {a b:IE} (h:c.args.toList.map (Jj P g) = [.c (.int ka a),.c (.int kb b)]) :
  ∃ x y,c.args.toList = [x,y]∧Jj P g x = .c (.int ka a)∧Jj P g y = .c (.int kb b):=by
 cases hl:c.args.toList with
 | nil => simp [hl] at h
 | cons x l =>
  cases l with
  | nil => simp [hl] at h
  | cons y l =>
   cases l with
   | nil => simp only [hl, List.map_cons, List.map_nil, List.cons.injEq, and_true] at h; exact ⟨x, y, rfl, h.1, h.2⟩
   | cons z l => simp [hl] at h
theorem ZpH {c:Call} (hg:∀ d,(g d).bd n) (ho:o.op = .call c) (hc:c.callee = .builtin .min) (h:(JN P E tx tk g o n k).wp P R A ρ):YZ tx P R A ρ g o n k:=by
 simp only [JN,ho,hc] at h
 split at h
 ·rename_i ka a kb b hl
  obtain ⟨x,y,h1,h2,h3⟩:=Zmj hl
  split at h
  ·rename_i he
   subst he
   have b1:=ZD (P:=P) hg x
   have b2:=ZD (P:=P) hg y
   rw [h2] at b1
   rw [h3] at b2
   exact ZN h ⟨b1,b2⟩ (ZbR (mn:=true) ho hc h1 (Zg ρ h2) (Zg ρ h3))
  ·exact h.elim
 ·exact h.elim
theorem Zqw {c:Call} (hg:∀ d,(g d).bd n) (ho:o.op = .call c) (hc:c.callee = .builtin .max) (h:(JN P E tx tk g o n k).wp P R A ρ):YZ tx P R A ρ g o n k:=by
 simp only [JN,ho,hc] at h
 split at h
 ·rename_i ka a kb b hl
  obtain ⟨x,y,h1,h2,h3⟩:=Zmj hl
  split at h
  ·rename_i he
   subst he
   have b1:=ZD (P:=P) hg x
   have b2:=ZD (P:=P) hg y
   rw [h2] at b1
   rw [h3] at b2
   exact ZN h ⟨b1,b2⟩ (ZbR (mn:=false) ho hc h1 (Zg ρ h2) (Zg ρ h3))
  ·exact h.elim
 ·exact h.elim
theorem Zfy (ρ:Nat→V) (l:List SAK):(l.map (SAK.den ρ)).filterMap AK.slot=l.filterMap SAK.slot:=by
 rw [List.filterMap_map]
 congr 1
 funext a
 exact ZaL ρ a
theorem Zgd {c:Call} {f:FuncId} {ds rf:List Nat} {aZ:List SAK} (htop:∀ i,E.top≤i→g i = .dead) (ho:o.op = .call c) (hc:(c.callee = .value (.func f)∧ds = [])∨∃ t,c.callee = .value (.tmp t)∧(g t).den ρ = .clo f ds)
  (ha:KO P g ρ (c.args.toList.map Zar.op++ds.map Zar.cap) aZ) (hraw:Raw aZ) (hrf:∀ (i:Nat) (x:Operand),c.args.toList[i]? = some x→(rf.contains i&&(Zbe g x).isSome)=true→∃ t d q j,aZ[i]? = some (SAK.ref t d q j)) (h:(Ze1 P E tx g f (VI P g rf c.args.toList 0) (W5 g (Zq9 P f) aZ) n k).wp P R A ρ):YZ tx P R A ρ g o n k:=by
 unfold Ze1 at h
 split at h
 ·rename_i saks Ts hs _
  split at h
  ·rename_i hnd0
   obtain ⟨hnd,hfree⟩:=hnd0
   split at h
   ·rename_i res sh n' hr
    obtain ⟨q1,q2,q3⟩:=Zh9 hr
    dsimp only at h
    split at h
    case isFalse=>exact h.elim
    rename_i hbo0
    obtain ⟨hbo,hrnm⟩:=hbo0
    obtain ⟨vs,h1,h2⟩:=h
    obtain ⟨tail,a1,a2,a3,a4,a5,a6⟩:=ZhV ρ ha hraw hs
    have hlen:((Jd (saks.map SAK.sv) n').1).length=saks.length:=by rw [ZcF,List.length_map]
    refine ⟨bind ρ n vs,(Jd (saks.map SAK.sv) n').2.2,res,WJ saks (Jd (saks.map SAK.sv) n').1,saks.filterMap SAK.slot++(VI P g rf c.args.toList 0).map (·.1),Nat.le_trans q1 (YX _ _),ZdO ρ n vs,SV.bd_mono (YX _ _) _ q2,
     KA _ _ (WG _ _),h2,?_⟩
    have:=ZjA (T:=tx) (((VI P g rf c.args.toList 0).head?.getD (0,0)).1) (((VI P g rf c.args.toList 0).head?.getD (0,0)).2) ((VI P g rf c.args.toList 0).map (·.1)) (P:=P) (σ:=fun d=>(g d).den ρ) (aks:=saks.map (SAK.den ρ)) (res:=res.den (bind ρ n vs)) (outs:=(Jd (saks.map SAK.sv) n').1.map (SV.den (bind ρ n vs))) (tail:=tail) ho hc (by simpa using a1.1)
     (fun i x a hx hi=>?_) a2 (by simpa using a3) a4 a5
     (by rw [Zfy];exact We _ hnd) (by simp [hlen]) (fun i d fr to cs y hi hy=>?_) (q3 _) (Zhv _ hrnm) (fun i t e xs hi=>?_) (fun i d fr to cs hi=>?_) (fun i x hx hz d q hxm hno=>?_) ?_
    ·rw [Zfx,Zfy] at this
     exact this
    ·rw [List.getElem?_map] at hi
     cases hsi:saks[i]? with
     | none => simp [hsi] at hi
     | some a0 =>
      simp only [hsi,Option.map_some,Option.some.injEq] at hi
      subst hi
      exact a1.2 i x a0 hx hsi
    ·rw [List.getElem?_map] at hi hy
     cases hsi:saks[i]? with
     | none => simp [hsi] at hi
     | some a =>
      cases hyi:(Jd (saks.map SAK.sv) n').1[i]? with
      | none => simp [hyi] at hy
      | some y0 =>
       simp only [hsi,hyi,Option.map_some,Option.some.injEq] at hi hy
       subst hy
       cases a with
       | box d0 fr0 to0 cs0 =>
        simp only [SAK.den,AK.box.injEq] at hi
        obtain ⟨rfl,rfl,rfl,rfl⟩:=hi
        obtain ⟨cs',rfl⟩:=Vr (saks.map SAK.sv) n' i to0 cs0 y0 (by rw [List.getElem?_map,hsi];rfl) hyi
        exact ⟨_,ZaG _ _ _⟩
       | _ => cases hi
    ·rw [List.getElem?_map] at hi
     cases hsi:saks[i]? with
     | none => simp [hsi] at hi
     | some a =>
      simp only [hsi,Option.map_some,Option.some.injEq] at hi
      cases a with
      | own t0 x0 e0 l0 =>
       simp only [SAK.den,AK.own.injEq] at hi
       obtain ⟨rfl,rfl,rfl,_⟩:=hi
       unfold Zc2 at hfree
       rw [List.all_eq_true] at hfree
       have hf:=hfree _ (List.mem_of_getElem? hsi)
       cases tx with
       | any N M K => exact .inr ⟨N, M, K, rfl, hf, rfl⟩
       | text =>
       simp only [List.isEmpty_iff] at hf
       refine .inl ⟨rfl,by simp,fun j q _ hr=>?_⟩
       have hda:=(JQ ρ htop (d:=t0)).2 j q
       by_cases hj:j=t0
       ·subst hj
        have hok:=a1.2 i
        have hlt:=(List.getElem?_eq_some_iff.1 hsi).1
        obtain ⟨x,hx⟩:∃ x,(c.args.toList.map Zar.op++ds.map Zar.cap++tail)[i]? = some x:=⟨_,List.getElem?_eq_getElem (by rw [a1.1];exact hlt)⟩
        have hk:=hok x _ hx hsi
        cases x with
        | op y =>
         have h1:(g j).den ρ = .own true e0 (l0.den ρ):=hk.2
         have hr':Jg ((g j).den ρ) j q:=hr
         rw [h1] at hr'
         rcases hr' with h2 | ⟨_,h2⟩ <;> cases h2
        | _ => exact hk.elim
       ·have:=hda hj hr
        rw [hf] at this
        cases this
      | _ => cases hi
    ·rw [List.getElem?_map] at hi
     cases hsi:saks[i]? with
     | none => simp [hsi] at hi
     | some a =>
      simp only [hsi,Option.map_some,Option.some.injEq] at hi
      cases a with
      | box t0 fr0 to0 cs0 =>
       simp only [SAK.den,AK.box.injEq] at hi
       obtain ⟨rfl,rfl,rfl,rfl⟩:=hi
       unfold Zc2 at hfree
       rw [List.all_eq_true] at hfree
       have hf0:=hfree _ (List.mem_of_getElem? hsi)
       rcases Bool.or_eq_true_iff.1 hf0 with hpl | hf
       ·exact .inl (ZbL hpl ρ)
       ·right
        cases tx with
        | any N M K =>
         rcases Bool.or_eq_true_iff.1 hf with hf | hf
         ·exact .inl (.inr ⟨N,M,K,rfl,hf,rfl⟩)
         ·refine .inr fun σ' hrl j q hr=>?_
          cases hM:M t0 with
          | none => rw [hM] at hf; cases hf
          | some t =>
           rw [hM] at hf
           simp only at hf
           by_cases hj:t=j
           ·subst hj
            rw [List.any_eq_true] at hf
            obtain ⟨b,hb,hbt⟩:=hf
            cases b with
            | ref t1 _ _ _ =>
             have h4:t1=t:=by simpa using hbt
             exact ⟨_,List.mem_map.2 ⟨_,hb,rfl⟩,by rw [ZaL];show some t1=some t;rw [h4]⟩
            | _ => cases hbt
           ·exact (hrl.1 t0 j q (by simp [Odr.nr,hM,hj]) hr).elim
        | text =>
        refine .inr fun σ' hrl j q hr=>?_
        have hrl':σ'=fun d=>(g d).den ρ:=hrl
        rw [hrl'] at hr
        have hda:=(JQ ρ htop (d:=t0)).2 j q
        by_cases hj:j=t0
        ·subst hj
         have hok:=a1.2 i
         have hlt:=(List.getElem?_eq_some_iff.1 hsi).1
         obtain ⟨x,hx⟩:∃ x,(c.args.toList.map Zar.op++ds.map Zar.cap++tail)[i]? = some x:=⟨_,List.getElem?_eq_getElem (by rw [a1.1];exact hlt)⟩
         have hk:=hok x _ hx hsi
         have hr':Jg ((g j).den ρ) j q:=hr
         have hb0:∃ fr cs,(g j).den ρ=mkB fr cs:=by
          cases x with
          | op y => exact ⟨false, _, hk.2.1⟩
          | cap d' => exact ⟨_, _, hk.2.1⟩
          | ghost => exact ⟨_, _, hk.1⟩
          | pad => exact hk.elim
         obtain ⟨fr,cs,hb0⟩:=hb0
         rw [hb0] at hr'
         cases fr<;>rcases hr' with h2 | ⟨_,h2⟩ <;> cases h2
        ·have hm:=hda hj hr
         rw [List.all_eq_true] at hf
         obtain ⟨u,hu,huj⟩:=List.mem_map.1 hm
         obtain ⟨u0,hu0,rfl⟩:=List.mem_map.1 hu
         have h3:=hf u0 hu0
         rw [List.any_eq_true] at h3
         obtain ⟨b,hb,hbt⟩:=h3
         cases b with
         | ref t1 _ _ _ =>
          refine ⟨_,List.mem_map.2 ⟨_,hb,rfl⟩,?_⟩
          have h4:t1=u0.1:=by simpa using hbt
          rw [ZaL]
          show some t1=some j
          rw [h4];exact congrArg some huj
         | _ => cases hbt
      | _ => cases hi
    ·have hnrf:(rf.contains (0+i)&&(Zbe g x).isSome)=false:=by
      rw [Nat.zero_add]
      cases hc':(rf.contains i&&(Zbe g x).isSome) with
      | false => rfl
      | true =>
       obtain ⟨t1,d1,q1,j1,h1'⟩:=hrf i x hx hc'
       obtain ⟨j2,h2'⟩:=a6 i t1 d1 q1 j1 h1'
       obtain ⟨z,hz⟩:=hz
       rw [List.getElem?_map,h2'] at hz
       cases hz
     have hm:=Zfi (P:=P) (g:=g) ρ hx hnrf hxm hno
     generalize VI P g rf c.args.toList 0=bs at hm hbo
     cases bs with
     | nil => cases hm
     | cons p r =>
      simp only [ZqH,Bool.and_eq_true,List.all_eq_true,decide_eq_true_eq,Bool.not_eq_true',List.contains_eq_mem,decide_eq_false_iff_not] at hbo
      obtain ⟨⟨⟨b1,b2⟩,b3⟩,b4⟩:=hbo
      have hp:d=p.1∧q=p.2:=by
       rcases List.mem_cons.1 hm with h0 | h0
       ·rw [← h0];exact ⟨rfl,rfl⟩
       ·exact b1 _ h0
      refine ⟨hp.1,hp.2,by simp,fun a ha hs=>b2 ?_,fun i=>?_⟩
      ·obtain ⟨a0,ha0,rfl⟩:=List.mem_map.1 ha
       rw [ZaL] at hs
       exact List.mem_filterMap.2 ⟨a0,ha0,hs⟩
      ·simp only [ZM]
       rcases Nat.lt_or_ge i ((Jd (saks.map SAK.sv) n').1.map (SV.den (bind ρ n vs))).length with hi | hi
       ·rw [List.getElem?_append_left hi,List.getElem?_map]
        cases hy:(Jd (saks.map SAK.sv) n').1[i]? with
        | none => rfl
        | some y => exact Zcm _ (b4 y (List.mem_of_getElem? hy))
       ·rw [List.getElem?_append_right hi]
        cases hj:i-((Jd (saks.map SAK.sv) n').1.map (SV.den (bind ρ n vs))).length with
        | zero => exact Zcm _ b3
        | succ j => rfl
    ·have he:(saks.map (SAK.den ρ)).map AK.av=(saks.map SAK.sv).map (SV.den ρ):=by
      rw [List.map_map,List.map_map]
      exact List.map_congr_left fun a _=>ZmH ρ a
     rw [he]
     exact h1
   ·exact h.elim
  ·exact h.elim
 ·exact h.elim
theorem Zf6 {d:Nat} {u:Nat×SV} {n:Nat} (ρ:Nat→V) (hu:u∈Ja g d n):u.2 = .dead∧∃ d k,Jg ((g u.1).den ρ) d k:=by
 obtain ⟨h1,_,_,h4⟩:=(JG n u).1 hu
 obtain ⟨k,hk⟩:=(WT ρ d (g u.1)).1 h4
 exact ⟨h1,d,k,hk⟩
theorem Zgj {rf:List Nat} {args:List Operand} {u:Nat×SV} (ρ:Nat→V) (hu:u∈Zax E tx g rf args):u.2 = .dead∧∃ d k,Jg ((g u.1).den ρ) d k:=by
 unfold Zax at hu
 split at hu
 ·obtain ⟨p,_,hp⟩:=List.mem_flatMap.1 (List.mem_filter.1 hu).1
  split at hp
  ·split at hp
   ·exact Zf6 ρ hp
   ·cases hp
  ·cases hp
 ·cases hu
theorem Ze3 (kl:Ups):(fun d=>(Ze2 kl g d).den ρ)=JF (fun d=>(g d).den ρ) ((kl.map fun u=>(u.1,SV.dead.den ρ))):=by
 funext d
 rw [Ww _ _ _ (fun u hu=>by obtain ⟨v,_,rfl⟩:=List.mem_map.1 hu;rfl)]
 unfold Ze2
 by_cases h:(kl.any fun u=>u.1 == d)=true
 ·rw [if_pos h,if_pos]
  ·rfl
  ·rw [List.any_eq_true] at h
   obtain ⟨u,hu,he⟩:=h
   rw [List.map_map]
   exact List.mem_map.2 ⟨u,hu,by simpa using he⟩
 ·rw [if_neg h,if_neg]
  rw [List.map_map]
  intro hm
  obtain ⟨u,hu,he⟩:=List.mem_map.1 hm
  exact h (List.any_eq_true.2 ⟨u,hu,by simpa using he⟩)
theorem ZiJ (kl:Ups) (hkl:∀ u∈kl,u.2 = .dead∧(∃ d k,Jg ((g u.1).den ρ) d k)∧u.1∉KK o) (h:YZ .text P R A ρ (Ze2 kl g) o n (fun x us fp n'=>k x (kl++us) fp n')):YZ .text P R A ρ g o n k:=by
 obtain ⟨ρ',n',x,us,fp,h1,h2,h3,h4,h5,h6⟩:=h
 refine ⟨ρ',n',x,kl++us,fp,h1,h2,h3,fun u hu=>?_,h5,?_⟩
 ·rcases List.mem_append.1 hu with hu | hu
  ·rw [(hkl u hu).1];trivial
  ·exact h4 u hu
 intro c hc σ' tm w lim X _ _ hT hsim next Q hn
 have hT':σ'=fun d=>(g d).den ρ:=hT
 subst hT'
 have hmap:(kl.map fun u=>(u.1,u.2.den ρ'))=kl.map fun u=>(u.1,SV.dead.den ρ):=List.map_congr_left fun u hu=>by rw [(hkl u hu).1];rfl
 obtain ⟨X',hs,_⟩:=Sim.drops (kl.map fun u=>(u.1,SV.dead.den ρ)) hsim fun u hu=>by
  obtain ⟨v,hv,rfl⟩:=List.mem_map.1 hu
  obtain ⟨_,⟨d,q,hr⟩,_⟩:=hkl v hv
  obtain ⟨g1,g2,g3⟩:=Vm hr
  refine ⟨rfl,g2,W4 hsim (fun he=>?_) g3⟩
  rw [he] at hr
  rcases hr with hr | ⟨_,hr⟩ <;> cases hr
 rw [← Ze3] at hs
 refine h6 c hc _ tm w lim X' (fun _ _=>.inl rfl) (fun _ _=>rfl) rfl hs next Q fun v w' ha=>hn v w' ?_
 rw [List.map_append,hmap,KF,← Ze3]
 exact ha
theorem Zfj:∀ (l:List SV) (ds:List Nat),Zcx l=some ds→l.length=ds.length∧∀ (i d:Nat),ds[i]? = some d→l[i]? = some (.ptr d 0)
 | [], ds, h => by simp only [Zcx, Option.some.injEq] at h; subst h; exact ⟨rfl, by simp⟩
 | x :: l, ds, h => by
  unfold Zcx at h
  split at h
  ·rename_i heq;cases heq
  ·rename_i d r heq
   simp only [List.cons.injEq] at heq
   obtain ⟨rfl,rfl⟩:=heq
   cases hr:Zcx l with
   | none => rw [hr] at h; cases h
   | some es =>
    rw [hr] at h
    simp only [Option.map_some,Option.some.injEq] at h
    subst h
    obtain ⟨h1,h2⟩:=Zfj l es hr
    refine ⟨by simp [h1],fun i e he=>?_⟩
    cases i with
    | zero => simp only [List.getElem?_cons_zero, Option.some.injEq] at he ⊢; rw [he]
    | succ i => simpa using h2 i e (by simpa using he)
  ·cases h
theorem Zf1 {fn:Fn} {first captured:Array Operand} (ho:o.op = .makeFunc fn first captured) (h:(JN P E tx tk g o n k).wp P R A ρ):YZ tx P R A ρ g o n k:=by
 simp only [JN,ho] at h
 split at h
 ·rename_i f ds hf hds
  split at h
  ·rename_i hall
   obtain ⟨h1,h2⟩:=Zfj _ _ hds
   refine ZN h trivial (Zdh ho hf (by simpa using h1) fun i x d hx hd=>?_)
   have h3:=h2 i d hd
   rw [List.getElem?_map,hx] at h3
   simp only [Option.map_some,Option.some.injEq] at h3
   rw [List.all_eq_true] at hall
   have h4:=hall d (List.mem_of_getElem? hd)
   refine ⟨Zg ρ h3,?_⟩
   show ∃ cs,(g d).den ρ = .box cs
   split at h4
   ·rename_i cs hcs;rw [hcs];exact ⟨_,rfl⟩
   ·cases h4
  ·exact h.elim
 ·exact h.elim
theorem ZiM {P:Program} (w:World) (d:Nat) {t e:TypeId} (a:Addr) (h:P.underlying t=some (.pointer e)):(Op.equalIn (d+1) t (.pointer (some a)) (.pointer none)).run P w = .ok false w:=by
 simp [Op.equalIn,run_underlying h]
theorem Zbn {P:Program} {o:Oper} {σ:Nat→AV} {op:BinOp} {T T' e:TypeId} {x:Operand} {d off:Nat} (ho:o.op = .binOp op T x (.const (.pointer none)) T') (hT:P.underlying T=some (.pointer e))
  (hop:op = .eql∨op = .neq) (hx:Zm P σ x = .ptr d off):JK P o σ (.val (.bool (if op = .eql then false else true))) [] []:=by
 refine Zv [] rfl fun c hc σ' tm w lim X hg _ hsim=>⟨.bool (if op = .eql then false else true),?_,.val rfl⟩
 rw [ho] at hg
 obtain ⟨b,cs,_,_,hv⟩:=YF hc hsim hx (hg x (by simp [Op.operands]))
 have hc0:Act.eval ⟨tm,[]⟩ (.const (.pointer none)) = .pointer none:=rfl
 have he:(Op.equal T (.pointer (some ⟨b,off,none⟩)) (.pointer none)).run P w = .ok false w:=ZiM w 9999 _ hT
 rcases hop with rfl | rfl<;>simp [execOp,ho,hv,hc0,eqGuard,binOp,he]
theorem Zk1 {op:BinOp} {T T':TypeId} {x y:Operand} (hps:EnvSound P E) (hg:∀ d,(g d).bd n) (ho:o.op = .binOp op T x y T') (h:(JN P E tx tk g o n k).wp P R A ρ):YZ tx P R A ρ g o n k:=by
 simp only [JN,ho] at h
 split at h
 ·rename_i b hb
  unfold Zmr at hb
  split at hb
  ·rename_i d off e hx hT
   split at hb
   ·simp only [Option.some.injEq] at hb
    subst hb
    exact ZN h trivial (Zbn (op:=.eql) ho hT (.inl rfl) (Zg ρ hx))
   ·simp only [Option.some.injEq] at hb
    subst hb
    exact ZN h trivial (Zbn (op:=.neq) ho hT (.inr rfl) (Zg ρ hx))
   ·cases hb
  ·cases hb
 ·exact ZiS hps.1 hg ho h
theorem ZgV {l:List (List AV)} {k:Int} (h:ZaD .any l k=true):∃ kvs tl,l = [.slice false 2 kvs::tl]:=by
 unfold ZaD at h
 split at h
 ·exact ⟨_,_,rfl⟩
 ·cases h
theorem ZjJ {l:List (List AV)} {k:Int} (h:ZaD .full l k=true):∃ kvs,l = [[.slice false 2 kvs]]:=by
 unfold ZaD at h
 split at h
 ·rename_i kvs tl
  obtain rfl:tl = []:=by simpa using h
  exact ⟨_,rfl⟩
 ·cases h
theorem Zi2 {l:List (List AV)} {k:Int} (h:ZaD .at l k=true):∃ kvs tl,l = [.slice false 2 kvs::tl]∧∀ x∈tl,x = .val (.int .i64 k):=by
 unfold ZaD at h
 split at h
 ·rename_i kvs tl
  refine ⟨_,_,rfl,fun x hx=>?_⟩
  have:=List.all_eq_true.1 (show tl.all (Zme k)=true from h) x hx
  unfold Zme at this
  split at this
  ·rename_i z
   have hz:z=k:=by simpa using this
   rw [hz]
  ·cases this
 ·cases h
theorem Zj6 {l:List (List AV)} {k:Int} (h:ZaD .keys l k=true):∃ kvs,l = [[.slice false 2 kvs]]∧kvs.length≤1048576∧∀ r∈kvs,VO r=true:=by
 unfold ZaD at h
 split at h
 ·rename_i kvs tl
  have h':tl.isEmpty=true∧kvs.length≤1048576∧kvs.all VO=true:=by simpa using h
  obtain rfl:tl = []:=by simpa using h'.1
  exact ⟨_,rfl,h'.2.1,List.all_eq_true.1 h'.2.2⟩
 ·cases h
theorem ZhP {T:TypeId} {x:Option Operand} (ho:o.op = .makeMap T x) (h:(JN P E tx tk g o n k).wp P R A ρ):YZ tx P R A ρ g o n k:=by
 simp only [JN,ho] at h
 split at h
 ·rename_i et het
  exact ZN h (show (LE.bd n _) from ⟨trivial,trivial,trivial⟩) (Zec ho het)
 ·exact h.elim
theorem ZiN {T:TypeId} {m kx:Operand} {ok:Bool} (hg:∀ d,(g d).bd n) (ho:o.op = .lookup T m kx ok) (h:(JN P E tx tk g o n k).wp P R A ρ):YZ tx P R A ρ g o n k:=by
 have bk:=ZD (P:=P) hg kx
 simp only [JN,ho] at h
 cases ok with
 | true => exact h.elim
 | false =>
  simp only [ZgU] at h
  split at h
  ·rename_i et d ke het hm hk
   rw [hk] at bk
   split at h
   ·rename_i e l hd
    have hl:=hg d
    rw [hd] at hl
    split at h
    ·rename_i hh
     obtain ⟨h1,h2,h3⟩:=hh
     have hd':(g d).den ρ = .own true e (l.den ρ):=by rw [hd];rfl
     split at h
     ·obtain ⟨hq,h⟩:=h
      obtain ⟨kvs,hkv⟩:=ZjJ hq
      refine Zbq h (show LE.bd n _ from ⟨hl,bk⟩) (us1 (show LE.bd n _ from ⟨hl,bk⟩)) ?_
      have:=Zat ho het h3 (Zg ρ hm) (by rw [hd',hkv]) h2 h1 (Zg ρ hk)
      rw [← hkv] at this
      exact this
     ·obtain ⟨hq,h⟩:=h
      obtain ⟨kvs,tl,hkv⟩:=ZgV hq
      refine ZN h (show LE.bd n _ from ⟨hl,bk⟩) ?_
      have:=Zf7 ho het h3 (Zg ρ hm) (by rw [hd',hkv]) h2 h1 (Zg ρ hk)
      rw [← hkv] at this
      exact this
    ·exact h.elim
   ·exact h.elim
  ·exact h.elim
theorem Ze4 {T:TypeId} {m kx v:Operand} (hg:∀ d,(g d).bd n) (ho:o.op = .insert T m kx v∨o.op = .mapUpdate T m kx v) (h:(JN P E tx tk g o n k).wp P R A ρ):YZ tx P R A ρ g o n k:=by
 have bk:=ZD (P:=P) hg kx
 have h:(ZaI P g T m kx v n k).wp P R A ρ:=by rcases ho with ho | ho<;>simpa only [JN,ho] using h
 unfold ZaI at h
 split at h
 ·rename_i et d ke het hm hk
  rw [hk] at bk
  split at h
  ·rename_i e l hd
   have hl:=hg d
   rw [hd] at hl
   split at h
   ·rename_i hh
    obtain ⟨h1,h2⟩:=hh
    have hd':(g d).den ρ = .own true e (l.den ρ):=by rw [hd];rfl
    split at h
    ·rename_i t et' ys hsl hgt
     have hv:v = .tmp t:=by cases v<;>simp_all [ZO]
     rw [hsl] at hgt
     have hgt:g t = .own false et' ys:=by simpa using hgt
     have hy:=hg t
     rw [hgt] at hy
     split at h
     ·rename_i hee
      subst hee
      obtain ⟨hq,h⟩:=h
      obtain ⟨kvs,tl,hkv,htl⟩:=Zi2 hq
      subst hv
      refine Zbq h trivial (us2 hy (show LE.bd n _ from ⟨hl,bk,hy⟩)) ?_
      have:=ZfH ho het (Zg ρ hm) (by rw [hd',hkv]) h2 h1 (Zg ρ hk) htl (show (fun d=>(g d).den ρ) t = .own false et' (ys.den ρ) by show (g t).den ρ=_;rw [hgt];rfl)
      rw [← hkv] at this
      exact this
     ·exact h.elim
    ·split at h
     ·rename_i s hgv
      obtain ⟨hq,h⟩:=h
      obtain ⟨kvs,tl,hkv,htl⟩:=Zi2 hq
      refine Zbq h trivial (us1 (show LE.bd n _ from ⟨hl,bk,trivial⟩)) ?_
      have:=Zbj ho het (Zg ρ hm) (by rw [hd',hkv]) h2 h1 (Zg ρ hk) htl (Zg ρ hgv)
      rw [← hkv] at this
      exact this
     ·exact h.elim
   ·exact h.elim
  ·exact h.elim
 ·exact h.elim
theorem ZjQ {f:FuncId} {args:List Operand} {d:Nat} {gf:FuncId} {l:LE} (h:Zha P E g f args=some (d,gf,l)) :
  ∃ x p e,args = [x]∧p∈E.ks∧p.1=f∧p.2.2=gf∧Jj P g x = .mref d 0∧g d = .own true e l∧P.cellsOf e=0:=by
 unfold Zha at h
 split at h
 ·cases h
 ·split at h
  ·rename_i x p hp
   split at h
   ·rename_i d' hx
    split at h
    ·rename_i e l' hd
     split at h
     ·rename_i hm
      simp only [Option.some.injEq,Prod.mk.injEq] at h
      obtain ⟨rfl,rfl,rfl⟩:=h
      refine ⟨x,p,e,rfl,List.mem_of_find?_eq_some hp,?_,rfl,hx,hd,hm.2⟩
      simpa using List.find?_some hp
     ·cases h
    ·cases h
   ·cases h
  ·cases h
theorem Zf8 {f:FuncId} {args:List Operand} {d:Nat} {l:LE} (h:Zay P E g f args=some (d,l)) :
  ∃ x p e,args = [x]∧p∈E.ks∧p.2.1=f∧Jj P g x = .eref d 0 (.lit 0) 0 p.2.2∧g d = .own true e l∧P.cellsOf e=0:=by
 unfold Zay at h
 split at h
 ·cases h
 ·split at h
  ·rename_i x
   split at h
   ·rename_i d' gf hx
    split at h
    ·rename_i e l' hd
     split at h
     ·rename_i hm
      simp only [Option.some.injEq,Prod.mk.injEq] at h
      obtain ⟨rfl,rfl⟩:=h
      obtain ⟨p,hp,hpq⟩:=List.any_eq_true.1 hm.2.2
      simp only [Bool.and_eq_true,beq_iff_eq] at hpq
      exact ⟨x,p,e,rfl,hp,hpq.1,by rw [hpq.2];exact hx,hd,hm.2.1⟩
     ·cases h
    ·cases h
   ·cases h
  ·cases h
theorem ZmT {c:Call} {f:FuncId} {d:Nat} {gf:FuncId} {l:LE} (hps:EnvSound P E) (ho:o.op = .call c) (hc:c.callee = .value (.func f)) (hit:Zha P E g f c.args.toList=some (d,gf,l))
  (h:(STree.req (.mq .any l (.lit 0)) (k (.eref d 0 (.lit 0) 0 gf) [] [d] n)).wp P R A ρ):YZ tx P R A ρ g o n k:=by
 obtain ⟨x,p,e,h1,h2,rfl,rfl,h5,h6,h7⟩:=ZjQ hit
 obtain ⟨hq,h⟩:=h
 obtain ⟨kvs,tl,hkv⟩:=ZgV hq
 refine ZN h trivial ?_
 have:=Zin (d:=d) hps.2 h2 ho hc h1 (Zg ρ h5) (by show (g d).den ρ=_;rw [h6];show AV.own true e (l.den ρ)=_;rw [hkv]) h7
 simpa [SV.den,IE.den] using this
theorem ZjX {c:Call} {f:FuncId} {d:Nat} {l:LE} (hps:EnvSound P E) (hg:∀ d,(g d).bd n) (ho:o.op = .call c) (hc:c.callee = .value (.func f)) (hit:Zay P E g f c.args.toList=some (d,l))
  (h:(STree.req (.mq .keys l (.lit 0)) (k (.c (.slice false 1 (.mkeys l))) [] [d] n)).wp P R A ρ):YZ tx P R A ρ g o n k:=by
 obtain ⟨x,p,e,h1,h2,rfl,h5,h6,h7⟩:=Zf8 hit
 obtain ⟨hq,h⟩:=h
 obtain ⟨kvs,hkv,hlen,hfine⟩:=Zj6 hq
 have hl:=hg d
 rw [h6] at hl
 refine ZN h (show LE.bd n _ from hl) ?_
 have hx:Zm P (fun d=>(g d).den ρ) x = .eref d 0 p.2.2:=by have:=Zg ρ h5;simpa [SV.den,IE.den] using this
 have:=Zgl (d:=d) hps.2 h2 ho hc h1 hx (by show (g d).den ρ=_;rw [h6];show AV.own true e (l.den ρ)=_;rw [hkv]) h7 hlen hfine
 rw [← hkv] at this
 exact this
theorem Zib (hps:EnvSound P E) (hg:∀ d,(g d).bd n) (htop:∀ i,E.top≤i→g i = .dead) (h:(JN P E tx tk g o n k).wp P R A ρ):YZ tx P R A ρ g o n k:=by
 cases ho:o.op with
 | move x => exact ZnX hg htop ho h
 | assign x => exact ZiV hg htop ho h
 | pick c a b => exact Znn hg ho h
 | alloc T => exact Zl2 ho h
 | box T x => exact Zqf hg ho h
 | build T parts => exact Zln hg htop ho h
 | buildSlice T len parts => exact ZdS hg ho h
 | load T a => exact Zn1 hg htop ho h
 | store T a x => exact ZkW hg htop ho h
 | nilCheck x => exact ZfR hg ho h
 | binOp op T x y T' => exact Zk1 hps hg ho h
 | unOp op T x => exact Znv hg ho h
 | convert S T x => exact ZhS hg ho h
 | fieldAddr T x f => exact Ze5 hg ho h
 | field T x f => exact ZlS hg ho h
 | indexAddr T x i => exact ZeD hg ho h
 | makeSlice T a b => exact Zn9 hg ho h
 | makeFunc fn first captured => exact Zf1 ho h
 | makeMap T x => exact ZhP ho h
 | lookup T m kx ok => exact ZiN hg ho h
 | insert T m kx v => exact Ze4 hg (.inl ho) h
 | mapUpdate T m kx v => exact Ze4 hg (.inr ho) h
 | slice T x lo hi mx => exact Zlt hg htop ho h
 | extract x i => exact Zii hg ho h
 | call c =>
  cases hc:c.callee with
  | builtin b =>
   cases b with
   | len => exact ZoY hg ho hc h
   | append => exact Zku hg htop ho hc h
   | copy => exact Zoe hg ho hc h
   | min => exact ZpH hg ho hc h
   | max => exact Zqw hg ho hc h
   | _ => simp only [JN, ho, hc] at h; exact h.elim
  | value x =>
   cases x with
   | func f =>
    simp only [JN,ho,hc] at h
    split at h
    ·rename_i hit
     exact ZmT hps ho hc hit h
    split at h
    ·rename_i hit
     exact ZjX hps hg ho hc hit h
    split at h
    case h_2=>
     rename_i hkl
     split at h
     case isFalse=>exact h.elim
     rename_i hall
     rw [List.all_eq_true] at hall
     cases htx:tx with
     | any N M => exact (hkl (by rw [htx]; rfl)).elim
     | text =>
     subst htx
     refine ZiJ (Zax E .text g (E.rfs f) c.args.toList) (fun u hu=>?_) ?_
     ·obtain ⟨k1,k2⟩:=Zgj ρ hu
      exact ⟨k1,k2,by simpa using hall u hu⟩
     ·split at h
      ·rename_i aZ has
       obtain ⟨h1,h2,h3⟩:=V3 ρ _ _ _ has
       refine Zgd (ds:=[]) (fun i hi=>by unfold Ze2;split;rfl;exact htop i hi) ho (.inl ⟨hc,rfl⟩) (by simpa using h1) h2 (fun i x hx hci=>?_) h
       have hl:i < aZ.length:=by rw [← h1.1,List.length_map];exact (List.getElem?_eq_some_iff.1 hx).1
       obtain ⟨t,d,q,j,e⟩:=h3 i _ x hx (List.getElem?_eq_getElem hl) (by rw [Nat.zero_add];exact hci)
       exact ⟨t,d,q,j,by rw [List.getElem?_eq_getElem hl,e]⟩
      ·exact h.elim
    split at h
    ·rename_i aZ has
     obtain ⟨h1,h2,h3⟩:=V3 ρ _ _ _ has
     refine Zgd (ds:=[]) htop ho (.inl ⟨hc,rfl⟩) (by simpa using h1) h2 (fun i x hx hci=>?_) h
     have hl:i < aZ.length:=by rw [← h1.1,List.length_map];exact (List.getElem?_eq_some_iff.1 hx).1
     obtain ⟨t,d,q,j,e⟩:=h3 i _ x hx (List.getElem?_eq_getElem hl) (by rw [Nat.zero_add];exact hci)
     exact ⟨t,d,q,j,by rw [List.getElem?_eq_getElem hl,e]⟩
    ·exact h.elim
   | tmp t =>
    simp only [JN,ho,hc] at h
    split at h
    ·rename_i f ds aZ ht has
     obtain ⟨h1,h2,_⟩:=V3 ρ _ _ _ has
     split at h
     ·rename_i cs hcs
      obtain ⟨k1,k2⟩:=ZnG (P:=P) ρ hcs
      refine Zgd (ds:=ds) htop ho (.inr ⟨t,hc,by rw [ht];rfl⟩) (h1.append k1) (fun a ha=>?_) (fun i _ _ hi=>by simp at hi) h
      rcases List.mem_append.1 ha with ha | ha
      ·exact h2 a ha
      ·exact k2 a ha
     ·exact h.elim
    ·exact h.elim
   | _ => simp only [JN, ho, hc] at h; exact h.elim
  | _ => simp only [JN, ho, hc] at h; exact h.elim
 | _ => simp only [JN, ho] at h; exact h.elim
end
end Go.AM
end

section
namespace Go.AM
structure Stp where
 F:List Nat
 ups:List (Nat×AV)
def Zoa (T:Odr) (P:Program) (nt:Nat) (ops:Array Oper) (B:Nat→Prop) (i:Nat) (pre:Nat→AV) (s:Stp):Prop:=
 (∀ u∈s.ups,u.1∈s.F)∧(∀ u∈s.ups,B u.1→ZcM u.2)∧(∀ u∈s.ups,∀ d k,T.nr d u.1=true→¬ Jg u.2 d k)∧(∀ u∈s.ups,∀ j,T.kp u.1 j=true→Z7 u.2 j=Z7 (pre u.1) j)∧
 ∀ (c:Ctx),c.P=P→c.nt=nt→∀ (σ':Nat→AV) (tm:Array Value) (w:World) (lim:Nat→Nat) (X:Nat→Nat→Option Nat),
  (∀ d∈s.F,σ' d=pre d)→(∀ d,B d→ZcM (σ' d))→T.rel pre σ'→Sim c σ' tm w lim X→∀ (Q:Exit→Act→World→Prop) (K:Act→World→Prop),
   (∀ tm' w' lim' X',Sim c (JF σ' s.ups) tm' w' lim' X'→K ⟨tm',[]⟩ w')→wpOp P ops Q i K ⟨tm,[]⟩ w
def Zet (T:Odr) (P:Program) (nt:Nat) (ops:Array Oper) (B:Nat→Prop):Nat→(Nat→AV)→List Stp→Prop
 | _, _, [] => True
 | i, σ, s :: ss => Zoa T P nt ops B i σ s ∧ Zet T P nt ops B (i + 1) (JF σ s.ups) ss
theorem Zdb {B:Nat→Prop} : ∀ (us:List (Nat×AV)) (σ:Nat→AV),(∀ u∈us,B u.1→ZcM u.2)→(∀ d,B d→ZcM (σ d))→∀ d,B d→ZcM (JF σ us d)
 | [], _, _, h, d, hd => h d hd
 | (e, x) :: us, σ, hu, h, d, hd => by
  refine Zdb us (upd σ e x) (fun u h'=>hu u (by simp [h'])) (fun d hd=>?_) d hd
  by_cases he:d=e
  ·subst he;rw [ZY];exact hu (d,x) (by simp) hd
  ·rw [Zi _ _ he];exact h d hd
def Zek (σ:Nat→AV):List Stp→(Nat→AV)
 | [] => σ
 | s :: ss => Zek (JF σ s.ups) ss
section
variable {T:Odr} {P:Program} {nt:Nat} {ops:Array Oper} {B:Nat→Prop} {Q:Exit→Act→World→Prop} {c:Ctx}
theorem ZcW (hc:c.P=P) (hn:c.nt=nt):∀ (ss:List Stp) (i:Nat) (σ:Nat→AV) (tm:Array Value) (w:World) (lim:Nat→Nat) (X:Nat→Nat→Option Nat),
  Zet .text P nt ops B i σ ss→(∀ d,B d→ZcM (σ d))→Sim c σ tm w lim X→(∀ tm' w' lim' X',Sim c (Zek σ ss) tm' w' lim' X'→Q .normal ⟨tm',[]⟩ w')→wpOps P ops Q (List.range' i ss.length) ⟨tm,[]⟩ w
 | [], i, σ, tm, w, lim, X, _, _, hs, hk => by
  show Q .normal ⟨tm,[]⟩ w
  exact hk tm w lim X hs
 | s :: ss, i, σ, tm, w, lim, X, h, hb, hs, hk => by
  rw [List.length_cons,List.range'_succ,wpOps_cons]
  exact h.1.2.2.2.2 c hc hn σ tm w lim X (fun _ _=>rfl) hb rfl hs Q _ fun tm' w' lim' X' hs'=>ZcW hc hn ss (i+1) _ tm' w' lim' X' h.2 (Zdb _ _ h.1.2.1 hb) hs' hk
def WO:List (Nat×AV)→Nat→Option AV
 | [], _ => none
 | (e, x) :: us, d => match WO us d with | some y => some y | none => if d = e then some x else none
theorem Jl:∀ (us:List (Nat×AV)) (σ:Nat→AV) (d:Nat),JF σ us d=(WO us d).getD (σ d)
 | [], σ, d => rfl
 | (e, x) :: us, σ, d => by
  simp only [JF,WO,Jl us]
  cases WO us d with
  | some y => rfl
  | none =>
   by_cases h:d=e
   ·subst h;simp [upd]
   ·simp [upd,h]
theorem YS:∀ (us:List (Nat×AV)) (d:Nat),d∉us.map (·.1)→WO us d=none
 | [], d, _ => rfl
 | (e, x) :: us, d, h => by
  simp only [List.map_cons,List.mem_cons,not_or] at h
  simp only [WO,YS us d h.2,if_neg h.1]
theorem Vd:∀ (us:List (Nat×AV)) (d:Nat),d∈us.map (·.1)→∃ x,WO us d=some x
 | [], d, h => by simp at h
 | (e, x) :: us, d, h => by
  simp only [WO]
  cases hl:WO us d with
  | some y => exact ⟨y, rfl⟩
  | none =>
   simp only [List.map_cons,List.mem_cons] at h
   rcases h with h | h
   ·subst h;exact ⟨x,by simp⟩
   ·obtain ⟨y,hy⟩:=Vd us d h;rw [hl] at hy;cases hy
def comp (S:Nat→Bool):Nat→(Nat→AV)→List Stp→(Nat→AV)
 | _, σ, [] => σ
 | i, σ, s :: ss => comp S (i + 1) (if S i = true then JF σ s.ups else σ) ss
theorem Zhj (S:Nat→Bool):∀ (ss:List Stp) (i:Nat) (σ:Nat→AV),(∀ j,i≤j→j < i+ss.length→S j=true)→comp S i σ ss=Zek σ ss
 | [], _, _, _ => rfl
 | s :: ss, i, σ, h => by
  simp only [comp,Zek,h i (Nat.le_refl _) (by simp),if_true]
  exact Zhj S ss (i+1) _ fun j h1 h2=>h j (by omega) (by simp only [List.length_cons];omega)
theorem ZaO (S:Nat→Bool):∀ (ss:List Stp) (i:Nat) (σ:Nat→AV),(∀ j,i≤j→j < i+ss.length→S j=false)→comp S i σ ss=σ
 | [], _, _, _ => rfl
 | s :: ss, i, σ, h => by
  simp only [comp,h i (Nat.le_refl _) (by simp),Bool.false_eq_true,if_false]
  exact ZaO S ss (i+1) _ fun j h1 h2=>h j (by omega) (by simp only [List.length_cons];omega)
theorem Vj {d:Nat} (S T:Nat→Bool):∀ (ss:List Stp) (i:Nat) (σ τ:Nat→AV),σ d=τ d→(∀ (j:Nat) (s:Stp),ss[j]? = some s→d∈s.ups.map (·.1)→S (i+j)=T (i+j))→comp S i σ ss d=comp T i τ ss d
 | [], _, _, _, h, _ => h
 | s :: ss, i, σ, τ, h, hS => by
  simp only [comp]
  refine Vj S T ss (i+1) _ _ ?_ fun j s' hs' hd=>by
   have:=hS (j+1) s' (by simpa using hs') hd
   rw [show i+1+j=i+(j+1) by omega]
   exact this
  by_cases hd:d∈s.ups.map (·.1)
  ·have h0:=hS 0 s rfl hd
   rw [Nat.add_zero] at h0
   rw [h0]
   split
   ·rw [Jl,Jl,h]
   ·exact h
  ·have hl:=YS s.ups d hd
   split<;>split<;>first
    | (rw [Jl, Jl, hl]; exact h)
    | (rw [Jl, hl]; exact h)
    | exact h
theorem ZbC:∀ (ss:List Stp) (i:Nat) (σ:Nat→AV) (m:Nat),comp (fun j=>decide (j < i+m)) i σ ss=Zek σ (ss.take m)
 | [], i, σ, m => by simp [comp, Zek]
 | s :: ss, i, σ, 0 => by
  rw [List.take_zero]
  exact ZaO _ (s::ss) i σ fun j h1 _=>by simp;omega
 | s :: ss, i, σ, m + 1 => by
  simp only [comp,List.take_succ_cons,Zek,decide_eq_true_eq]
  rw [if_pos (by omega),← ZbC ss (i+1)]
  congr 1
  funext j
  rw [show i+1+m=i+(m+1) by omega]
theorem ZiK (S:Nat→Bool):∀ (ss:List Stp) (i:Nat) (σ:Nat→AV),(∀ s∈ss,∀ u∈s.ups,B u.1→ZcM u.2)→(∀ d,B d→ZcM (σ d))→∀ d,B d→ZcM (comp S i σ ss d)
 | [], _, _, _, h, d, hd => h d hd
 | s :: ss, i, σ, hu, h, d, hd => by
  simp only [comp]
  refine ZiK S ss (i+1) _ (fun s' hs'=>hu s' (by simp [hs'])) (fun d hd=>?_) d hd
  split
  ·exact Zdb _ _ (hu s (by simp)) h d hd
  ·exact h d hd
theorem Zeo:∀ (ss:List Stp) (i:Nat) (σ:Nat→AV),Zet T P nt ops B i σ ss→∀ s∈ss,∀ u∈s.ups,B u.1→ZcM u.2
 | [], _, _, _, s, hs => by simp at hs
 | s0 :: ss, i, σ, h, s, hs => by
  rcases List.mem_cons.1 hs with rfl | hs
  ·exact h.1.2.1
  ·exact Zeo ss (i+1) _ h.2 s hs
theorem Zjx:∀ (us:List (Nat×AV)) (σ:Nat→AV),(∀ u∈us,∀ d k,T.nr d u.1=true→¬ Jg u.2 d k)→(∀ d i k,T.nr d i=true→¬ Jg (σ i) d k)→∀ d i k,T.nr d i=true→¬ Jg (JF σ us i) d k
 | [], _, _, h => h
 | (e, x) :: us, σ, hu, h => by
  refine Zjx us (upd σ e x) (fun u h'=>hu u (by simp [h'])) fun d i k hd=>?_
  by_cases he:i=e
  ·subst he;rw [ZY];exact hu (i,x) (by simp) d k hd
  ·rw [Zi _ _ he];exact h d i k hd
theorem Zjg (S:Nat→Bool):∀ (ss:List Stp) (i:Nat) (σ:Nat→AV),(∀ s∈ss,∀ u∈s.ups,∀ d k,T.nr d u.1=true→¬ Jg u.2 d k)→(∀ d i k,T.nr d i=true→¬ Jg (σ i) d k)→∀ d j k,T.nr d j=true→¬ Jg (comp S i σ ss j) d k
 | [], _, _, _, h => h
 | s :: ss, i, σ, hu, h => by
  simp only [comp]
  refine Zjg S ss (i+1) _ (fun s' hs'=>hu s' (by simp [hs'])) ?_
  split
  ·exact Zjx _ _ (hu s (by simp)) h
  ·exact h
theorem Zhq:∀ (ss:List Stp) (i:Nat) (σ:Nat→AV),Zet T P nt ops B i σ ss→∀ s∈ss,∀ u∈s.ups,∀ d k,T.nr d u.1=true→¬ Jg u.2 d k
 | [], _, _, _, s, hs => by simp at hs
 | s0 :: ss, i, σ, h, s, hs => by
  rcases List.mem_cons.1 hs with rfl | hs
  ·exact h.1.2.2.1
  ·exact Zhq ss (i+1) _ h.2 s hs
theorem Zc6 {τ:Nat→AV} : ∀ (us:List (Nat×AV)) (σ:Nat→AV),(∀ u∈us,∀ j,T.kp u.1 j=true→Z7 u.2 j=Z7 (τ u.1) j)→(∀ d j,T.kp d j=true→Z7 (σ d) j=Z7 (τ d) j)→∀ d j,T.kp d j=true→Z7 (JF σ us d) j=Z7 (τ d) j
 | [], _, _, h => h
 | (e, x) :: us, σ, hu, h => by
  refine Zc6 us (upd σ e x) (fun u h'=>hu u (by simp [h'])) fun d j hd=>?_
  by_cases he:d=e
  ·subst he;rw [ZY];exact hu (d,x) (by simp) j hd
  ·rw [Zi _ _ he];exact h d j hd
theorem ZkK (S:Nat→Bool):∀ (ss:List Stp) (i:Nat) (τ σ:Nat→AV),(∀ s∈ss,∀ u∈s.ups,∀ j,T.kp u.1 j=true→Z7 u.2 j=Z7 (τ u.1) j)→(∀ d j,T.kp d j=true→Z7 (σ d) j=Z7 (τ d) j)→∀ d j,T.kp d j=true→Z7 (comp S i σ ss d) j=Z7 (τ d) j
 | [], _, _, _, _, h => h
 | s :: ss, i, τ, σ, hu, h => by
  simp only [comp]
  refine ZkK S ss (i+1) τ _ (fun s' hs'=>hu s' (by simp [hs'])) ?_
  split
  ·exact Zc6 _ _ (hu s (by simp)) h
  ·exact h
theorem Ziq:∀ (ss:List Stp) (τ σ:Nat→AV),(∀ s∈ss,∀ u∈s.ups,∀ j,T.kp u.1 j=true→Z7 u.2 j=Z7 (τ u.1) j)→(∀ d j,T.kp d j=true→Z7 (σ d) j=Z7 (τ d) j)→∀ d j,T.kp d j=true→Z7 (Zek σ ss d) j=Z7 (τ d) j
 | [], _, _, _, h => h
 | s :: ss, τ, σ, hu, h => by
  simp only [Zek]
  exact Ziq ss τ _ (fun s' hs'=>hu s' (by simp [hs'])) (Zc6 _ _ (hu s (by simp)) h)
theorem ZdY:∀ (ss:List Stp) (i:Nat) (σ:Nat→AV),Zet T P nt ops B i σ ss→∀ s∈ss,∀ u∈s.ups,∀ j,T.kp u.1 j=true→Z7 u.2 j=Z7 (σ u.1) j
 | [], _, _, _, s, hs => by simp at hs
 | s0 :: ss, i, σ, h, s, hs => by
  rcases List.mem_cons.1 hs with rfl | hs
  ·exact h.1.2.2.2.1
  ·intro u hu j hj
   rw [ZdY ss (i+1) _ h.2 s hs u hu j hj]
   exact Zc6 s0.ups σ (τ:=σ) h.1.2.2.2.1 (fun _ _ _=>rfl) u.1 j hj
theorem ZgP:∀ (ss:List Stp) (i:Nat) (σ:Nat→AV),Zet T P nt ops B i σ ss→∀ (j:Nat) (s:Stp),ss[j]? = some s→Zoa T P nt ops B (i+j) (Zek σ (ss.take j)) s
 | [], _, _, _, j, s, h => by simp at h
 | s0 :: ss, i, σ, hc, 0, s, h => by
  simp only [List.getElem?_cons_zero,Option.some.injEq] at h
  subst h
  exact hc.1
 | s0 :: ss, i, σ, hc, j + 1, s, h => by
  have:=ZgP ss (i+1) _ hc.2 j s (by simpa using h)
  rw [show i+(j+1)=i+1+j by omega]
  exact this
theorem Zkv (hc:c.P=P) (hn:c.nt=nt) {N:Nat→Bool} {M:Nat→Option Nat} {K:List (Nat×Nat)} {ss:List Stp} {σ:Nat→AV} (hch:Zet (.any N M K) P nt ops B 0 σ ss) (hN:∀ d i k,(Odr.any N M K).nr d i=true→¬ Jg (σ i) d k) (hpb:∀ d,B d→ZcM (σ d)) (hlen:ss.length=ops.size)
  (hlow:∀ (i:Nat) (o:Oper),ops[i]? = some o→∀ e∈o.after,Region.binds .any e=true→e.on < i)
  (hind:∀ (i j:Nat) (a b:Stp),ss[i]? = some a→ss[j]? = some b→j < i→(∃ S:Nat→Prop,(∀ k o,ops[k]? = some o→S k→∀ e∈o.after,Region.binds .any e=true→S e.on)∧S i∧¬ S j)→
   (∀ d∈b.ups.map (·.1),d∉a.F)∧∀ d∈a.ups.map (·.1),d∉b.F) (hfin:∀ tm' w' lim' X',Sim c (Zek σ ss) tm' w' lim' X'→Q .normal ⟨tm',[]⟩ w') :
  ∀ (fuel:Nat) (listed:Array Bool) (tm:Array Value) (w:World) (lim:Nat→Nat) (X:Nat→Nat→Option Nat),listed.size=ops.size→
   (∀ k o,ops[k]? = some o→listed.getD k false=true→∀ e∈o.after,Region.binds .any e=true→listed.getD e.on false=true)→
   ((List.range ops.size).countP (fun i=>!listed.getD i false)≤fuel)→
   Sim c (comp (fun i=>listed.getD i false) 0 σ ss) tm w lim X→wpAny P .any ops Q fuel listed ⟨tm,[]⟩ w:=by
 -- where nothing is ready, all is done
 have hdone:∀ (listed:Array Bool),listed.size=ops.size→Region.ready .any ops listed = []→∀ j,j < ops.size→listed.getD j false=true:=by
  intro listed hsz hr j
  induction j using Nat.strongRecOn with
  | _ j ih =>
   intro hj
   cases hl:listed.getD j false with
   | true => rfl
   | false =>
    have:j∈Region.ready .any ops listed:=by
     rw [mem_ready]
     refine ⟨?_,ops[j],Array.getElem?_eq_getElem hj,fun e he hb=>?_⟩
     ·simp only [Array.getD,hsz,hj,dite_true] at hl ⊢
      exact hl
     ·have hlt:=hlow j _ (Array.getElem?_eq_getElem hj) e he hb
      exact ih e.on hlt (by omega)
    rw [hr] at this
    cases this
 have hend:∀ (listed:Array Bool) (tm:Array Value) (w:World) (lim:Nat→Nat) (X:Nat→Nat→Option Nat),listed.size=ops.size→Region.ready .any ops listed = []→
   Sim c (comp (fun i=>listed.getD i false) 0 σ ss) tm w lim X→Q .normal ⟨tm,[]⟩ w:=by
  intro listed tm w lim X hsz hr hs
  rw [Zhj _ ss 0 σ fun j _ h2=>hdone listed hsz hr j (by omega)] at hs
  exact hfin tm w lim X hs
 intro fuel
 induction fuel with
 | zero =>
  intro listed tm w lim X hsz hcl hcnt hs
  have hall:∀ j,j < ops.size→listed.getD j false=true:=by
   intro j hj
   have h0:(List.range ops.size).countP (fun i=>!listed.getD i false)=0:=by omega
   have:=(List.countP_eq_zero.1 h0) j (by simpa using hj)
   simpa using this
  have hr:Region.ready .any ops listed = []:=by
   refine List.eq_nil_iff_forall_not_mem.2 fun j hj=>?_
   obtain ⟨h1,o,h2,_⟩:=mem_ready.1 hj
   have hlt:=(Array.getElem?_eq_some_iff.1 h2).1
   have:=hall j hlt
   simp only [Array.getD,hsz,hlt,dite_true] at h1 this
   rw [h1] at this
   cases this
  exact ⟨hr,hend listed tm w lim X hsz hr hs⟩
 | succ fuel ih =>
  intro listed tm w lim X hsz hcl hcnt hs
  refine ⟨fun hr=>hend listed tm w lim X hsz hr hs,fun i hi=>?_⟩
  obtain ⟨h1,o,h2,h3⟩:=mem_ready.1 hi
  have hlt:=(Array.getElem?_eq_some_iff.1 h2).1
  have hun:listed.getD i false=false:=by
   simp only [Array.getD,hsz,hlt,dite_true] at h1 ⊢
   exact h1
  obtain ⟨s,hsi⟩:∃ s,ss[i]? = some s:=⟨_,List.getElem?_eq_getElem (by omega)⟩
  have hst:=ZgP ss 0 σ hch i s hsi
  rw [Nat.zero_add] at hst
  have hset:∀ j,(listed.setIfInBounds i true).getD j false=if j=i then true else listed.getD j false:=by
   intro j
   by_cases hji:j=i
   ·subst hji
    simp [Array.getD,hsz,hlt]
   ·rw [if_neg hji,getD_set_ne false (Ne.symm hji)]
  -- i is not before what is listed
  have hnot:∀ j,listed.getD j false=true→∃ S:Nat→Prop,(∀ k o,ops[k]? = some o→S k→∀ e∈o.after,Region.binds .any e=true→S e.on)∧S j∧¬ S i:=
   fun j hj=>⟨fun k=>listed.getD k false=true,hcl,hj,by simp [hun]⟩
  -- what is not listed is not before i
  have hnot':∀ j,j≠i→listed.getD j false=false→∃ S:Nat→Prop,(∀ k o,ops[k]? = some o→S k→∀ e∈o.after,Region.binds .any e=true→S e.on)∧S i∧¬ S j:=by
   intro j hji hj
   refine ⟨fun k=>k=i∨listed.getD k false=true,fun k o' hk hS e he hb=>?_,.inl rfl,by simp [hji,hj]⟩
   rcases hS with rfl | hS
   ·rw [h2] at hk
    cases hk
    exact .inr (h3 e he hb)
   ·exact .inr (hcl k o' hk hS e he hb)
  have hpre:∀ d∈s.F,comp (fun i=>listed.getD i false) 0 σ ss d=Zek σ (ss.take i) d:=by
   intro d hd
   rw [← ZbC ss 0 σ i]
   refine Vj _ _ ss 0 σ σ rfl fun j s' hj hdj=>?_
   simp only [Nat.zero_add]
   rcases Nat.lt_trichotomy j i with hlt' | rfl | hgt
   ·simp only [hlt',decide_true]
    cases hl:listed.getD j false with
    | true => rfl
    | false => exact (((hind i j s s' hsi hj hlt' (hnot' j (by omega) hl)).1 d hdj) hd).elim
   ·simp [hun]
   ·have hf:decide (j < i)=false:=by simp;omega
    rw [hf]
    cases hl:listed.getD j false with
    | false => rfl
    | true => exact (((hind j i s' s hj hsi hgt (hnot j hl)).2 d hdj) hd).elim
  refine hst.2.2.2.2 c hc hn _ tm w lim X hpre (ZiK _ ss 0 σ (Zeo ss 0 σ hch) hpb) ⟨Zjg _ ss 0 σ (Zhq ss 0 σ hch) hN,fun d j hd=>(ZkK _ ss 0 σ σ (ZdY ss 0 σ hch) (fun _ _ _=>rfl) d j hd).trans (Ziq (ss.take i) σ σ (fun s' hs'=>ZdY ss 0 σ hch s' (List.mem_of_mem_take hs')) (fun _ _ _=>rfl) d j hd).symm⟩ hs Q _ fun tm' w' lim' X' hs'=>?_
  refine ih (listed.setIfInBounds i true) tm' w' lim' X' (by simpa using hsz) ?_ ?_ ?_
  ·intro k o' hk hl e he hb
   rw [hset] at hl ⊢
   by_cases hei:e.on=i
   ·simp [hei]
   ·rw [if_neg hei]
    by_cases hki:k=i
    ·subst hki
     rw [h2] at hk
     cases hk
     exact h3 e he hb
    ·rw [if_neg hki] at hl
     exact hcl k o' hk hl e he hb
  ·have hlt2:(List.range ops.size).countP (fun j=>!(listed.setIfInBounds i true).getD j false) < (List.range ops.size).countP (fun j=>!listed.getD j false):=by
    have key:∀ (l:List Nat),i∈l→l.countP (fun j=>!(listed.setIfInBounds i true).getD j false) < l.countP (fun j=>!listed.getD j false):=by
     have hle:∀ (l:List Nat),l.countP (fun j=>!(listed.setIfInBounds i true).getD j false)≤l.countP (fun j=>!listed.getD j false):=by
      intro l
      refine List.countP_mono_left fun j _ hj=>?_
      rw [hset] at hj
      split at hj
      ·simp at hj
      ·exact hj
     intro l
     induction l with
     | nil => intro h; cases h
     | cons x l ihl =>
      intro h
      rw [List.countP_cons,List.countP_cons]
      by_cases hx:x=i
      ·subst hx
       have h1:(listed.setIfInBounds x true).getD x false=true:=by rw [hset,if_pos rfl]
       have:=hle l
       rw [h1,hun]
       simp only [Bool.not_true,Bool.not_false,Bool.false_eq_true,if_false,if_true]
       omega
      ·have:=ihl (by rcases List.mem_cons.1 h with h | h;exact (hx h.symm).elim;exact h)
       rw [hset x,if_neg hx]
       omega
    exact key _ (by simpa using hlt)
   omega
  ·have he:comp (fun j=>(listed.setIfInBounds i true).getD j false) 0 σ ss=JF (comp (fun i=>listed.getD i false) 0 σ ss) s.ups:=by
    funext d
    rw [Jl]
    by_cases hd:d∈s.ups.map (·.1)
    ·have hdF:d∈s.F:=by
      obtain ⟨u,hu,rfl⟩:=List.mem_map.1 hd
      exact hst.1 u hu
     -- nothing behind i that is listed writes d
     rw [Vj (d:=d) _ (fun j=>decide (j < i+1)) ss 0 σ σ rfl fun j s' hj hdj=>?_]
     ·have:=ZbC ss 0 σ (i+1)
      rw [Nat.zero_add] at this
      rw [this,List.take_add_one,hsi]
      have happ:∀ (l:List Stp) (τ:Nat→AV),Zek τ (l++[s])=JF (Zek τ l) s.ups:=by
       intro l
       induction l with
       | nil => intro τ; rfl
       | cons x l ihl => intro τ; exact ihl _
      show Zek σ (ss.take i++[s]) d=_
      rw [happ,Jl]
      obtain ⟨x,hx⟩:=Vd s.ups d hd
      rw [hx]
      rfl
     ·rw [Nat.zero_add,hset]
      rcases Nat.lt_trichotomy j i with hlt' | rfl | hgt
      ·have:decide (j < i+1)=true:=by simp;omega
       rw [this,if_neg (by omega)]
       cases hl:listed.getD j false with
       | true => rfl
       | false => exact (((hind i j s s' hsi hj hlt' (hnot' j (by omega) hl)).1 d hdj) hdF).elim
      ·simp
      ·have:decide (j < i+1)=false:=by simp;omega
       rw [this,if_neg (by omega)]
       cases hl:listed.getD j false with
       | false => rfl
       | true => exact (((hind j i s' s hj hsi hgt (hnot j hl)).2 d hdj) hdF).elim
    ·rw [YS s.ups d hd]
     refine Vj _ _ ss 0 σ σ rfl fun j s' hj hdj=>?_
     rw [Nat.zero_add,hset]
     by_cases hji:j=i
     ·subst hji
      rw [hsi] at hj
      cases hj
      exact (hd hdj).elim
     ·rw [if_neg hji]
   rw [he]
   exact hs'
end
theorem ZdN {ops:Array Oper} {S:Nat→Prop} (hS:∀ k o,ops[k]? = some o→S k→∀ e∈o.after,Region.binds .any e=true→S e.on) (i j:Nat) (hi:S i)
  (hb:((Region.before ops).getD i 0).testBit j=true):S j:=by
 have inner:∀ (acc:Array Nat),(∀ i j,S i→(acc.getD i 0).testBit j=true→S j)→∀ (l:List Edge),(∀ e∈l,Region.binds .any e=true→S e.on)→∀ (s:Nat),(∀ j,s.testBit j=true→S j)→
   ∀ j,(l.foldl (fun s e=>if Region.binds .any e then s||| 2^e.on||| acc.getD e.on 0 else s) s).testBit j=true→S j:=by
  intro acc hacc l
  induction l with
  | nil => intro _ s hs j hj; exact hs j hj
  | cons e l ih =>
   intro hl s hs j hj
   rw [List.foldl_cons] at hj
   refine ih (fun e' he'=>hl e' (by simp [he'])) _ ?_ j hj
   intro j' hj'
   split at hj'
   ·rename_i hbd
    have hon:=hl e (by simp) hbd
    rw [Nat.testBit_or,Nat.testBit_or,Nat.testBit_two_pow,Bool.or_eq_true,Bool.or_eq_true,decide_eq_true_eq] at hj'
    rcases hj' with (h | h) | h
    ·exact hs j' h
    ·rw [← h];exact hon
    ·exact hacc e.on j' hon h
   ·exact hs j' hj'
 have outer:∀ (l:List Oper) (acc:Array Nat),(∀ j,l[j]? = ops[acc.size+j]?)→(∀ i j,S i→(acc.getD i 0).testBit j=true→S j)→
   ∀ i j,S i→((l.foldl (fun acc o=>acc.push (o.after.foldl (fun s e=>if Region.binds .any e then s||| 2^e.on||| acc.getD e.on 0 else s) 0)) acc).getD i 0).testBit j=true→S j:=by
  intro l
  induction l with
  | nil => intro acc _ hacc i j hi hj; exact hacc i j hi hj
  | cons o l ih =>
   intro acc hl hacc i j hi hj
   rw [List.foldl_cons] at hj
   refine ih _ (fun j=>?_) ?_ i j hi hj
   ·have:=hl (j+1)
    simp only [List.getElem?_cons_succ,Array.size_push] at this ⊢
    rw [this]
    congr 1
    omega
   ·intro i' j' hi' hj'
    have h0:ops[acc.size]? = some o:=by simpa using (hl 0).symm
    by_cases h:i' < acc.size
    ·refine hacc i' j' hi' ?_
     simp only [Array.getD,Array.size_push,h,dite_true] at hj' ⊢
     rw [dif_pos (by omega)] at hj'
     simp only [Array.getInternal_eq_getElem,Array.getElem_push,h,dite_true] at hj' ⊢
     exact hj'
    ·by_cases h':i'=acc.size
     ·subst h'
      have:(acc.push (o.after.foldl (fun s e=>if Region.binds .any e then s||| 2^e.on||| acc.getD e.on 0 else s) 0)).getD acc.size 0=o.after.foldl (fun s e=>if Region.binds .any e then s||| 2^e.on||| acc.getD e.on 0 else s) 0:=by
       simp [Array.getD]
      rw [this,← Array.foldl_toList] at hj'
      exact inner acc hacc o.after.toList (fun e he hb=>hS acc.size o h0 hi' e (by simpa using he) hb) 0 (by simp) j' hj'
     ·have:(acc.push (o.after.foldl (fun s e=>if Region.binds .any e then s||| 2^e.on||| acc.getD e.on 0 else s) 0)).getD i' 0=0:=by
       simp only [Array.getD,Array.size_push]
       rw [dif_neg (by omega)]
      rw [this] at hj'
      simp at hj'
 have:=outer ops.toList #[] (fun j=>by simp) (fun i j _ h=>by simp at h) i j hi
 apply this
 rw [Array.foldl_toList]
 exact hb
end Go.AM
end
