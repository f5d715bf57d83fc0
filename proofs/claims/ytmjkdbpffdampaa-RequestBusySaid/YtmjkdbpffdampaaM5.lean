/- ASh, AInv: texts of the proof, put together. -/
import Derived.Shelf.Sort.Plain
import Derived.Ground.Names2Prog
import Derived.Shelf.Slices.CompactI
import Derived.Test.YtmjkdbpffdampaaProg
import Derived.Test.YtmjkdbpffdampaaGA
import Derived.Test.YtmjkdbpffdampaaM4
import Derived.WalkKit
import Derived.OwnWalk
import Derived.Sort.OwnSortedInts
import Derived.Maps.AppendAt
import Derived.Maps.Range
import Derived.Lib.SlicesCompact

section
namespace Go.Proofs.Ytmjkdbpffdampaa
open Go Go.Proofs Go.Shelf
def Zh2:Go.Shelf.Ren:=⟨fun | 189=>54 | 125=>76 | 257=>75 | 128=>95 | 129=>96 | 294=>86 | 295=>87 | 296=>88 | 297=>89 | 298=>90 | 299=>91 | 216=>92 | 300=>93 | 301=>94 | 328=>98 | 329=>99 | 330=>100 | 331=>101 | 332=>102 | 215=>103 | 343=>104 | n=>n,fun | 28=>22 | 3=>3 | 46=>90 | 0=>0 | 51=>138 | 53=>140 | 4=>4 | 183=>132 | 182=>131 | 131=>74 | 5=>5 | 9=>9 | 218=>142 | 222=>146 | 228=>148 | 229=>149 | n=>n,fun | n=>n⟩
theorem Zjy:Go.Proofs.Lays.n189 Try.prog Zh2:={
 mixed:=by kernel_rfl
 f125:=Try.func76.trans (congrArg some (by kernel_rfl))
 f128:=Try.func95.trans (congrArg some (by kernel_rfl))
 f129:=Try.func96.trans (congrArg some (by kernel_rfl))
 f189:=Try.func54.trans (congrArg some (by kernel_rfl))
 f215:=Try.func103.trans (congrArg some (by kernel_rfl))
 f216:=Try.func92.trans (congrArg some (by kernel_rfl))
 f257:=Try.func75.trans (congrArg some (by kernel_rfl))
 f294:=Try.func86.trans (congrArg some (by kernel_rfl))
 f295:=Try.func87.trans (congrArg some (by kernel_rfl))
 f296:=Try.func88.trans (congrArg some (by kernel_rfl))
 f297:=Try.func89.trans (congrArg some (by kernel_rfl))
 f298:=Try.func90.trans (congrArg some (by kernel_rfl))
 f299:=Try.func91.trans (congrArg some (by kernel_rfl))
 f300:=Try.func93.trans (congrArg some (by kernel_rfl))
 f301:=Try.func94.trans (congrArg some (by kernel_rfl))
 f328:=Try.func98.trans (congrArg some (by kernel_rfl))
 f329:=Try.func99.trans (congrArg some (by kernel_rfl))
 f330:=Try.func100.trans (congrArg some (by kernel_rfl))
 f331:=Try.func101.trans (congrArg some (by kernel_rfl))
 f332:=Try.func102.trans (congrArg some (by kernel_rfl))
 f343:=Try.func104.trans (congrArg some (by kernel_rfl))
 t0:=Try.underlying0
 a0:=Try.isAgg0
 z0:=Try.sizeOf0
 v0:=Try.zeroValue0
 t3:=Try.underlying3
 a3:=Try.isAgg3
 z3:=Try.sizeOf3
 v3:=Try.zeroValue3
 t4:=Try.underlying4
 a4:=Try.isAgg4
 z4:=Try.sizeOf4
 v4:=Try.zeroValue4
 t5:=Try.underlying5
 a5:=Try.isAgg5
 z5:=Try.sizeOf5
 v5:=Try.zeroValue5
 t9:=Try.underlying9
 a9:=Try.isAgg9
 z9:=Try.sizeOf9
 v9:=Try.zeroValue9
 t28:=Try.underlying22
 a28:=Try.isAgg22
 z28:=Try.sizeOf22
 v28:=Try.zeroValue22
 t46:=Try.underlying90
 a46:=Try.isAgg90
 z46:=Try.sizeOf90
 v46:=Try.zeroValue90
 t51:=Try.underlying138
 a51:=Try.isAgg138
 z51:=Try.sizeOf138
 v51:=Try.zeroValue138
 t53:=Try.underlying140
 a53:=Try.isAgg140
 z53:=Try.sizeOf140
 v53:=Try.zeroValue140
 t131:=Try.underlying74
 a131:=Try.isAgg74
 z131:=Try.sizeOf74
 v131:=Try.zeroValue74
 t182:=Try.underlying131
 a182:=Try.isAgg131
 z182:=Try.sizeOf131
 v182:=Try.zeroValue131
 t183:=Try.underlying132
 a183:=Try.isAgg132
 z183:=Try.sizeOf132
 v183:=Try.zeroValue132
 t218:=Try.underlying142
 a218:=Try.isAgg142
 z218:=Try.sizeOf142
 v218:=Try.zeroValue142
 t222:=Try.underlying146
 a222:=Try.isAgg146
 z222:=Try.sizeOf146
 v222:=Try.zeroValue146
 t228:=Try.underlying148
 a228:=Try.isAgg148
 z228:=Try.sizeOf148
 v228:=Try.zeroValue148
 t229:=Try.underlying149
 a229:=Try.isAgg149
 z229:=Try.sizeOf149
 v229:=Try.zeroValue149 }
def Zdz:Go.Shelf.Ren:=⟨fun | 20=>55 | n=>n,fun | 22=>22 | 3=>3 | 4=>4 | 0=>0 | n=>n,fun | n=>n⟩
theorem Zd5:Go.Proofs.Lays2.n20 Try.prog Zdz:={
 mixed:=by kernel_rfl
 f20:=Try.func55.trans (congrArg some (by kernel_rfl))
 t0:=Try.underlying0
 a0:=Try.isAgg0
 z0:=Try.sizeOf0
 v0:=Try.zeroValue0
 t3:=Try.underlying3
 a3:=Try.isAgg3
 z3:=Try.sizeOf3
 v3:=Try.zeroValue3
 t4:=Try.underlying4
 a4:=Try.isAgg4
 z4:=Try.sizeOf4
 v4:=Try.zeroValue4
 t22:=Try.underlying22
 a22:=Try.isAgg22
 z22:=Try.sizeOf22
 v22:=Try.zeroValue22
 i3:=by kernel_rfl }
end Go.Proofs.Ytmjkdbpffdampaa
end

section
namespace Go.Proofs.Ytmjkdbpffdampaa
open Go Go.AM Go.RowKit Go.Shelf Go.Sort Go.Proofs
theorem Zay {w:World} {b o:Nat} {arr:Array Value} {t:TypeId} {fr:Nat×Nat} {v:Value} (h:w.heap[b]? = some (.cells arr t fr)) (hv:arr[o]? = some v):w.cell? ⟨b,o,none⟩=some v:=by simp [World.cell?,h,hv]
theorem ZgT (w:World) (o:Obj):(w.alloc o).heap[w.heap.size]? = some o:=by
 show (w.heap.push o)[w.heap.size]? = some o
 simp
theorem ZjP (zs:List Int):(Lib.compact zs).length≤zs.length:=by
 unfold Lib.compact Lib.compactUpTo
 rw [List.length_map]
 exact Nat.le_trans (List.length_filter_le _ _) (by simp)
theorem ZnN:(Try.prog.info? 3).map (fun i=>(i.zero,i.size,i.bytes))=some (some (.int .i64 0),1,8):=by kernel_rfl
theorem ZhI {w:World} {g n:Nat} {cur:Array Value} {e:TypeId} {fr:Nat×Nat} (d:Array Int) (hb:w.heap[g]? = some (.cells cur e fr)) :
  (putRow (Value.int .i64) (Sort.ahead w n) g 0 d).heap[g]? = some (.cells (putCells (Value.int .i64) 0 d cur) e fr):=by
 simp [putRow,mapBlock,Sort.ahead,Array.getElem?_modify,hb,onCells]
theorem ZcV {w:World} {g n:Nat} (d:Array Int):w.grownBy (putRow (Value.int .i64) (Sort.ahead w n) g 0 d) (some g):=by
 refine ⟨rfl,rfl,rfl,by simp [putRow,mapBlock,Sort.ahead],fun k hk hne=>?_⟩
 have:g≠k:=fun e=>hne (by rw [e])
 simp [putRow,mapBlock,Sort.ahead,Array.getElem?_modify,this]
theorem WM {W:World} {base n:Nat} {v:Value} {xs:List Int} (h:W.ownsRow base 3 1 v n (xs.map (Value.int .i64))) (hne:xs≠[]) (hsm:xs.length < 4611686018427387904) :
  Calls Try.prog 54 #[v] W fun e W'=>e = .returned (.tuple #[])∧W'.ownsRow base 3 1 v n ((xs.mergeSort fun x y=>decide (x≤y)).map (Value.int .i64))∧W.grownBy W' v.ownBlock:=by
 have hn:xs.length=n:=by have:=h.1;simpa using this
 have hpos:0 < xs.length:=List.length_pos_iff.2 hne
 rcases h.2 with ⟨_,h0⟩ | ⟨g,cap,cur,hv,hbase,hb,h1,h2,h3,h4⟩
 ·omega
 ·subst hv
  have hH:Holds (Value.int .i64) W g 0 xs.toArray:=holds_of_blockI hb (by simpa [hn] using h4)
  have hgl:g < W.heap.size:=(Array.getElem?_eq_some_iff.1 hb).1
  have hs:Calls Try.prog 54 #[.slice (some ⟨g,0,none⟩) xs.length cap] W fun e w'=>e = .returned (.tuple #[])∧∃ n os,w'=grow (putRow (Value.int .i64) (Sort.ahead W n) g 0 (xs.mergeSort fun x y=>decide (x≤y)).toArray) os:=Any.slices_Sort_int Zjy g 0 cap xs W hH hgl hsm
  rw [hn] at hs
  refine hs.mono ?_
  rintro e w' ⟨rfl,q,os,rfl⟩
  have hro:=ownsRow_sortedI (n:=q) (os:=os) (ts:=xs.mergeSort fun x y=>decide (x≤y)) (List.length_mergeSort xs) hbase hb (by omega) h2 h3
  rw [hn] at hro
  exact ⟨rfl,hro,grownBy_sortedI _⟩
theorem Y1 {W:World} {base n:Nat} {v:Value} {xs:List Int} (h:W.ownsRow base 3 1 v n (xs.map (Value.int .i64))) (hne:xs≠[]) (hsm:xs.length < 4611686018427387904) :
  Calls Try.prog 55 #[v] W fun e W'=>∃ v',e = .returned v'∧W'.ownsRow base 3 1 v' (Lib.compact xs).length ((Lib.compact xs).map (Value.int .i64))∧W.grownBy W' v.ownBlock∧v'.ownBlock=v.ownBlock:=by
 have hn:xs.length=n:=by have:=h.1;simpa using this
 have hpos:0 < xs.length:=List.length_pos_iff.2 hne
 rcases h.2 with ⟨_,h0⟩ | ⟨g,cap,cur,hv,hbase,hb,h1,h2,h3,h4⟩
 ·omega
 ·subst hv
  have hH:Holds (Value.int .i64) W g 0 xs.toArray:=holds_of_blockI hb (by simpa [hn] using h4)
  have hs:Calls Try.prog 55 #[.slice (some ⟨g,0,none⟩) xs.length cap] W fun e w'=>e = .returned (.slice (some ⟨g,0,none⟩) (Lib.compact xs).length cap)∧∃ q,w'=putRow (Value.int .i64) (Sort.ahead W q) g 0 (Lib.compact xs++List.replicate (xs.length-(Lib.compact xs).length) 0).toArray:=
   Any.slices_Compact_int Zd5 g 0 cap xs W hH (by omega) (by omega)
  rw [hn] at hs
  refine hs.mono ?_
  rintro e w' ⟨rfl,q,rfl⟩
  have hle:=ZjP xs
  refine ⟨_,rfl,⟨by simp,.inr ⟨g,cap,_,rfl,hbase,ZhI _ hb,by omega,h2,by simp [putCells,h3],?_⟩⟩,ZcV _,rfl⟩
  have ht:=take_putCellsI cur (Lib.compact xs++List.replicate (n-(Lib.compact xs).length) 0) (by simp;omega)
  have ht2:=congrArg (List.take (Lib.compact xs).length) ht
  rw [List.take_take,← List.map_take,List.take_left,Nat.min_eq_left (by simp)] at ht2
  simpa using ht2
theorem J4 {ops:Array Oper} {rest:List Oper} {o:Oper} {a:Act} {Q:Exit→Act→World→Prop} (hgd:o.guard=none) (s x:Operand)
  (ho:o.op = .call { callee:=.builtin .append,args:=#[s,x],argTypes:=#[22,22] }) {w W:World} {B:Nat} (hB:w.heap.size≤B) {box:Obj} (hb:W.heap[B]? = some box) (hg:w.grownBy W none)
  {v:Value} {n:Nat} {xs:List Int} (hrow:W.ownsRow (B+1) 3 1 v n (xs.map (Value.int .i64))) (hs:a.eval s=v) (z:Int) {N:Nat} (hx:a.eval x = .slice (some ⟨N,0,none⟩) 1 1) (hN:N=W.heap.size) (hsm:n≤100000)
  (h:∀ v' w4,w4.ownsRow (B+1) 3 1 v' (n+1) ((xs++[z]).map (Value.int .i64))→w4.heap[B]? = some box→w.grownBy w4 none→wpList Try.prog ops Q rest (a.put o.dst v') w4) :
  wpList Try.prog ops Q (o::rest) a (W.alloc (.cells #[.int .i64 z] 3)):=by
 subst hN
 obtain ⟨i0,hi,hz0,hz1,hz2⟩:=info_parts ZnN
 have hlt:B < W.heap.size:=(Array.getElem?_eq_some_iff.1 hb).1
 refine wpList_append_own (W.alloc (.cells #[.int .i64 z] 3)) hgd s x 22 ho (B+1) 3 i0 (.int .i64 0) 1 8 Try.underlying22 hi hz0 hz1 hz2 rfl (by decide) v n _ hs (hrow.alloc _) ⟨W.heap.size,0,none⟩ 1 1 [.int .i64 z] hx rfl ?_ ?_ ?_ ?_ ?_ ?_
 ·intro j u hj
  match j,hj with
  | 0, hj => simp at hj; subst hj; exact Zay (o := 0) (ZgT W _) rfl
 ·intro u hu;simp at hu;subst hu;rfl
 ·unfold maxLen;omega
 ·omega
 ·simp;omega
 ·intro v' w4 hr4 hg4 _
  refine h v' w4 (by simpa using hr4) ?_ ?_
  ·exact (hg4.block B (by simp;omega) (fun e=>by have:=(hrow.lt B e.symm).1;omega)).trans (((World.grownBy_alloc W _ none).block B hlt (by simp)).trans hb)
  ·refine ((hg.trans (World.grownBy_alloc W _ none))).andThen hg4 fun j hj=>.inl ?_
   have h1:=(hrow.lt j hj).1
   omega
def JH (k s d c:Int):List Int:=if k=1 then [d] else if k=2 then s::(List.range c.toNat).map (fun i:Nat=>iop .add .i64 d (i:Int)) else if k=3 then [s,d] else [s]
def Yu (k s d c:Int):List Int:=Lib.compact ((JH k s d c).mergeSort fun x y=>decide (x≤y))
theorem Zph (x y:Int):iop .add .i64 x y=wrap64 (x+y):=by
 show IntKind.i64.wrap (x+y)=wrap64 (x+y)
 rw [IntKind.wrap_i64]
 first | (unfold wrap64;rfl) | (simp [wrap64];done)
set_option maxHeartbeats 4000000 in
set_option maxRecDepth 100000 in
theorem Zlx (w:World) (k s d c:Int) (hc:c≤1000) (u3 u4 u5 u6 u7 u8 u10 u11:Value) :
  Calls Try.prog 33 #[.agg #[.int .i64 k,.int .i64 s,.int .i64 d,u3,u4,u5,u6,u7,u8,.int .i64 c,u10,u11]] w fun e W'=>∃ v,e = .returned v∧W'.ownsRow (w.heap.size+1) 3 1 v (Yu k s d c).length ((Yu k s d c).map (Value.int .i64))∧w.grownBy W' none:=by
 have b0:(w.alloc (.cells #[.int .i64 k,.int .i64 s,.int .i64 d,u3,u4,u5,u6,u7,u8,.int .i64 c,u10,u11] 43)).heap[w.heap.size]? = some (.cells #[.int .i64 k,.int .i64 s,.int .i64 d,u3,u4,u5,u6,u7,u8,.int .i64 c,u10,u11] 43 (0,0)):=ZgT w _
 have g0:=World.grownBy_alloc w (.cells #[.int .i64 k,.int .i64 s,.int .i64 d,u3,u4,u5,u6,u7,u8,.int .i64 c,u10,u11] 43) none
 have r0:∀ W:World,W.ownsRow (w.heap.size+1) 3 1 (.slice none 0 0) 0 (([] : List Int).map (Value.int .i64)):=fun W=>World.ownsRow_nil _ _ _ _
 have fin:∀ {W W2:World} {v:Value} {n:Nat} {us:List Value},w.grownBy W none→W.ownsRow (w.heap.size+1) 3 1 v n us→W.grownBy W2 v.ownBlock→w.grownBy W2 none:=fun h1 h2 h3=>h1.andThen h3 fun j hj=>.inl (by have:=(h2.lt j hj).1;omega)
 go_enter Try.func33,Try.ntmps33
 by_cases h1:k=1
 ·subst h1
  go_wp2_with (first
   | (at_builtin; refine J4 rfl _ _ rfl (Nat.le_refl _) b0 g0 (r0 _) rfl d rfl (by first | rfl | simp) (by omega) ?_)
   | go_in)
  intro v1 w1 r1 b1 g1
  go_wp2_with (first
   | (go_at_call 54; refine (WM (xs := [d]) r1 (by simp) (by simp)).mono ?_; rintro e W2 ⟨rfl, r2, g2⟩)
   | (go_at_call 55; refine (Y1 r2 (by simp) (by simp)).mono ?_; rintro e W3 ⟨v', rfl, r3, g3, _⟩)
   | go_in)
  go_ret
  exact ⟨_,rfl,by simpa [Yu,JH] using r3,fin (fin g1 r1 g2) r2 g3⟩
 by_cases h2:k=2
 ·subst h2
  go_wp2_with (first
   | (at_builtin; refine J4 rfl _ _ rfl (Nat.le_refl _) b0 g0 (r0 _) rfl s rfl (by first | rfl | simp) (by omega) ?_)
   | go_in)
  intro v1 w1 r1 b1 g1
  have c0:=Zay (o:=0) b1 rfl
  have c9:=Zay (o:=9) b1 rfl
  go_wp2
  go_loopw [3,27] (fun v i wr=>∃ j:Nat,(j:Int)≤max c 0∧i = .int .i64 (j:Int)∧wr.ownsRow (w.heap.size+1) 3 1 v (1+j) ((s::(List.range j).map (fun i:Nat=>wrap64 (d+(i:Int)))).map (Value.int .i64))∧
   wr.heap[w.heap.size]? = some (.cells #[.int .i64 2,.int .i64 s,.int .i64 d,u3,u4,u5,u6,u7,u8,.int .i64 c,u10,u11] 43 (0,0))∧w.grownBy wr none) (fun _ i _=>(c-intOf i).toNat)
  case atStart=>exact ⟨0,by omega,rfl,by simpa using r1,b1,g1⟩
  case round=>
   obtain ⟨j,hj,rfl,hr,hb,hg⟩:=hrel
   have c2:=Zay (o:=2) hb rfl
   by_cases hlt:(j:Int) < c
   ·go_wp2_with (first
     | (at_builtin; refine J4 rfl _ _ rfl (Nat.le_refl _) hb hg hr rfl (wrap64 (d + (j : Int))) rfl (by first | rfl | simp) (by omega) ?_)
     | go_in)
    intro v2 w2 r2 b2 g2
    go_wp2
    go_roundw
    case rel=>exact ⟨j+1,by omega,by simp,by simpa [List.range_succ,Nat.add_assoc] using r2,b2,g2⟩
    case measure=>simp [intOf];omega
   ·go_wp2_with (first
     | (go_at_call 54; refine (WM hr (by simp) (by simp; omega)).mono ?_; rintro e W2 ⟨rfl, r2, g2⟩)
     | (go_at_call 55; refine (Y1 r2 (fun e => by have := congrArg List.length e; simp at this) (by simp; omega)).mono ?_; rintro e W3 ⟨v', rfl, r3, g3, _⟩)
     | go_in)
    go_ret
    have hjc:j=c.toNat:=by omega
    subst hjc
    exact ⟨_,rfl,by simpa [Yu,JH,Zph] using r3,fin (fin hg hr g2) r2 g3⟩
 by_cases h3:k=3
 ·subst h3
  go_wp2_with (first
   | (at_builtin; refine J4 rfl _ _ rfl (Nat.le_refl _) b0 g0 (r0 _) rfl s rfl (by first | rfl | simp) (by omega) ?_)
   | go_in)
  intro v1 w1 r1 b1 g1
  have c0:=Zay (o:=0) b1 rfl
  have c2:=Zay (o:=2) b1 rfl
  go_wp2_with (first
   | (at_builtin; refine J4 (xs := [s]) rfl _ _ rfl (Nat.le_refl _) b1 g1 r1 rfl d rfl (by first | rfl | simp) (by omega) ?_)
   | go_in)
  intro v2 w2 r2 b2 g2
  go_wp2_with (first
   | (go_at_call 54; refine (WM (xs := [s, d]) r2 (by simp) (by simp)).mono ?_; rintro e W2 ⟨rfl, r3, g3⟩)
   | (go_at_call 55; refine (Y1 r3 (fun e => by have := congrArg List.length e; simp at this) (by simp)).mono ?_; rintro e W3 ⟨v', rfl, r4, g4, _⟩)
   | go_in)
  go_ret
  exact ⟨_,rfl,by simpa [Yu,JH] using r4,fin (fin g2 r2 g3) r3 g4⟩
 ·go_wp2_with (first
   | (at_builtin; refine J4 rfl _ _ rfl (Nat.le_refl _) b0 g0 (r0 _) rfl s rfl (by first | rfl | simp) (by omega) ?_)
   | go_in)
  intro v1 w1 r1 b1 g1
  have c0:=Zay (o:=0) b1 rfl
  go_wp2_with (first
   | (go_at_call 54; refine (WM (xs := [s]) r1 (by simp) (by simp)).mono ?_; rintro e W2 ⟨rfl, r2, g2⟩)
   | (go_at_call 55; refine (Y1 r2 (by simp) (by simp)).mono ?_; rintro e W3 ⟨v', rfl, r3, g3, _⟩)
   | go_in)
  go_ret
  exact ⟨_,rfl,by simpa [Yu,JH,h1,h2,h3] using r3,fin (fin g1 r1 g2) r2 g3⟩
theorem Zgm {w w':World} {lim lim':Nat→Nat} {S:Nat→Prop} (hg:w.grownBy w' none) (hl:∀ b,b < w.heap.size→lim' b=lim b):Jd w lim w' lim' S:=
 ⟨hg.os,hg.tape,hg.output,hg.size,fun a ha=>by (unfold World.frozen?; rw [hg.block _ ha (by simp)]),fun b hb _=>⟨hg.block b hb (by simp),hl b hb⟩,fun b hb=>⟨Nat.le_of_eq (hl b hb).symm,fun o u _ hu=>(World.cell?_of_block (a:=⟨b,o,none⟩) (hg.block b hb (by simp))).trans hu⟩⟩
noncomputable def Zmx (k s d c:Int):Option LL:=Zj (c≤1000) (some ((Yu k s d c).map fun z=>[AV.val (.int .i64 z)]))
noncomputable def ZnT:List V→Option LL
 | [.i k, .i s, .i d, _, _, _, _, _, _, .i c, _, _] => Zmx k s d c
 | _ => none
noncomputable def F33.S:Fun:=⟨[.agg [.int .i64,.int .i64,.int .i64,.int .i64,.int .i64,.int .i64,.int .i64,.int .i64,.int .i64,.int .i64,.int .i64,.int .i64]],[.c (.own false 3)],ZnT⟩
theorem ZnZ (l:List Int):(l.map fun z=>[AV.val (.int .i64 z)]).flatten=l.map fun z=>AV.val (.int .i64 z):=by
 induction l with
 | nil => rfl
 | cons a r ih => rw [List.map_cons, List.flatten_cons, ih]; rfl
theorem Zi3 {P:Program} {w:World} {lim:Nat→Nat} {v:Value} {l:List Int} {base:Nat} (hc:P.cellsOf 3=1) (h:w.ownsRow base 3 1 v l.length (l.map (Value.int .i64))) (hl:∀ b,v.ownBlock=some b→lim b=0) :
  Jt P w lim true 3 (l.map fun z=>[AV.val (.int .i64 z)]) v v.ownBlock:=by
 refine .inl ⟨l.map (Value.int .i64),?_,rfl,fun b hb=>by rw [hl b hb];rfl,?_,?_,?_⟩
 ·rw [hc,List.length_map]
  exact ⟨h.1,h.2.imp id fun ⟨g,cap,cur,h1,_,h2⟩=>⟨g,cap,cur,h1,Nat.zero_le _,h2⟩⟩
 ·intro x hx
  obtain ⟨z,_,rfl⟩:=List.mem_map.1 hx
  rw [hc];rfl
 ·intro x hx c hcx
  obtain ⟨z,_,rfl⟩:=List.mem_map.1 hx
  rw [List.mem_singleton.1 hcx];rfl
 ·intro j c u hcj hu
  rw [ZnZ,List.getElem?_map] at hcj
  rw [List.getElem?_map] at hu
  cases hz:l[j]? with
  | none => rw [hz] at hcj; cases hcj
  | some z =>
   rw [hz] at hcj hu
   cases hcj;cases hu
   exact .val rfl
theorem Zka:Try.prog.cellsOf 3=1:=by kernel_rfl
theorem Zl8 {k s d c:Int} {x3 x4 x5 x6 x7 x8 x10 x11:Int} {zs:LL} (h:Zmx k s d c=some zs) :
  JA Try.prog 33 [.agg [AV.val (.int .i64 k),AV.val (.int .i64 s),AV.val (.int .i64 d),AV.val (.int .i64 x3),AV.val (.int .i64 x4),AV.val (.int .i64 x5),AV.val (.int .i64 x6),AV.val (.int .i64 x7),AV.val (.int .i64 x8),AV.val (.int .i64 c),AV.val (.int .i64 x10),AV.val (.int .i64 x11)]] (.own false 3 zs) [.dead]:=by
 unfold Zmx at h
 obtain ⟨hc,hz⟩:=ZcY h
 simp only [Option.some.injEq] at hz
 subst hz
 refine ZgA (P:=Try.prog) false (args:=[_]) ⟨Try.f33,Try.func33,by kernel_rfl,by kernel_rfl⟩ fun w lim X cargs hl hrel hd hs=>?_
 have h0:Rep w lim (.agg [AV.val (.int .i64 k),AV.val (.int .i64 s),AV.val (.int .i64 d),AV.val (.int .i64 x3),AV.val (.int .i64 x4),AV.val (.int .i64 x5),AV.val (.int .i64 x6),AV.val (.int .i64 x7),AV.val (.int .i64 x8),AV.val (.int .i64 c),AV.val (.int .i64 x10),AV.val (.int .i64 x11)]) (cargs.getD 0 undef):=hrel 0
 obtain ⟨vs,hv,hvl,hvr⟩:=Zg7 h0
 match cargs,hl with
 | [], _ => simp [undef] at hv
 | _ :: _ :: _, hl => simp at hl
 | [A], _ =>
  simp only [List.getD_cons_zero] at hv
  subst hv
  match vs,hvl with
  | [v0, v1, v2, v3, v4, v5, v6, v7, v8, v9, v10, v11], _ =>
   obtain rfl:v0 = .int .i64 k:=Yg (hvr 0 _ _ rfl rfl)
   obtain rfl:v1 = .int .i64 s:=Yg (hvr 1 _ _ rfl rfl)
   obtain rfl:v2 = .int .i64 d:=Yg (hvr 2 _ _ rfl rfl)
   obtain rfl:v9 = .int .i64 c:=Yg (hvr 9 _ _ rfl rfl)
   refine (Zlx w k s d c hc v3 v4 v5 v6 v7 v8 v10 v11).mono ?_
   rintro e W' ⟨v,rfl,hr,hg⟩
   have hnew:∀ b,v.ownBlock=some b→w.heap.size < b∧b < W'.heap.size:=fun b hb=>by have:=hr.lt b hb;omega
   refine ⟨v,fun b=>if v.ownBlock=some b then 0 else lim b,v.ownBlock,rfl,Zi3 Zka hr (fun b hb=>if_pos hb),Zgm hg (fun b hb=>if_neg fun e=>by have:=hnew b e;omega),fun b hb=>⟨(hnew b hb).2,.inr (by have:=hnew b hb;omega)⟩⟩
theorem Zpv:F33.S.Ok Try.prog 33:=by
 intro vs r
 show ZnT vs=some r→_
 intro h'
 unfold ZnT at h'
 split at h'
 ·exact Zl8 h'
 ·cases h'
noncomputable def g33 (x0 x1 x2 x3 x4 x5 x6 x7 x8 x9 x10 x11:Int):Option LL:=F33.S.g [.i x0,.i x1,.i x2,.i x3,.i x4,.i x5,.i x6,.i x7,.i x8,.i x9,.i x10,.i x11]
theorem Zna (x0 x1 x2 x3 x4 x5 x6 x7 x8 x9 x10 x11:Int):g33 x0 x1 x2 x3 x4 x5 x6 x7 x8 x9 x10 x11=Zmx x0 x1 x2 x9:=rfl
end Go.Proofs.Ytmjkdbpffdampaa
end
