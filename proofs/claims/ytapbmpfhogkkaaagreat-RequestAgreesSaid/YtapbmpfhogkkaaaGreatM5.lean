/- MSh, MInv: texts of the proof, put together. -/
import Derived.Shelf.Small.Bits
import Derived.Shelf.Strconv.Itoa0
import Derived.Shelf.Sort.Plain
import Derived.Ground.Names2Prog
import Derived.Shelf.Slices.CompactI
import Derived.Shelf.Slices.SearchI
import Derived.Shelf.Slices.Cells
import Derived.Test.YtapbmpfhogkkaaaGreatProg
import Derived.Test.YtapbmpfhogkkaaaGreatGM
import Derived.Test.YtapbmpfhogkkaaaGreatM4
import Derived.WalkKit
import Derived.OwnWalk
import Derived.Sort.OwnSortedInts
import Derived.Maps.AppendAt
import Derived.Maps.Range
import Derived.Lib.SlicesCompact

section
namespace Go.Proofs.YtapbmpfhogkkaaaGreat
open Go Go.Proofs Go.Shelf
def Ziy:Go.Shelf.Ren:=⟨fun | 189=>53 | 125=>87 | 257=>86 | 128=>110 | 129=>111 | 294=>101 | 295=>102 | 296=>103 | 297=>104 | 298=>105 | 299=>106 | 216=>107 | 300=>108 | 301=>109 | 328=>115 | 329=>116 | 330=>117 | 331=>118 | 332=>119 | 215=>120 | 343=>121 | n=>n,fun | 28=>22 | 3=>3 | 46=>77 | 0=>0 | 51=>162 | 53=>164 | 4=>4 | 183=>156 | 182=>155 | 131=>88 | 5=>5 | 9=>9 | 218=>166 | 222=>170 | 228=>172 | 229=>173 | n=>n,fun | n=>n⟩
theorem Zka:Go.Proofs.Lays.n189 Tryz.prog Ziy:={
 mixed:=by kernel_rfl
 f125:=Tryz.func87.trans (congrArg some (by kernel_rfl))
 f128:=Tryz.func110.trans (congrArg some (by kernel_rfl))
 f129:=Tryz.func111.trans (congrArg some (by kernel_rfl))
 f189:=Tryz.func53.trans (congrArg some (by kernel_rfl))
 f215:=Tryz.func120.trans (congrArg some (by kernel_rfl))
 f216:=Tryz.func107.trans (congrArg some (by kernel_rfl))
 f257:=Tryz.func86.trans (congrArg some (by kernel_rfl))
 f294:=Tryz.func101.trans (congrArg some (by kernel_rfl))
 f295:=Tryz.func102.trans (congrArg some (by kernel_rfl))
 f296:=Tryz.func103.trans (congrArg some (by kernel_rfl))
 f297:=Tryz.func104.trans (congrArg some (by kernel_rfl))
 f298:=Tryz.func105.trans (congrArg some (by kernel_rfl))
 f299:=Tryz.func106.trans (congrArg some (by kernel_rfl))
 f300:=Tryz.func108.trans (congrArg some (by kernel_rfl))
 f301:=Tryz.func109.trans (congrArg some (by kernel_rfl))
 f328:=Tryz.func115.trans (congrArg some (by kernel_rfl))
 f329:=Tryz.func116.trans (congrArg some (by kernel_rfl))
 f330:=Tryz.func117.trans (congrArg some (by kernel_rfl))
 f331:=Tryz.func118.trans (congrArg some (by kernel_rfl))
 f332:=Tryz.func119.trans (congrArg some (by kernel_rfl))
 f343:=Tryz.func121.trans (congrArg some (by kernel_rfl))
 t0:=Tryz.underlying0
 a0:=Tryz.isAgg0
 z0:=Tryz.sizeOf0
 v0:=Tryz.zeroValue0
 t3:=Tryz.underlying3
 a3:=Tryz.isAgg3
 z3:=Tryz.sizeOf3
 v3:=Tryz.zeroValue3
 t4:=Tryz.underlying4
 a4:=Tryz.isAgg4
 z4:=Tryz.sizeOf4
 v4:=Tryz.zeroValue4
 t5:=Tryz.underlying5
 a5:=Tryz.isAgg5
 z5:=Tryz.sizeOf5
 v5:=Tryz.zeroValue5
 t9:=Tryz.underlying9
 a9:=Tryz.isAgg9
 z9:=Tryz.sizeOf9
 v9:=Tryz.zeroValue9
 t28:=Tryz.underlying22
 a28:=Tryz.isAgg22
 z28:=Tryz.sizeOf22
 v28:=Tryz.zeroValue22
 t46:=Tryz.underlying77
 a46:=Tryz.isAgg77
 z46:=Tryz.sizeOf77
 v46:=Tryz.zeroValue77
 t51:=Tryz.underlying162
 a51:=Tryz.isAgg162
 z51:=Tryz.sizeOf162
 v51:=Tryz.zeroValue162
 t53:=Tryz.underlying164
 a53:=Tryz.isAgg164
 z53:=Tryz.sizeOf164
 v53:=Tryz.zeroValue164
 t131:=Tryz.underlying88
 a131:=Tryz.isAgg88
 z131:=Tryz.sizeOf88
 v131:=Tryz.zeroValue88
 t182:=Tryz.underlying155
 a182:=Tryz.isAgg155
 z182:=Tryz.sizeOf155
 v182:=Tryz.zeroValue155
 t183:=Tryz.underlying156
 a183:=Tryz.isAgg156
 z183:=Tryz.sizeOf156
 v183:=Tryz.zeroValue156
 t218:=Tryz.underlying166
 a218:=Tryz.isAgg166
 z218:=Tryz.sizeOf166
 v218:=Tryz.zeroValue166
 t222:=Tryz.underlying170
 a222:=Tryz.isAgg170
 z222:=Tryz.sizeOf170
 v222:=Tryz.zeroValue170
 t228:=Tryz.underlying172
 a228:=Tryz.isAgg172
 z228:=Tryz.sizeOf172
 v228:=Tryz.zeroValue172
 t229:=Tryz.underlying173
 a229:=Tryz.isAgg173
 z229:=Tryz.sizeOf173
 v229:=Tryz.zeroValue173 }
def Zdj:Go.Shelf.Ren:=⟨fun | 20=>54 | n=>n,fun | 22=>22 | 3=>3 | 4=>4 | 0=>0 | n=>n,fun | n=>n⟩
theorem Zen:Go.Proofs.Lays2.n20 Tryz.prog Zdj:={
 mixed:=by kernel_rfl
 f20:=Tryz.func54.trans (congrArg some (by kernel_rfl))
 t0:=Tryz.underlying0
 a0:=Tryz.isAgg0
 z0:=Tryz.sizeOf0
 v0:=Tryz.zeroValue0
 t3:=Tryz.underlying3
 a3:=Tryz.isAgg3
 z3:=Tryz.sizeOf3
 v3:=Tryz.zeroValue3
 t4:=Tryz.underlying4
 a4:=Tryz.isAgg4
 z4:=Tryz.sizeOf4
 v4:=Tryz.zeroValue4
 t22:=Tryz.underlying22
 a22:=Tryz.isAgg22
 z22:=Tryz.sizeOf22
 v22:=Tryz.zeroValue22
 i3:=by kernel_rfl }
end Go.Proofs.YtapbmpfhogkkaaaGreat
end

section
namespace Go.Proofs.YtapbmpfhogkkaaaGreat
open Go Go.AM Go.RowKit Go.Shelf Go.Sort Go.Proofs
theorem Zau {w:World} {b o:Nat} {arr:Array Value} {t:TypeId} {fr:Nat×Nat} {v:Value} (h:w.heap[b]? = some (.cells arr t fr)) (hv:arr[o]? = some v):w.cell? ⟨b,o,none⟩=some v:=by simp [World.cell?,h,hv]
theorem Zh3 (w:World) (o:Obj):(w.alloc o).heap[w.heap.size]? = some o:=by
 show (w.heap.push o)[w.heap.size]? = some o
 simp
theorem ZkT (zs:List Int):(Lib.compact zs).length≤zs.length:=by
 unfold Lib.compact Lib.compactUpTo
 rw [List.length_map]
 exact Nat.le_trans (List.length_filter_le _ _) (by simp)
theorem ZoU:(Tryz.prog.info? 3).map (fun i=>(i.zero,i.size,i.bytes))=some (some (.int .i64 0),1,8):=by kernel_rfl
theorem Zic {w:World} {g n:Nat} {cur:Array Value} {e:TypeId} {fr:Nat×Nat} (d:Array Int) (hb:w.heap[g]? = some (.cells cur e fr)) :
  (putRow (Value.int .i64) (Sort.ahead w n) g 0 d).heap[g]? = some (.cells (putCells (Value.int .i64) 0 d cur) e fr):=by
 simp [putRow,mapBlock,Sort.ahead,Array.getElem?_modify,hb,onCells]
theorem Zdp {w:World} {g n:Nat} (d:Array Int):w.grownBy (putRow (Value.int .i64) (Sort.ahead w n) g 0 d) (some g):=by
 refine ⟨rfl,rfl,rfl,by simp [putRow,mapBlock,Sort.ahead],fun k hk hne=>?_⟩
 have:g≠k:=fun e=>hne (by rw [e])
 simp [putRow,mapBlock,Sort.ahead,Array.getElem?_modify,this]
theorem WY {W:World} {base n:Nat} {v:Value} {xs:List Int} (h:W.ownsRow base 3 1 v n (xs.map (Value.int .i64))) (hne:xs≠[]) (hsm:xs.length < 4611686018427387904) :
  Calls Tryz.prog 53 #[v] W fun e W'=>e = .returned (.tuple #[])∧W'.ownsRow base 3 1 v n ((xs.mergeSort fun x y=>decide (x≤y)).map (Value.int .i64))∧W.grownBy W' v.ownBlock:=by
 have hn:xs.length=n:=by have:=h.1;simpa using this
 have hpos:0 < xs.length:=List.length_pos_iff.2 hne
 rcases h.2 with ⟨_,h0⟩ | ⟨g,cap,cur,hv,hbase,hb,h1,h2,h3,h4⟩
 ·omega
 ·subst hv
  have hH:Holds (Value.int .i64) W g 0 xs.toArray:=holds_of_blockI hb (by simpa [hn] using h4)
  have hgl:g < W.heap.size:=(Array.getElem?_eq_some_iff.1 hb).1
  have hs:Calls Tryz.prog 53 #[.slice (some ⟨g,0,none⟩) xs.length cap] W fun e w'=>e = .returned (.tuple #[])∧∃ n os,w'=grow (putRow (Value.int .i64) (Sort.ahead W n) g 0 (xs.mergeSort fun x y=>decide (x≤y)).toArray) os:=Any.slices_Sort_int Zka g 0 cap xs W hH hgl hsm
  rw [hn] at hs
  refine hs.mono ?_
  rintro e w' ⟨rfl,q,os,rfl⟩
  have hro:=ownsRow_sortedI (n:=q) (os:=os) (ts:=xs.mergeSort fun x y=>decide (x≤y)) (List.length_mergeSort xs) hbase hb (by omega) h2 h3
  rw [hn] at hro
  exact ⟨rfl,hro,grownBy_sortedI _⟩
theorem Kc {W:World} {base n:Nat} {v:Value} {xs:List Int} (h:W.ownsRow base 3 1 v n (xs.map (Value.int .i64))) (hne:xs≠[]) (hsm:xs.length < 4611686018427387904) :
  Calls Tryz.prog 54 #[v] W fun e W'=>∃ v',e = .returned v'∧W'.ownsRow base 3 1 v' (Lib.compact xs).length ((Lib.compact xs).map (Value.int .i64))∧W.grownBy W' v.ownBlock∧v'.ownBlock=v.ownBlock:=by
 have hn:xs.length=n:=by have:=h.1;simpa using this
 have hpos:0 < xs.length:=List.length_pos_iff.2 hne
 rcases h.2 with ⟨_,h0⟩ | ⟨g,cap,cur,hv,hbase,hb,h1,h2,h3,h4⟩
 ·omega
 ·subst hv
  have hH:Holds (Value.int .i64) W g 0 xs.toArray:=holds_of_blockI hb (by simpa [hn] using h4)
  have hs:Calls Tryz.prog 54 #[.slice (some ⟨g,0,none⟩) xs.length cap] W fun e w'=>e = .returned (.slice (some ⟨g,0,none⟩) (Lib.compact xs).length cap)∧∃ q,w'=putRow (Value.int .i64) (Sort.ahead W q) g 0 (Lib.compact xs++List.replicate (xs.length-(Lib.compact xs).length) 0).toArray:=
   Any.slices_Compact_int Zen g 0 cap xs W hH (by omega) (by omega)
  rw [hn] at hs
  refine hs.mono ?_
  rintro e w' ⟨rfl,q,rfl⟩
  have hle:=ZkT xs
  refine ⟨_,rfl,⟨by simp,.inr ⟨g,cap,_,rfl,hbase,Zic _ hb,by omega,h2,by simp [putCells,h3],?_⟩⟩,Zdp _,rfl⟩
  have ht:=take_putCellsI cur (Lib.compact xs++List.replicate (n-(Lib.compact xs).length) 0) (by simp;omega)
  have ht2:=congrArg (List.take (Lib.compact xs).length) ht
  rw [List.take_take,← List.map_take,List.take_left,Nat.min_eq_left (by simp)] at ht2
  simpa using ht2
theorem J8 {ops:Array Oper} {rest:List Oper} {o:Oper} {a:Act} {Q:Exit→Act→World→Prop} (hgd:o.guard=none) (s x:Operand)
  (ho:o.op = .call { callee:=.builtin .append,args:=#[s,x],argTypes:=#[22,22] }) {w W:World} {B:Nat} (hB:w.heap.size≤B) {box:Obj} (hb:W.heap[B]? = some box) (hg:w.grownBy W none)
  {v:Value} {n:Nat} {xs:List Int} (hrow:W.ownsRow (B+1) 3 1 v n (xs.map (Value.int .i64))) (hs:a.eval s=v) (z:Int) {N:Nat} (hx:a.eval x = .slice (some ⟨N,0,none⟩) 1 1) (hN:N=W.heap.size) (hsm:n≤100000)
  (h:∀ v' w4,w4.ownsRow (B+1) 3 1 v' (n+1) ((xs++[z]).map (Value.int .i64))→w4.heap[B]? = some box→w.grownBy w4 none→wpList Tryz.prog ops Q rest (a.put o.dst v') w4) :
  wpList Tryz.prog ops Q (o::rest) a (W.alloc (.cells #[.int .i64 z] 3)):=by
 subst hN
 obtain ⟨i0,hi,hz0,hz1,hz2⟩:=info_parts ZoU
 have hlt:B < W.heap.size:=(Array.getElem?_eq_some_iff.1 hb).1
 refine wpList_append_own (W.alloc (.cells #[.int .i64 z] 3)) hgd s x 22 ho (B+1) 3 i0 (.int .i64 0) 1 8 Tryz.underlying22 hi hz0 hz1 hz2 rfl (by decide) v n _ hs (hrow.alloc _) ⟨W.heap.size,0,none⟩ 1 1 [.int .i64 z] hx rfl ?_ ?_ ?_ ?_ ?_ ?_
 ·intro j u hj
  match j,hj with
  | 0, hj => simp at hj; subst hj; exact Zau (o := 0) (Zh3 W _) rfl
 ·intro u hu;simp at hu;subst hu;rfl
 ·unfold maxLen;omega
 ·omega
 ·simp;omega
 ·intro v' w4 hr4 hg4 _
  refine h v' w4 (by simpa using hr4) ?_ ?_
  ·exact (hg4.block B (by simp;omega) (fun e=>by have:=(hrow.lt B e.symm).1;omega)).trans (((World.grownBy_alloc W _ none).block B hlt (by simp)).trans hb)
  ·refine ((hg.trans (World.grownBy_alloc W _ none))).andThen hg4 fun j hj=>.inl ?_
   have h1:=(hrow.lt j hj).1
   omega
def Yl (k s d c:Int):List Int:=if k=1 then [d] else if k=2 then s::(List.range c.toNat).map (fun i:Nat=>iop .add .i64 d (i:Int)) else if k=3 then [s,d] else [s]
def Kn (k s d c:Int):List Int:=Lib.compact ((Yl k s d c).mergeSort fun x y=>decide (x≤y))
theorem ZqI (x y:Int):iop .add .i64 x y=wrap64 (x+y):=by
 show IntKind.i64.wrap (x+y)=wrap64 (x+y)
 rw [IntKind.wrap_i64]
 first | (unfold wrap64;rfl) | (simp [wrap64];done)
set_option maxHeartbeats 4000000 in
set_option maxRecDepth 100000 in
theorem ZmE (w:World) (k s d c:Int) (hc:c≤1000) (u3 u4 u5 u6 u7 u8 u10 u11:Value) :
  Calls Tryz.prog 24 #[.agg #[.int .i64 k,.int .i64 s,.int .i64 d,u3,u4,u5,u6,u7,u8,.int .i64 c,u10,u11]] w fun e W'=>∃ v,e = .returned v∧W'.ownsRow (w.heap.size+1) 3 1 v (Kn k s d c).length ((Kn k s d c).map (Value.int .i64))∧w.grownBy W' none:=by
 have b0:(w.alloc (.cells #[.int .i64 k,.int .i64 s,.int .i64 d,u3,u4,u5,u6,u7,u8,.int .i64 c,u10,u11] 42)).heap[w.heap.size]? = some (.cells #[.int .i64 k,.int .i64 s,.int .i64 d,u3,u4,u5,u6,u7,u8,.int .i64 c,u10,u11] 42 (0,0)):=Zh3 w _
 have g0:=World.grownBy_alloc w (.cells #[.int .i64 k,.int .i64 s,.int .i64 d,u3,u4,u5,u6,u7,u8,.int .i64 c,u10,u11] 42) none
 have r0:∀ W:World,W.ownsRow (w.heap.size+1) 3 1 (.slice none 0 0) 0 (([] : List Int).map (Value.int .i64)):=fun W=>World.ownsRow_nil _ _ _ _
 have fin:∀ {W W2:World} {v:Value} {n:Nat} {us:List Value},w.grownBy W none→W.ownsRow (w.heap.size+1) 3 1 v n us→W.grownBy W2 v.ownBlock→w.grownBy W2 none:=fun h1 h2 h3=>h1.andThen h3 fun j hj=>.inl (by have:=(h2.lt j hj).1;omega)
 go_enter Tryz.func24,Tryz.ntmps24
 by_cases h1:k=1
 ·subst h1
  go_wp2_with (first
   | (at_builtin; refine J8 rfl _ _ rfl (Nat.le_refl _) b0 g0 (r0 _) rfl d rfl (by first | rfl | simp) (by omega) ?_)
   | go_in)
  intro v1 w1 r1 b1 g1
  go_wp2_with (first
   | (go_at_call 53; refine (WY (xs := [d]) r1 (by simp) (by simp)).mono ?_; rintro e W2 ⟨rfl, r2, g2⟩)
   | (go_at_call 54; refine (Kc r2 (by simp) (by simp)).mono ?_; rintro e W3 ⟨v', rfl, r3, g3, _⟩)
   | go_in)
  go_ret
  exact ⟨_,rfl,by simpa [Kn,Yl] using r3,fin (fin g1 r1 g2) r2 g3⟩
 by_cases h2:k=2
 ·subst h2
  go_wp2_with (first
   | (at_builtin; refine J8 rfl _ _ rfl (Nat.le_refl _) b0 g0 (r0 _) rfl s rfl (by first | rfl | simp) (by omega) ?_)
   | go_in)
  intro v1 w1 r1 b1 g1
  have c0:=Zau (o:=0) b1 rfl
  have c9:=Zau (o:=9) b1 rfl
  go_wp2
  go_loopw [3,27] (fun v i wr=>∃ j:Nat,(j:Int)≤max c 0∧i = .int .i64 (j:Int)∧wr.ownsRow (w.heap.size+1) 3 1 v (1+j) ((s::(List.range j).map (fun i:Nat=>wrap64 (d+(i:Int)))).map (Value.int .i64))∧
   wr.heap[w.heap.size]? = some (.cells #[.int .i64 2,.int .i64 s,.int .i64 d,u3,u4,u5,u6,u7,u8,.int .i64 c,u10,u11] 42 (0,0))∧w.grownBy wr none) (fun _ i _=>(c-intOf i).toNat)
  case atStart=>exact ⟨0,by omega,rfl,by simpa using r1,b1,g1⟩
  case round=>
   obtain ⟨j,hj,rfl,hr,hb,hg⟩:=hrel
   have c2:=Zau (o:=2) hb rfl
   by_cases hlt:(j:Int) < c
   ·go_wp2_with (first
     | (at_builtin; refine J8 rfl _ _ rfl (Nat.le_refl _) hb hg hr rfl (wrap64 (d + (j : Int))) rfl (by first | rfl | simp) (by omega) ?_)
     | go_in)
    intro v2 w2 r2 b2 g2
    go_wp2
    go_roundw
    case rel=>exact ⟨j+1,by omega,by simp,by simpa [List.range_succ,Nat.add_assoc] using r2,b2,g2⟩
    case measure=>simp [intOf];omega
   ·go_wp2_with (first
     | (go_at_call 53; refine (WY hr (by simp) (by simp; omega)).mono ?_; rintro e W2 ⟨rfl, r2, g2⟩)
     | (go_at_call 54; refine (Kc r2 (fun e => by have := congrArg List.length e; simp at this) (by simp; omega)).mono ?_; rintro e W3 ⟨v', rfl, r3, g3, _⟩)
     | go_in)
    go_ret
    have hjc:j=c.toNat:=by omega
    subst hjc
    exact ⟨_,rfl,by simpa [Kn,Yl,ZqI] using r3,fin (fin hg hr g2) r2 g3⟩
 by_cases h3:k=3
 ·subst h3
  go_wp2_with (first
   | (at_builtin; refine J8 rfl _ _ rfl (Nat.le_refl _) b0 g0 (r0 _) rfl s rfl (by first | rfl | simp) (by omega) ?_)
   | go_in)
  intro v1 w1 r1 b1 g1
  have c0:=Zau (o:=0) b1 rfl
  have c2:=Zau (o:=2) b1 rfl
  go_wp2_with (first
   | (at_builtin; refine J8 (xs := [s]) rfl _ _ rfl (Nat.le_refl _) b1 g1 r1 rfl d rfl (by first | rfl | simp) (by omega) ?_)
   | go_in)
  intro v2 w2 r2 b2 g2
  go_wp2_with (first
   | (go_at_call 53; refine (WY (xs := [s, d]) r2 (by simp) (by simp)).mono ?_; rintro e W2 ⟨rfl, r3, g3⟩)
   | (go_at_call 54; refine (Kc r3 (fun e => by have := congrArg List.length e; simp at this) (by simp)).mono ?_; rintro e W3 ⟨v', rfl, r4, g4, _⟩)
   | go_in)
  go_ret
  exact ⟨_,rfl,by simpa [Kn,Yl] using r4,fin (fin g2 r2 g3) r3 g4⟩
 ·go_wp2_with (first
   | (at_builtin; refine J8 rfl _ _ rfl (Nat.le_refl _) b0 g0 (r0 _) rfl s rfl (by first | rfl | simp) (by omega) ?_)
   | go_in)
  intro v1 w1 r1 b1 g1
  have c0:=Zau (o:=0) b1 rfl
  go_wp2_with (first
   | (go_at_call 53; refine (WY (xs := [s]) r1 (by simp) (by simp)).mono ?_; rintro e W2 ⟨rfl, r2, g2⟩)
   | (go_at_call 54; refine (Kc r2 (by simp) (by simp)).mono ?_; rintro e W3 ⟨v', rfl, r3, g3, _⟩)
   | go_in)
  go_ret
  exact ⟨_,rfl,by simpa [Kn,Yl,h1,h2,h3] using r3,fin (fin g1 r1 g2) r2 g3⟩
theorem Zgb {w w':World} {lim lim':Nat→Nat} {S:Nat→Prop} (hg:w.grownBy w' none) (hl:∀ b,b < w.heap.size→lim' b=lim b):Jf w lim w' lim' S:=
 ⟨hg.os,hg.tape,hg.output,hg.size,fun a ha=>by (unfold World.frozen?; rw [hg.block _ ha (by simp)]),fun b hb _=>⟨hg.block b hb (by simp),hl b hb⟩,fun b hb=>⟨Nat.le_of_eq (hl b hb).symm,fun o u _ hu=>(World.cell?_of_block (a:=⟨b,o,none⟩) (hg.block b hb (by simp))).trans hu⟩⟩
noncomputable def Zmt (k s d c:Int):Option LL:=Zi (c≤1000) (some ((Kn k s d c).map fun z=>[AV.val (.int .i64 z)]))
noncomputable def Zpx:List V→Option LL
 | [.i k, .i s, .i d, _, _, _, _, _, _, .i c, _, _] => Zmt k s d c
 | _ => none
noncomputable def F24.S:Fun:=⟨[.agg [.int .i64,.int .i64,.int .i64,.int .i64,.int .i64,.int .i64,.int .i64,.int .i64,.int .i64,.int .i64,.int .i64,.int .i64]],[.c (.own false 3)],Zpx⟩
theorem Zph (l:List Int):(l.map fun z=>[AV.val (.int .i64 z)]).flatten=l.map fun z=>AV.val (.int .i64 z):=by
 induction l with
 | nil => rfl
 | cons a r ih => rw [List.map_cons, List.flatten_cons, ih]; rfl
theorem ZjF {P:Program} {w:World} {lim:Nat→Nat} {v:Value} {l:List Int} {base:Nat} (hc:P.cellsOf 3=1) (h:w.ownsRow base 3 1 v l.length (l.map (Value.int .i64))) (hl:∀ b,v.ownBlock=some b→lim b=0) :
  Jq P w lim true 3 (l.map fun z=>[AV.val (.int .i64 z)]) v v.ownBlock:=by
 refine .inl ⟨l.map (Value.int .i64),?_,rfl,fun b hb=>by rw [hl b hb];rfl,?_,?_,?_⟩
 ·rw [hc,List.length_map]
  exact ⟨h.1,h.2.imp id fun ⟨g,cap,cur,h1,_,h2⟩=>⟨g,cap,cur,h1,Nat.zero_le _,h2⟩⟩
 ·intro x hx
  obtain ⟨z,_,rfl⟩:=List.mem_map.1 hx
  rw [hc];rfl
 ·intro x hx c hcx
  obtain ⟨z,_,rfl⟩:=List.mem_map.1 hx
  rw [List.mem_singleton.1 hcx];rfl
 ·intro j c u hcj hu
  rw [Zph,List.getElem?_map] at hcj
  rw [List.getElem?_map] at hu
  cases hz:l[j]? with
  | none => rw [hz] at hcj; cases hcj
  | some z =>
   rw [hz] at hcj hu
   cases hcj;cases hu
   exact .val rfl
theorem ZlK:Tryz.prog.cellsOf 3=1:=by kernel_rfl
theorem Zoq {k s d c:Int} {x3 x4 x5 x6 x7 x8 x10 x11:Int} {zs:LL} (h:Zmt k s d c=some zs) :
  JE Tryz.prog 24 [.agg [AV.val (.int .i64 k),AV.val (.int .i64 s),AV.val (.int .i64 d),AV.val (.int .i64 x3),AV.val (.int .i64 x4),AV.val (.int .i64 x5),AV.val (.int .i64 x6),AV.val (.int .i64 x7),AV.val (.int .i64 x8),AV.val (.int .i64 c),AV.val (.int .i64 x10),AV.val (.int .i64 x11)]] (.own false 3 zs) [.dead]:=by
 unfold Zmt at h
 obtain ⟨hc,hz⟩:=ZcT h
 simp only [Option.some.injEq] at hz
 subst hz
 refine ZgI (P:=Tryz.prog) false (args:=[_]) ⟨Tryz.f24,Tryz.func24,by kernel_rfl,by kernel_rfl⟩ fun w lim X cargs hl hrel hd hs=>?_
 have h0:Rep w lim (.agg [AV.val (.int .i64 k),AV.val (.int .i64 s),AV.val (.int .i64 d),AV.val (.int .i64 x3),AV.val (.int .i64 x4),AV.val (.int .i64 x5),AV.val (.int .i64 x6),AV.val (.int .i64 x7),AV.val (.int .i64 x8),AV.val (.int .i64 c),AV.val (.int .i64 x10),AV.val (.int .i64 x11)]) (cargs.getD 0 undef):=hrel 0
 obtain ⟨vs,hv,hvl,hvr⟩:=Ziz h0
 match cargs,hl with
 | [], _ => simp [undef] at hv
 | _ :: _ :: _, hl => simp at hl
 | [A], _ =>
  simp only [List.getD_cons_zero] at hv
  subst hv
  match vs,hvl with
  | [v0, v1, v2, v3, v4, v5, v6, v7, v8, v9, v10, v11], _ =>
   obtain rfl:v0 = .int .i64 k:=Yp (hvr 0 _ _ rfl rfl)
   obtain rfl:v1 = .int .i64 s:=Yp (hvr 1 _ _ rfl rfl)
   obtain rfl:v2 = .int .i64 d:=Yp (hvr 2 _ _ rfl rfl)
   obtain rfl:v9 = .int .i64 c:=Yp (hvr 9 _ _ rfl rfl)
   refine (ZmE w k s d c hc v3 v4 v5 v6 v7 v8 v10 v11).mono ?_
   rintro e W' ⟨v,rfl,hr,hg⟩
   have hnew:∀ b,v.ownBlock=some b→w.heap.size < b∧b < W'.heap.size:=fun b hb=>by have:=hr.lt b hb;omega
   refine ⟨v,fun b=>if v.ownBlock=some b then 0 else lim b,v.ownBlock,rfl,ZjF ZlK hr (fun b hb=>if_pos hb),Zgb hg (fun b hb=>if_neg fun e=>by have:=hnew b e;omega),fun b hb=>⟨(hnew b hb).2,.inr (by have:=hnew b hb;omega)⟩⟩
theorem ZqG:F24.S.Ok Tryz.prog 24:=by
 intro vs r
 show Zpx vs=some r→_
 intro h'
 unfold Zpx at h'
 split at h'
 ·exact Zoq h'
 ·cases h'
noncomputable def g24 (x0 x1 x2 x3 x4 x5 x6 x7 x8 x9 x10 x11:Int):Option LL:=F24.S.g [.i x0,.i x1,.i x2,.i x3,.i x4,.i x5,.i x6,.i x7,.i x8,.i x9,.i x10,.i x11]
theorem ZnP (x0 x1 x2 x3 x4 x5 x6 x7 x8 x9 x10 x11:Int):g24 x0 x1 x2 x3 x4 x5 x6 x7 x8 x9 x10 x11=Zmt x0 x1 x2 x9:=rfl
end Go.Proofs.YtapbmpfhogkkaaaGreat
end
