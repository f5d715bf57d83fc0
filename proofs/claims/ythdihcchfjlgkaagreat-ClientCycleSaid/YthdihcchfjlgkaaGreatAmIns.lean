/- slices.Insert and slices.Delete, at elements of any number of cells: contracts by hand. Generic: no program stands in it. -/
import Derived.Test.YthdihcchfjlgkaaGreatM4
import Derived.WalkKit
import Derived.Lib.Walk
import Derived.Lib.SliceRun
import Derived.Lib.AppendZerosOnto
import Derived.Lib.Overlaps
import Derived.Laws.Externs
import Derived.Laws.IdiomCopy
import Derived.Shelf.RegionOpenPlain
set_option linter.unusedVariables false
set_option linter.unusedSimpArgs false
namespace Go.AM
open Go.Shelf Go.RowKit Go.Lib
variable {P : Program}
theorem run_copy_rowK (w : World) (dT sT ty elem : TypeId) (inf : TypeInfo) (g o dLen dCap : Nat) (a : Addr) (sLen sCap n : Nat) (cur : Array Value) (t : TypeId) (cs : List Value)
  (hu : P.underlying dT = some (.slice elem)) (hs : P.info? elem = some inf) (hg : w.heap[g]? = some (.cells cur t (0, 0))) (hn : n = Nat.min sLen dLen) (hl : cs.length = n * inf.size)
  (hsrc : ∀ j v, cs[j]? = some v → w.cell? (a.add j) = some v) (hfit : o + cs.length ≤ cur.size) (h1 : ∀ v ∈ cs, v.oneCell' = true) :
  (Builtin.copy_ #[dT, sT] ty #[.slice (some ⟨g, o, none⟩) dLen dCap, .slice (some a) sLen sCap]).run P w =
   .ok (goInt n) (w.setRow g (cur.toList.take o ++ cs ++ cur.toList.drop (o + cs.length)).toArray) := by
 have hl' := run_loadCells_list (P := P) w a cs hsrc
 have hst := run_storeCells_at P g o t cs 0 cur w hg (by simpa using hfit) h1
 rw [hl] at hl'
 simp [Builtin.copy_, run_underlying hu, Builtin.lenOf, Builtin.firstCells, sizeOf, typeInfo, hs, ← hn, hl', hst]
theorem wp_copy_runI (w : World) {o : Oper} {a : Act} {K : Act → World → Prop} {Q : Exit → Act → World → Prop} (d s : Operand) (t t' : TypeId)
  (ho : o.op = .call { callee := .builtin .copy, args := #[d, s], argTypes := #[t, t'] }) (v u : Value) (hd : a.eval d = v) (hs : a.eval s = u) {v' : Value} {w' : World}
  (hr : (Builtin.copy_ #[t, t'] o.type #[v, u]).run P w = .ok v' w') (h : K (a.put o.dst v') w') : o.wp P a w K Q := by
 unfold Oper.wp execOp
 simp only [ho, resolve, invoke, builtin, Sem.run_bind, Sem.run_pure, Result.andThen_ok, List.map_toArray, List.map_cons, List.map_nil, hd, hs, hr]
 exact h
theorem wpList_copy_runI (w : World) {ops : Array Oper} {rest : List Oper} {o : Oper} {a : Act} {Q : Exit → Act → World → Prop} (hgd : o.guard = none) (d s : Operand) (t t' : TypeId)
  (ho : o.op = .call { callee := .builtin .copy, args := #[d, s], argTypes := #[t, t'] }) (v u : Value) (hd : a.eval d = v) (hs : a.eval s = u) {v' : Value} {w' : World}
  (hr : (Builtin.copy_ #[t, t'] o.type #[v, u]).run P w = .ok v' w') (h : wpList P ops Q rest (a.put o.dst v') w') : wpList P ops Q (o :: rest) a w :=
 wpList_plain hgd fun _ hK => wp_copy_runI w d s t t' ho v u hd hs hr (hK _ _ h)
theorem step_copy_runI {ops : Array Oper} {o : Oper} {a : Act} {w : World} {K : Act → World → Prop} {Q : Exit → Act → World → Prop} {E : Prop}
  (hg : o.guard = none) (d x : Operand) (dT sT : TypeId) (hop : o.op = Op.call { callee := Callee.builtin Builtin.copy, args := #[d, x], argTypes := #[dT, sT] })
  (v u : Value) (hd : a.eval d = v) (hx : a.eval x = u) {v' : Value} {w' : World} (hr : (Builtin.copy_ #[dT, sT] o.type #[v, u]).run P w = .ok v' w') (hK : K (a.put o.dst v') w') :
  if Region.wanted o (yielded ops a.tmps) = true then Oper.wp P o a w K Q else E := by
 have hw : Region.wanted o (yielded ops a.tmps) = true := by simp [Region.wanted, hg]
 rw [if_pos hw]
 unfold Oper.wp
 simp [execOp, hop, resolve, invoke, builtin, hd, hx, hr, Result.andThen]
 exact hK
def insCode (T B I : TypeId) (fO fR : FuncId) : Code :=
  (.seq (.region 0 #[
    ⟨some 6, .assign (.const (.slice none 0 0)), T, "slices.go:136", #[], none⟩] false)
  (.seq (.region 1 #[
    ⟨some 10, .move (.tmp 0), T, "slices.go:137", #[], none⟩,
    ⟨some 11, .move (.tmp 1), I, "slices.go:137", #[], none⟩,
    ⟨some 12, .slice T (.tmp 10) (some (.tmp 11)) none none, T, "slices.go:137", #[⟨0, .data⟩, ⟨1, .data⟩], none⟩] false)
  (.seq (.region 2 #[
    ⟨some 13, .move (.tmp 2), T, "slices.go:139", #[], none⟩,
    ⟨some 14, .call ⟨.builtin .len, #[(.tmp 13)], #[T]⟩, I, "slices.go:139", #[⟨0, .data⟩], none⟩,
    ⟨some 7, .assign (.tmp 14), I, "slices.go:139", #[⟨1, .data⟩, ⟨0, .phase⟩, ⟨1, .phase⟩], none⟩] false)
  (.seq (.seq (.region 3 #[
    ⟨some 15, .move (.tmp 7), I, "slices.go:140", #[], none⟩,
    ⟨some 16, .binOp .eql I (.tmp 15) (.const (.int .i64 0)) I, B, "slices.go:140", #[⟨0, .data⟩], none⟩] false)
  (.cond (.tmp 16)
   (.seq (.region 4 #[
     ⟨some 17, .move (.tmp 0), T, "slices.go:141", #[], none⟩,
     ⟨some 6, .assign (.tmp 17), T, "slices.go:141", #[⟨0, .data⟩, ⟨0, .phase⟩], none⟩] false)
   .ret)
   .skip))
  (.seq (.region 5 #[
    ⟨some 18, .move (.tmp 0), T, "slices.go:143", #[], none⟩,
    ⟨some 19, .call ⟨.builtin .len, #[(.tmp 18)], #[T]⟩, I, "slices.go:143", #[⟨0, .data⟩], none⟩,
    ⟨some 8, .assign (.tmp 19), I, "slices.go:143", #[⟨1, .data⟩, ⟨0, .phase⟩, ⟨1, .phase⟩], none⟩] false)
  (.seq (.seq (.region 6 #[
    ⟨some 20, .move (.tmp 1), I, "slices.go:144", #[], none⟩,
    ⟨some 21, .move (.tmp 8), I, "slices.go:144", #[], none⟩,
    ⟨some 22, .binOp .eql I (.tmp 20) (.tmp 21) I, B, "slices.go:144", #[⟨0, .data⟩, ⟨1, .data⟩], none⟩] false)
  (.cond (.tmp 22)
   (.seq (.region 7 #[
     ⟨some 23, .move (.tmp 0), T, "slices.go:145", #[], none⟩,
     ⟨some 24, .move (.tmp 2), T, "slices.go:145", #[], none⟩,
     ⟨some 25, .call ⟨.builtin .append, #[(.tmp 23), (.tmp 24)], #[T, T]⟩, T, "slices.go:145", #[⟨0, .data⟩, ⟨1, .data⟩], none⟩,
     ⟨some 6, .assign (.tmp 25), T, "slices.go:145", #[⟨2, .data⟩, ⟨2, .chain⟩, ⟨0, .phase⟩, ⟨1, .phase⟩, ⟨2, .phase⟩], none⟩] false)
   .ret)
   .skip))
  (.seq (.seq (.region 8 #[
    ⟨some 26, .move (.tmp 8), I, "slices.go:147", #[], none⟩,
    ⟨some 27, .move (.tmp 7), I, "slices.go:147", #[], none⟩,
    ⟨some 28, .binOp .add I (.tmp 26) (.tmp 27) I, I, "slices.go:147", #[⟨0, .data⟩, ⟨1, .data⟩], none⟩,
    ⟨some 29, .move (.tmp 0), T, "slices.go:147", #[], none⟩,
    ⟨some 30, .call ⟨.builtin .cap, #[(.tmp 29)], #[T]⟩, I, "slices.go:147", #[⟨3, .data⟩], none⟩,
    ⟨some 31, .binOp .gtr I (.tmp 28) (.tmp 30) I, B, "slices.go:147", #[⟨2, .data⟩, ⟨4, .data⟩], none⟩] false)
  (.cond (.tmp 31)
   (.seq (.region 9 #[
     ⟨some 32, .move (.tmp 0), T, "slices.go:152", #[], none⟩,
     ⟨some 33, .move (.tmp 1), I, "slices.go:152", #[], none⟩,
     ⟨some 34, .slice T (.tmp 32) none (some (.tmp 33)) none, T, "slices.go:152", #[⟨0, .data⟩, ⟨1, .data⟩], none⟩,
     ⟨some 35, .move (.tmp 8), I, "slices.go:152", #[], none⟩,
     ⟨some 36, .move (.tmp 7), I, "slices.go:152", #[], none⟩,
     ⟨some 37, .binOp .add I (.tmp 35) (.tmp 36) I, I, "slices.go:152", #[⟨3, .data⟩, ⟨4, .data⟩], none⟩,
     ⟨some 38, .move (.tmp 1), I, "slices.go:152", #[], none⟩,
     ⟨some 39, .binOp .sub I (.tmp 37) (.tmp 38) I, I, "slices.go:152", #[⟨5, .data⟩, ⟨6, .data⟩], none⟩,
     ⟨some 40, .call ⟨.builtin .append, #[(.tmp 34), (.tmp 39)], #[T, I]⟩, T, "slices.go:152", #[⟨2, .data⟩, ⟨7, .data⟩], none⟩,
     ⟨some 9, .assign (.tmp 40), T, "slices.go:152", #[⟨8, .data⟩, ⟨8, .chain⟩, ⟨0, .phase⟩, ⟨1, .phase⟩, ⟨2, .phase⟩, ⟨3, .phase⟩, ⟨4, .phase⟩, ⟨5, .phase⟩, ⟨6, .phase⟩, ⟨7, .phase⟩, ⟨8, .phase⟩], none⟩] false)
   (.seq (.region 10 #[
     ⟨some 41, .move (.tmp 9), T, "slices.go:153", #[], none⟩,
     ⟨some 42, .move (.tmp 1), I, "slices.go:153", #[], none⟩,
     ⟨some 43, .slice T (.tmp 41) (some (.tmp 42)) none none, T, "slices.go:153", #[⟨0, .data⟩, ⟨1, .data⟩], none⟩,
     ⟨some 44, .move (.tmp 2), T, "slices.go:153", #[], none⟩,
     ⟨some 45, .call ⟨.builtin .copy, #[(.tmp 43), (.tmp 44)], #[T, T]⟩, I, "slices.go:153", #[⟨2, .data⟩, ⟨3, .data⟩], none⟩] false)
   (.seq (.region 11 #[
     ⟨some 46, .move (.tmp 9), T, "slices.go:154", #[], none⟩,
     ⟨some 47, .move (.tmp 1), I, "slices.go:154", #[], none⟩,
     ⟨some 48, .move (.tmp 7), I, "slices.go:154", #[], none⟩,
     ⟨some 49, .binOp .add I (.tmp 47) (.tmp 48) I, I, "slices.go:154", #[⟨1, .data⟩, ⟨2, .data⟩], none⟩,
     ⟨some 50, .slice T (.tmp 46) (some (.tmp 49)) none none, T, "slices.go:154", #[⟨0, .data⟩, ⟨3, .data⟩], none⟩,
     ⟨some 51, .move (.tmp 0), T, "slices.go:154", #[], none⟩,
     ⟨some 52, .move (.tmp 1), I, "slices.go:154", #[], none⟩,
     ⟨some 53, .slice T (.tmp 51) (some (.tmp 52)) none none, T, "slices.go:154", #[⟨5, .data⟩, ⟨6, .data⟩], none⟩,
     ⟨some 54, .call ⟨.builtin .copy, #[(.tmp 50), (.tmp 53)], #[T, T]⟩, I, "slices.go:154", #[⟨4, .data⟩, ⟨7, .data⟩], none⟩] true)
   (.seq (.region 12 #[
     ⟨some 55, .move (.tmp 9), T, "slices.go:155", #[], none⟩,
     ⟨some 6, .assign (.tmp 55), T, "slices.go:155", #[⟨0, .data⟩, ⟨0, .phase⟩], none⟩] false)
   .ret))))
   .skip))
  (.seq (.region 13 #[
    ⟨some 56, .move (.tmp 0), T, "slices.go:157", #[], none⟩,
    ⟨some 57, .move (.tmp 8), I, "slices.go:157", #[], none⟩,
    ⟨some 58, .move (.tmp 7), I, "slices.go:157", #[], none⟩,
    ⟨some 59, .binOp .add I (.tmp 57) (.tmp 58) I, I, "slices.go:157", #[⟨1, .data⟩, ⟨2, .data⟩], none⟩,
    ⟨some 60, .slice T (.tmp 56) none (some (.tmp 59)) none, T, "slices.go:157", #[⟨0, .data⟩, ⟨3, .data⟩], none⟩,
    ⟨some 0, .assign (.tmp 60), T, "slices.go:157", #[⟨4, .data⟩, ⟨0, .phase⟩, ⟨1, .phase⟩, ⟨2, .phase⟩, ⟨3, .phase⟩, ⟨4, .phase⟩], none⟩] false)
  (.seq (.seq (.region 14 #[
    ⟨some 61, .move (.tmp 2), T, "slices.go:173", #[], none⟩,
    ⟨some 62, .move (.tmp 0), T, "slices.go:173", #[], none⟩,
    ⟨some 63, .move (.tmp 1), I, "slices.go:173", #[], none⟩,
    ⟨some 64, .move (.tmp 7), I, "slices.go:173", #[], none⟩,
    ⟨some 65, .binOp .add I (.tmp 63) (.tmp 64) I, I, "slices.go:173", #[⟨2, .data⟩, ⟨3, .data⟩], none⟩,
    ⟨some 66, .slice T (.tmp 62) (some (.tmp 65)) none none, T, "slices.go:173", #[⟨1, .data⟩, ⟨4, .data⟩], none⟩,
    ⟨some 67, .call ⟨.value (.func fO), #[(.tmp 61), (.tmp 66)], #[T, T]⟩, B, "slices.go:173", #[⟨0, .data⟩, ⟨5, .data⟩], none⟩,
    ⟨some 68, .unOp .not B (.tmp 67), B, "slices.go:173", #[⟨6, .data⟩], none⟩] false)
  (.cond (.tmp 68)
   (.seq (.region 15 #[
     ⟨some 69, .move (.tmp 0), T, "slices.go:178", #[], none⟩,
     ⟨some 70, .move (.tmp 1), I, "slices.go:178", #[], none⟩,
     ⟨some 71, .move (.tmp 7), I, "slices.go:178", #[], none⟩,
     ⟨some 72, .binOp .add I (.tmp 70) (.tmp 71) I, I, "slices.go:178", #[⟨1, .data⟩, ⟨2, .data⟩], none⟩,
     ⟨some 73, .slice T (.tmp 69) (some (.tmp 72)) none none, T, "slices.go:178", #[⟨0, .data⟩, ⟨3, .data⟩], none⟩,
     ⟨some 74, .move (.tmp 0), T, "slices.go:178", #[], none⟩,
     ⟨some 75, .move (.tmp 1), I, "slices.go:178", #[], none⟩,
     ⟨some 76, .slice T (.tmp 74) (some (.tmp 75)) none none, T, "slices.go:178", #[⟨5, .data⟩, ⟨6, .data⟩], none⟩,
     ⟨some 77, .call ⟨.builtin .copy, #[(.tmp 73), (.tmp 76)], #[T, T]⟩, I, "slices.go:178", #[⟨4, .data⟩, ⟨7, .data⟩], none⟩] true)
   (.seq (.region 16 #[
     ⟨some 78, .move (.tmp 0), T, "slices.go:186", #[], none⟩,
     ⟨some 79, .move (.tmp 1), I, "slices.go:186", #[], none⟩,
     ⟨some 80, .slice T (.tmp 78) (some (.tmp 79)) none none, T, "slices.go:186", #[⟨0, .data⟩, ⟨1, .data⟩], none⟩,
     ⟨some 81, .move (.tmp 2), T, "slices.go:186", #[], none⟩,
     ⟨some 82, .call ⟨.builtin .copy, #[(.tmp 80), (.tmp 81)], #[T, T]⟩, I, "slices.go:186", #[⟨2, .data⟩, ⟨3, .data⟩], none⟩] false)
   (.seq (.region 17 #[
     ⟨some 83, .move (.tmp 0), T, "slices.go:193", #[], none⟩,
     ⟨some 6, .assign (.tmp 83), T, "slices.go:193", #[⟨0, .data⟩, ⟨0, .phase⟩], none⟩] false)
   .ret)))
   .skip))
  (.seq (.region 18 #[
    ⟨some 84, .move (.tmp 0), T, "slices.go:200", #[], none⟩,
    ⟨some 85, .move (.tmp 8), I, "slices.go:200", #[], none⟩,
    ⟨some 86, .slice T (.tmp 84) (some (.tmp 85)) none none, T, "slices.go:200", #[⟨0, .data⟩, ⟨1, .data⟩], none⟩,
    ⟨some 87, .move (.tmp 2), T, "slices.go:200", #[], none⟩,
    ⟨some 88, .call ⟨.builtin .copy, #[(.tmp 86), (.tmp 87)], #[T, T]⟩, I, "slices.go:200", #[⟨2, .data⟩, ⟨3, .data⟩], none⟩] false)
  (.seq (.region 19 #[
    ⟨some 89, .move (.tmp 0), T, "slices.go:207", #[], none⟩,
    ⟨some 90, .move (.tmp 1), I, "slices.go:207", #[], none⟩,
    ⟨some 91, .slice T (.tmp 89) (some (.tmp 90)) none none, T, "slices.go:207", #[⟨0, .data⟩, ⟨1, .data⟩], none⟩,
    ⟨some 92, .move (.tmp 7), I, "slices.go:207", #[], none⟩,
    ⟨some 93, .call ⟨.value (.func fR), #[(.tmp 91), (.tmp 92)], #[T, I]⟩, 0, "slices.go:207", #[⟨2, .data⟩, ⟨3, .data⟩], none⟩] false)
  (.seq (.region 20 #[
    ⟨some 94, .move (.tmp 0), T, "slices.go:214", #[], none⟩,
    ⟨some 6, .assign (.tmp 94), T, "slices.go:214", #[⟨0, .data⟩, ⟨0, .phase⟩], none⟩] false)
  .ret))))))))))))
structure DelLays (P : Program) (T B I e : TypeId) (inf : TypeInfo) (z : Value) (k : Nat) : Prop where
 mixed : P.follows .mixedOrders = true
 tT : P.underlying T = some (.slice e)
 tI : P.underlying I = some (.int .i64)
 tB : P.underlying B = some .bool
 ie : P.info? e = some inf
 zero : inf.zero = some z
 zsz : z.cells.size = k
 sz : inf.size = k
 pos : 0 < k
structure InsLays (P : Program) (T B I : TypeId) (fO : FuncId) (e : TypeId) (inf : TypeInfo) (z : Value) (k : Nat) : Prop extends DelLays P T B I e inf z k where
 fO : ∀ args w, (callFunc fO args).run P w = ((Extern.SlicesOverlaps.overlaps #[T, T] #[B] args).run P w).andThen fun v w' => .ok (.value v) w'
theorem shape_of {w : World} {b : Nat} {cur : Array Value} {e : TypeId} {fr : Nat × Nat} (h : w.heap[b]? = some (.cells cur e fr)) : w.shape? b = some (e, cur.size) := by simp [World.shape?, h]
theorem frozen_of {w : World} {b o : Nat} {cur : Array Value} {e : TypeId} (h : w.heap[b]? = some (.cells cur e (0, 0))) : w.frozen? ⟨b, o, none⟩ = false := by simp [World.frozen?, h]
def insRow1 (U : List Value) (k n m i : Nat) : List Value := U.take ((i + m) * k) ++ (U.drop (i * k)).take ((n - i) * k) ++ U.drop ((i + m) * k + (n - i) * k)
def insRow (U vs : List Value) (k n m i : Nat) : List Value :=
 (insRow1 U k n m i).take (i * k) ++ vs ++ (insRow1 U k n m i).drop (i * k + m * k)
theorem cell_row {w : World} {b : Nat} {cur : Array Value} {e : TypeId} {fr : Nat × Nat} (h : w.heap[b]? = some (.cells cur e fr)) {l : List Value} {q : Nat} (hl : ∀ j v, l[j]? = some v → cur[q + j]? = some v) :
  ∀ j v, l[j]? = some v → w.cell? ((⟨b, q, none⟩ : Addr).add j) = some v := fun j v hj => by
 rw [add_none, cell_of_heap h]
 exact hl j v hj
theorem heap_row {w : World} {b : Nat} {cur cur' : Array Value} {t : TypeId} (h : w.heap[b]? = some (.cells cur t (0, 0))) : (w.setRow b cur').heap[b]? = some (.cells cur' t (0, 0)) := setRow_heap w b cur cur' t (0, 0) h
set_option maxHeartbeats 4000000 in
set_option maxRecDepth 100000 in
theorem ins_shift {T B I : TypeId} {fO fR : FuncId} {e : TypeId} {inf : TypeInfo} {z : Value} {k : Nat} (L : InsLays P T B I fO e inf z k) {f : FuncId} {fn : Func} (hf : P.funcs[f]? = some fn) (hb : fn.body = some (insCode T B I fO fR)) (hnt : fn.ntmps = 95) (hrs : fn.results = #[.tmp 6])
  (b n c i vb m vc : Nat) (cur vcur : Array Value) (w : World) (hi : i < n) (hm : 0 < m) (hroom : n + m ≤ c) (hc63 : c ≤ 9223372036854775807) (hvb : vb ≠ b)
  (hg : w.heap[b]? = some (.cells cur e (0, 0))) (hcs : cur.size = c * k) (hvg : w.heap[vb]? = some (.cells vcur e (0, 0))) (hvs : vcur.size = vc * k) (hmv : m ≤ vc)
  (h1c : ∀ v ∈ cur.toList.take (n * k), v.oneCell' = true) (h1v : ∀ v ∈ vcur.toList.take (m * k), v.oneCell' = true) :
  Calls P f #[.slice (some ⟨b, 0, none⟩) n c, .int .i64 i, .slice (some ⟨vb, 0, none⟩) m vc] w fun e' w' =>
   e' = .returned (.slice (some ⟨b, 0, none⟩) (n + m) c) ∧ w' = (w.drew.setRow b (insRow1 cur.toList k n m i).toArray).setRow b (insRow cur.toList (vcur.toList.take (m * k)) k n m i).toArray := by
 have mixed := L.mixed
 have t0 := L.tT; have t1 := L.tI; have t2 := L.tB
 have u0 := run_underlying L.tT; have u1 := run_underlying L.tI; have u2 := run_underlying L.tB
 have zsE : ∀ w, (Go.sizeOf e).run P w = .ok k w := fun w => by rw [run_sizeOf L.ie]; rw [cellsOf_info L.ie, L.sz]
 have hk := L.pos
 have hz1 : ¬ ((m : Int) = 0) := by omega
 have hz2 : ¬ ((i : Int) = (n : Int)) := by omega
 have hn0 : (n + m) * k ≤ c * k := Nat.mul_le_mul_right _ hroom
 have hn1 : (n + m) * k = n * k + m * k := Nat.add_mul _ _ _
 have hn2 : (i + m) * k = i * k + m * k := Nat.add_mul _ _ _
 have hn3 : (n - i) * k = n * k - i * k := Nat.sub_mul _ _ _
 have hn4 : i * k ≤ n * k := Nat.mul_le_mul_right _ (by omega)
 have hn5 : 0 < c * k := Nat.mul_pos (by omega) hk
 have hn6 : m * k ≤ vc * k := Nat.mul_le_mul_right _ hmv
 have hov : ∀ lb cb W, W.heap[vb]? = w.heap[vb]? → W.heap[b]? = w.heap[b]? → (callFunc fO #[.slice (some ⟨vb, 0, none⟩) m vc, .slice (some ⟨b, (i + m) * k, none⟩) lb cb]).run P W = .ok (.value (.bool false)) W := fun lb cb W h1 h2 => by
  rw [L.fO, Lib.run_overlaps_apart W T B e L.tT k zsE ⟨vb, 0, none⟩ ⟨b, (i + m) * k, none⟩ m vc lb cb hvb e e vcur.size cur.size (shape_of (h1.trans hvg)) (shape_of (h2.trans hg)) (by omega) (frozen_of (h1.trans hvg)) (frozen_of (h1.trans hvg))]
  rfl
 have hcl : cur.toList.length = c * k := by simpa using hcs
 have hin : i ≤ n := by omega
 have hcp1 : ∀ ty dc sc, (Builtin.copy_ #[T, T] ty #[.slice (some ⟨b, (i + m) * k, none⟩) (n + m - (i + m)) dc, .slice (some ⟨b, i * k, none⟩) (n + m - i) sc]).run P w.drew = .ok (goInt ((n - i : Nat) : Int)) (w.drew.setRow b (insRow1 cur.toList k n m i).toArray) := fun ty dc sc => by
  have hlen : ((cur.toList.drop (i * k)).take ((n - i) * k)).length = (n - i) * k := by rw [List.length_take, List.length_drop, hcl]; omega
  have := run_copy_rowK (P := P) w.drew T T ty e inf b ((i + m) * k) (n + m - (i + m)) dc ⟨b, i * k, none⟩ (n + m - i) sc (n - i) cur e ((cur.toList.drop (i * k)).take ((n - i) * k)) L.tT L.ie hg (by simp only [Nat.min_def]; split <;> omega) (by rw [hlen, L.sz])
   (cell_row (w := w.drew) hg fun j v hj => by
    rw [List.getElem?_take] at hj
    split at hj
    ·rw [List.getElem?_drop] at hj; simpa using hj
    ·cases hj)
   (by rw [hlen, hcs]; omega) (fun v hv => h1c v (by
    rw [hn3, ← List.drop_take] at hv
    exact List.mem_of_mem_drop hv))
  rw [hlen] at this
  exact this
 have hcp2 : ∀ W, W.heap[b]? = some (.cells (insRow1 cur.toList k n m i).toArray e (0, 0)) → W.heap[vb]? = w.heap[vb]? → ∀ ty dc, (Builtin.copy_ #[T, T] ty #[.slice (some ⟨b, i * k, none⟩) (n + m - i) dc, .slice (some ⟨vb, 0, none⟩) m vc]).run P W = .ok (goInt m) (W.setRow b (insRow cur.toList (vcur.toList.take (m * k)) k n m i).toArray) := fun W h1 h2 ty dc => by
  have hvl : vcur.toList.length = vc * k := by simpa using hvs
  have hlen : (vcur.toList.take (m * k)).length = m * k := by rw [List.length_take, hvl]; omega
  have := run_copy_rowK (P := P) W T T ty e inf b (i * k) (n + m - i) dc ⟨vb, 0, none⟩ m vc m (insRow1 cur.toList k n m i).toArray e (vcur.toList.take (m * k)) L.tT L.ie h1 (by simp only [Nat.min_def]; split <;> omega) (by rw [hlen, L.sz])
   (cell_row (w := W) (h2.trans hvg) fun j v hj => by
    rw [List.getElem?_take] at hj
    split at hj
    ·simpa using hj
    ·cases hj)
   (by
    have : (insRow1 cur.toList k n m i).length = c * k := by simp only [insRow1, List.length_append, List.length_take, List.length_drop, hcl]; omega
    rw [hlen, List.size_toArray, this]; omega) h1v
  rw [hlen] at this
  exact this
 have hw1 : IntKind.i64.wrap ((i : Int) + (m : Int)) = (i : Int) + (m : Int) := by rw [IntKind.wrap_i64]; omega
 have hw2 : IntKind.i64.wrap ((n : Int) + (m : Int)) = (n : Int) + (m : Int) := by rw [IntKind.wrap_i64]; omega
 have hb1 : (0 : Int) ≤ (i : Int) + (m : Int) := by omega
 have htn : ((i : Int) + (m : Int)).toNat = i + m := by omega
 have hb2 : ¬ (c = i + m) := by omega
 have hb3 : (i : Int) ≤ (n : Int) + (m : Int) := by omega
 have hb4 : ¬ (c = i) := by omega
 have hcp2w := fun ty dc => hcp2 (w.drew.setRow b (insRow1 cur.toList k n m i).toArray) (heap_row (w := w.drew) hg) (by simp [World.setRow, Array.getElem?_modify, Ne.symm hvb]; rfl) ty dc
 have hovw := fun lb cb => hov lb cb w rfl rfl
 rw [hn2] at hovw hcp1
 clear hcp2 hov hg hvg hcs hcl hvs h1c h1v
 refine calls_of_wp hf hb ?_
 rw [hnt]
 simp only [List.size_toArray, List.length_cons, List.length_nil, Nat.reduceAdd, Nat.reduceSub, Array.replicate_succ, Array.replicate_zero, List.push_toArray, List.append_toArray, List.nil_append, List.cons_append]
 unfold insCode
 go_wp2_with (simp only [hovw])
 go_region_law_o (refine step_copy_runI rfl _ _ T T rfl _ _ (by simp [Act.eval, Act.put]) (by simp [Act.eval, Act.put]) (hcp1 _ _ _) ?_)
 go_wp2_with (at_builtin; refine wpList_copy_runI _ rfl _ _ T T rfl _ _ rfl rfl (hcp2w _ _) ?_)
 refine bodyPost_ret (results_tmp hrs _ _ _) rfl ?_
 exact ⟨rfl, rfl⟩
set_option maxHeartbeats 4000000 in
set_option maxRecDepth 100000 in
theorem ins_end {T B I : TypeId} {fO fR : FuncId} {e : TypeId} {inf : TypeInfo} {z : Value} {k : Nat} (L : InsLays P T B I fO e inf z k) {f : FuncId} {fn : Func} (hf : P.funcs[f]? = some fn) (hb : fn.body = some (insCode T B I fO fR)) (hnt : fn.ntmps = 95) (hrs : fn.results = #[.tmp 6])
  (base : Option Addr) (n c : Nat) (vb : Option Addr) (m vc : Nat) (w w1 : World) (v1 : Value) (hm : 0 < m) (hnc : n ≤ c)
  (hr : ∀ ty, (Builtin.append_ #[T, T] ty #[.slice base n c, .slice vb m vc]).run P w = .ok v1 w1) :
  Calls P f #[.slice base n c, .int .i64 n, .slice vb m vc] w fun e' w' => e' = .returned v1 ∧ w' = w1 := by
 have mixed := L.mixed
 have t0 := L.tT; have t1 := L.tI; have t2 := L.tB
 have u0 := run_underlying L.tT; have u1 := run_underlying L.tI; have u2 := run_underlying L.tB
 have zsE : ∀ w, (Go.sizeOf e).run P w = .ok k w := fun w => by rw [run_sizeOf L.ie]; rw [cellsOf_info L.ie, L.sz]
 have hz1 : ¬ ((m : Int) = 0) := by omega
 refine calls_of_wp hf hb ?_
 rw [hnt]
 simp only [List.size_toArray, List.length_cons, List.length_nil, Nat.reduceAdd, Nat.reduceSub, Array.replicate_succ, Array.replicate_zero, List.push_toArray, List.append_toArray, List.nil_append, List.cons_append]
 unfold insCode
 cases base with
 | none =>
  go_wp2_with (at_builtin; refine Lib.wpList_append_run _ rfl _ _ _ _ rfl _ _ rfl rfl _ _ (hr _) ?_)
  refine bodyPost_ret (results_tmp hrs _ _ _) rfl ?_
  exact ⟨rfl, rfl⟩
 | some a =>
  obtain ⟨ab, ao, asp⟩ := a
  go_wp2_with (at_builtin; refine Lib.wpList_append_run _ rfl _ _ _ _ rfl _ _ rfl rfl _ _ (hr _) ?_)
  all_goals
   refine bodyPost_ret (results_tmp hrs _ _ _) rfl ?_
   exact ⟨rfl, rfl⟩
def newRow0 (U : List Value) (zc : Array Value) (k n m i G : Nat) : Array Value := (U.take (i * k)).toArray ++ Builtin.zeroCells zc (n + m - i) ++ Builtin.zeroCells zc (G - (n + m))
def newRow1 (R vs : List Value) (k m i : Nat) : List Value := R.take (i * k) ++ vs ++ R.drop (i * k + m * k)
def newRow2 (R U : List Value) (k n m i : Nat) : List Value := R.take (i * k + m * k) ++ (U.drop (i * k)).take ((n - i) * k) ++ R.drop (i * k + m * k + (n - i) * k)
theorem newRow0_size {U : List Value} {zc : Array Value} {k n m i G : Nat} (hz : zc.size = k) (hi : i ≤ n) (hG : n + m ≤ G) (hU : i * k ≤ U.length) : (newRow0 U zc k n m i G).size = G * k := by
 simp only [newRow0, Array.size_append, List.size_toArray, List.length_take, size_zeroCells, hz]
 rw [Nat.min_eq_left hU, ← Nat.add_mul, ← Nat.add_mul]
 congr 1
 omega
set_option maxHeartbeats 4000000 in
set_option maxRecDepth 100000 in
theorem ins_grow {T B I : TypeId} {fO fR : FuncId} {e : TypeId} {inf : TypeInfo} {z : Value} {k : Nat} (L : InsLays P T B I fO e inf z k) {f : FuncId} {fn : Func} (hf : P.funcs[f]? = some fn) (hb : fn.body = some (insCode T B I fO fR)) (hnt : fn.ntmps = 95) (hrs : fn.results = #[.tmp 6])
  (b n c i vb m vc : Nat) (cur vcur : Array Value) (w : World) (hi : i < n) (hm : 0 < m) (hnc : n ≤ c) (hroom : c < n + m) (hbig : (n + m) * inf.bytes ≤ 140737488355328) (h62 : n + m ≤ 4611686018427387904)
  (hg : w.heap[b]? = some (.cells cur e (0, 0))) (hcs : cur.size = c * k) (hvg : w.heap[vb]? = some (.cells vcur e (0, 0))) (hvs : vcur.size = vc * k) (hmv : m ≤ vc)
  (h1c : ∀ v ∈ cur.toList.take (n * k), v.oneCell' = true) (h1v : ∀ v ∈ vcur.toList.take (m * k), v.oneCell' = true) :
  Calls P f #[.slice (some ⟨b, 0, none⟩) n c, .int .i64 i, .slice (some ⟨vb, 0, none⟩) m vc] w fun e' w' =>
   ∃ G, n + m ≤ G ∧ G ≤ maxLen ∧ e' = .returned (.slice (some ⟨w.heap.size, 0, none⟩) (n + m) G) ∧
    w' = (((w.drew.alloc (.cells (newRow0 cur.toList z.cells k n m i G) e)).setRow w.heap.size (newRow1 (newRow0 cur.toList z.cells k n m i G).toList (vcur.toList.take (m * k)) k m i).toArray).drew).setRow w.heap.size
     (newRow2 (newRow1 (newRow0 cur.toList z.cells k n m i G).toList (vcur.toList.take (m * k)) k m i) cur.toList k n m i).toArray := by
 have mixed := L.mixed
 have t0 := L.tT; have t1 := L.tI; have t2 := L.tB
 have u0 := run_underlying L.tT; have u1 := run_underlying L.tI; have u2 := run_underlying L.tB
 have zsE : ∀ w, (Go.sizeOf e).run P w = .ok k w := fun w => by rw [run_sizeOf L.ie]; rw [cellsOf_info L.ie, L.sz]
 have hk := L.pos
 have hz1 : ¬ ((m : Int) = 0) := by omega
 have hz2 : ¬ ((i : Int) = (n : Int)) := by omega
 have hz3 : (c : Int) < (n : Int) + (m : Int) := by omega
 have hn1 : (n + m) * k = n * k + m * k := Nat.add_mul _ _ _
 have hn2 : (i + m) * k = i * k + m * k := Nat.add_mul _ _ _
 have hn3 : (n - i) * k = n * k - i * k := Nat.sub_mul _ _ _
 have hn4 : i * k ≤ n * k := Nat.mul_le_mul_right _ (by omega)
 have hn5 : n * k ≤ c * k := Nat.mul_le_mul_right _ hnc
 have hn6 : m * k ≤ vc * k := Nat.mul_le_mul_right _ hmv
 have hcl : cur.toList.length = c * k := by simpa using hcs
 have hvl : vcur.toList.length = vc * k := by simpa using hvs
 have hin : i ≤ n := by omega
 have hbw : b < w.heap.size := (Array.getElem?_eq_some_iff.1 hg).1
 have hvw : vb < w.heap.size := (Array.getElem?_eq_some_iff.1 hvg).1
 have hkk : (n : Int) + (m : Int) - (i : Int) = ((n + m - i : Nat) : Int) := by omega
 have hik : i + (n + m - i) = n + m := by omega
 obtain ⟨G, hG⟩ : ∃ G, G = grownCap w (n + m) c e := ⟨_, rfl⟩
 have hGn : n + m ≤ G := by rw [hG]; exact grownCap_ge w _ _ _
 have hGm : G ≤ maxLen := by rw [hG]; exact grownCap_le_maxLen w (n + m) c e (by unfold maxLen; omega)
 have hG63 : G ≤ 9223372036854775807 := by unfold maxLen at hGm; omega
 have hmk : (n + m) * k ≤ G * k := Nat.mul_le_mul_right _ hGn
 obtain ⟨R0, hR0⟩ : ∃ R0, R0 = newRow0 cur.toList z.cells k n m i G := ⟨_, rfl⟩
 have hR0s : R0.size = G * k := by rw [hR0]; exact newRow0_size L.zsz hin hGn (by rw [hcl]; omega)
 have hR0l : R0.toList.length = G * k := by simpa using hR0s
 have hold : (Builtin.firstCells inf.size i (.slice (some ⟨b, 0, none⟩) i c)).run P w.drew = .ok (cur.toList.take (i * k)).toArray w.drew := by
  rw [L.sz]
  exact run_firstCells_some w.drew k i ⟨b, 0, none⟩ i c (cur.toList.take (i * k)) (by rw [List.length_take, hcl]; omega) (cell_row (w := w.drew) hg fun j v hj => by
   rw [List.getElem?_take] at hj
   split at hj
   ·simpa using hj
   ·cases hj)
 have hrz : ∀ ty, (Builtin.append_ #[T, I] ty #[.slice (some ⟨b, 0, none⟩) i c, .int .i64 ((n : Int) + (m : Int) - (i : Int))]).run P w =
   .ok (.slice (some ⟨w.heap.size, 0, none⟩) (n + m) G) (w.drew.alloc (.cells R0 e)) := fun ty => by
  have hb0 : (n + m - i) * inf.bytes ≤ (n + m) * inf.bytes := Nat.mul_le_mul_right _ (by omega)
  have h := Lib.run_append_grow_zeros w T I ty e inf z .i64 .i64 L.tT L.tI L.ie L.zero (some ⟨b, 0, none⟩) i c (cur.toList.take (i * k)) hold (n + m - i) (by omega) (by rw [L.sz]; exact hk) (by omega) (by omega) (by omega) (by rw [hik]; exact growslice_fits hroom hbig)
  rw [hik, ← hG] at h
  rw [hkk, h, hR0]
  rfl
 obtain ⟨R1, hR1⟩ : ∃ R1, R1 = newRow1 R0.toList (vcur.toList.take (m * k)) k m i := ⟨_, rfl⟩
 have hvtl : (vcur.toList.take (m * k)).length = m * k := by rw [List.length_take, hvl]; omega
 have hR1l : R1.length = G * k := by
  rw [hR1]
  simp only [newRow1, List.length_append, hvtl, List.length_take, List.length_drop, hR0l]
  omega
 have hcpA : ∀ W, W.heap[w.heap.size]? = some (.cells R0 e (0, 0)) → W.heap[vb]? = w.heap[vb]? → ∀ ty dc, (Builtin.copy_ #[T, T] ty #[.slice (some ⟨w.heap.size, i * k, none⟩) (n + m - i) dc, .slice (some ⟨vb, 0, none⟩) m vc]).run P W = .ok (goInt m) (W.setRow w.heap.size R1.toArray) := fun W h1 h2 ty dc => by
  have := run_copy_rowK (P := P) W T T ty e inf w.heap.size (i * k) (n + m - i) dc ⟨vb, 0, none⟩ m vc m R0 e (vcur.toList.take (m * k)) L.tT L.ie h1 (by simp only [Nat.min_def]; split <;> omega) (by rw [hvtl, L.sz])
   (cell_row (w := W) (h2.trans hvg) fun j v hj => by
    rw [List.getElem?_take] at hj
    split at hj
    ·simpa using hj
    ·cases hj)
   (by rw [hvtl, hR0s]; omega) h1v
  rw [hvtl] at this
  rw [this, hR1]
  rfl
 have hcpB : ∀ W, W.heap[w.heap.size]? = some (.cells R1.toArray e (0, 0)) → W.heap[b]? = w.heap[b]? → ∀ ty dc sc, (Builtin.copy_ #[T, T] ty #[.slice (some ⟨w.heap.size, i * k + m * k, none⟩) (n + m - (i + m)) dc, .slice (some ⟨b, i * k, none⟩) (n - i) sc]).run P W = .ok (goInt ((n - i : Nat) : Int)) (W.setRow w.heap.size (newRow2 R1 cur.toList k n m i).toArray) := fun W h1 h2 ty dc sc => by
  have hlen : ((cur.toList.drop (i * k)).take ((n - i) * k)).length = (n - i) * k := by rw [List.length_take, List.length_drop, hcl]; omega
  have := run_copy_rowK (P := P) W T T ty e inf w.heap.size (i * k + m * k) (n + m - (i + m)) dc ⟨b, i * k, none⟩ (n - i) sc (n - i) R1.toArray e ((cur.toList.drop (i * k)).take ((n - i) * k)) L.tT L.ie h1 (by simp only [Nat.min_def]; split <;> omega) (by rw [hlen, L.sz])
   (cell_row (w := W) (h2.trans hg) fun j v hj => by
    rw [List.getElem?_take] at hj
    split at hj
    ·rw [List.getElem?_drop] at hj; simpa using hj
    ·cases hj)
   (by rw [hlen, List.size_toArray, hR1l]; omega) (fun v hv => h1c v (by
    rw [hn3, ← List.drop_take] at hv
    exact List.mem_of_mem_drop hv))
  rw [hlen] at this
  exact this
 have hA0 : (w.drew.alloc (.cells R0 e)).heap[w.heap.size]? = some (.cells R0 e (0, 0)) := heap_new w.drew R0 e
 have hAo : ∀ x, x < w.heap.size → (w.drew.alloc (.cells R0 e)).heap[x]? = w.heap[x]? := fun x hx => heap_alloc_old w.drew _ hx
 have hcpA' := hcpA (w.alloc (.cells R0 e)).drew hA0 (hAo vb hvw)
 have hcpB' := hcpB ((w.alloc (.cells R0 e)).drew.setRow w.heap.size R1.toArray).drew (heap_row hA0) (by
  have : ((w.drew.alloc (.cells R0 e)).setRow w.heap.size R1.toArray).heap[b]? = (w.drew.alloc (.cells R0 e)).heap[b]? := by simp [World.setRow, Array.getElem?_modify, Nat.ne_of_gt hbw]
  exact this.trans (hAo b hbw))
 have hw1 : IntKind.i64.wrap ((i : Int) + (m : Int)) = (i : Int) + (m : Int) := by rw [IntKind.wrap_i64]; omega
 have hw2 : IntKind.i64.wrap ((n : Int) + (m : Int)) = (n : Int) + (m : Int) := by rw [IntKind.wrap_i64]; omega
 have hw3 : IntKind.i64.wrap ((n : Int) + (m : Int) - (i : Int)) = (n : Int) + (m : Int) - (i : Int) := by rw [IntKind.wrap_i64]; omega
 have hb1 : (0 : Int) ≤ (i : Int) + (m : Int) := by omega
 have htn : ((i : Int) + (m : Int)).toNat = i + m := by omega
 have hb3 : (i : Int) ≤ (n : Int) := by omega
 have hb4 : (i : Int) ≤ (n : Int) + (m : Int) := by omega
 have hGi : ¬ (G = i) := by omega
 have hGim : ¬ (G = i + m) := by omega
 have hci : ¬ (c = i) := by omega
 refine Calls.mono ?_ (fun e' w' h => ⟨G, hGn, hGm, h⟩)
 rw [← hR0, ← hR1]
 clear hcpA hcpB hold hg hvg hcs hcl hvs h1c h1v hR0 hR1 hG hvl hR0s hR0l hR1l hvtl hkk hik
 refine calls_of_wp hf hb ?_
 rw [hnt]
 simp only [List.size_toArray, List.length_cons, List.length_nil, Nat.reduceAdd, Nat.reduceSub, Array.replicate_succ, Array.replicate_zero, List.push_toArray, List.append_toArray, List.nil_append, List.cons_append]
 unfold insCode
 go_wp2_with (first
  | (at_builtin; refine Lib.wpList_append_run _ rfl _ _ _ _ rfl _ _ rfl rfl _ _ (hrz _) ?_)
  | (at_builtin; refine wpList_copy_runI _ rfl _ _ T T rfl _ _ rfl rfl (hcpA' _ _) ?_))
 go_region_law_o (refine step_copy_runI rfl _ _ T T rfl _ _ (by simp [Act.eval, Act.put]) (by simp [Act.eval, Act.put]) (hcpB' _ _ _) ?_)
 go_wp2
 refine bodyPost_ret (results_tmp hrs _ _ _) rfl ?_
 exact ⟨rfl, rfl⟩
def delCode (T B I U : TypeId) : Code :=
  (.seq (.region 0 #[
    ⟨some 6, .assign (.const (.slice none 0 0)), T, "slices.go:224", #[], none⟩] false)
  (.seq (.region 1 #[
    ⟨some 8, .move (.tmp 0), T, "slices.go:225", #[], none⟩,
    ⟨some 9, .move (.tmp 1), I, "slices.go:225", #[], none⟩,
    ⟨some 10, .move (.tmp 2), I, "slices.go:225", #[], none⟩,
    ⟨some 11, .move (.tmp 0), T, "slices.go:225", #[], none⟩,
    ⟨some 12, .call ⟨.builtin .len, #[(.tmp 11)], #[T]⟩, I, "slices.go:225", #[⟨3, .data⟩], none⟩,
    ⟨some 13, .slice T (.tmp 8) (some (.tmp 9)) (some (.tmp 10)) (some (.tmp 12)), T, "slices.go:225", #[⟨0, .data⟩, ⟨1, .data⟩, ⟨2, .data⟩, ⟨4, .data⟩], none⟩] false)
  (.seq (.seq (.region 2 #[
    ⟨some 14, .move (.tmp 1), I, "slices.go:227", #[], none⟩,
    ⟨some 15, .move (.tmp 2), I, "slices.go:227", #[], none⟩,
    ⟨some 16, .binOp .eql I (.tmp 14) (.tmp 15) I, B, "slices.go:227", #[⟨0, .data⟩, ⟨1, .data⟩], none⟩] false)
  (.cond (.tmp 16)
   (.seq (.region 3 #[
     ⟨some 17, .move (.tmp 0), T, "slices.go:228", #[], none⟩,
     ⟨some 6, .assign (.tmp 17), T, "slices.go:228", #[⟨0, .data⟩, ⟨0, .phase⟩], none⟩] false)
   .ret)
   .skip))
  (.seq (.region 4 #[
    ⟨some 18, .move (.tmp 0), T, "slices.go:231", #[], none⟩,
    ⟨some 19, .call ⟨.builtin .len, #[(.tmp 18)], #[T]⟩, I, "slices.go:231", #[⟨0, .data⟩], none⟩,
    ⟨some 7, .assign (.tmp 19), I, "slices.go:231", #[⟨1, .data⟩, ⟨0, .phase⟩, ⟨1, .phase⟩], none⟩] false)
  (.seq (.region 5 #[
    ⟨some 20, .move (.tmp 0), T, "slices.go:232", #[], none⟩,
    ⟨some 21, .move (.tmp 1), I, "slices.go:232", #[], none⟩,
    ⟨some 22, .slice T (.tmp 20) none (some (.tmp 21)) none, T, "slices.go:232", #[⟨0, .data⟩, ⟨1, .data⟩], none⟩,
    ⟨some 23, .move (.tmp 0), T, "slices.go:232", #[], none⟩,
    ⟨some 24, .move (.tmp 2), I, "slices.go:232", #[], none⟩,
    ⟨some 25, .slice T (.tmp 23) (some (.tmp 24)) none none, T, "slices.go:232", #[⟨3, .data⟩, ⟨4, .data⟩], none⟩,
    ⟨some 26, .call ⟨.builtin .append, #[(.tmp 22), (.tmp 25)], #[T, T]⟩, T, "slices.go:232", #[⟨2, .data⟩, ⟨5, .data⟩], none⟩,
    ⟨some 0, .assign (.tmp 26), T, "slices.go:232", #[⟨6, .data⟩, ⟨6, .chain⟩, ⟨0, .phase⟩, ⟨1, .phase⟩, ⟨2, .phase⟩, ⟨3, .phase⟩, ⟨4, .phase⟩, ⟨5, .phase⟩, ⟨6, .phase⟩], none⟩] true)
  (.seq (.region 6 #[
    ⟨some 27, .move (.tmp 0), T, "slices.go:233", #[], none⟩,
    ⟨some 28, .move (.tmp 0), T, "slices.go:233", #[], none⟩,
    ⟨some 29, .call ⟨.builtin .len, #[(.tmp 28)], #[T]⟩, I, "slices.go:233", #[⟨1, .data⟩], none⟩,
    ⟨some 30, .move (.tmp 7), I, "slices.go:233", #[], none⟩,
    ⟨some 31, .slice T (.tmp 27) (some (.tmp 29)) (some (.tmp 30)) none, T, "slices.go:233", #[⟨0, .data⟩, ⟨2, .data⟩, ⟨3, .data⟩], none⟩,
    ⟨none, .call ⟨.builtin .clear, #[(.tmp 31)], #[T]⟩, U, "slices.go:233", #[⟨4, .data⟩], none⟩] false)
  (.seq (.region 7 #[
    ⟨some 32, .move (.tmp 0), T, "slices.go:234", #[], none⟩,
    ⟨some 6, .assign (.tmp 32), T, "slices.go:234", #[⟨0, .data⟩, ⟨0, .phase⟩], none⟩] false)
  .ret)))))))
theorem wpList_clear_runI (w : World) {ops : Array Oper} {rest : List Oper} {o : Oper} {a : Act} {Q : Exit → Act → World → Prop} (hgd : o.guard = none) (d : Operand) (t : TypeId)
  (ho : o.op = .call { callee := .builtin .clear, args := #[d], argTypes := #[t] }) (v : Value) (hd : a.eval d = v) {v' : Value} {w' : World}
  (hr : (Builtin.clear_ #[t] o.type #[v]).run P w = .ok v' w') (h : wpList P ops Q rest (a.put o.dst v') w') : wpList P ops Q (o :: rest) a w :=
 wpList_plain hgd fun _ hK => by
  unfold Oper.wp execOp
  simp only [ho, resolve, invoke, builtin, Sem.run_bind, Sem.run_pure, Result.andThen_ok, List.map_toArray, List.map_cons, List.map_nil, hd, hr]
  exact hK _ _ h
theorem step_append_runI {ops : Array Oper} {o : Oper} {a : Act} {w : World} {K : Act → World → Prop} {Q : Exit → Act → World → Prop} {E : Prop}
  (hg : o.guard = none) (d x : Operand) (dT sT : TypeId) (hop : o.op = Op.call { callee := Callee.builtin Builtin.append, args := #[d, x], argTypes := #[dT, sT] })
  (v u : Value) (hd : a.eval d = v) (hx : a.eval x = u) {v' : Value} {w' : World} (hr : (Builtin.append_ #[dT, sT] o.type #[v, u]).run P w = .ok v' w') (hK : K (a.put o.dst v') w') :
  if Region.wanted o (yielded ops a.tmps) = true then Oper.wp P o a w K Q else E := by
 have hw : Region.wanted o (yielded ops a.tmps) = true := by simp [Region.wanted, hg]
 rw [if_pos hw]
 unfold Oper.wp
 simp [execOp, hop, resolve, invoke, builtin, hd, hx, hr, Result.andThen]
 exact hK
def delRow1 (U : List Value) (k n i j : Nat) : List Value := U.take (i * k) ++ (U.drop (j * k)).take ((n - j) * k) ++ U.drop (i * k + (n - j) * k)
def delRow2 (R : List Value) (zc : List Value) (k n q : Nat) : List Value := R.take (q * k) ++ (List.replicate (n - q) zc).flatten ++ R.drop (q * k + (n - q) * k)
set_option maxHeartbeats 4000000 in
set_option maxRecDepth 100000 in
theorem del_run {T B I U e : TypeId} {inf : TypeInfo} {z : Value} {k : Nat} (L : DelLays P T B I e inf z k) {f : FuncId} {fn : Func} (hf : P.funcs[f]? = some fn) (hb : fn.body = some (delCode T B I U)) (hnt : fn.ntmps = 33) (hrs : fn.results = #[.tmp 6])
  (b n c i j : Nat) (cur : Array Value) (w : World) (hij : i < j) (hjn : j ≤ n) (hnc : n ≤ c) (hc63 : c ≤ 9223372036854775807) (hg : w.heap[b]? = some (.cells cur e (0, 0))) (hcs : cur.size = c * k)
  (h1c : ∀ v ∈ cur.toList.take (n * k), v.oneCell' = true) (h1z : ∀ v ∈ z.cells.toList, v.oneCell' = true) :
  Calls P f #[.slice (some ⟨b, 0, none⟩) n c, .int .i64 i, .int .i64 j] w fun e' w' =>
   e' = .returned (.slice (some ⟨b, 0, none⟩) (i + (n - j)) c) ∧ w' = (w.drew.setRow b (delRow1 cur.toList k n i j).toArray).setRow b (delRow2 (delRow1 cur.toList k n i j) z.cells.toList k n (i + (n - j))).toArray := by
 have mixed := L.mixed
 have t0 := L.tT; have t1 := L.tI; have t2 := L.tB
 have u0 := run_underlying L.tT; have u1 := run_underlying L.tI; have u2 := run_underlying L.tB
 have zsE : ∀ w, (Go.sizeOf e).run P w = .ok k w := fun w => by rw [run_sizeOf L.ie]; rw [cellsOf_info L.ie, L.sz]
 have hk := L.pos
 have hn3 : (n - j) * k = n * k - j * k := Nat.sub_mul _ _ _
 have hn4 : i * k ≤ j * k := Nat.mul_le_mul_right _ (by omega)
 have hn5 : n * k ≤ c * k := Nat.mul_le_mul_right _ hnc
 have hn6 : j * k ≤ n * k := Nat.mul_le_mul_right _ hjn
 have hn7 : (i + (n - j)) * k = i * k + (n - j) * k := Nat.add_mul _ _ _
 have hn8 : (n - (i + (n - j))) * k = n * k - (i + (n - j)) * k := Nat.sub_mul _ _ _
 have hcl : cur.toList.length = c * k := by simpa using hcs
 have hR1l : (delRow1 cur.toList k n i j).length = c * k := by simp only [delRow1, List.length_append, List.length_take, List.length_drop, hcl]; omega
 have hlen : ((cur.toList.drop (j * k)).take ((n - j) * k)).length = (n - j) * k := by rw [List.length_take, List.length_drop, hcl]; omega
 have h1n : ∀ v ∈ (cur.toList.drop (j * k)).take ((n - j) * k), v.oneCell' = true := fun v hv => h1c v (by
    rw [hn3, ← List.drop_take] at hv
    exact List.mem_of_mem_drop hv)
 have hap : ∀ (A : Addr) sc ty, (n - j ≠ 0 → A = ⟨b, j * k, none⟩) → (Builtin.append_ #[T, T] ty #[.slice (some ⟨b, 0, none⟩) i c, .slice (some A) (n - j) sc]).run P w.drew = .ok (.slice (some ⟨b, 0, none⟩) (i + (n - j)) c) (w.drew.setRow b (delRow1 cur.toList k n i j).toArray) := fun A sc ty hA => by
  have := run_append_room (P := P) w.drew T ty e inf L.tT L.ie b i c cur hg A (n - j) sc ((cur.toList.drop (j * k)).take ((n - j) * k)) (by rw [hlen, L.sz]) (fun t u ht => by
    have hlt := (List.getElem?_eq_some_iff.1 ht).1
    rw [hlen] at hlt
    have hne : n - j ≠ 0 := by
     intro h
     rw [h] at hlt
     omega
    rw [hA hne]
    refine cell_row (w := w.drew) hg (l := (cur.toList.drop (j * k)).take ((n - j) * k)) (fun t u ht => ?_) t u ht
    rw [List.getElem?_take] at ht
    split at ht
    ·rw [List.getElem?_drop] at ht; simpa using ht
    ·cases ht) h1n (by omega) (by rw [hlen, hcs, L.sz]; omega)
  rw [hlen, L.sz] at this
  exact this
 obtain ⟨p, hp⟩ : ∃ p, n - (i + (n - j)) = p + 1 := ⟨n - (i + (n - j)) - 1, by omega⟩
 have hclr : ∀ ty cc, (Builtin.clear_ #[T] ty #[.slice (some ⟨b, (i + (n - j)) * k, none⟩) (n - (i + (n - j))) cc]).run P (w.drew.setRow b (delRow1 cur.toList k n i j).toArray) = .ok (.tuple #[]) ((w.drew.setRow b (delRow1 cur.toList k n i j).toArray).setRow b (delRow2 (delRow1 cur.toList k n i j) z.cells.toList k n (i + (n - j))).toArray) := fun ty cc => by
  have := run_clear_row (P := P) (w := w.drew.setRow b (delRow1 cur.toList k n i j).toArray) (ty := ty) (o := i * k + (n - j) * k) (n := p) (c := cc) L.tT L.ie L.zero (heap_row (w := w.drew) hg) (by
   have hs : (delRow1 cur.toList k n i j).toArray.size = c * k := by simpa using hR1l
   rw [hs, ← hp, L.zsz, hn8, hn7]; omega) h1z
  rw [← hp, L.zsz, ← hn7] at this
  exact this
 have hb0 : (i : Int) ≤ (j : Int) := by omega
 have hb1 : (j : Int) ≤ (n : Int) := by omega
 have hb2 : ¬ ((i : Int) = (j : Int)) := by omega
 have hb3 : (i : Int) ≤ (n : Int) := by omega
 have hb4 : (i : Int) + ((n : Int) - (j : Int)) ≤ (n : Int) := by omega
 have hb5 : ((i + (n - j) : Nat) : Int) ≤ (n : Int) := by omega
 have hb6 : ¬ (c = i + (n - j)) := by omega
 have hic : (i : Int) ≤ (c : Int) := by omega
 have hjc : (j : Int) ≤ (c : Int) := by omega
 have hnc' : (n : Int) ≤ (c : Int) := by omega
 obtain ⟨zc, hzc⟩ : ∃ zc, zc = z.cells.toList := ⟨_, rfl⟩
 rw [← hzc] at hclr ⊢
 clear hg hcs hcl h1c h1z hR1l hlen h1n hn8 hp hn3 hn4 hn5 hn6 hn7 hzc
 refine calls_of_wp hf hb ?_
 rw [hnt]
 simp only [List.size_toArray, List.length_cons, List.length_nil, Nat.reduceAdd, Nat.reduceSub, Array.replicate_succ, Array.replicate_zero, List.push_toArray, List.append_toArray, List.nil_append, List.cons_append]
 unfold delCode
 by_cases hcj : c = j
 ·have hnn : n = c := by omega
  subst hnn
  subst hcj
  have hap' := fun ty => hap ⟨b, 0, none⟩ (n - n) ty (by omega)
  simp only [Nat.sub_self, Nat.add_zero] at hap' hclr hb6 hb5 ⊢
  go_wp2
  go_region_law_o (refine step_append_runI rfl _ _ T T rfl _ _ (by simp [Act.eval, Act.put]) (by simp [Act.eval, Act.put]) (hap' _) ?_)
  go_wp2_with (at_builtin; refine wpList_clear_runI _ rfl _ T rfl _ rfl (hclr _ _) ?_)
  refine bodyPost_ret (results_tmp hrs _ _ _) rfl ?_
  exact ⟨rfl, rfl⟩
 ·have hap' := fun ty => hap ⟨b, j * k, none⟩ (c - j) ty (fun _ => rfl)
  go_wp2
  go_region_law_o (refine step_append_runI rfl _ _ T T rfl _ _ (by simp [Act.eval, Act.put]) (by simp [Act.eval, Act.put]) (hap' _) ?_)
  go_wp2_with (at_builtin; refine wpList_clear_runI _ rfl _ T rfl _ rfl (hclr _ _) ?_)
  refine bodyPost_ret (results_tmp hrs _ _ _) rfl ?_
  exact ⟨rfl, rfl⟩
def Each {α β : Type} (R : α → β → Prop) (A : List α) (B : List β) : Prop := ∀ (j : Nat) (z : α) (u : β), A[j]? = some z → B[j]? = some u → R z u
theorem Each.app {α β : Type} {R : α → β → Prop} {A A' : List α} {B B' : List β} (hl : A.length = B.length) (h : Each R A B) (h' : Each R A' B') : Each R (A ++ A') (B ++ B') := by
 intro j z u hz hu
 by_cases hj : j < A.length
 ·rw [List.getElem?_append_left hj] at hz
  rw [List.getElem?_append_left (by omega)] at hu
  exact h j z u hz hu
 ·rw [List.getElem?_append_right (by omega)] at hz
  rw [List.getElem?_append_right (by omega), ← hl] at hu
  exact h' _ z u hz hu
theorem Each.take {α β : Type} {R : α → β → Prop} {A : List α} {B : List β} (h : Each R A B) (n : Nat) : Each R (A.take n) (B.take n) := by
 intro j z u hz hu
 rw [List.getElem?_take] at hz hu
 split at hz
 ·rename_i hj
  rw [if_pos hj] at hu
  exact h j z u hz hu
 ·cases hz
theorem Each.drop {α β : Type} {R : α → β → Prop} {A : List α} {B : List β} (h : Each R A B) (n : Nat) : Each R (A.drop n) (B.drop n) := by
 intro j z u hz hu
 rw [List.getElem?_drop] at hz hu
 exact h _ z u hz hu
theorem Each.cut {α β : Type} {R : α → β → Prop} {A : List α} {B : List β} (h : Each R A B) (n : Nat) : Each R A (B.take n) := by
 intro j z u hz hu
 rw [List.getElem?_take] at hu
 split at hu
 ·exact h j z u hz hu
 ·cases hu
theorem Each.ext {α β : Type} {R : α → β → Prop} {A : List α} {B C : List β} (h : Each R A B) (hl : A.length ≤ B.length) : Each R A (B ++ C) := by
 intro j z u hz hu
 have := (List.getElem?_eq_some_iff.1 hz).1
 rw [List.getElem?_append_left (by omega)] at hu
 exact h j z u hz hu
theorem insRow_eq {U vs : List Value} {k n m i : Nat} (hi : i ≤ n) (hU : (n + m) * k ≤ U.length) :
  insRow U vs k n m i = U.take (i * k) ++ vs ++ ((U.drop (i * k)).take ((n - i) * k) ++ U.drop ((i + m) * k + (n - i) * k)) := by
 have h1 : (i + m) * k = i * k + m * k := Nat.add_mul _ _ _
 have h2 : (n + m) * k = n * k + m * k := Nat.add_mul _ _ _
 have h3 : i * k ≤ n * k := Nat.mul_le_mul_right _ hi
 have hl : (U.take ((i + m) * k)).length = i * k + m * k := by rw [List.length_take]; omega
 unfold insRow insRow1
 congr 1
 ·congr 1
  rw [List.append_assoc, List.take_append_of_le_length (by omega), List.take_take]
  congr 1
  omega
 ·rw [List.append_assoc, List.drop_append_of_le_length (by omega), List.drop_of_length_le (by omega), List.nil_append]
theorem newRow2_eq {U vs R : List Value} {k n m i : Nat} (hv : vs.length = m * k) (hR : i * k + m * k ≤ R.length) (hRU : R.take (i * k) = U.take (i * k)) :
  newRow2 (newRow1 R vs k m i) U k n m i = U.take (i * k) ++ vs ++ ((U.drop (i * k)).take ((n - i) * k) ++ (newRow1 R vs k m i).drop (i * k + m * k + (n - i) * k)) := by
 have hl : (R.take (i * k) ++ vs).length = i * k + m * k := by rw [List.length_append, List.length_take, hv]; omega
 unfold newRow2
 rw [List.append_assoc]
 congr 1
 unfold newRow1
 rw [List.take_append_of_le_length (by omega), List.take_of_length_le (by omega), hRU]
theorem delRow2_eq {U zc : List Value} {k n i j : Nat} (hij : i ≤ j) (hj : j ≤ n) (hU : n * k ≤ U.length) :
  delRow2 (delRow1 U k n i j) zc k n (i + (n - j)) = U.take (i * k) ++ (U.drop (j * k)).take ((n - j) * k) ++
   ((List.replicate (n - (i + (n - j))) zc).flatten ++ (delRow1 U k n i j).drop ((i + (n - j)) * k + (n - (i + (n - j))) * k)) := by
 have h1 : (i + (n - j)) * k = i * k + (n - j) * k := Nat.add_mul _ _ _
 have h2 : (n - j) * k = n * k - j * k := Nat.sub_mul _ _ _
 have h3 : i * k ≤ j * k := Nat.mul_le_mul_right _ hij
 have h4 : j * k ≤ n * k := Nat.mul_le_mul_right _ hj
 have hl : (U.take (i * k) ++ (U.drop (j * k)).take ((n - j) * k)).length = (i + (n - j)) * k := by rw [List.length_append, List.length_take, List.length_take, List.length_drop]; omega
 unfold delRow2
 rw [List.append_assoc]
 congr 1
 unfold delRow1
 rw [List.take_append_of_le_length (by omega), List.take_of_length_le (by omega)]
theorem own_rowX {w : World} {lim : Nat → Nat} {x : Bool} {e : TypeId} {xs : List (List AV)} {v : Value} {ob : Option Nat} (h : OwnR P w lim x e xs v ob) (hne : xs ≠ []) :
  ∃ b arr cap, ob = some b ∧ v = .slice (some ⟨b, 0, none⟩) xs.length cap ∧ w.heap[b]? = some (.cells arr e (0, 0)) ∧ xs.length ≤ cap ∧ cap ≤ maxLen ∧ arr.size = cap * P.cellsOf e ∧
   (∀ x ∈ xs, x.length = P.cellsOf e) ∧ (∀ x ∈ xs, ∀ z ∈ x, z.isCell = true) ∧ Each (Rep w lim) xs.flatten arr.toList ∧ (∀ b', ob = some b' → x = true → lim b' = 0) := by
 rcases h with ⟨us, h1, h2, h3, h4, h5, h6⟩ | ⟨h, _⟩
 ·rcases h1.2 with ⟨hv, hn⟩ | ⟨g, cap, cur, hv, hbg, hg, hnc, hcm, hcs, htake⟩
  ·exact (hne (List.eq_nil_of_length_eq_zero hn)).elim
  ·refine ⟨g, cur, cap, by rw [← h2, hv]; rfl, hv, hg, hnc, hcm, hcs, h4, h5, fun j z u hz hu => h6 j z u hz ?_, fun b' hb' hx => by rw [h3 b' hb', if_pos hx]⟩
   have hj := (List.getElem?_eq_some_iff.1 hz).1
   rw [getD_replicate_flat xs _ h4] at hj
   rw [← htake, List.getElem?_take, if_pos hj]
   exact hu
 ·exact (hne h).elim
theorem each_one {w : World} {lim : Nat → Nat} {xs : List (List AV)} {us : List Value} (hc : ∀ x ∈ xs, ∀ z ∈ x, z.isCell = true) (h : Each (Rep w lim) xs.flatten us) (hl : us.length ≤ xs.flatten.length) : ∀ v ∈ us, v.oneCell' = true := by
 intro v hv
 obtain ⟨j, hj⟩ := List.mem_iff_getElem?.1 hv
 have hlt := (List.getElem?_eq_some_iff.1 hj).1
 have hz := List.getElem?_eq_getElem (l := xs.flatten) (i := j) (by omega)
 obtain ⟨y, hy1, hy2⟩ := List.mem_flatten.1 (List.getElem_mem (l := xs.flatten) (n := j) (by omega))
 exact (h j _ v hz hj).oneCell (hc y hy1 _ hy2)
theorem WStep.trans {w w1 w2 : World} {l l1 l2 : Nat → Nat} {S S1 S2 : Nat → Prop} (h : WStep w l w1 l1 S1) (h' : WStep w1 l1 w2 l2 S2) (h1 : ∀ b, S1 b → S b) (h2 : ∀ b, S2 b → S b ∨ w.heap.size ≤ b) : WStep w l w2 l2 S where
 os := h'.os.trans h.os
 tape := h'.tape.trans h.tape
 output := h'.output.trans h.output
 size := Nat.le_trans h.size h'.size
 frz a ha := (h'.frz a (Nat.lt_of_lt_of_le ha h.size)).trans (h.frz a ha)
 blk b hb hn := by
  have k1 := h.blk b hb fun hs => hn (h1 b hs)
  have k2 := h'.blk b (Nat.lt_of_lt_of_le hb h.size) fun hs => (h2 b hs).elim hn (fun h => by omega)
  exact ⟨k2.1.trans k1.1, k2.2.trans k1.2⟩
 ext := h.ext.trans h'.ext h.size
theorem callOk_own (x : Bool) {f : FuncId} {args : List AV} {e : TypeId} {zs : List (List AV)} (hc : Callable P f)
  (h : ∀ (w : World) (lim : Nat → Nat) (X : Nat → Nat → Option Nat) (cargs : List Value), cargs.length ≤ args.length → (∀ i, SlotR P w lim X (argS args) i (argS args i) (cargs.getD i undef)) → Dist X → (∀ i k b, X i k = some b → b < w.heap.size) →
   Calls P f cargs.toArray w fun e' w' => ∃ v lim' ob', e' = .returned v ∧ OwnR P w' lim' true e zs v ob' ∧ WStep w lim w' lim' (fun b => ∃ i k, X i k = some b) ∧ ∀ b, ob' = some b → b < w'.heap.size ∧ (((∃ i k, X i k = some b) ∧ lim b = 0) ∨ w.heap.size ≤ b)) :
  CallOk P f args (.own x e zs) (List.replicate args.length .dead) := by
 refine ⟨hc, fun w lim X cargs hl hrel hd hs => ?_⟩
 refine (h w lim X cargs (by omega) hrel hd hs).mono ?_
 rintro e' w' ⟨v, lim1, ob', he, ho1, hw1, hb1⟩
 have hx : ∃ lim', OwnR P w' lim' x e zs v ob' ∧ WStep w lim w' lim' (fun b => ∃ i k, X i k = some b) := by
  cases x
  case true => exact ⟨lim1, ho1, hw1⟩
  case false =>
   cases ob' with
   | none =>
    refine ⟨lim1, ?_, hw1⟩
    rcases ho1 with ⟨us, h1, h2, h3, h4, h5, h6⟩ | h
    ·exact .inl ⟨us, h1, h2, fun b hb => (by cases hb), h4, h5, h6⟩
    ·exact .inr h
   | some b0 =>
    have hl0 : lim1 b0 = 0 := by
     rcases ho1 with ⟨us, h1, h2, h3, _⟩ | ⟨_, h, _⟩
     ·rw [h3 b0 rfl]; rfl
     ·cases h
    have hbb := hb1 b0 rfl
    have hext : Ext w' lim1 w' (raiseL lim1 b0 (zs.length * P.cellsOf e)) := fun b _ => by
     refine ⟨?_, fun o u _ hu => hu⟩
     unfold raiseL
     split
     ·rename_i h; rw [h, hl0]; exact Nat.zero_le _
     ·exact Nat.le_refl _
    refine ⟨_, own_raise ho1 hext, ⟨hw1.os, hw1.tape, hw1.output, hw1.size, hw1.frz, fun b hb hn => ?_, hw1.ext.trans hext hw1.size⟩⟩
    obtain ⟨k1, k2⟩ := hw1.blk b hb hn
    refine ⟨k1, ?_⟩
    have hne : b ≠ b0 := by
     rintro rfl
     rcases hbb.2 with h1 | h1
     ·exact hn h1.1
     ·omega
    show (if b = b0 then _ else lim1 b) = lim b
    rw [if_neg hne]
    exact k2
 obtain ⟨lim', ho, hw⟩ := hx
 have hb : ∀ b, ob' = some b → b < w'.heap.size ∧ ((∃ i k, X i k = some b) ∨ w.heap.size ≤ b) := fun b hb => ⟨(hb1 b hb).1, (hb1 b hb).2.imp (·.1) id⟩
 have hat : ∀ i, argS (List.replicate args.length AV.dead ++ [.own x e zs]) i = if i = args.length then .own x e zs else .dead := by
  intro i
  unfold argS
  by_cases hi : i < args.length
  ·rw [List.getElem?_append_left (by simpa using hi), List.getElem?_replicate, if_pos hi, if_neg (by omega)]; rfl
  ·rw [List.getElem?_append_right (by simpa using hi), List.length_replicate]
   by_cases hi2 : i = args.length
   ·subst hi2
    rw [if_pos rfl, Nat.sub_self]
    rfl
   ·rw [if_neg hi2, List.getElem?_eq_none (by simp; omega)]
    rfl
 refine ⟨v, lim', fun i k => if i = args.length ∧ k = 0 then ob' else none, he, hw, by simp, fun i => ?_, ?_, ?_, ?_⟩
 ·rw [hat]
  by_cases hi : i = args.length
  ·subst hi
   rw [if_pos rfl]
   show OwnR P w' lim' x e zs _ _
   unfold retAt
   rw [if_pos rfl]
   show OwnR P w' lim' x e zs _ (if args.length = args.length ∧ 0 = 0 then ob' else none)
   rw [if_pos ⟨rfl, rfl⟩]
   exact ho
  ·rw [if_neg hi]
   trivial
 ·intro d k d' k' b h1 h2
  dsimp only at h1 h2
  split at h1
  ·split at h2
   ·rename_i a1 a2
    exact ⟨a1.1.trans a2.1.symm, a1.2.trans a2.2.symm⟩
   ·cases h2
  ·cases h1
 ·intro i k b h1
  dsimp only at h1
  split at h1
  ·exact hb b h1
  ·cases h1
 ·intro i h1
  rw [hat] at h1
  split at h1 <;> simp [AV.isG] at h1
theorem own_lim {w : World} {lim : Nat → Nat} {e : TypeId} {xs : List (List AV)} {v : Value} {ob : Option Nat} {b : Nat} (h : OwnR P w lim true e xs v ob) (hb : ob = some b) : lim b = 0 := by
 rcases h with ⟨us, h1, h2, h3, _⟩ | ⟨_, h, _⟩
 ·rw [h3 b hb]; rfl
 ·rw [h] at hb; cases hb
theorem three_args {cargs : List Value} (hl : cargs.length ≤ 3) (h : cargs.getD 2 undef ≠ undef) : cargs.toArray = #[cargs.getD 0 undef, cargs.getD 1 undef, cargs.getD 2 undef] := by
 match cargs, hl, h with
 | [], _, h => exact (h rfl).elim
 | [_], _, h => exact (h rfl).elim
 | [_, _], _, h => exact (h rfl).elim
 | [_, _, _], _, _ => rfl
 | _ :: _ :: _ :: _ :: _, hl, _ => simp at hl
theorem arg_int {w : World} {lim : Nat → Nat} {X : Nat → Nat → Option Nat} {σ : Nat → AV} {d : Nat} {k : IntKind} {z : Int} {v : Value} (h : SlotR P w lim X σ d (.val (.int k z)) v) : v = .int k z := rep_val (show Rep w lim _ v from h)
structure InsFn (P : Program) (T B I : TypeId) (fO fR : FuncId) (f : FuncId) : Prop where
 fn : ∃ fn, P.funcs[f]? = some fn ∧ fn.body = some (insCode T B I fO fR) ∧ fn.ntmps = 95 ∧ fn.results = #[.tmp 6] ∧ (fn.name == "runtime.NumGoroutine") = false
theorem ins_ok (x : Bool) {T B I : TypeId} {fO fR : FuncId} {e : TypeId} {inf : TypeInfo} {z : Value} {k : Nat} (L : InsLays P T B I fO e inf z k) {f : FuncId} (hF : InsFn P T B I fO fR f) {xs ys : List (List AV)} {i : Int}
  (h0 : 0 ≤ i) (hi : i.toNat ≤ xs.length) (hys : ys ≠ []) (hroom : (xs.length + ys.length) * (inf.bytes + 1) ≤ roomMax) :
  CallOk P f [.own true e xs, .val (.int .i64 i), .own false e ys] (.own x e (xs.take i.toNat ++ ys ++ xs.drop i.toNat)) [.dead, .dead, .dead] := by
 obtain ⟨fn, hf, hb, hnt, hrs, hname⟩ := hF.fn
 have hce : P.cellsOf e = k := by rw [cellsOf_info L.ie, L.sz]
 have hb1 : xs.length + ys.length ≤ 1099511627776 := by
  have : (xs.length + ys.length) * 1 ≤ (xs.length + ys.length) * (inf.bytes + 1) := Nat.mul_le_mul_left _ (by omega)
  unfold roomMax at hroom
  omega
 have hb2 : (xs.length + ys.length) * inf.bytes ≤ 1099511627776 := by
  have : (xs.length + ys.length) * inf.bytes ≤ (xs.length + ys.length) * (inf.bytes + 1) := Nat.mul_le_mul_left _ (by omega)
  unfold roomMax at hroom
  omega
 have hm0 : 0 < ys.length := List.length_pos_iff.2 hys
 refine callOk_own x (args := [.own true e xs, .val (.int .i64 i), .own false e ys]) ⟨fn, hf, hname, by rw [hb]; rfl⟩ fun w lim X cargs hl hrel hdist hsize => ?_
 have r0 : OwnR P w lim true e xs (cargs.getD 0 undef) (X 0 0) := hrel 0
 have r1 := arg_int (hrel 1)
 have r2 : OwnR P w lim false e ys (cargs.getD 2 undef) (X 2 0) := hrel 2
 obtain ⟨vb, vcur, vc, hX2, hv2, hvg, hmv, hvcm, hvs, hyl, hyc, hyr, _⟩ := own_rowX r2 hys
 have hrep2 := OwnR.rep r2 false rfl
 rw [three_args hl (by rw [hv2]; simp [undef]), r1]
 have hii : i = ((i.toNat : Nat) : Int) := by omega
 rw [hii]
 obtain ⟨q, hq⟩ : ∃ q, q = i.toNat := ⟨_, rfl⟩
 have hqe : (((i.toNat : Nat) : Int)).toNat = q := by omega
 rw [hqe, ← hq]
 rw [← hq] at hi
 by_cases hend : q = xs.length
 ·obtain ⟨v', w', lim', ob', hrun, ho, hst, hob⟩ := append_run (ty := T) L.tT L.ie L.zero (by rw [L.zsz, L.sz]) r0 hrep2 hroom
  have hvform : ∃ base cap, cargs.getD 0 undef = .slice base xs.length cap ∧ xs.length ≤ cap := by
   rcases r0 with ⟨us, hr, _⟩ | ⟨rfl, _, a, hv⟩
   ·rcases hr.2 with ⟨hv, hn⟩ | ⟨g, cap, cur, hv, _, _, hnc, _⟩
    ·exact ⟨none, 0, by rw [hv, hn], by omega⟩
    ·exact ⟨_, cap, hv, hnc⟩
   ·exact ⟨_, 0, hv, Nat.le_refl _⟩
  obtain ⟨base, cap, hv0, hle⟩ := hvform
  rw [hend, hv0, hv2]
  rw [hv0, hv2] at hrun
  have hty : ∀ ty, (Builtin.append_ #[T, T] ty #[.slice base xs.length cap, .slice (some ⟨vb, 0, none⟩) ys.length vc]).run P w = .ok v' w' := fun ty => hrun
  refine (ins_end L hf hb hnt hrs base xs.length cap _ ys.length vc w w' v' hm0 hle hty).mono ?_
  rintro e' w'' ⟨rfl, rfl⟩
  refine ⟨v', lim', ob', rfl, by rw [List.take_length, List.drop_length, List.append_nil]; exact ho, ⟨hst.os, hst.tape, hst.output, hst.size, hst.frz, fun b hb hn => hst.blk b hb fun h => hn ⟨0, 0, h⟩, hst.ext⟩, fun b hb => ?_⟩
  rcases hob with h | h
  ·rw [h] at hb
   exact ⟨Nat.lt_of_lt_of_le (hsize 0 0 b hb) hst.size, .inl ⟨⟨0, 0, hb⟩, own_lim r0 hb⟩⟩
  ·subst h
   cases hb
   rcases ho with ⟨us, g1, g2, _⟩ | ⟨_, h, _⟩
   ·exact ⟨(g1.lt _ g2).2, .inr (Nat.le_refl _)⟩
   ·cases h
 ·have hlt : q < xs.length := by omega
  have hxs : xs ≠ [] := by rintro rfl; simp at hlt
  obtain ⟨b, cur, c, hX0, hv0, hg, hnc, hcm, hcs, hxl, hxc, hxr, hlim⟩ := own_rowX r0 hxs
  have hlb : lim b = 0 := hlim b hX0 rfl
  have hvb : vb ≠ b := by
   rintro rfl
   have := (hdist 0 0 2 0 vb hX0 hX2).1
   omega
  rw [hce] at hcs hvs hxl hyl
  have hxf : xs.flatten.length = xs.length * k := getD_replicate_flat xs k hxl
  have hyf : ys.flatten.length = ys.length * k := getD_replicate_flat ys k hyl
  have hcl : cur.toList.length = c * k := by simpa using hcs
  have hvl : vcur.toList.length = vc * k := by simpa using hvs
  have hn5 : xs.length * k ≤ c * k := Nat.mul_le_mul_right _ hnc
  have hn6 : ys.length * k ≤ vc * k := Nat.mul_le_mul_right _ hmv
  have hn7 : q * k ≤ xs.length * k := Nat.mul_le_mul_right _ hi
  have hn8 : (xs.length - q) * k = xs.length * k - q * k := Nat.sub_mul _ _ _
  have hn9 : (xs.length + ys.length) * k = xs.length * k + ys.length * k := Nat.add_mul _ _ _
  have hxt : Each (Rep w lim) xs.flatten (cur.toList.take (xs.length * k)) := hxr.cut _
  have hyt : Each (Rep w lim) ys.flatten (vcur.toList.take (ys.length * k)) := hyr.cut _
  have h1c : ∀ v ∈ cur.toList.take (xs.length * k), v.oneCell' = true := each_one hxc hxt (by rw [List.length_take, hxf]; omega)
  have h1v : ∀ v ∈ vcur.toList.take (ys.length * k), v.oneCell' = true := each_one hyc hyt (by rw [List.length_take, hyf]; omega)
  have hzl : ∀ x ∈ xs.take q ++ ys ++ xs.drop q, x.length = k := by
   intro x hx
   rcases List.mem_append.1 hx with hx | hx
   ·rcases List.mem_append.1 hx with hx | hx
    ·exact hxl x (List.mem_of_mem_take hx)
    ·exact hyl x hx
   ·exact hxl x (List.mem_of_mem_drop hx)
  have hzc : ∀ x ∈ xs.take q ++ ys ++ xs.drop q, ∀ y ∈ x, y.isCell = true := by
   intro x hx
   rcases List.mem_append.1 hx with hx | hx
   ·rcases List.mem_append.1 hx with hx | hx
    ·exact hxc x (List.mem_of_mem_take hx)
    ·exact hyc x hx
   ·exact hxc x (List.mem_of_mem_drop hx)
  have hzn : (xs.take q ++ ys ++ xs.drop q).length = xs.length + ys.length := by
   simp only [List.length_append, List.length_take, List.length_drop]
   omega
  have heach : ∀ rest, Each (Rep w lim) (xs.take q ++ ys ++ xs.drop q).flatten (cur.toList.take (q * k) ++ vcur.toList.take (ys.length * k) ++ ((cur.toList.drop (q * k)).take ((xs.length - q) * k) ++ rest)) := by
   intro rest
   rw [List.flatten_append, List.flatten_append, flatten_take k xs q hxl, flatten_drop k xs q hxl]
   refine Each.app ?_ (Each.app ?_ (hxr.take _) hyt) (Each.ext ((hxr.drop _).cut _) ?_)
   ·simp only [List.length_append, List.length_take, hxf, hyf, hcl, hvl]; omega
   ·simp only [List.length_take, hxf, hcl]; omega
   ·simp only [List.length_take, List.length_drop, hxf, hcl]; omega
  rw [hv0, hv2]
  by_cases hr : xs.length + ys.length ≤ c
  ·refine (ins_shift L hf hb hnt hrs b xs.length c q vb ys.length vc cur vcur w hlt hm0 hr (by unfold maxLen at hcm; omega) hvb hg hcs hvg hvs hmv h1c h1v).mono ?_
   rintro e' w' ⟨rfl, rfl⟩
   have s1 : WStep w lim (w.drew.setRow b (insRow1 cur.toList k xs.length ys.length q).toArray) lim (fun x => x = b) := by
    have := wstep_setRow (w := w.drew) (lim := lim) (cs := (insRow1 cur.toList k xs.length ys.length q).toArray) hg hlb
    exact ⟨this.os, this.tape, this.output, this.size, this.frz, this.blk, this.ext⟩
   have s2 := wstep_setRow (lim := lim) (cs := (insRow cur.toList (vcur.toList.take (ys.length * k)) k xs.length ys.length q).toArray) (heap_row (w := w.drew) (cur' := (insRow1 cur.toList k xs.length ys.length q).toArray) hg) hlb
   have s3 : WStep w lim _ lim (fun x => ∃ i j, X i j = some x) := s1.trans s2 (fun x hx => ⟨0, 0, by rw [hx]; exact hX0⟩) (fun x hx => .inl ⟨0, 0, by rw [hx]; exact hX0⟩)
   have hU : (xs.length + ys.length) * k ≤ cur.toList.length := by rw [hcl]; exact Nat.mul_le_mul_right _ hr
   have heq := insRow_eq (vs := vcur.toList.take (ys.length * k)) hi hU
   refine ⟨_, lim, some b, rfl, ?_, s3, fun b' hb' => ?_⟩
   ·have hrow := row_own (P := P) (w := (w.drew.setRow b (insRow1 cur.toList k xs.length ys.length q).toArray).setRow b (insRow cur.toList (vcur.toList.take (ys.length * k)) k xs.length ys.length q).toArray) (lim := lim) (e := e)
     (xs := xs.take q ++ ys ++ xs.drop q) (b := b) (cap := c) (heap_row (heap_row (w := w.drew) hg)) hlb (by rw [hzn]; exact hr) hcm ?_ (by rw [hce]; exact hzl) hzc ?_
    ·rw [hzn] at hrow
     exact hrow
    ·rw [hce, List.size_toArray, heq]
     simp only [List.length_append, List.length_take, List.length_drop, hcl, hvl]
     have : (q + ys.length) * k = q * k + ys.length * k := Nat.add_mul _ _ _
     have : (xs.length + ys.length) * k ≤ c * k := Nat.mul_le_mul_right _ hr
     omega
    ·intro j z u hz hu
     rw [List.getElem?_toArray, heq] at hu
     exact (heach _ j z u hz hu).mono s3.ext
   ·cases hb'
    exact ⟨Nat.lt_of_lt_of_le (hsize 0 0 b hX0) s3.size, .inl ⟨⟨0, 0, hX0⟩, hlb⟩⟩
  ·refine (ins_grow L hf hb hnt hrs b xs.length c q vb ys.length vc cur vcur w hlt hm0 hnc (by omega) (by omega) (by omega) hg hcs hvg hvs hmv h1c h1v).mono ?_
   rintro e' w' ⟨G, hG1, hG2, rfl, rfl⟩
   obtain ⟨R0, hR0⟩ : ∃ R0, R0 = newRow0 cur.toList z.cells k xs.length ys.length q G := ⟨_, rfl⟩
   rw [← hR0]
   have hR0s : R0.size = G * k := by rw [hR0]; exact newRow0_size L.zsz hi hG1 (by rw [hcl]; omega)
   have hR0l : R0.toList.length = G * k := by simpa using hR0s
   have hGk : (xs.length + ys.length) * k ≤ G * k := Nat.mul_le_mul_right _ hG1
   have hvtl : (vcur.toList.take (ys.length * k)).length = ys.length * k := by rw [List.length_take, hvl]; omega
   have hRU : R0.toList.take (q * k) = cur.toList.take (q * k) := by
    rw [hR0]
    unfold newRow0
    rw [Array.toList_append, Array.toList_append]
    rw [List.append_assoc, List.take_append_of_le_length (by simp only [List.length_take, hcl]; omega), List.take_of_length_le (by simp only [List.length_take, hcl]; omega)]
   have heq := newRow2_eq (U := cur.toList) (n := xs.length) (i := q) hvtl (by rw [hR0l]; omega) hRU
   obtain ⟨W0, hW0⟩ : ∃ W0, W0 = w.drew.alloc (.cells R0 e) := ⟨_, rfl⟩
   obtain ⟨l0, hl0⟩ : ∃ l0, l0 = fun x => if x = w.heap.size then 0 else lim x := ⟨_, rfl⟩
   have s0 : WStep w lim W0 l0 (fun x => ∃ i j, X i j = some x) := by
    have := wstep_alloc w.drew lim R0 e 0 (fun x => ∃ i j, X i j = some x)
    rw [hW0, hl0]
    exact ⟨this.os, this.tape, this.output, this.size, this.frz, this.blk, this.ext⟩
   have g0 : W0.heap[w.heap.size]? = some (.cells R0 e (0, 0)) := by rw [hW0]; exact heap_new w.drew R0 e
   have hll : l0 w.heap.size = 0 := by rw [hl0]; exact if_pos rfl
   rw [← hW0]
   obtain ⟨R1, hR1⟩ : ∃ R1, R1 = newRow1 R0.toList (vcur.toList.take (ys.length * k)) k ys.length q := ⟨_, rfl⟩
   rw [← hR1] at heq ⊢
   obtain ⟨R2, hR2⟩ : ∃ R2, R2 = newRow2 R1 cur.toList k xs.length ys.length q := ⟨_, rfl⟩
   rw [← hR2] at heq ⊢
   have hR1l : R1.length = G * k := by
    rw [hR1]
    simp only [newRow1, List.length_append, hvtl, List.length_take, List.length_drop, hR0l]
    omega
   have s1 := wstep_setRow (cs := R1.toArray) g0 hll
   have g1 : ((W0.setRow w.heap.size R1.toArray).drew).heap[w.heap.size]? = some (.cells R1.toArray e (0, 0)) := heap_row g0
   have s2 := wstep_setRow (w := (W0.setRow w.heap.size R1.toArray).drew) (cs := R2.toArray) g1 hll
   have s12 : WStep w lim (W0.setRow w.heap.size R1.toArray).drew l0 (fun x => ∃ i j, X i j = some x) := (s0.trans s1 (fun x hx => hx) (fun x hx => .inr (by omega))).drew
   have s3 := s12.trans (S := fun x => ∃ i j, X i j = some x) s2 (fun x hx => hx) (fun x hx => .inr (by omega))
   refine ⟨_, l0, some w.heap.size, rfl, ?_, s3, fun b' hb' => ?_⟩
   ·have hrow := row_own (P := P) (w := ((W0.setRow w.heap.size R1.toArray).drew).setRow w.heap.size R2.toArray) (lim := l0) (e := e)
     (xs := xs.take q ++ ys ++ xs.drop q) (b := w.heap.size) (cap := G) (heap_row g1) hll (by rw [hzn]; exact hG1) hG2 ?_ (by rw [hce]; exact hzl) hzc ?_
    ·rw [hzn] at hrow
     exact hrow
    ·rw [hce, List.size_toArray, heq]
     simp only [List.length_append, hvtl, List.length_take, List.length_drop, hcl, hR1l]
     omega
    ·intro j z u hz hu
     rw [List.getElem?_toArray, heq] at hu
     exact (heach _ j z u hz hu).mono s3.ext
   ·cases hb'
    exact ⟨Nat.lt_of_lt_of_le (by have := (Array.getElem?_eq_some_iff.1 g1).1; exact this) s2.size, .inr (Nat.le_refl _)⟩
set_option maxHeartbeats 4000000 in
set_option maxRecDepth 100000 in
theorem del_same {T B I U e : TypeId} {inf : TypeInfo} {z : Value} {k : Nat} (L : DelLays P T B I e inf z k) {f : FuncId} {fn : Func} (hf : P.funcs[f]? = some fn) (hb : fn.body = some (delCode T B I U)) (hnt : fn.ntmps = 33) (hrs : fn.results = #[.tmp 6])
  (base : Option Addr) (n c i : Nat) (w : World) (hin : i ≤ n) (hnc : n ≤ c) :
  Calls P f #[.slice base n c, .int .i64 i, .int .i64 i] w fun e' w' => e' = .returned (.slice base n c) ∧ w' = w := by
 have mixed := L.mixed
 have t0 := L.tT; have t1 := L.tI; have t2 := L.tB
 have u0 := run_underlying L.tT; have u1 := run_underlying L.tI; have u2 := run_underlying L.tB
 have zsE : ∀ w, (Go.sizeOf e).run P w = .ok k w := fun w => by rw [run_sizeOf L.ie]; rw [cellsOf_info L.ie, L.sz]
 have hb0 : (i : Int) ≤ (n : Int) := by omega
 have hb1 : (n : Int) ≤ (c : Int) := by omega
 have hb2 : (i : Int) ≤ (c : Int) := by omega
 refine calls_of_wp hf hb ?_
 rw [hnt]
 simp only [List.size_toArray, List.length_cons, List.length_nil, Nat.reduceAdd, Nat.reduceSub, Array.replicate_succ, Array.replicate_zero, List.push_toArray, List.append_toArray, List.nil_append, List.cons_append]
 unfold delCode
 cases base with
 | none =>
  go_wp2
  all_goals
   refine bodyPost_ret (results_tmp hrs _ _ _) rfl ?_
   exact ⟨rfl, rfl⟩
 | some a =>
  obtain ⟨ab, ao, asp⟩ := a
  go_wp2
  all_goals
   refine bodyPost_ret (results_tmp hrs _ _ _) rfl ?_
   exact ⟨rfl, rfl⟩
structure DelFn (P : Program) (T B I U : TypeId) (z : Value) (f : FuncId) : Prop where
 fn : ∃ fn, P.funcs[f]? = some fn ∧ fn.body = some (delCode T B I U) ∧ fn.ntmps = 33 ∧ fn.results = #[.tmp 6] ∧ (fn.name == "runtime.NumGoroutine") = false
 one : ∀ v ∈ z.cells.toList, v.oneCell' = true
theorem del_ok (x : Bool) {T B I U e : TypeId} {inf : TypeInfo} {z : Value} {k : Nat} (L : DelLays P T B I e inf z k) {f : FuncId} (hF : DelFn P T B I U z f) {xs : List (List AV)} {i j : Int}
  (h0 : 0 ≤ i) (hij : i ≤ j) (hj : j.toNat ≤ xs.length) :
  CallOk P f [.own true e xs, .val (.int .i64 i), .val (.int .i64 j)] (.own x e (xs.take i.toNat ++ xs.drop j.toNat)) [.dead, .dead, .dead] := by
 obtain ⟨fn, hf, hb, hnt, hrs, hname⟩ := hF.fn
 have hce : P.cellsOf e = k := by rw [cellsOf_info L.ie, L.sz]
 refine callOk_own x (args := [.own true e xs, .val (.int .i64 i), .val (.int .i64 j)]) ⟨fn, hf, hname, by rw [hb]; rfl⟩ fun w lim X cargs hl hrel hdist hsize => ?_
 have r0 : OwnR P w lim true e xs (cargs.getD 0 undef) (X 0 0) := hrel 0
 have r1 := arg_int (hrel 1)
 have r2 := arg_int (hrel 2)
 rw [three_args hl (by rw [r2]; simp [undef]), r1, r2]
 obtain ⟨p, rfl⟩ : ∃ p : Nat, i = p := ⟨i.toNat, by omega⟩
 obtain ⟨q, rfl⟩ : ∃ q : Nat, j = q := ⟨j.toNat, by omega⟩
 rw [Int.toNat_natCast] at hj ⊢
 rw [Int.toNat_natCast]
 have hpq : p ≤ q := by omega
 by_cases heq : p = q
 ·subst heq
  have hvform : ∃ base cap, cargs.getD 0 undef = .slice base xs.length cap ∧ xs.length ≤ cap := by
   rcases r0 with ⟨us, hr, _⟩ | ⟨rfl, _, a, hv⟩
   ·rcases hr.2 with ⟨hv, hn⟩ | ⟨g, cap, cur, hv, _, _, hnc, _⟩
    ·exact ⟨none, 0, by rw [hv, hn], by omega⟩
    ·exact ⟨_, cap, hv, hnc⟩
   ·exact ⟨_, 0, hv, Nat.le_refl _⟩
  obtain ⟨base, cap, hv0, hle⟩ := hvform
  rw [hv0] at r0 ⊢
  refine (del_same L hf hb hnt hrs base xs.length cap p w hj hle).mono ?_
  rintro e' w' ⟨rfl, rfl⟩
  exact ⟨_, lim, X 0 0, rfl, by rw [List.take_append_drop]; exact r0, WStep.refl _ _ _, fun b hb => ⟨hsize 0 0 b hb, .inl ⟨⟨0, 0, hb⟩, own_lim r0 hb⟩⟩⟩
 ·have hlt : p < q := by omega
  have hxs : xs ≠ [] := by rintro rfl; simp at hj; omega
  obtain ⟨b, cur, c, hX0, hv0, hg, hnc, hcm, hcs, hxl, hxc, hxr, hlim⟩ := own_rowX r0 hxs
  have hlb : lim b = 0 := hlim b hX0 rfl
  rw [hce] at hcs hxl
  have hxf : xs.flatten.length = xs.length * k := getD_replicate_flat xs k hxl
  have hcl : cur.toList.length = c * k := by simpa using hcs
  have hn5 : xs.length * k ≤ c * k := Nat.mul_le_mul_right _ hnc
  have hn7 : p * k ≤ q * k := Nat.mul_le_mul_right _ hpq
  have hn8 : q * k ≤ xs.length * k := Nat.mul_le_mul_right _ hj
  have hn9 : (xs.length - q) * k = xs.length * k - q * k := Nat.sub_mul _ _ _
  have h1c : ∀ v ∈ cur.toList.take (xs.length * k), v.oneCell' = true := each_one hxc (hxr.cut _) (by rw [List.length_take, hxf]; omega)
  have hzl : ∀ x ∈ xs.take p ++ xs.drop q, x.length = k := by
   intro x hx
   rcases List.mem_append.1 hx with hx | hx
   ·exact hxl x (List.mem_of_mem_take hx)
   ·exact hxl x (List.mem_of_mem_drop hx)
  have hzc : ∀ x ∈ xs.take p ++ xs.drop q, ∀ y ∈ x, y.isCell = true := by
   intro x hx
   rcases List.mem_append.1 hx with hx | hx
   ·exact hxc x (List.mem_of_mem_take hx)
   ·exact hxc x (List.mem_of_mem_drop hx)
  have hzn : (xs.take p ++ xs.drop q).length = p + (xs.length - q) := by
   simp only [List.length_append, List.length_take, List.length_drop]
   omega
  have heach : ∀ rest, Each (Rep w lim) (xs.take p ++ xs.drop q).flatten (cur.toList.take (p * k) ++ (cur.toList.drop (q * k)).take ((xs.length - q) * k) ++ rest) := by
   intro rest
   rw [List.flatten_append, flatten_take k xs p hxl, flatten_drop k xs q hxl, List.append_assoc]
   refine Each.app ?_ (hxr.take _) (Each.ext ((hxr.drop _).cut _) ?_)
   ·simp only [List.length_take, hxf, hcl]; omega
   ·simp only [List.length_take, List.length_drop, hxf, hcl]; omega
  rw [hv0]
  refine (del_run L hf hb hnt hrs b xs.length c p q cur w hlt hj hnc (by unfold maxLen at hcm; omega) hg hcs h1c hF.one).mono ?_
  rintro e' w' ⟨rfl, rfl⟩
  have heq2 := delRow2_eq (U := cur.toList) (zc := z.cells.toList) hpq hj (by rw [hcl]; exact hn5)
  obtain ⟨R1, hR1⟩ : ∃ R1, R1 = delRow1 cur.toList k xs.length p q := ⟨_, rfl⟩
  rw [← hR1] at heq2 ⊢
  obtain ⟨R2, hR2⟩ : ∃ R2, R2 = delRow2 R1 z.cells.toList k xs.length (p + (xs.length - q)) := ⟨_, rfl⟩
  rw [← hR2] at heq2 ⊢
  have hR1l : R1.length = c * k := by
   rw [hR1]
   simp only [delRow1, List.length_append, List.length_take, List.length_drop, hcl]
   omega
  have s1 : WStep w lim (w.drew.setRow b R1.toArray) lim (fun x => x = b) := by
   have := wstep_setRow (w := w.drew) (lim := lim) (cs := R1.toArray) hg hlb
   exact ⟨this.os, this.tape, this.output, this.size, this.frz, this.blk, this.ext⟩
  have s2 := wstep_setRow (lim := lim) (cs := R2.toArray) (heap_row (w := w.drew) (cur' := R1.toArray) hg) hlb
  have s3 : WStep w lim _ lim (fun x => ∃ i j, X i j = some x) := s1.trans s2 (fun x hx => ⟨0, 0, by rw [hx]; exact hX0⟩) (fun x hx => .inl ⟨0, 0, by rw [hx]; exact hX0⟩)
  refine ⟨_, lim, some b, rfl, ?_, s3, fun b' hb' => ?_⟩
  ·have hrow := row_own (P := P) (w := (w.drew.setRow b R1.toArray).setRow b R2.toArray) (lim := lim) (e := e)
    (xs := xs.take p ++ xs.drop q) (b := b) (cap := c) (heap_row (heap_row (w := w.drew) hg)) hlb (by rw [hzn]; omega) hcm ?_ (by rw [hce]; exact hzl) hzc ?_
   ·rw [hzn] at hrow
    exact hrow
   ·have hfl : ((List.replicate (xs.length - (p + (xs.length - q))) z.cells.toList).flatten).length = (xs.length - (p + (xs.length - q))) * k := by simp [← L.zsz]
    have e1 : (p + (xs.length - q)) * k = p * k + (xs.length - q) * k := Nat.add_mul _ _ _
    have e2 : (xs.length - (p + (xs.length - q))) * k = xs.length * k - (p + (xs.length - q)) * k := Nat.sub_mul _ _ _
    rw [hce, List.size_toArray, heq2]
    simp only [List.length_append, hfl, List.length_take, List.length_drop, hcl, hR1l]
    omega
   ·intro j z u hz hu
    rw [List.getElem?_toArray, heq2] at hu
    exact (heach _ j z u hz hu).mono s3.ext
  ·cases hb'
   exact ⟨Nat.lt_of_lt_of_le (hsize 0 0 b hX0) s3.size, .inl ⟨⟨0, 0, hX0⟩, hlb⟩⟩
def gIns (bytes : Nat) (xs : LL) (i : Int) (ys : LL) : Option LL :=
 reqK (0 ≤ i) <| reqK (i ≤ (xs.length : Int)) <| reqK (ys ≠ []) <| reqK (roomP xs ys bytes) <| some (xs.take i.toNat ++ ys ++ xs.drop i.toNat)
def gDel (xs : LL) (i j : Int) : Option LL :=
 reqK (0 ≤ i) <| reqK (i ≤ j) <| reqK (j ≤ (xs.length : Int)) <| some (xs.take i.toNat ++ xs.drop j.toNat)
def insG (bytes : Nat) : List V → Option LL
 | [.l xs, .i i, .l ys] => gIns bytes xs i ys
 | _ => none
def delG : List V → Option LL
 | [.l xs, .i i, .i j] => gDel xs i j
 | _ => none
def insF (x : Bool) (e : TypeId) (bytes : Nat) : Fun where
 args := [.c (.own true e), .c (.int .i64), .c (.own false e)]
 res := [.c (.own x e)]
 g := insG bytes
def delF (x : Bool) (e : TypeId) : Fun where
 args := [.c (.own true e), .c (.int .i64), .c (.int .i64)]
 res := [.c (.own x e)]
 g := delG
def insChk (P : Program) (T B I e : TypeId) (bytes : Nat) : Bool :=
 (match P.underlying T with | some (.slice e') => e' == e | _ => false) && (match P.underlying I with | some (.int k) => k == .i64 | _ => false) && (match P.underlying B with | some .bool => true | _ => false) &&
 match P.info? e with
 | some i => i.bytes == bytes && decide (0 < i.size) && (match i.zero with | some z => z.cells.size == i.size && z.cells.toList.all (fun v => v.oneCell') | none => false)
 | none => false
theorem insLays_of {T B I e : TypeId} {bytes : Nat} (hm : P.follows .mixedOrders = true) (h : insChk P T B I e bytes = true) :
  ∃ inf z k, inf.bytes = bytes ∧ (∀ v ∈ z.cells.toList, v.oneCell' = true) ∧ DelLays P T B I e inf z k := by
 simp only [insChk, Bool.and_eq_true] at h
 obtain ⟨⟨⟨h1, h2⟩, h3⟩, h4⟩ := h
 split at h1
 case h_2 => cases h1
 rename_i e' hT
 rw [beq_iff_eq] at h1
 subst h1
 split at h2
 case h_2 => cases h2
 rename_i kk hI
 rw [beq_iff_eq] at h2
 subst h2
 split at h3
 case h_2 => cases h3
 rename_i hB
 split at h4
 case h_2 => cases h4
 rename_i inf hinf
 simp only [Bool.and_eq_true, beq_iff_eq, decide_eq_true_eq] at h4
 obtain ⟨⟨h5, h6⟩, h7⟩ := h4
 split at h7
 case h_2 => cases h7
 rename_i z hz
 simp only [Bool.and_eq_true, beq_iff_eq, List.all_eq_true] at h7
 exact ⟨inf, z, inf.size, h5, fun v hv => h7.2 v hv, ⟨hm, hT, hI, hB, hinf, hz, h7.1, rfl, h6⟩⟩
def Func.looksIns (fn : Func) (T B I : TypeId) (fO fR : FuncId) : Prop := fn.body = some (insCode T B I fO fR) ∧ fn.ntmps = 95 ∧ fn.results = #[.tmp 6]
theorem insF_ok {x : Bool} {T B I e : TypeId} {bytes : Nat} {f fO fR : FuncId} {fn fo : Func} (hm : P.follows .mixedOrders = true) (hc : insChk P T B I e bytes = true) (hf : P.funcs[f]? = some fn) (hname : (fn.name == "runtime.NumGoroutine") = false)
  (hl : Func.looksIns fn T B I fO fR) (hfo : P.funcs[fO]? = some fo) (ho1 : (fo.name == "runtime.NumGoroutine") = false) (ho2 : fo.body.isNone = true) (ho3 : Extern.findNext fo = none)
  (ho4 : Extern.find fo = some (Extern.SlicesOverlaps.overlaps #[T, T] #[B])) : (insF x e bytes).Ok P f := by
 obtain ⟨inf, z, k, hb, _, hL⟩ := insLays_of hm hc
 have L : InsLays P T B I fO e inf z k := ⟨hL, fun args w => run_callFunc_extern hfo ho1 ho2 ho3 ho4 args w⟩
 intro vs r h
 have h : insG bytes vs = some r := h
 unfold insG at h
 split at h
 case h_2 => cases h
 rename_i xs i ys _
 obtain ⟨h0, h⟩ := reqK_some h
 obtain ⟨h1, h⟩ := reqK_some h
 obtain ⟨h2, h⟩ := reqK_some h
 obtain ⟨h3, h⟩ := reqK_some h
 cases h
 rw [roomP, ← hb] at h3
 exact ins_ok x L ⟨fn, hf, hl.1, hl.2.1, hl.2.2, hname⟩ h0 (show i.toNat ≤ xs.length by omega) h2 h3
def Func.looksDel (fn : Func) (T B I U : TypeId) : Prop := fn.body = some (delCode T B I U) ∧ fn.ntmps = 33 ∧ fn.results = #[.tmp 6]
theorem delF_ok {x : Bool} {T B I U e : TypeId} {bytes : Nat} {f : FuncId} {fn : Func} (hm : P.follows .mixedOrders = true) (hc : insChk P T B I e bytes = true) (hf : P.funcs[f]? = some fn) (hname : (fn.name == "runtime.NumGoroutine") = false)
  (hl : Func.looksDel fn T B I U) : (delF x e).Ok P f := by
 obtain ⟨inf, z, k, _, hz, L⟩ := insLays_of hm hc
 intro vs r h
 have h : delG vs = some r := h
 unfold delG at h
 split at h
 case h_2 => cases h
 rename_i xs i j _
 obtain ⟨h0, h⟩ := reqK_some h
 obtain ⟨h1, h⟩ := reqK_some h
 obtain ⟨h2, h⟩ := reqK_some h
 cases h
 exact del_ok x L ⟨⟨fn, hf, hl.1, hl.2.1, hl.2.2, hname⟩, hz⟩ h0 h1 (show j.toNat ≤ xs.length by omega)
end Go.AM
