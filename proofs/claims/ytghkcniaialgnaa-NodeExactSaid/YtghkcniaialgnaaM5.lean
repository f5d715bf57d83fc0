/- NPar1, NPar2: texts of the proof, put together. -/
import Derived.Test.YtghkcniaialgnaaFNP
import Derived.RangeFuncNested
import Derived.RangeFuncBound
import Derived.RangeFuncCalls
import Derived.RangeFuncLeaves
import Derived.Shelf.Abstract
import Derived.Shelf.RegionOpen
import Derived.WalkKit
import Derived.OwnWalkIn
import Derived.TacticsInMore
import Derived.LoopNIn
import Derived.LoopIn

section
namespace Go.Proofs.Ytghkcniaialgnaa
open Go Go.AM Go.RowKit Go.Shelf
attribute [local go_sem] Oper.semAt_some

abbrev Id3 := Int × Int × Int
def elv (x : Id3) : Value := .agg #[.int .i64 x.1, .int .i64 x.2.1, .int .i64 x.2.2]

/-- The last k of n, from the end. -/
def dn (n k : Nat) : List (Fin n) := (List.finRange n).reverse.take k
theorem dn_len {n k : Nat} (h : k ≤ n) : (dn n k).length = k := by simp [dn]; omega
theorem dn_succ {n k : Nat} (h : k < n) : dn n (k + 1) = dn n k ++ [⟨n - 1 - k, by omega⟩] := by
  unfold dn
  rw [List.take_add_one, List.getElem?_eq_getElem (by simp; exact h)]
  simp

/-- The cells of a list of Ids, from a place on. -/
def IdsAt (W : World) (b off : Nat) (ids : List Id3) : Prop := ∀ (i : Nat) (h : i < ids.length),
  W.cell? ⟨b, off + i * 3, none⟩ = some (.int .i64 ids[i].1) ∧ W.cell? ⟨b, off + i * 3 + 1, none⟩ = some (.int .i64 ids[i].2.1) ∧ W.cell? ⟨b, off + i * 3 + 2, none⟩ = some (.int .i64 ids[i].2.2)

theorem IdsAt.below {n₀ : Nat} {A B : World} {b off : Nat} {ids : List Id3} (h : Below n₀ A B) (hb : b < n₀) (hi : IdsAt A b off ids) : IdsAt B b off ids := fun i hl =>
  ⟨(h.cell (p := ⟨b, _, none⟩) hb).trans (hi i hl).1, (h.cell (p := ⟨b, _, none⟩) hb).trans (hi i hl).2.1, (h.cell (p := ⟨b, _, none⟩) hb).trans (hi i hl).2.2⟩

/-- A slice of Ids that lies below block n₀. -/
def IdsV (n₀ : Nat) (W : World) (v : Value) (ids : List Id3) : Prop :=
  (ids = [] ∧ (v = .slice none 0 0 ∨ ∃ a cap, v = .slice (some a) 0 cap)) ∨ ∃ b off cap, v = .slice (some ⟨b, off, none⟩) ids.length cap ∧ b < n₀ ∧ IdsAt W b off ids

theorem IdsV.below {n₀ : Nat} {A B : World} {v : Value} {ids : List Id3} (h : Below n₀ A B) (hi : IdsV n₀ A v ids) : IdsV n₀ B v ids := by
  rcases hi with hi | ⟨b, off, cap, h1, h2, h3⟩
  · exact .inl hi
  · exact .inr ⟨b, off, cap, h1, h2, h3.below h h2⟩

set_option maxRecDepth 100000 in
set_option maxHeartbeats 2000000 in
theorem back1_in (F : Fence) (n : Nat) (h38 : F.fn 38) (hro : F.round = none) (hn : 1 ≤ n) (l Bs n₀ b off cap : Nat) (ids : List Id3) (hlen : ids.length < 4611686018427387904) (hb : b < n₀) (hBn : Bs < n₀) (J Jx : List (Fin ids.length) → World → Prop)
    (hY : ∀ pre x W, J pre W → pre.length < ids.length → YieldAt F (n - 1) Try.prog l #[.int .i64 (x.1 : Int), elv ids[x.1]] W fun e W' =>
      (e = .returned (.bool true) ∧ J (pre ++ [x]) W' ∧ Below n₀ W W') ∨ (e = .returned (.bool false) ∧ Jx (pre ++ [x]) W'))
    (W : World) (hBs : W.cell? ⟨Bs, 0, none⟩ = some (.slice (some ⟨b, off, none⟩) ids.length cap)) (hc : IdsAt W b off ids) (h0 : J [] W) :
    CallsIn F n Try.prog 38 #[.func (.yield l) #[] #[], .pointer (some ⟨Bs, 0, none⟩)] W fun e W' => (∃ v, e = .returned v) ∧
      ((∃ ys, ys = dn ids.length ids.length ∧ J ys W') ∨ (∃ pre, (∃ k, k ≤ ids.length ∧ pre = dn ids.length k) ∧ Jx pre W')) := by
  refine callsIn_of_wp Try.func38 rfl h38 ?_ hro
  simp only [Try.ntmps38, List.size_toArray, List.length_cons, List.length_nil, Nat.reduceAdd, Nat.reduceSub, Array.replicate_succ, Array.replicate_zero, List.push_toArray, List.append_toArray, List.nil_append, List.cons_append]
  gi_wp2
  gi_loopw [3] (fun i wr => ∃ k : Nat, k ≤ ids.length ∧ i = .int .i64 ((ids.length : Int) - 1 - (k : Int)) ∧ J (dn ids.length k) wr ∧ Below n₀ W wr)
    (fun i _ => (intOf i + 1).toNat)
  case atStart => exact ⟨0, Nat.zero_le _, by simp, h0, Below.refl _ _⟩
  case round =>
    obtain ⟨k, hk, rfl, hJs, hnx⟩ := hrel
    by_cases hlt : k < ids.length
    · have hi : ids.length - 1 - k < ids.length := by omega
      obtain ⟨fn, tmps, assign, body, hy, hR⟩ := hY _ ⟨ids.length - 1 - k, hi⟩ wr hJs (by rw [dn_len (by omega)]; exact hlt)
      have hBs' := (hnx.cell (p := ⟨Bs, 0, none⟩) hBn).trans hBs
      obtain ⟨c0, c1, c2⟩ := hc.below hnx hb (ids.length - 1 - k) hi
      dsimp only [elv] at hy
      have e1 : (ids.length : Int) - 1 - (k : Int) = ((ids.length - 1 - k : Nat) : Int) := by omega
      rw [e1]
      gi_wp2
      refine hR.mono ?_
      rintro e W3 (⟨rfl, hJ3, hk3⟩ | ⟨rfl, hJx3⟩)
      · gi_wp2
        go_roundw
        case rel => exact ⟨k + 1, by omega, by (simp; omega), by rw [dn_succ hlt]; exact hJ3, hnx.trans hk3⟩
        case measure => (simp [intOf] <;> omega)
      · gi_wp2
        refine bodyPost_ret (results_none rfl _ _ _) rfl ?_
        exact ⟨⟨_, rfl⟩, .inr ⟨_, ⟨k + 1, by omega, (dn_succ hlt).symm⟩, hJx3⟩⟩
    · obtain rfl : k = ids.length := by omega
      gi_wp2
      go_end0
      exact ⟨⟨_, rfl⟩, .inl ⟨_, rfl, hJs⟩⟩

set_option maxRecDepth 100000 in
set_option maxHeartbeats 1000000 in
theorem back1_nil_in (F : Fence) (n : Nat) (h38 : F.fn 38) (hro : F.round = none) (l Bs : Nat) {α : Type} (J : List α → World → Prop) (W : World) (a : Option Addr) (cap : Nat) (hBs : W.cell? ⟨Bs, 0, none⟩ = some (.slice a 0 cap)) (h0 : J [] W) :
    CallsIn F n Try.prog 38 #[.func (.yield l) #[] #[], .pointer (some ⟨Bs, 0, none⟩)] W fun e W' => (∃ v, e = .returned v) ∧ J [] W' := by
  refine callsIn_of_wp Try.func38 rfl h38 ?_ hro
  simp only [Try.ntmps38, List.size_toArray, List.length_cons, List.length_nil, Nat.reduceAdd, Nat.reduceSub, Array.replicate_succ, Array.replicate_zero, List.push_toArray, List.append_toArray, List.nil_append, List.cons_append]
  gi_wp2
  gi_loopw [3] (fun i wr => i = .int .i64 (-1) ∧ J [] wr) (fun _ _ => 0)
  case atStart => exact ⟨by simp, h0⟩
  case round =>
    obtain ⟨rfl, hJs⟩ := hrel
    gi_wp2
    go_end0
    exact ⟨⟨_, rfl⟩, hJs⟩

set_option maxHeartbeats 1000000 in
/-- slices.Backward(s): the slice is boxed; the function value captures the box. -/
theorem back_in (F : Fence) (n : Nat) (h26 : F.fn 26) (hro : F.round = none) (a : Option Addr) (len cap : Nat) (w : World) :
    CallsIn F n Try.prog 26 #[.slice a len cap] w fun e w' => e = .returned (.func (.func 38) #[] #[.pointer (some ⟨w.heap.size, 0, none⟩)]) ∧ w' = w.alloc (.cells #[.slice a len cap] 26) := by
  refine callsIn_of_wp Try.func26 rfl h26 ?_ hro
  simp only [Try.ntmps26, List.size_toArray, List.length_cons, List.length_nil, Nat.reduceAdd, Nat.reduceSub, Array.replicate_succ, Array.replicate_zero, List.push_toArray, List.append_toArray, List.nil_append, List.cons_append]
  gi_wp2
  go_ret
  exact ⟨rfl, rfl⟩

theorem back_stops (F : Fence) (n : Nat) (h38 : F.fn 38) (hro : F.round = none) (hn : 1 ≤ n) (Bs : Nat) (a : Option Addr) (len cap : Nat) (ids : List Id3) (hlen : ids.length < 4611686018427387904) (w : World) (hBs : Bs < w.heap.size)
    (hc : w.cell? ⟨Bs, 0, none⟩ = some (.slice a len cap)) (hI : IdsV w.heap.size w (.slice a len cap) ids) :
    SeqStopsK F n Try.prog 38 #[.pointer (some ⟨Bs, 0, none⟩)] (fun x : Fin ids.length => #[Value.int .i64 (x.1 : Int), elv ids[x.1]]) (Below w.heap.size) (fun ys => ys = dn ids.length ids.length)
      (fun pre => ∃ k, k ≤ ids.length ∧ pre = dn ids.length k) ids.length w := fun l J Jx W hW _ _ hY h0 => by
  have hc' := (hW.cell (p := ⟨Bs, 0, none⟩) hBs).trans hc
  rcases hI.below hW with ⟨rfl, h1⟩ | ⟨b, off, cap', h1, h2, h3⟩
  · have hl : len = 0 := by
      rcases h1 with h1 | ⟨_, _, h1⟩
      · cases h1; rfl
      · cases h1; rfl
    subst hl
    exact (back1_nil_in F n h38 hro l Bs J W a cap hc' h0).mono fun e W' ⟨he, hj⟩ => ⟨he, .inl ⟨_, rfl, hj⟩⟩
  · cases h1
    exact back1_in F n h38 hro hn l Bs w.heap.size b off _ ids hlen h2 hBs J Jx hY W hc' h3 h0

end Go.Proofs.Ytghkcniaialgnaa
end

section
namespace Go.Proofs.Ytghkcniaialgnaa
open Go Go.AM Go.RowKit Go.Shelf
attribute [local go_sem] Oper.semAt_some

theorem alloc_lt {w : World} {o : Obj} {k : Nat} (h : k < w.heap.size) : (w.alloc o).heap[k]? = w.heap[k]? := Below.heap_alloc w o k h
theorem alloc_at {w : World} {o : Obj} {k : Nat} (h : k = w.heap.size) : (w.alloc o).heap[k]? = some o := by rw [h]; exact World.alloc_heap_new w o
theorem cell_at {w : World} {b o : Nat} {arr : Array Value} {t : TypeId} {v : Value} (h : w.heap[b]? = some (.cells arr t (0, 0))) (hv : arr[o]? = some v) : w.cell? ⟨b, o, none⟩ = some v := by simp [World.cell?, h, hv]
theorem frz_at {w : World} {b o : Nat} {arr : Array Value} {t : TypeId} (h : w.heap[b]? = some (.cells arr t (0, 0))) : w.frozen? ⟨b, o, none⟩ = false := by simp [World.frozen?, h]

theorem set_at {w : World} {b : Nat} {arr : Array Value} {t : TypeId} (h : w.heap[b]? = some (.cells arr t (0, 0))) (o : Nat) (v : Value) : (w.setCell ⟨b, o, none⟩ v).heap[b]? = some (.cells (arr.setIfInBounds o v) t (0, 0)) := by
  obtain ⟨hlt, hk⟩ := Array.getElem?_eq_some_iff.1 h
  show (w.heap.modify b _)[b]? = _
  rw [Array.getElem?_eq_getElem (by rw [Array.size_modify]; exact hlt), Array.getElem_modify_self, hk]
  rfl
theorem set_ne {w : World} {b k : Nat} (o : Nat) (v : Value) (h : k ≠ b) : (w.setCell ⟨b, o, none⟩ v).heap[k]? = w.heap[k]? := Below.heap_setCell w ⟨b, o, none⟩ v k h
theorem keeps_below {B : Nat} {W W' : World} (h : Below W.heap.size W W') : KeepsFrom B W W' := ⟨h.size, fun k o _ ho _ => (h.block k (Array.getElem?_eq_some_iff.1 ho).1).trans ho⟩

theorem belowK_m {n m : Nat} {A B : World} (h : Below n A B) (hm : m ≤ n) : Below m A B := ⟨h.os, h.tape, h.output, h.size, fun k hk => h.block k (Nat.lt_of_lt_of_le hk hm)⟩

theorem dn_mem {n k : Nat} {j : Fin n} (h : n - 1 - j.1 < k) : j ∈ dn n k := by
  unfold dn
  refine List.mem_iff_getElem?.2 ⟨n - 1 - j.1, ?_⟩
  have hj := j.2
  rw [List.getElem?_take_of_lt h, List.getElem?_eq_getElem (by simp; omega)]
  simp
  exact Fin.ext (by simp; omega)

set_option maxRecDepth 100000 in
set_option maxHeartbeats 4000000 in
theorem parent_in (w : World) (u0 u1 u2 u4 u5 u6 u7 u8 u9 u10 : Value) (la : Option Addr) (ll lc : Nat) (a : Option Addr) (len cap : Nat) (ids : List Id3) (hlen : ids.length < 4611686018427387904) (bs : Fin ids.length → Bool) (hI : IdsV w.heap.size w (.slice a len cap) ids)
    (hC : ∀ W, Below w.heap.size w W → ∀ i : Fin ids.length, Calls Try.prog 27 #[.slice la ll lc, elv ids[i.1]] W fun e W' => e = .returned (.bool (bs i)) ∧ Below W.heap.size W W') :
    CallsIn Fence.wide 6 Try.prog 9 #[.agg #[u0, u1, u2, .slice a len cap, u4, u5, u6, u7, u8, u9, u10], .slice la ll lc] w fun e W' =>
      ((e = .returned (.tuple #[elv (0, 0, 0), .bool false]) ∧ ∀ i, bs i = false) ∨ (∃ i : Fin ids.length, e = .returned (.tuple #[elv ids[i.1], .bool true]) ∧ bs i = true ∧ ∀ j : Fin ids.length, i.1 < j.1 → bs j = false)) ∧ Below w.heap.size w W' := by
  refine callsIn_of_wp_marks Try.func9 rfl trivial ?_ rfl
  simp only [Try.ntmps9, List.size_toArray, List.length_cons, List.length_nil, Nat.reduceAdd, Nat.reduceSub, Array.replicate_succ, Array.replicate_zero, List.push_toArray, List.append_toArray, List.nil_append, List.cons_append]
  gi_wp2_with (refine ⟨trivial, ?_⟩; gi_at_call 26; refine (back_in Fence.wide _ trivial rfl _ _ _ _).mono ?_; rintro e w' ⟨rfl, rfl⟩)
  obtain ⟨w1, hw1⟩ : ∃ w1, ((((w.alloc (.cells #[u0, u1, u2, .slice a len cap, u4, u5, u6, u7, u8, u9, u10] 30)).alloc (.cells #[.slice la ll lc] 26)).alloc (.cells #[.int .i64 0, .int .i64 0, .int .i64 0] 25)).alloc (.cells #[.bool false] 4)).alloc (.cells #[.slice a len cap] 26) = w1 := ⟨_, rfl⟩
  have hB0 : Below w.heap.size w w1 := by rw [← hw1]; exact (((((Below.refl _ w).alloc (Nat.le_refl _) _).alloc (by simp) _).alloc (by simp; omega) _).alloc (by simp; omega) _).alloc (by simp; omega) _
  have hsz : w1.heap.size = w.heap.size + 5 := by rw [← hw1]; simp
  have b1 : w1.heap[w.heap.size + 1]? = some (.cells #[.slice la ll lc] 26 (0, 0)) := by rw [← hw1, alloc_lt (by simp), alloc_lt (by simp), alloc_lt (by simp)]; exact alloc_at (by simp)
  have b2 : w1.heap[w.heap.size + 1 + 1]? = some (.cells #[.int .i64 0, .int .i64 0, .int .i64 0] 25 (0, 0)) := by rw [← hw1, alloc_lt (by simp), alloc_lt (by simp)]; exact alloc_at (by simp)
  have b3 : w1.heap[w.heap.size + 1 + 1 + 1]? = some (.cells #[.bool false] 4 (0, 0)) := by rw [← hw1, alloc_lt (by simp)]; exact alloc_at (by simp)
  have b4 : w1.heap[w.heap.size + 1 + 1 + 1 + 1]? = some (.cells #[.slice a len cap] 26 (0, 0)) := by rw [← hw1]; exact alloc_at (by simp)
  rw [hw1]
  clear hw1
  refine wpIn_rangeFunc_ownH rfl (by omega) (gf := 38) (lb := #[.pointer (some ⟨w.heap.size + 1 + 1 + 1 + 1, 0, none⟩)]) rfl trivial (enters_of Try.func38 (by kernel_rfl) rfl)
    (back_stops Fence.wide (6 - 1) trivial rfl (by omega) (w.heap.size + 1 + 1 + 1 + 1) a len cap ids hlen w1 (by omega) (by simp [World.cell?, b4]) (by
      rcases hI.below hB0 with h | ⟨b, off, cap', h1, h2, h3⟩
      · exact .inl h
      · exact .inr ⟨b, off, cap', h1, by omega, h3⟩)) belowK_t (belowK_b (Nat.le_refl _)) (Below.refl _ _) (fun _ => rfl)
    (fun pre W => (∀ i ∈ pre, bs i = false) ∧ Below w1.heap.size w1 W)
    (fun c pre W => c = .ret ∧ (∃ ini last, pre = ini ++ [last] ∧ (∀ i ∈ ini, bs i = false) ∧ bs last = true ∧ W.heap[w.heap.size + 1 + 1]? = some (.cells #[.int .i64 ids[last.1].1, .int .i64 ids[last.1].2.1, .int .i64 ids[last.1].2.2] 25 (0, 0)) ∧ W.heap[w.heap.size + 1 + 1 + 1]? = some (.cells #[.bool true] 4 (0, 0))) ∧ Below w.heap.size w W)
    (OwnFrom.and (ownFrom_pure _ _) (ownFrom_below (Nat.le_refl _) (Nat.le_refl _)))
    (fun c s A B row hs hg hr => by
      obtain ⟨rfl, ⟨ini, last, e1, e2, e3, e4, e5⟩, hb⟩ := hs
      have hkeep : ∀ (k : Nat) (o : Obj), k < w1.heap.size → A.heap[k]? = some o → B.heap[k]? = some o := fun k o hk ho =>
        (hg.block k (Array.getElem?_eq_some_iff.1 ho).1 fun e => by have := (hr k e.symm).1; omega).trans ho
      exact ⟨rfl, ⟨ini, last, e1, e2, e3, hkeep _ _ (by omega) e4, hkeep _ _ (by omega) e5⟩, ownFrom_below (β := Unit) (n₀ := w.heap.size) (B := w1.heap.size) (w₀ := w) (Nat.le_refl _) (by omega) () A B row hb hg hr⟩)
    ⟨by simp, Below.refl _ _⟩
    (fun x a' W => ∃ Bx, w1.heap.size ≤ Bx ∧ W.heap[Bx]? = some (.cells #[.int .i64 ids[x.1].1, .int .i64 ids[x.1].2.1, .int .i64 ids[x.1].2.2] 25 (0, 0)) ∧
      a' = { tmps := #[.agg #[u0, u1, u2, .slice a len cap, u4, u5, u6, u7, u8, u9, u10], .slice la ll lc, .pointer (some ⟨w.heap.size, 0, none⟩), .pointer (some ⟨w.heap.size + 1, 0, none⟩), .pointer (some ⟨w.heap.size + 1 + 1, 0, none⟩), .pointer (some ⟨w.heap.size + 1 + 1 + 1, 0, none⟩), undef,
        .pointer (some ⟨Bx, 0, none⟩), .pointer (some ⟨w.heap.size, 3, none⟩), .slice a len cap, .func (.func 38) #[] #[.pointer (some ⟨w.heap.size + 1 + 1 + 1 + 1, 0, none⟩)], .int .i64 (x.1 : Int), elv ids[x.1], undef, undef, undef, undef, undef], defers := [] })
    (fun x a' _ X Y row hs hg hr => by
      obtain ⟨Bx, h1, h2, h3⟩ := hs
      have hlt := (Array.getElem?_eq_some_iff.1 h2).1
      exact ⟨Bx, h1, (hg.block Bx hlt fun e => by obtain ⟨_, o, ho, hc⟩ := hr Bx e.symm; rw [h2] at ho; cases ho; cases hc).trans h2, h3⟩)
    ?assign ?body ?done ?stop
  case assign =>
    rintro l pre x W K ⟨hp, hB⟩ hK
    dsimp only [elv]
    gi_wp2
    exact hK _ _ ((KeepsOthers.alloc _ _).from _) ((Below.refl _ W).alloc hB.size _) ⟨hp, hB.alloc hB.size _⟩ ⟨W.heap.size, hB.size, World.alloc_heap_new W _, rfl⟩
  case body =>
    rintro l pre x a' W hl ⟨r, hr⟩ ⟨hp, hB⟩ ⟨Bx, hBx, bX, rfl⟩ hlt
    have b1' := (hB.block _ (by omega)).trans b1
    have b2' := (hB.block _ (by omega)).trans b2
    have b3' := (hB.block _ (by omega)).trans b3
    have hltX := (Array.getElem?_eq_some_iff.1 bX).1
    have c1 := cell_at (o := 0) b1' rfl
    have x0 := cell_at (o := 0) bX rfl
    have x1 := cell_at (o := 1) bX rfl
    have x2 := cell_at (o := 2) bX rfl
    have hCx := hC W (hB0.trans (belowK_m hB (by omega))) x
    dsimp only [elv] at hCx ⊢
    cases hbx : bs x with
    | false =>
      rw [hbx] at hCx
      gi_wp2_with (refine ⟨trivial, ?_⟩; gi_at_call 27; refine (CallsIn.inRound l (callsIn_wide.2 hCx)).mono ?_; rintro e W' ⟨rfl, hB'⟩)
      exact ⟨keeps_below hB', belowK_m hB' hB.size, fun i hi => by
        rcases List.mem_append.1 hi with hi | hi
        · exact hp i hi
        · rw [List.mem_singleton] at hi; rw [hi]; exact hbx, hB.trans (belowK_m hB' hB.size)⟩
    | true =>
      rw [hbx] at hCx
      gi_wp2_with (refine ⟨trivial, ?_⟩; gi_at_call 27; refine (CallsIn.inRound l (callsIn_wide.2 hCx)).mono ?_; rintro e W' ⟨rfl, hB'⟩; have bX' := (hB'.block _ hltX).trans bX; have x0' := cell_at (o := 0) bX' rfl; have x1' := cell_at (o := 1) bX' rfl; have x2' := cell_at (o := 2) bX' rfl; have b2'' := (hB'.block _ (by have := hB.size; omega)).trans b2'; have b3'' := (hB'.block _ (by have := hB.size; omega)).trans b3'; have y0 := cell_at (o := 0) b2'' rfl; have y1 := cell_at (o := 1) b2'' rfl; have y2 := cell_at (o := 2) b2'' rfl; have z0 := cell_at (o := 0) b3'' rfl; have f0 := frz_at (o := 0) b2''; have f1 := frz_at (o := 1) b2''; have f2 := frz_at (o := 2) b2''; have f3 := frz_at (o := 0) b3'')
      have hs1 := ((KeepsOthers.setCell W' ⟨w.heap.size + 1 + 1, 0, none⟩ (.int .i64 ids[x.1].1)).trans (KeepsOthers.setCell _ ⟨w.heap.size + 1 + 1, 1, none⟩ (.int .i64 ids[x.1].2.1))).trans ((KeepsOthers.setCell _ ⟨w.heap.size + 1 + 1, 2, none⟩ (.int .i64 ids[x.1].2.2)).trans (KeepsOthers.setCell _ ⟨w.heap.size + 1 + 1 + 1, 0, none⟩ (.bool true)))
      refine ⟨(keeps_below hB').trans (hs1.from _), rfl, ⟨pre, x, rfl, hp, hbx, ?_, ?_⟩, ?_⟩
      · rw [set_ne _ _ (by omega)]
        exact set_at (set_at (set_at b2'' _ _) _ _) _ _
      · refine (set_at ((set_ne _ _ (by omega)).trans ((set_ne _ _ (by omega)).trans ((set_ne _ _ (by omega)).trans b3''))) _ _)
      · exact (((((hB0.trans (belowK_m hB (by omega))).trans (belowK_m hB' (by have := hB.size; omega))).setCell (p := ⟨w.heap.size + 1 + 1, 0, none⟩) (by simp; omega) _).setCell (p := ⟨w.heap.size + 1 + 1, 1, none⟩) (by simp; omega) _).setCell (p := ⟨w.heap.size + 1 + 1, 2, none⟩) (by simp; omega) _).setCell (p := ⟨w.heap.size + 1 + 1 + 1, 0, none⟩) (by simp; omega) _
  case done =>
    rintro D ys W hD rfl ⟨hne, hB⟩ hK
    have b2' := (hB.block _ (by omega)).trans b2
    have b3' := (hB.block _ (by omega)).trans b3
    have y0 := cell_at (o := 0) b2' rfl
    have y1 := cell_at (o := 1) b2' rfl
    have y2 := cell_at (o := 2) b2' rfl
    have z0 := cell_at (o := 0) b3' rfl
    have f0 := frz_at (o := 0) b2'
    have f1 := frz_at (o := 1) b2'
    have f2 := frz_at (o := 2) b2'
    have f3 := frz_at (o := 0) b3'
    gi_wp2
    have hs1 := ((KeepsOthers.setCell W ⟨w.heap.size + 1 + 1, 0, none⟩ (.int .i64 0)).trans (KeepsOthers.setCell _ ⟨w.heap.size + 1 + 1, 1, none⟩ (.int .i64 0))).trans ((KeepsOthers.setCell _ ⟨w.heap.size + 1 + 1, 2, none⟩ (.int .i64 0)).trans (KeepsOthers.setCell _ ⟨w.heap.size + 1 + 1 + 1, 0, none⟩ (.bool false)))
    have hK' := hs1.same D _ hK rfl
    have hVb : Below w.heap.size w _ := (((((hB0.trans (belowK_m hB (by omega)))).setCell (p := ⟨w.heap.size + 1 + 1, 0, none⟩) (by simp; omega) (.int .i64 0)).setCell (p := ⟨w.heap.size + 1 + 1, 1, none⟩) (by simp; omega) (.int .i64 0)).setCell (p := ⟨w.heap.size + 1 + 1, 2, none⟩) (by simp; omega) (.int .i64 0)).setCell (p := ⟨w.heap.size + 1 + 1 + 1, 0, none⟩) (by simp; omega) (.bool false)
    have v2 := (set_ne (w.heap.size + 1 + 1 + 1 - (w.heap.size + 1 + 1 + 1)) (.bool false) (by omega : w.heap.size + 1 + 1 ≠ w.heap.size + 1 + 1 + 1)).trans (set_at (set_at (set_at b2' 0 (.int .i64 0)) 1 (.int .i64 0)) 2 (.int .i64 0))
    have v3 := set_at ((set_ne 2 (.int .i64 0) (by omega : w.heap.size + 1 + 1 + 1 ≠ w.heap.size + 1 + 1)).trans ((set_ne 1 (.int .i64 0) (by omega : w.heap.size + 1 + 1 + 1 ≠ w.heap.size + 1 + 1)).trans ((set_ne 0 (.int .i64 0) (by omega : w.heap.size + 1 + 1 + 1 ≠ w.heap.size + 1 + 1)).trans b3'))) 0 (.bool false)
    rw [Nat.sub_self] at v2
    obtain ⟨V, hV⟩ : ∃ V, (((W.setCell ⟨w.heap.size + 1 + 1, 0, none⟩ (.int .i64 0)).setCell ⟨w.heap.size + 1 + 1, 1, none⟩ (.int .i64 0)).setCell ⟨w.heap.size + 1 + 1, 2, none⟩ (.int .i64 0)).setCell ⟨w.heap.size + 1 + 1 + 1, 0, none⟩ (.bool false) = V := ⟨_, rfl⟩
    rw [hV] at v2 v3 hK' hVb ⊢
    refine ⟨by simp, .inl ⟨_, _, rfl, run_takeDeferred hK', ?_⟩⟩
    have q2 := (show (V.putObj D (.deferred none)).heap[w.heap.size + 1 + 1]? = V.heap[w.heap.size + 1 + 1]? from World.putObj_heap_other (by omega)).trans v2
    have q3 := (show (V.putObj D (.deferred none)).heap[w.heap.size + 1 + 1 + 1]? = V.heap[w.heap.size + 1 + 1 + 1]? from World.putObj_heap_other (by omega)).trans v3
    have r0 := cell_at (o := 0) q2 rfl
    have r1 := cell_at (o := 1) q2 rfl
    have r2 := cell_at (o := 2) q2 rfl
    have r3 := cell_at (o := 0) q3 rfl
    refine ⟨.tuple #[elv (0, 0, 0), .bool false], ?_, .inl ⟨rfl, fun i => hne i (dn_mem (by have := i.2; omega))⟩, hVb.trans (belowK_b (w := w) (Nat.le_refl _) V D _ _ (by omega) hK' rfl rfl)⟩
    simp [results, Try.f9, go_sem, r0, r1, r2, r3, elv]
  case stop =>
    rintro D c pre W hD ⟨k, hk, rfl⟩ ⟨rfl, ⟨ini, last, e1, e2, e3, b2', b3'⟩, hB⟩ hK
    gi_wp2
    refine ⟨by simp, .inl ⟨_, _, rfl, run_takeDeferred hK, ?_⟩⟩
    have q2 := (show (W.putObj D (.deferred none)).heap[w.heap.size + 1 + 1]? = W.heap[w.heap.size + 1 + 1]? from World.putObj_heap_other (by omega)).trans b2'
    have q3 := (show (W.putObj D (.deferred none)).heap[w.heap.size + 1 + 1 + 1]? = W.heap[w.heap.size + 1 + 1 + 1]? from World.putObj_heap_other (by omega)).trans b3'
    have r0 := cell_at (o := 0) q2 rfl
    have r1 := cell_at (o := 1) q2 rfl
    have r2 := cell_at (o := 2) q2 rfl
    have r3 := cell_at (o := 0) q3 rfl
    obtain ⟨k', rfl⟩ : ∃ k', k = k' + 1 := by
      cases k with
      | zero => simp [dn] at e1
      | succ k' => exact ⟨k', rfl⟩
    rw [dn_succ (by omega)] at e1
    obtain ⟨rfl, e5⟩ := List.append_inj' e1 rfl
    obtain rfl : (⟨ids.length - 1 - k', by omega⟩ : Fin ids.length) = last := by simpa using e5
    refine ⟨.tuple #[elv ids[ids.length - 1 - k'], .bool true], ?_, .inr ⟨⟨ids.length - 1 - k', by omega⟩, rfl, e3, fun j hj => e2 j ?_⟩, hB.trans (belowK_b (w := w) (Nat.le_refl _) W D _ _ (by omega) hK rfl rfl)⟩
    · simp [results, Try.f9, go_sem, r0, r1, r2, r3, elv]
    · exact dn_mem (by have := j.2; simp at hj; omega)

/-! what node.Parent computes -/
def idOf3 : List AV → Option Id3
  | [.val (.int .i64 a), .val (.int .i64 b), .val (.int .i64 c)] => some (a, b, c)
  | _ => none

def idc3 (x : Id3) : List AV := [.val (.int .i64 x.1), .val (.int .i64 x.2.1), .val (.int .i64 x.2.2)]

theorem idOf_some {e : List AV} {x : Id3} (h : idOf3 e = some x) : e = idc3 x := by
  unfold idOf3 at h
  split at h
  · cases h; rfl
  · cases h

noncomputable def hitsOf (live : LL) : LL → Option (List (Id3 × Bool))
  | [] => some []
  | e :: r => match idOf3 e with
    | some x => (match g27 live x.1 x.2.1 x.2.2, hitsOf live r with | some b, some l => some ((x, b) :: l) | _, _ => none)
    | none => none

theorem hits_spec {live : LL} : ∀ {path : LL} {l : List (Id3 × Bool)}, hitsOf live path = some l → path = l.map (fun p => idc3 p.1) ∧ ∀ p ∈ l, g27 live p.1.1 p.1.2.1 p.1.2.2 = some p.2
  | [], l, h => by
    simp only [hitsOf, Option.some.injEq] at h
    subst h
    exact ⟨rfl, fun _ hp => by cases hp⟩
  | e :: r, l, h => by
    simp only [hitsOf] at h
    split at h
    · rename_i x hx
      split at h
      · rename_i b l' hb hl'
        simp only [Option.some.injEq] at h
        subst h
        obtain ⟨h1, h2⟩ := hits_spec hl'
        refine ⟨by rw [List.map_cons, ← h1, idOf_some hx], fun p hp => ?_⟩
        rcases List.mem_cons.1 hp with rfl | hp
        · exact hb
        · exact h2 p hp
      · cases h
    · cases h

def lastHit : List (Id3 × Bool) → Id3 × Bool
  | [] => ((0, 0, 0), false)
  | p :: r => match (lastHit r).2 with | true => lastHit r | false => if p.2 = true then (p.1, true) else ((0, 0, 0), false)

theorem lastHit_none : ∀ (l : List (Id3 × Bool)), (∀ p ∈ l, p.2 = false) → lastHit l = ((0, 0, 0), false)
  | [], _ => rfl
  | p :: r, h => by
    have := lastHit_none r fun q hq => h q (List.mem_cons_of_mem _ hq)
    have hp := h p (List.mem_cons_self ..)
    simp [lastHit, this, hp]

theorem lastHit_at : ∀ (l : List (Id3 × Bool)) (i : Nat) (hi : i < l.length), l[i].2 = true → (∀ (j : Nat) (hj : j < l.length), i < j → l[j].2 = false) → lastHit l = (l[i].1, true)
  | [], i, hi, _, _ => by simp at hi
  | p :: r, 0, _, hp, h => by
    have := lastHit_none r fun q hq => by
      obtain ⟨j, hj, rfl⟩ := List.getElem_of_mem hq
      have := h (j + 1) (by simp; omega) (by omega)
      simpa using this
    simp only [List.getElem_cons_zero] at hp
    simp [lastHit, this, hp]
  | p :: r, i + 1, hi, hp, h => by
    have := lastHit_at r i (by simpa using hi) (by simpa using hp) fun j hj hij => by
      have := h (j + 1) (by simp; omega) (by omega)
      simpa using this
    simp [lastHit, this]

noncomputable def parR (path live : LL) : Option (Int × Int × Int × Bool) :=
  match hitsOf live path with
  | some l => reqK (l.length < 4611686018427387904) (some ((lastHit l).1.1, (lastHit l).1.2.1, (lastHit l).1.2.2, (lastHit l).2))
  | none => none

noncomputable def parF : List V → Option (Int × Int × Int × Bool)
  | [_, _, _, .l p, _, _, _, _, _, _, _, .l v] => parR p v
  | _ => none

noncomputable def F9.S : Fun := ⟨[.agg [.int .i64, .int .i64, .int .i64, .slice 3, .int .i64, .int .i64, .int .i64, .int .i64, .int .i64, .int .i64, .bool], .c (.slice 3)], [.agg [.int .i64, .int .i64, .int .i64], .c .bool],
  parF⟩

theorem contains_in {live : LL} {x : Id3} {r : Bool} (h : g27 live x.1 x.2.1 x.2.2 = some r) {W : World} {lim : Nat → Nat} {lv : Value} (hl : Rep W lim (.slice false 3 live) lv) :
    Calls Try.prog 27 #[lv, elv x] W fun e W' => e = .returned (.bool r) ∧ Below W.heap.size W W' := by
  have hc : CallOk Try.prog 27 [.slice false 3 live, .agg (idc3 x)] (.val (.bool r)) [.dead, .dead] := ok27 [.l live, .i x.1, .i x.2.1, .i x.2.2] r h
  refine (hc.2 W lim (fun _ _ => none) [lv, elv x] (by simp [AV.isG]) (fun i => ?_) (fun _ _ _ _ _ h => by cases h) (fun _ _ _ h => by cases h)).mono ?_
  · match i with
    | 0 => exact hl
    | 1 => exact .agg (vs := [.int .i64 x.1, .int .i64 x.2.1, .int .i64 x.2.2]) rfl (by simp [idc3, AV.isCell]) (fun i c v hc hv => by
        match i with
        | 0 => simp [idc3] at hc hv; subst hc; subst hv; exact .val rfl
        | 1 => simp [idc3] at hc hv; subst hc; subst hv; exact .val rfl
        | 2 => simp [idc3] at hc hv; subst hc; subst hv; exact .val rfl
        | i + 3 => simp [idc3] at hc)
    | i + 2 => trivial
  · rintro e W' ⟨v, lim', X', rfl, hst, _, hr, _⟩
    have hv : v = .bool r := rep_val (hr 2)
    refine ⟨by rw [hv], hst.os, hst.tape, hst.output, hst.size, fun k hk => (hst.blk k hk ?_).1⟩
    rintro ⟨_, _, h⟩
    cases h

theorem flat_at {α β : Type} (f : α → List β) (n : Nat) (h : ∀ x, (f x).length = n) : ∀ (l : List α) (i k : Nat) (hi : i < l.length), k < n → (l.map f).flatten[i * n + k]? = (f l[i])[k]?
  | [], i, k, hi, _ => by simp at hi
  | a :: r, 0, k, _, hk => by
    rw [List.map_cons, List.flatten_cons, Nat.zero_mul, Nat.zero_add, List.getElem?_append_left (by rw [h]; exact hk)]
    rfl
  | a :: r, i + 1, k, hi, hk => by
    have e : (i + 1) * n + k = n + (i * n + k) := by rw [Nat.succ_mul]; omega
    rw [List.map_cons, List.flatten_cons, e, List.getElem?_append_right (by rw [h]; omega), h, Nat.add_sub_cancel_left, flat_at f n h r i k (by simpa using hi) hk]
    rfl

theorem ids_of_rep {l : List (Id3 × Bool)} {w : World} {lim : Nat → Nat} {v : Value} (h : Rep w lim (.slice false 3 (l.map fun p => idc3 p.1)) v) : ∃ a len cap, v = .slice a len cap ∧ IdsV w.heap.size w v (l.map (·.1)) := by
  have key : ∀ y, Rep w lim y v → y = .slice false 3 (l.map fun p => idc3 p.1) → ∃ a len cap, v = .slice a len cap ∧ IdsV w.heap.size w v (l.map (·.1)) := by
    intro y hy hye
    cases hy with
    | sliceN =>
      injection hye with _ _ h3
      have : l = [] := by simpa using h3.symm
      subst this
      exact ⟨none, 0, 0, rfl, .inl ⟨rfl, .inl rfl⟩⟩
    | @sliceE f s' a cap hf =>
      injection hye with _ _ h3
      have : l = [] := by simpa using h3.symm
      subst this
      exact ⟨_, _, _, rfl, .inl ⟨rfl, .inr ⟨_, _, rfl⟩⟩⟩
    | @sliceC f s' xs b o cap us hs hc hf hle hlim hus hcell hr =>
      injection hye with h1 h2 h3
      subst h2
      subst h3
      have hlen : (l.map fun p => idc3 p.1).length = (l.map (·.1)).length := by simp
      refine ⟨_, _, _, rfl, ?_⟩
      by_cases hl : l = []
      · subst hl
        exact .inl ⟨rfl, .inr ⟨_, _, rfl⟩⟩
      · have hcellAt : ∀ (i : Nat) (hi : i < l.length) (k : Nat) (z : Int), (idc3 l[i].1)[k]? = some (.val (.int .i64 z)) → w.cell? ⟨b, o + (i * 3 + k), none⟩ = some (.int .i64 z) := by
          intro i hi k z hk
          have hk3 : k < 3 := by
            have := (List.getElem?_eq_some_iff.1 hk).1
            simpa [idc3] using this
          have hj : i * 3 + k < us.length := by rw [hus, List.length_map]; omega
          have h4 := flat_at (fun p : Id3 × Bool => idc3 p.1) 3 (fun _ => rfl) l i k hi hk3
          rw [hk] at h4
          have h5 := hr (i * 3 + k) _ _ h4 (List.getElem?_eq_getElem hj)
          have h6 := hcell (i * 3 + k) _ (List.getElem?_eq_getElem hj)
          rw [rep_val h5] at h6
          exact h6
        have h0 := hcellAt 0 (List.length_pos_iff.2 hl) 0 _ rfl
        refine .inr ⟨b, o, cap, by rw [hlen], lt_of_cell h0, fun i hi => ?_⟩
        have hi' : i < l.length := by simpa using hi
        simp only [List.getElem_map]
        exact ⟨hcellAt i hi' 0 _ rfl, hcellAt i hi' 1 _ rfl, hcellAt i hi' 2 _ rfl⟩
    | val _ => cases hye
    | agg _ _ _ => cases hye
  exact key _ h rfl

theorem rep_slice_form {w : World} {lim : Nat → Nat} {f : Bool} {n : Nat} {xs : LL} {v : Value} (h : Rep w lim (.slice f n xs) v) : ∃ a k c, v = .slice a k c := by
  have key : ∀ y, Rep w lim y v → y = .slice f n xs → ∃ a k c, v = .slice a k c := by
    intro y hy hye
    cases hy with
    | sliceN => exact ⟨_, _, _, rfl⟩
    | sliceE _ => exact ⟨_, _, _, rfl⟩
    | sliceC => exact ⟨_, _, _, rfl⟩
    | val _ => cases hye
    | agg _ _ _ => cases hye
  exact key _ h rfl

theorem step_below {w W : World} {lim : Nat → Nat} {S : Nat → Prop} (h : Below w.heap.size w W) : WStep w lim W lim S :=
  ⟨h.os, h.tape, h.output, h.size, fun a ha => by (unfold World.frozen?; rw [h.block _ ha]), fun b hb _ => ⟨h.block b hb, rfl⟩, fun b hb => ⟨Nat.le_refl _, fun o u _ hu => (h.cell (p := ⟨b, o, none⟩) hb).trans hu⟩⟩

theorem ext_below {w W : World} {lim : Nat → Nat} (h : Below w.heap.size w W) : Ext w lim W lim := (step_below (S := fun _ => False) h).ext

set_option maxRecDepth 10000 in
theorem parent_ok {cs0 : List AV} {p live : LL} {x : Id3} {b : Bool} (has : cs0.length = 11) (ha3 : cs0[3]? = some (.slice false 3 p)) (h : parR p live = some (x.1, x.2.1, x.2.2, b)) :
    CallOk Try.prog 9 [.agg cs0, .slice false 3 live] (.tuple [.agg (idc3 x), .val (.bool b)]) [.dead, .dead] := by
  unfold parR at h
  split at h
  case h_2 => cases h
  rename_i l hl
  obtain ⟨hlen, hx⟩ := reqK_some h
  simp only [Option.some.injEq, Prod.mk.injEq] at hx
  obtain ⟨e1, e2, e3, e4⟩ := hx
  obtain ⟨hp, hb⟩ := hits_spec hl
  have hlx : lastHit l = (x, b) := by
    rcases hlh : lastHit l with ⟨⟨y1, y2, y3⟩, c⟩
    rw [hlh] at e1 e2 e3 e4
    simp only at e1 e2 e3 e4
    subst e1; subst e2; subst e3; subst e4
    rfl
  refine ⟨⟨Try.f9, Try.func9, by kernel_rfl, by kernel_rfl⟩, fun w lim X cargs hcl hrel hdist hsize => ?_⟩
  have h0 : Rep w lim (.agg cs0) (cargs.getD 0 undef) := hrel 0
  have h1 : Rep w lim (.slice false 3 live) (cargs.getD 1 undef) := hrel 1
  obtain ⟨la, ll, lc, hlv⟩ := rep_slice_form h1
  have hcl' : cargs.length ≤ 2 := by simpa [AV.isG] using hcl
  obtain ⟨vs, hv, hvl, hvr⟩ := rep_agg h0
  match cargs, hcl' with
  | [], _ => simp [undef] at hlv
  | [_], _ => simp [undef] at hlv
  | _ :: _ :: _ :: _, hc => simp at hc
  | [A, B], _ =>
    simp only [List.getD_cons_zero, List.getD_cons_succ] at hv hlv h1
    subst hv
    subst hlv
    rw [has] at hvl
    match vs, hvl with
    | [u0, u1, u2, u3, u4, u5, u6, u7, u8, u9, u10], _ =>
      have hr3 : Rep w lim (.slice false 3 p) u3 := hvr 3 _ _ ha3 rfl
      rw [hp] at hr3
      obtain ⟨a, len, cap, rfl, hI⟩ := ids_of_rep hr3
      have hin := parent_in w u0 u1 u2 u4 u5 u6 u7 u8 u9 u10 la ll lc a len cap (l.map (·.1)) (by simpa using hlen) (fun i => (l[i.1]'(by simpa using i.2)).2) hI
        (fun W hW i => by
          have hi : i.1 < l.length := by simpa using i.2
          have := contains_in (hb _ (List.getElem_mem hi)) (h1.mono (ext_below hW))
          simpa only [List.getElem_map] using this)
      refine (callsIn_wide.1 hin).mono ?_
      rintro e W' ⟨hres, hB⟩
      have hre : e = .returned (.tuple #[elv x, .bool b]) := by
        rcases hres with ⟨rfl, hall⟩ | ⟨i, rfl, hi, hall⟩
        · have := lastHit_none l fun q hq => by
            obtain ⟨j, hj, rfl⟩ := List.getElem_of_mem hq
            exact hall ⟨j, by simpa using hj⟩
          rw [this] at hlx
          cases hlx
          rfl
        · have hi' : i.1 < l.length := by simpa using i.2
          have := lastHit_at l i.1 hi' hi fun j hj hij => hall ⟨j, by simpa using hj⟩ hij
          rw [this] at hlx
          cases hlx
          simp
      subst hre
      refine ⟨_, lim, fun _ _ => none, rfl, step_below hB, rfl, fun i => ?_, (fun _ _ _ _ _ h => by cases h), (fun _ _ _ h => by cases h), fun i hi => ?_⟩
      · match i with
        | 0 => trivial
        | 1 => trivial
        | 2 =>
          refine ⟨[elv x, .bool b], rfl, rfl, fun i c u hc hu => ?_⟩
          match i with
          | 0 =>
            simp at hc hu
            subst hc
            subst hu
            exact Rep.agg (vs := [.int .i64 x.1, .int .i64 x.2.1, .int .i64 x.2.2]) rfl (by simp [idc3, AV.isCell]) (fun i c v hc hv => by
              match i with
              | 0 => simp [idc3] at hc hv; subst hc; subst hv; exact .val rfl
              | 1 => simp [idc3] at hc hv; subst hc; subst hv; exact .val rfl
              | 2 => simp [idc3] at hc hv; subst hc; subst hv; exact .val rfl
              | i + 3 => simp [idc3] at hc)
          | 1 =>
            simp at hc hu
            subst hc
            subst hu
            exact Rep.val rfl
          | i + 2 => simp at hc
        | i + 3 => trivial
      · match i with
        | 0 => cases hi
        | 1 => cases hi
        | 2 => cases hi
        | i + 3 => cases hi

theorem ok9 : F9.S.Ok Try.prog 9 := by
  intro vs r
  show parF vs = some r → _
  intro h'
  unfold parF at h'
  split at h'
  · exact parent_ok (x := (r.1, r.2.1, r.2.2.1)) (b := r.2.2.2) rfl rfl h'
  · cases h'

noncomputable def g9 (x0 x1 x2 : Int) (x3 : LL) (x4 x5 x6 x7 x8 x9 : Int) (x10 : Bool) (x11 : LL) : Option (Int × Int × Int × Bool) := F9.S.g [.i x0, .i x1, .i x2, .l x3, .i x4, .i x5, .i x6, .i x7, .i x8, .i x9, .b x10, .l x11]
theorem g9_eq (x0 x1 x2 : Int) (x3 : LL) (x4 x5 x6 x7 x8 x9 : Int) (x10 : Bool) (x11 : LL) : g9 x0 x1 x2 x3 x4 x5 x6 x7 x8 x9 x10 x11 = parR x3 x11 := rfl

end Go.Proofs.Ytghkcniaialgnaa
end
