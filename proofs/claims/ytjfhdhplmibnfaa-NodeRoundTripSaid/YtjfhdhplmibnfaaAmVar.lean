/- Variables made and written, slices of one's own handed on and appended to. Generic: no program stands in it. -/
import Derived.Test.YtjfhdhplmibnfaaAmNew
namespace Go.AM

theorem dead_of_box {x : AV} {cs : List AV} (h : mayPutS x (.box cs) = true) : ∀ ds, x ≠ .box ds := mayPutS_old h

theorem not_size {c : Ctx} {σ : Nat → AV} {tm : Array Value} {w : World} {lim : Nat → Nat} {X : Nat → Nat → Option Nat} (h : Sim c σ tm w lim X) (i j : Nat) : X i j ≠ some w.heap.size := by
  intro e
  have := (h.ours i j _ e).1
  omega

/-- A box is laid into a slot. -/
theorem after_box {c : Ctx} {σ : Nat → AV} {tm : Array Value} {w : World} {lim : Nat → Nat} {X : Nat → Nat → Option Nat} (h : Sim c σ tm w lim X) {dst : Option Tmp} {cs : List AV} {us : List Value} {t : TypeId}
    (hl : cs.length = us.length) (hb : ∀ x ∈ cs, boxCell x) (hr : ∀ (i : Nat) (x : AV) (u : Value), cs[i]? = some x → us[i]? = some u → (x.isCell = true ∧ Rep w lim x u) ∨ (∃ e, x = .own e [] ∧ u = .slice none 0 0)) :
    After c dst σ (.box cs) tm (.pointer (some ⟨w.heap.size, 0, none⟩)) (w.alloc (.cells us.toArray t)) := by
  have hstep := wstep_alloc w lim us.toArray t 0 (fun _ => False)
  cases dst with
  | none => exact ⟨_, X, h.world hstep fun _ hs => hs.elim⟩
  | some d =>
    intro hd hm
    have h1 := h.world hstep fun _ hs => hs.elim
    refine ⟨_, _, h1.putRow (oneRow (some w.heap.size)) (WStep.refl _ _ (fun _ => False)) (fun _ hs => hs.elim) hd (tm' := tm.setIfInBounds d (.pointer (some ⟨w.heap.size, 0, none⟩))) (by simp) (fun i hi => getD_set_other tm d i _ hi) (.inl (dead_of_box hm)) ?_ (fun k b hk => ?_) (fun k k' b hk hk' => ?_)⟩
    · rw [getD_set tm d _ (by rw [h.size]; exact hd)]
      refine .inl ⟨w.heap.size, us.toArray, t, ?_, rfl, heap_new w _ t, by simp [hl], if_pos rfl, hb, fun i x u hx hu => ?_⟩
      · rw [rowX_same]; rfl
      · have hrow : rowX X d (oneRow (some w.heap.size)) d (i + 1) = none := by rw [rowX_same]; simp [oneRow]
        rw [hrow]
        rcases hr i x u hx (by simpa using hu) with ⟨h2, h3⟩ | ⟨e, rfl, rfl⟩
        · have h4 := h3.mono hstep.ext
          cases x <;> simp [AV.isCell] at h2 <;> exact h4
        · exact .inl ⟨[], World.ownsRow_nil _ 0 e _, rfl, by simp, by simp, by simp, by simp⟩
    · unfold oneRow at hk
      split at hk
      · simp only [Option.some.injEq] at hk
        subst hk
        exact ⟨by simp, .inr h.frm.size, fun i j _ => not_size h i j⟩
      · cases hk
    · unfold oneRow at hk hk'
      split at hk <;> split at hk'
      · omega
      · cases hk'
      · cases hk
      · cases hk

theorem exok_box {P : Program} {o : Oper} {σ : Nat → AV} {T : TypeId} {x : Operand} {y : AV} {cs : List AV} (ho : o.op = .box T x) (hx : getS P σ x = y) (hcs : y.cells? = some cs) :
    ExOK P o σ (.box cs) [] [] := by
  intro c hc σ' tm w lim X hag hsim next Q hn
  have hg : getS P σ' x = getS P σ x := getS_congr fun t ht => hag t (by simp [mem_uses (o := o) (x := x) (by rw [ho]; simp [Op.operands]) ht])
  obtain ⟨us, h1, h2⟩ := cells_rel hcs (opnd hc hsim hx hg)
  refine wp_of_run (v := .pointer (some ⟨w.heap.size, 0, none⟩)) (w' := w.alloc (.cells us.toArray T)) ?_ (hn _ _ (after_box hsim h2.1 (fun z hz => .inl (h2.2.1 z hz)) fun i z u hz hu => .inl ⟨h2.2.1 z (List.mem_of_getElem? hz), h2.2.2 i z u hz hu⟩))
  simp [execOp, ho, Instr.box, newVar, newRow, h1]

def zeroOk (cs : List AV) (us : List Value) : Prop :=
  cs.length = us.length ∧ ∀ (i : Nat) (x : AV) (u : Value), cs[i]? = some x → us[i]? = some u → ofCS u = some x ∨ (∃ e, x = .own e [] ∧ u = .slice none 0 0)

theorem exok_alloc {P : Program} {o : Oper} {σ : Nat → AV} {T : TypeId} {i : TypeInfo} {z : Value} {cs : List AV} (ho : o.op = .alloc T) (hi : P.info? T = some i) (hz : i.zero = some z)
    (hcs : zeroOk cs z.cells.toList) : ExOK P o σ (.box cs) [] [] := by
  intro c hc σ' tm w lim X hag hsim next Q hn
  refine wp_of_run (v := .pointer (some ⟨w.heap.size, 0, none⟩)) (w' := w.alloc (.cells z.cells.toList.toArray T)) ?_ (hn _ _ (after_box hsim hcs.1 (fun x hx => ?_) fun j x u hx hu => ?_))
  · simp [execOp, ho, Instr.alloc, zeroValue, typeInfo, hi, hz, newVar, newRow]
  · obtain ⟨j, hj⟩ := List.mem_iff_getElem?.1 hx
    have hlt : j < z.cells.toList.length := by rw [← hcs.1]; exact (List.getElem?_eq_some_iff.1 hj).1
    rcases hcs.2 j x _ hj (List.getElem?_eq_getElem hlt) with h | ⟨e, h, _⟩
    · exact .inl (ofCS_rep (w := w) (lim := lim) h).1
    · exact .inr ⟨e, [], h⟩
  · rcases hcs.2 j x u hx hu with h | h
    · exact .inl (ofCS_rep h)
    · exact .inr h

theorem replicate_zero (zs : List Value) (len : Nat) : ((Array.range (len * zs.length)).map fun i => zs.toArray[i % zs.toArray.size]!) = ((List.replicate len zs).flatten).toArray := by
  by_cases hz : zs = []
  · subst hz
    have : (List.replicate len ([] : List Value)).flatten = [] := by simp
    simp [this]
  · have hpos : 0 < zs.length := List.length_pos_iff.2 hz
    apply Array.toList_inj.1
    rw [Array.toList_map]
    apply List.ext_getElem?
    intro j
    by_cases hj : j < len * zs.length
    · have h1 : ((Array.range (len * zs.length)).toList)[j]? = some j := by simp [hj]
      rw [List.getElem?_map, h1]
      simp only [Option.map_some, List.size_toArray]
      have hm : j % zs.length < zs.length := Nat.mod_lt _ hpos
      have hd : j / zs.length < len := Nat.div_lt_of_lt_mul (by rw [Nat.mul_comm]; exact hj)
      have hflat : ∀ (n : Nat) (k : Nat), k < n → ∀ m, m < zs.length → ((List.replicate n zs).flatten)[k * zs.length + m]? = zs[m]? := by
        intro n
        induction n with
        | zero => intro k hk; omega
        | succ n ih =>
          intro k hk m hm
          simp only [List.replicate_succ, List.flatten_cons]
          cases k with
          | zero => rw [Nat.zero_mul, Nat.zero_add, List.getElem?_append_left hm]
          | succ k =>
            rw [List.getElem?_append_right (by rw [Nat.add_mul]; omega)]
            have : (k + 1) * zs.length + m - zs.length = k * zs.length + m := by rw [Nat.add_mul]; omega
            rw [this]
            exact ih k (by omega) m hm
      have := hflat len (j / zs.length) hd (j % zs.length) hm
      have hj' : j / zs.length * zs.length + j % zs.length = j := by rw [Nat.mul_comm]; exact Nat.div_add_mod j zs.length
      rw [hj'] at this
      show some _ = ((List.replicate len zs).flatten)[j]?
      rw [this]
      simp [hm]
    · have h1 : ((Array.range (len * zs.length)).toList)[j]? = none := by simp; omega
      rw [List.getElem?_map, h1]
      have : ((List.replicate len zs).flatten).length ≤ j := by simp; omega
      show none = ((List.replicate len zs).flatten)[j]?
      rw [List.getElem?_eq_none this]

theorem relL_replicate {w : World} {lim : Nat → Nat} {cs : List AV} {us : List Value} (h : RelL w lim cs us) : ∀ (n : Nat), RelL w lim ((List.replicate n cs).flatten) ((List.replicate n us).flatten)
  | 0 => RelL.nil w lim
  | n + 1 => by
    simp only [List.replicate_succ, List.flatten_cons]
    exact h.append (relL_replicate h n)

/-- Elements, out of all their cells. -/
def elems (size : Nat) (cs : List AV) (n : Nat) : List (List AV) := (List.range n).map fun j => (cs.drop (j * size)).take size

theorem elems_flatten (size : Nat) : ∀ (n : Nat) (cs : List AV), cs.length = n * size → (elems size cs n).flatten = cs := by
  intro n
  induction n with
  | zero => intro cs h; simp at h; subst h; simp [elems]
  | succ n ih =>
    intro cs h
    have h1 : (cs.take (n * size)).length = n * size := by simp [h, Nat.add_mul]
    have e1 : elems size cs (n + 1) = elems size (cs.take (n * size)) n ++ [(cs.drop (n * size)).take size] := by
      simp only [elems, List.range_succ, List.map_append, List.map_cons, List.map_nil]
      congr 1
      apply List.map_congr_left
      intro j hj
      have hj' : j < n := List.mem_range.1 hj
      have hm : j * size + size ≤ n * size := by rw [← Nat.succ_mul]; exact Nat.mul_le_mul_right _ hj'
      rw [List.drop_take, List.take_take]
      congr 1
      omega
    rw [e1, List.flatten_append, ih _ h1]
    simp only [List.flatten_cons, List.flatten_nil, List.append_nil]
    have : (cs.drop (n * size)).take size = cs.drop (n * size) := List.take_of_length_le (by simp [h, Nat.add_mul])
    rw [this, List.take_append_drop]

end Go.AM
