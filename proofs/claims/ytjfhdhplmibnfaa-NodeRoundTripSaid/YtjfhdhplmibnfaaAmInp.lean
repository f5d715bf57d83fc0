/- Slices that are made and written in place. Generic: no program stands in it. -/
import Derived.Test.YtjfhdhplmibnfaaAmCall
import Derived.Laws.MakeOwn
import Derived.Laws.CopyRow
namespace Go.AM

theorem after_row {c : Ctx} {σ : Nat → AV} {tm : Array Value} {w : World} {lim : Nat → Nat} {X : Nat → Nat → Option Nat} (h : Sim c σ tm w lim X) {dst : Option Tmp} {e : TypeId} {n : Nat} {xs : List (List AV)} {arr : Array Value}
    (hl : xs.length = n) (hm : n ≤ maxLen) (ha : arr.size = n * c.P.cellsOf e) (h1 : ∀ x ∈ xs, x.length = c.P.cellsOf e) (h2 : ∀ x ∈ xs, ∀ z ∈ x, z.isCell = true)
    (hr : ∀ (j : Nat) (z : AV) (u : Value), xs.flatten[j]? = some z → arr[j]? = some u → Rep w lim z u) :
    After c dst σ (.box [.row e n n xs]) tm (.slice (some ⟨w.heap.size, 0, none⟩) n n) (w.alloc (.cells arr e)) := by
  have hstep := wstep_alloc w lim arr e 0 (fun _ => False)
  cases dst with
  | none => exact ⟨_, X, h.world hstep fun _ hs => hs.elim⟩
  | some d =>
    intro hd hmp
    have h1' := h.world hstep fun _ hs => hs.elim
    refine ⟨_, _, h1'.putRow (oneRow (some w.heap.size)) (WStep.refl _ _ (fun _ => False)) (fun _ hs => hs.elim) hd (tm' := tm.setIfInBounds d (.slice (some ⟨w.heap.size, 0, none⟩) n n)) (by simp) (fun i hi => getD_set_other tm d i _ hi) (.inl (dead_of_box hmp)) ?_ (fun k b hk => ?_) (fun k k' b hk hk' => ?_)⟩
    · rw [getD_set tm d _ (by rw [h.size]; exact hd)]
      refine .inr ⟨e, n, n, xs, rfl, w.heap.size, arr, ?_, rfl, heap_new w _ e, if_pos rfl, hl, Nat.le_refl _, hm, ha, h1, h2, fun j z u hz hu => (hr j z u hz hu).mono hstep.ext⟩
      rw [rowX_same]
      rfl
    · unfold oneRow at hk
      split at hk
      · simp only [Option.some.injEq] at hk
        subst hk
        exact ⟨by simp, .inr h.frm.size, fun i j _ => not_size h i j⟩
      · cases hk
    · unfold oneRow at hk hk'
      split at hk <;> split at hk'
      · omega
      · cases hk'
      · cases hk
      · cases hk

/-- The cells of a slice that is written in place are written. -/
theorem Sim.setRow {c : Ctx} {σ : Nat → AV} {tm : Array Value} {w : World} {lim : Nat → Nat} {X : Nat → Nat → Option Nat} (h : Sim c σ tm w lim X) {d b n cap : Nat} {e : TypeId} {xs xs' : List (List AV)} {arr arr' : Array Value}
    (hd : σ d = .box [.row e n cap xs]) (hX : X d 0 = some b) (hheap : w.heap[b]? = some (.cells arr e (0, 0))) (hsz : arr'.size = arr.size) (hl : xs'.length = n) (h1 : ∀ x ∈ xs', x.length = c.P.cellsOf e) (h2 : ∀ x ∈ xs', ∀ z ∈ x, z.isCell = true)
    (hr : ∀ (j : Nat) (z : AV) (u : Value), xs'.flatten[j]? = some z → arr'[j]? = some u → Rep w lim z u) :
    ∃ X', Sim c (upd σ d (.box [.row e n cap xs'])) tm (w.setRow b arr') lim X' := by
  have hrel := h.rel d
  rw [hd] at hrel
  obtain ⟨b0, arr0, g1, g2, g3, g4, g5, g6, g7, g8, g9, g10, g11⟩ := BoxR.row hrel
  have hb0 : b0 = b := by rw [g1] at hX; exact Option.some.inj hX
  subst hb0
  rw [g3] at hheap
  simp only [Option.some.injEq, Obj.cells.injEq, and_true] at hheap
  subst hheap
  have hstep := wstep_setRow (cs := arr') g3 g4
  have hdn : d < c.nt := by
    rcases Nat.lt_or_ge d c.nt with hlt | hge
    · exact hlt
    · have := h.out d hge; rw [hd] at this; cases this
  refine ⟨_, h.putRow (S := fun b => b = b0) (oneRow (some b0)) hstep (fun b' hb' => ⟨0, by rw [hb']; exact g1⟩) hdn rfl (fun i _ => rfl) (.inr ⟨⟨_, rfl, fun cs0 h0 => by (rw [hd] at h0; cases h0; intro e2 n2 cap2 xs2 he2; cases he2; exact ⟨xs', rfl⟩)⟩, g1.symm, rfl⟩) ?_ (fun k b' hk => ?_) (fun k k' b' hk hk' => ?_)⟩
  · refine .inr ⟨e, n, cap, xs', rfl, b0, arr', ?_, g2, setRow_heap w b0 arr0 arr' e _ g3, g4, hl, g6, g7, by rw [hsz]; exact g8, h1, h2, fun j z u hz hu => (hr j z u hz hu).mono hstep.ext⟩
    rw [rowX_same]
    rfl
  · unfold oneRow at hk
    split at hk
    · simp only [Option.some.injEq] at hk
      subst hk
      exact ⟨by have := (h.ours d 0 b0 g1).1; simpa using this, (h.ours d 0 b0 g1).2, fun i j hi hij => hi (h.dist i j d 0 b0 hij g1).1⟩
    · cases hk
  · unfold oneRow at hk hk'
    split at hk <;> split at hk'
    · omega
    · cases hk'
    · cases hk
    · cases hk

theorem exok_make {P : Program} {o : Oper} {σ : Nat → AV} {T e : TypeId} {t : Nat} {i : TypeInfo} {z : Value} {zc zc' : List AV} {k : IntKind} {m : Int} (ho : o.op = .makeSlice T (.tmp t) (.tmp t)) (hT : P.underlying T = some (.slice e)) (hi : P.info? e = some i)
    (hz : i.zero = some z) (hzs : z.cells.size = i.size) (hzc : ofCsS z.cells.toList = some zc) (ht : getS P σ (.tmp t) = .val (.int k m)) (h0 : 0 ≤ m) (hm : m.toNat * (i.bytes + 1) ≤ roomMax)
    (hw : zc'.length = zc.length ∧ ∀ (w : World) (lim : Nat → Nat) (us : List Value), RelL w lim zc us → RelL w lim zc' us) :
    ExOK P o σ (.box [.row e m.toNat m.toNat (List.replicate m.toNat zc')]) [] [] := by
  intro c hc σ' tm w lim X hag hsim next Q hn
  have hg : getS P σ' (.tmp t) = getS P σ (.tmp t) := getS_congr fun t' ht' => hag t' (by simp [mem_uses (o := o) (x := .tmp t) (by rw [ho]; simp [Op.operands]) ht'])
  have hv : Act.eval ⟨tm, []⟩ (.tmp t) = .int k m := opnd_val hc hsim ht hg
  have hsz : P.cellsOf e = i.size := cellsOf_info hi
  have hzr := hw.2 w lim _ (ofCsS_relL (w := w) (lim := lim) hzc)
  have hzl : z.cells.toList.length = i.size := by rw [← hzs]; simp
  have hb1 : m.toNat ≤ 1099511627776 := by
    have : m.toNat * 1 ≤ m.toNat * (i.bytes + 1) := Nat.mul_le_mul_left _ (by omega)
    unfold roomMax at hm
    omega
  have hb2 : (i.bytes : Int) * m ≤ 281474976710656 := by
    have h1 : m.toNat * i.bytes ≤ m.toNat * (i.bytes + 1) := Nat.mul_le_mul_left _ (by omega)
    unfold roomMax at hm
    have h2 : ((m.toNat * i.bytes : Nat) : Int) = (i.bytes : Int) * m := by
      rw [Int.natCast_mul, Int.mul_comm]
      congr 1
      omega
    omega
  have hmx : (1099511627776 : Nat) ≤ maxLen := by decide
  have hrun := run_make (P := P) w T e i z hT hi hz k k m m h0 (Int.le_refl _) hb2 (by omega)
  have hmade : madeCells z.cells (m.toNat * i.size) = ((List.replicate m.toNat z.cells.toList).flatten).toArray := by
    have := replicate_zero z.cells.toList m.toNat
    rw [hzl, Array.toArray_toList] at this
    exact this
  have hrl := relL_replicate hzr m.toNat
  have hx1 : ∀ x ∈ List.replicate m.toNat zc', x.length = c.P.cellsOf e := by
    intro x hx
    rw [(List.mem_replicate.1 hx).2, hzr.1, hzl, hc, hsz]
  refine wp_of_run (v := .slice (some ⟨w.heap.size, 0, none⟩) m.toNat m.toNat) (w' := w.alloc (.cells (madeCells z.cells (m.toNat * i.size)) e)) ?_ (hn _ _ (after_row hsim (by simp) (by omega) (by rw [size_madeCells, hc, hsz]) hx1 (fun x hx y hy => ?_) fun j y u hy hu => ?_))
  · simp only [execOp, ho, hv, Sem.run_bind, hrun, Result.andThen_ok, Sem.run_pure]
  · rw [(List.mem_replicate.1 hx).2] at hy
    exact hzr.2.1 y hy
  · rw [hmade] at hu
    exact hrl.2.2 j y u hy (by simpa using hu)

/-- The slice in another slot, and its block. -/
theorem mref_row {c : Ctx} {σ : Nat → AV} {tm : Array Value} {w : World} {lim : Nat → Nat} {X : Nat → Nat → Option Nat} (h : Sim c σ tm w lim X) {d k n cap : Nat} {e : TypeId} {xs : List (List AV)} {v : Value}
    (hd : σ d = .box [.row e n cap xs]) (hv : SlotR c.P w lim X σ k (.mref d) v) : ∃ b arr, X d 0 = some b ∧ v = .slice (some ⟨b, 0, none⟩) n cap ∧ w.heap[b]? = some (.cells arr e (0, 0)) ∧ lim b = 0 ∧ xs.length = n ∧ n ≤ cap ∧ cap ≤ maxLen ∧
      arr.size = cap * c.P.cellsOf e ∧ (∀ x ∈ xs, x.length = c.P.cellsOf e) ∧ (∀ x ∈ xs, ∀ c ∈ x, c.isCell = true) ∧ ∀ (j : Nat) (c : AV) (u : Value), xs.flatten[j]? = some c → arr[j]? = some u → Rep w lim c u := by
  obtain ⟨b, e', n', cap', xs', h1, h2, h3⟩ := hv
  rw [hd] at h2
  simp only [AV.box.injEq, List.cons.injEq, AV.row.injEq, and_true] at h2
  obtain ⟨rfl, rfl, rfl, rfl⟩ := h2
  have hrel := h.rel d
  rw [hd] at hrel
  obtain ⟨b0, arr, g1, g2, g3⟩ := BoxR.row hrel
  have : b0 = b := by rw [g1] at h1; exact Option.some.inj h1
  subst this
  exact ⟨b0, arr, g1, h3, g3⟩

theorem exok_index_row {P : Program} {o : Oper} {σ : Nat → AV} {T e : TypeId} {x i : Operand} {d n cap : Nat} {xs : List (List AV)} {k : IntKind} {z : Int} (ho : o.op = .indexAddr T x i)
    (hT : P.underlying T = some (.slice e)) (hs0 : P.cellsOf e ≠ 0) (hx : getS P σ x = .mref d) (hd : σ d = .box [.row e n cap xs]) (hi : getS P σ i = .val (.int k z)) (h0 : 0 ≤ z) (hz : z.toNat < n) :
    ExOK P o σ (.ptr d (z.toNat * P.cellsOf e + 0)) [] [d] := by
  refine exok_plain [d] rfl fun c hc σ' tm w lim X hg hfp hsim => ?_
  rw [ho] at hg
  have hv := opnd hc hsim hx (hg x (by simp [Op.operands]))
  have hiv := opnd_val hc hsim hi (hg i (by simp [Op.operands]))
  have hd' : σ' d = .box [.row e n cap xs] := by rw [hfp d (by simp), hd]
  rw [← hc] at hv
  obtain ⟨b, arr, g1, g2, g3⟩ := mref_row hsim hd' hv
  obtain ⟨inf, hinf⟩ := info_of_cells hs0
  have hsz : P.cellsOf e = inf.size := cellsOf_info hinf
  refine ⟨.pointer (some ⟨b, z.toNat * P.cellsOf e + 0, none⟩), ?_, b, _, g1, hd', rfl⟩
  have hb : 0 ≤ z ∧ z < (n : Int) := ⟨h0, by omega⟩
  simp [execOp, ho, g2, hiv, Instr.indexAt, asIntOf, run_underlying hT, hb, run_sizeOf hinf, add_none]

theorem flatten_take_n {s : Nat} : ∀ (xs : List (List AV)) (k : Nat), (∀ x ∈ xs, x.length = s) → (xs.take k).flatten = xs.flatten.take (k * s)
  | [], k, _ => by simp
  | x :: xs, 0, _ => by simp
  | x :: xs, k + 1, h => by
    have hx : x.length = s := h x (by simp)
    simp only [List.take_succ_cons, List.flatten_cons]
    rw [flatten_take_n xs k fun y hy => h y (by simp [hy]), List.take_append]
    have e1 : (k + 1) * s - x.length = k * s := by rw [Nat.succ_mul]; omega
    rw [e1, List.take_of_length_le (l := x) (by rw [Nat.succ_mul]; omega)]

theorem flatten_drop_n {s : Nat} : ∀ (xs : List (List AV)) (k : Nat), (∀ x ∈ xs, x.length = s) → (xs.drop k).flatten = xs.flatten.drop (k * s)
  | [], k, _ => by simp
  | x :: xs, 0, _ => by simp
  | x :: xs, k + 1, h => by
    have hx : x.length = s := h x (by simp)
    simp only [List.drop_succ_cons, List.flatten_cons]
    rw [flatten_drop_n xs k fun y hy => h y (by simp [hy]), List.drop_append]
    have e1 : (k + 1) * s - x.length = k * s := by rw [Nat.succ_mul]; omega
    rw [e1, List.drop_of_length_le (l := x) (by rw [Nat.succ_mul]; omega)]
    rfl

theorem setElem_flatten {s : Nat} {xs : List (List AV)} {i o : Nat} {e : List AV} (h : ∀ x ∈ xs, x.length = s) (hi : i < xs.length) (ho : o + e.length ≤ s) :
    (setElem xs i o e).flatten = xs.flatten.take (i * s + o) ++ e ++ xs.flatten.drop (i * s + o + e.length) := by
  have hx : xs[i].length = s := h _ (List.getElem_mem hi)
  have e0 : xs = xs.take i ++ xs[i] :: xs.drop (i + 1) := by rw [List.getElem_cons_drop, List.take_append_drop]
  have hl : (xs.take i).flatten.length = i * s := by
    rw [flatten_take_n xs i h, List.length_take, getD_replicate_flat xs _ h]
    have : i * s ≤ xs.length * s := Nat.mul_le_mul_right _ (by omega)
    omega
  have e1 : setElem xs i o e = xs.take i ++ setCells xs[i] o e :: xs.drop (i + 1) := by
    unfold setElem
    rw [List.modify_eq_take_cons_drop hi]
  have e2 := congrArg List.flatten e0
  rw [List.flatten_append, List.flatten_cons] at e2
  rw [e1, e2]
  simp only [List.flatten_append, List.flatten_cons]
  rw [List.take_append, List.drop_append, hl, List.take_of_length_le (l := (xs.take i).flatten) (by rw [hl]; omega), List.drop_of_length_le (l := (xs.take i).flatten) (by rw [hl]; omega)]
  have e3 : i * s + o - i * s = o := by omega
  have e4 : i * s + o + e.length - i * s = o + e.length := by omega
  rw [e3, e4, List.take_append_of_le_length (by omega), List.drop_append_of_le_length (by omega)]
  unfold setCells
  simp only [List.nil_append, List.append_assoc]

theorem setElem_mem {s : Nat} {xs : List (List AV)} {i o : Nat} {e : List AV} (h : ∀ x ∈ xs, x.length = s) (hc : ∀ x ∈ xs, ∀ c ∈ x, c.isCell = true) (ho : o + e.length ≤ s) (he : ∀ c ∈ e, c.isCell = true) :
    ∀ x ∈ setElem xs i o e, x.length = s ∧ ∀ c ∈ x, c.isCell = true := by
  intro x hx
  obtain ⟨j, hj⟩ := List.mem_iff_getElem?.1 hx
  unfold setElem at hj
  rw [List.getElem?_modify] at hj
  cases hy : xs[j]? with
  | none => rw [hy] at hj; cases hj
  | some y =>
    rw [hy] at hj
    simp only [Option.map_eq_map, Option.map_some, Option.some.injEq] at hj
    subst hj
    split
    · have hm := List.mem_of_getElem? hy
      have hl := h y hm
      refine ⟨by simp [setCells, hl]; omega, fun c hcx => ?_⟩
      unfold setCells at hcx
      rcases List.mem_append.1 hcx with hcx | hcx
      · rcases List.mem_append.1 hcx with hcx | hcx
        · exact hc y hm c (List.mem_of_mem_take hcx)
        · exact he c hcx
      · exact hc y hm c (List.mem_of_mem_drop hcx)
    · have hm := List.mem_of_getElem? hy
      exact ⟨h y hm, hc y hm⟩

theorem over_rep {R : AV → Value → Prop} {zs vs : List AV} {us ws : List Value} {off : Nat} (h : ∀ (j : Nat) (z : AV) (u : Value), zs[j]? = some z → us[j]? = some u → R z u) (h' : ∀ (j : Nat) (z : AV) (u : Value), vs[j]? = some z → ws[j]? = some u → R z u)
    (hl : vs.length = ws.length) (h1 : off ≤ zs.length) (h2 : off ≤ us.length) :
    ∀ (j : Nat) (z : AV) (u : Value), (zs.take off ++ vs ++ zs.drop (off + vs.length))[j]? = some z → (us.take off ++ ws ++ us.drop (off + ws.length))[j]? = some u → R z u := by
  intro j z u hz hu
  have l1 : (zs.take off).length = off := by rw [List.length_take]; omega
  have l2 : (us.take off).length = off := by rw [List.length_take]; omega
  rw [List.append_assoc] at hz hu
  rcases Nat.lt_or_ge j off with hlt | hge
  · rw [List.getElem?_append_left (by omega), List.getElem?_take_of_lt hlt] at hz hu
    exact h j z u hz hu
  · rw [List.getElem?_append_right (by omega), l1] at hz
    rw [List.getElem?_append_right (by omega), l2] at hu
    rcases Nat.lt_or_ge (j - off) vs.length with hlt | hge'
    · rw [List.getElem?_append_left hlt] at hz
      rw [List.getElem?_append_left (by omega)] at hu
      exact h' _ z u hz hu
    · rw [List.getElem?_append_right hge', List.getElem?_drop] at hz
      rw [List.getElem?_append_right (by omega), List.getElem?_drop] at hu
      rw [← hl] at hu
      exact h _ z u hz hu

theorem exok_store_row {P : Program} {o : Oper} {σ : Nat → AV} {T e : TypeId} {a x : Operand} {d n cap i off : Nat} {xs : List (List AV)} {vc vc' : List AV} {y : AV} (ho : o.op = .store T a x) (ha : getS P σ a = .ptr d (i * P.cellsOf e + off)) (hd : σ d = .box [.row e n cap xs])
    (hx : getS P σ x = y) (hy : y.cells? = some vc) (hn : vc.length = P.cellsOf T) (h0 : P.cellsOf T ≠ 0) (hi : i < n) (hfit : off + P.cellsOf T ≤ P.cellsOf e)
    (hw : vc'.length = vc.length ∧ ∀ (w : World) (lim : Nat → Nat) (us : List Value), RelL w lim vc us → RelL w lim vc' us) :
    ExOK P o σ .dead [(d, .box [.row e n cap (setElem xs i off vc')])] [d] := by
  intro c hc σ' tm w lim X hag hsim next Q hnx
  have hga : getS P σ' a = getS P σ a := getS_congr fun t ht => hag t (by simp [mem_uses (o := o) (x := a) (by rw [ho]; simp [Op.operands]) ht])
  have hgx : getS P σ' x = getS P σ x := getS_congr fun t ht => hag t (by simp [mem_uses (o := o) (x := x) (by rw [ho]; simp [Op.operands]) ht])
  have hd' : σ' d = .box [.row e n cap xs] := by rw [hag d (by simp), hd]
  have hva := opnd hc hsim ha hga
  rw [← hc] at hva
  obtain ⟨b, cs, h1, h2, h3⟩ := hva
  obtain ⟨us, h4, h5⟩ := cells_rel hy (opnd hc hsim hx hgx)
  have hrel := hsim.rel d
  rw [hd'] at hrel
  obtain ⟨b0, arr, g1, g2, g3, g4, g5, g6, g7, g8, g9, g10, g11⟩ := BoxR.row hrel
  have hb0 : b0 = b := by rw [g1] at h1; exact Option.some.inj h1
  subst hb0
  rw [hc] at g8 g9 h3
  obtain ⟨inf, hinf⟩ := info_of_cells h0
  have h5' := hw.2 w lim us h5
  have hlen : us.length = P.cellsOf T := by rw [← h5.1, hn]
  have hmul : i * P.cellsOf e + P.cellsOf e ≤ n * P.cellsOf e := by
    rw [← Nat.succ_mul]; exact Nat.mul_le_mul_right _ hi
  have hcap : n * P.cellsOf e ≤ cap * P.cellsOf e := Nat.mul_le_mul_right _ g6
  have hmem := setElem_mem (i := i) g9 g10 (by rw [hw.1, hn]; exact hfit) h5'.2.1
  have hst := run_storeAt (P := P) (T := T) (w := w) (b := b0) (off := i * P.cellsOf e + off) (v := Act.eval ⟨tm, []⟩ x) hinf h4 hlen g3 (by rw [hlen, g8]; omega) (fun u hu => by
    obtain ⟨j, hj⟩ := List.mem_iff_getElem?.1 hu
    have hlt : j < vc.length := by rw [h5.1]; exact (List.getElem?_eq_some_iff.1 hj).1
    exact (h5.2.2 j _ u (List.getElem?_eq_getElem hlt) hj).oneCell (h5.2.1 _ (List.getElem_mem hlt)))
  obtain ⟨X', hset⟩ := hsim.setRow (xs' := setElem xs i off vc') (arr' := (arr.toList.take (i * P.cellsOf e + off) ++ us ++ arr.toList.drop (i * P.cellsOf e + off + us.length)).toArray) hd' g1 g3
    (by simp [g8]; omega) (by simp [setElem, g5]) (fun x hx => by rw [hc]; exact (hmem x hx).1) (fun x hx => (hmem x hx).2) (fun j z u hz hu => by
      rw [setElem_flatten g9 (by omega) (by rw [hw.1, hn]; exact hfit)] at hz
      refine over_rep (R := Rep w lim) (us := arr.toList) (fun j z u hz hu => g11 j z u hz (by simpa using hu)) h5'.2.2 (by rw [hw.1, h5.1]) ?_ ?_ j z u hz (by simpa using hu)
      · rw [getD_replicate_flat xs _ g9, g5]; omega
      · simp [g8]; omega)
  refine wp_of_skip (w' := w.setRow b0 (arr.toList.take (i * P.cellsOf e + off) ++ us ++ arr.toList.drop (i * P.cellsOf e + off + us.length)).toArray) ?_ (hnx undef _ ?_)
  · simp only [execOp, ho, h3, Sem.run_bind, hst, Result.andThen_ok, Sem.run_pure]
  · exact after_plain hset rfl (k := 0) trivial

theorem exok_len_row {P : Program} {o : Oper} {σ : Nat → AV} {cl : Call} {x : Operand} {T el e : TypeId} {d n cap : Nat} {xs : List (List AV)} (ho : o.op = .call cl) (hcl : cl.callee = .builtin .len)
    (hargs : cl.args.toList = [x]) (hts : cl.argTypes.toList = [T]) (hT : P.underlying T = some (.slice el)) (hx : getS P σ x = .mref d) (hd : σ d = .box [.row e n cap xs]) : ExOK P o σ (.val (.int .i64 xs.length)) [] [d] := by
  have hargs' : cl.args = #[x] := by apply Array.toList_inj.1; rw [hargs]
  have hts' : cl.argTypes = #[T] := by apply Array.toList_inj.1; rw [hts]
  refine exok_plain [d] rfl fun c hc σ' tm w lim X hg hfp hsim => ⟨.int .i64 xs.length, ?_, .val rfl⟩
  rw [ho] at hg
  have hv := opnd hc hsim hx (hg x (by simp [Op.operands, Call.operands, hargs', hcl]))
  have hd' : σ' d = .box [.row e n cap xs] := by rw [hfp d (by simp), hd]
  rw [← hc] at hv
  obtain ⟨b, arr, g1, g2, g3, g4, g5, g6⟩ := mref_row hsim hd' hv
  rw [g5]
  simp [execOp, ho, hcl, resolve, hargs', hts', invoke, builtin, Builtin.len_, g2, run_underlying hT, goInt]

/-- What is copied out of a slice. -/
theorem copy_src {P : Program} {w : World} {lim : Nat → Nat} {f : Bool} {ys : List (List AV)} {v : Value} (n : Nat) (h : Rep w lim (.slice f 1 ys) v) :
    (v = .slice none 0 0 ∧ ys = []) ∨ ∃ (a : Addr) (sLen sCap : Nat) (cs : List Value), v = .slice (some a) sLen sCap ∧ cs.length = Nat.min sLen n ∧ sLen = ys.length ∧ (∀ y ∈ ys, y.length = 1 ∧ ∀ c ∈ y, c.isCell = true) ∧ (∀ j u, cs[j]? = some u → w.cell? (a.add j) = some u) ∧
      (∀ u ∈ cs, u.oneCell' = true) ∧ ∀ (j : Nat) (z : AV) (u : Value), (ys.take n).flatten[j]? = some z → cs[j]? = some u → Rep w lim z u := by
  have key : ∀ (y : AV), Rep w lim y v → y = .slice f 1 ys → (v = .slice none 0 0 ∧ ys = []) ∨ ∃ (a : Addr) (sLen sCap : Nat) (cs : List Value), v = .slice (some a) sLen sCap ∧ cs.length = Nat.min sLen n ∧ sLen = ys.length ∧ (∀ y ∈ ys, y.length = 1 ∧ ∀ c ∈ y, c.isCell = true) ∧ (∀ j u, cs[j]? = some u → w.cell? (a.add j) = some u) ∧
      (∀ u ∈ cs, u.oneCell' = true) ∧ ∀ (j : Nat) (z : AV) (u : Value), (ys.take n).flatten[j]? = some z → cs[j]? = some u → Rep w lim z u := by
    intro y hy hye
    cases hy with
    | sliceN => injection hye with h1 h2 h3; exact .inl ⟨rfl, h3.symm⟩
    | @sliceE f' s2 a cap hf =>
      injection hye with h1 h2 h3
      subst h3
      exact .inr ⟨a, 0, cap, [], rfl, by simp, rfl, by simp, by simp, by simp, by simp⟩
    | @sliceC f' s2 xs b o cap us hs hc hf hle hlim hus hcell hr =>
      injection hye with h1 h2 h3
      subst h2
      subst h3
      have hfl : xs.flatten.length = us.length := by rw [getD_replicate_flat xs _ hs, hus]
      refine .inr ⟨⟨b, o, none⟩, xs.length, cap, us.take n, rfl, ?_, rfl, fun y hy => ⟨hs y hy, hc y hy⟩, fun j u hj => ?_, fun u hu => ?_, fun j z u hz hu => ?_⟩
      · rw [List.length_take, hus, Nat.mul_one]; exact Nat.min_comm _ _
      · rw [List.getElem?_take] at hj
        split at hj
        · rw [add_none]; exact hcell j u hj
        · cases hj
      · obtain ⟨j, hj⟩ := List.mem_iff_getElem?.1 (List.mem_of_mem_take hu)
        have hlt : j < xs.flatten.length := by rw [hfl]; exact (List.getElem?_eq_some_iff.1 hj).1
        have hz : xs.flatten[j]? = some xs.flatten[j] := List.getElem?_eq_getElem hlt
        obtain ⟨l, hl, hzl⟩ := List.mem_flatten.1 (List.getElem_mem hlt)
        exact (hr j _ u hz hj).oneCell (hc l hl _ hzl)
      · rw [flatten_take_n xs n hs, Nat.mul_one, List.getElem?_take] at hz
        rw [List.getElem?_take] at hu
        split at hz
        · rename_i hjn
          rw [if_pos hjn] at hu
          exact hr j z u hz hu
        · cases hz
    | val _ => cases hye
    | agg _ _ _ => cases hye
  exact key _ h rfl

theorem exok_copy_row {P : Program} {o : Oper} {σ : Nat → AV} {cl : Call} {T T' e : TypeId} {x y : Operand} {d n cap : Nat} {xs ys : List (List AV)} {f : Bool} (ho : o.op = .call cl) (hcl : cl.callee = .builtin .copy)
    (hargs : cl.args.toList = [x, y]) (hts : cl.argTypes.toList = [T, T']) (hT : P.underlying T = some (.slice e)) (hs : P.cellsOf e = 1) (hx : getS P σ x = .mref d) (hd : σ d = .box [.row e n cap xs]) (hy : getS P σ y = .slice f 1 ys) :
    ExOK P o σ .dead [(d, .box [.row e n cap (splL xs ys)])] [d] := by
  have hargs' : cl.args = #[x, y] := by apply Array.toList_inj.1; rw [hargs]
  have hts' : cl.argTypes = #[T, T'] := by apply Array.toList_inj.1; rw [hts]
  intro c hc σ' tm w lim X hag hsim next Q hn
  subst hc
  have hgx : getS c.P σ' x = getS c.P σ x := getS_congr fun t ht => hag t (by simp [mem_uses (o := o) (x := x) (by rw [ho]; simp [Op.operands, Call.operands, hargs', hcl]) ht])
  have hgy : getS c.P σ' y = getS c.P σ y := getS_congr fun t ht => hag t (by simp [mem_uses (o := o) (x := y) (by rw [ho]; simp [Op.operands, Call.operands, hargs', hcl]) ht])
  have hd' : σ' d = .box [.row e n cap xs] := by rw [hag d (by simp), hd]
  have hyv : Rep w lim (.slice f 1 ys) (Act.eval ⟨tm, []⟩ y) := opnd rfl hsim hy hgy
  obtain ⟨b, arr, g1, g2, g3, g4, g5, g6, g7, g8, g9, g10, g11⟩ := mref_row hsim hd' (opnd rfl hsim hx hgx)
  obtain ⟨inf, hinf⟩ := info_of_cells (P := c.P) (T := e) (by omega)
  have hsz : c.P.cellsOf e = inf.size := cellsOf_info hinf
  have hs1 : (c.P.info? e).map (·.size) = some 1 := by rw [hinf, Option.map_some, ← hsz, hs]
  have hf1 : ∀ x ∈ xs, x.length = 1 := fun x hx => by rw [g9 x hx, hs]
  rw [hs, Nat.mul_one] at g8
  rcases copy_src (P := c.P) n hyv with ⟨hv, hnil⟩ | ⟨a, sLen, sCap, cs, hv, h1, h2, h3, h4, h5, h6⟩
  · subst hnil
    have e0 : splL xs [] = xs := by simp [splL]
    have hrun := run_copy_nil c.P w T T' o.type e ⟨b, 0, none⟩ n cap hT (by rw [hs1]; rfl)
    refine wp_of_run (v := goInt 0) (w' := w) ?_ (hn _ w ?_)
    · simp only [execOp, ho, resolve, hcl, hargs', hts', List.map_toArray, List.map_cons, List.map_nil, Sem.run_bind, Sem.run_pure, Result.andThen_ok, invoke, builtin, g2, hv, hrun]
    · rw [e0]
      have : updL σ' [(d, .box [.row e n cap xs])] = σ' := by
        funext k
        simp only [updL, upd]
        split
        · rename_i hk; rw [hk, hd']
        · rfl
      rw [this]
      exact after_plain hsim rfl (k := 0) trivial
  · have h1' : cs.length = min sLen n := h1
    have hrun := run_copy_row c.P w T T' o.type e b 0 n cap a sLen sCap arr e cs hT hs1 g3 h1 h4 (by rw [h1', g8]; omega) h5
    rw [Nat.zero_add] at hrun
    have hcl' : cs.length ≤ n := by rw [h1]; exact Nat.min_le_right _ _
    have e1 : splL xs ys = ys.take n ++ xs.drop cs.length := by
      unfold splL
      rw [g5, h1']
      congr 1
      by_cases hle : ys.length ≤ n
      · rw [h2, Nat.min_eq_left hle]
      · rw [h2, Nat.min_eq_right (by omega), List.drop_of_length_le (by omega), List.drop_of_length_le (by omega)]
    have hyl : (ys.take n).length = cs.length := by rw [List.length_take, h1', h2]; exact Nat.min_comm _ _
    have hm : ∀ x ∈ splL xs ys, x.length = 1 ∧ ∀ c ∈ x, c.isCell = true := by
      rw [e1]
      intro x hx
      rcases List.mem_append.1 hx with hx | hx
      · exact h3 x (List.mem_of_mem_take hx)
      · exact ⟨hf1 x (List.mem_of_mem_drop hx), g10 x (List.mem_of_mem_drop hx)⟩
    have hyf : (ys.take n).flatten.length = cs.length := by rw [getD_replicate_flat (ys.take n) 1 fun y hy => (h3 y (List.mem_of_mem_take hy)).1, hyl, Nat.mul_one]
    obtain ⟨X', hset⟩ := hsim.setRow (xs' := splL xs ys) (arr' := (arr.toList.take 0 ++ cs ++ arr.toList.drop cs.length).toArray) hd' g1 g3 (by simp; omega) (by rw [e1, List.length_append, hyl, List.length_drop]; omega)
      (fun x hx => by rw [hs]; exact (hm x hx).1) (fun x hx => (hm x hx).2) (fun j z u hz hu => by
        rw [e1, List.flatten_append, flatten_drop_n xs cs.length hf1, Nat.mul_one] at hz
        refine over_rep (R := Rep w lim) (off := 0) (zs := xs.flatten) (us := arr.toList) (fun j z u hz hu => g11 j z u hz (by simpa using hu)) h6 hyf (Nat.zero_le _) (Nat.zero_le _) j z u ?_ ?_
        · rw [Nat.zero_add, hyf]; simpa using hz
        · rw [Nat.zero_add]; simpa using hu)
    refine wp_of_run (v := goInt cs.length) (w' := w.setRow b (arr.toList.take 0 ++ cs ++ arr.toList.drop cs.length).toArray) ?_ (hn _ _ (after_plain hset rfl (k := 0) trivial))
    simp only [execOp, ho, resolve, hcl, hargs', hts', List.map_toArray, List.map_cons, List.map_nil, Sem.run_bind, Sem.run_pure, Result.andThen_ok, invoke, builtin, g2, hv, hrun]

end Go.AM
