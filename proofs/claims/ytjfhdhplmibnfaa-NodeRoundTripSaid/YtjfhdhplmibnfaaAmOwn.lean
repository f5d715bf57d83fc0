/- Boxes written; slices of one's own handed on and appended to. Generic: no program stands in it. -/
import Derived.Test.YtjfhdhplmibnfaaAmVar
namespace Go.AM

theorem wp_of_skip {P : Program} {o : Oper} {a : Act} {w w' : World} {next : Act → World → Prop} {Q : Exit → Act → World → Prop}
    (hr : (execOp a.eval o).run P w = .ok .skip w') (h : next (a.put o.dst undef) w') : o.wp P a w next Q := by
  unfold Oper.wp; rw [hr]; exact h

theorem frozen_setRow (w : World) (g : Nat) (cur cs : Array Value) (t : TypeId) (hg : w.heap[g]? = some (.cells cur t (0, 0))) (a : Addr) : (w.setRow g cs).frozen? a = w.frozen? a := by
  by_cases h : a.block = g
  · have h1 := setRow_heap w g cur cs t (0, 0) hg
    unfold World.frozen?
    rw [h, h1, hg]
  · unfold World.frozen?
    rw [setRow_other w g a.block cs h]

theorem wstep_setRow {w : World} {lim : Nat → Nat} {g : Nat} {cur cs : Array Value} {t : TypeId} (hg : w.heap[g]? = some (.cells cur t (0, 0))) (hl : lim g = 0) :
    WStep w lim (w.setRow g cs) lim (fun b => b = g) where
  os := rfl
  tape := rfl
  output := rfl
  size := by simp
  frz := frozen_setRow w g cur cs t hg
  blk b _ hb := ⟨setRow_other w g b cs hb, rfl⟩
  ext b _ := ⟨Nat.le_refl _, fun o u ho hu => by
    by_cases h : b = g
    · subst h; rw [hl] at ho; omega
    · unfold World.cell? at hu ⊢
      rw [setRow_other w g b cs h]
      exact hu⟩

/-- The row of a box's blocks, some of its cells written. -/
def cutRow (r : Nat → Option Nat) (off n : Nat) (new : Nat → Option Nat) : Nat → Option Nat := fun k => if k = 0 then r 0 else if off < k ∧ k ≤ off + n then new (k - 1 - off) else r k

/-- Cells of a box are written. -/
theorem Sim.setCells {c : Ctx} {σ : Nat → AV} {tm : Array Value} {w : World} {lim : Nat → Nat} {X : Nat → Nat → Option Nat} (h : Sim c σ tm w lim X) {d off b : Nat} {cs vc : List AV} {us : List Value} {arr : Array Value} {t : TypeId}
    (new : Nat → Option Nat) (hd : σ d = .box cs) (hnr : NoRow cs) (hX : X d 0 = some b) (hfit : off + vc.length ≤ cs.length) (hl : vc.length = us.length) (hvc : ∀ x ∈ vc, boxCell x)
    (hr : ∀ (i : Nat) (x : AV) (u : Value), vc[i]? = some x → us[i]? = some u → CellR c.P w lim (new i) x u) (hheap : w.heap[b]? = some (.cells arr t (0, 0)))
    (hn : ∀ i b', new i = some b' → i < vc.length ∧ (c.A b' ∨ c.w0.heap.size ≤ b') ∧ b' < w.heap.size ∧ (∀ j k, X j k ≠ some b') ∧ ∀ i', new i' = some b' → i = i') :
    Sim c (upd σ d (.box (cs.take off ++ vc ++ cs.drop (off + vc.length)))) tm (w.setRow b (arr.toList.take off ++ us ++ arr.toList.drop (off + us.length)).toArray) lim (rowX X d (cutRow (X d) off vc.length new)) := by
  have hrel := h.rel d
  rw [hd] at hrel
  obtain ⟨b0, arr0, t0, g1, g2, g3, g4, g5, g6, g7⟩ := BoxR.plain hrel hnr
  have hb0 : b0 = b := by rw [g1] at hX; exact Option.some.inj hX
  subst hb0
  rw [g3] at hheap
  simp only [Option.some.injEq, Obj.cells.injEq, and_true] at hheap
  obtain ⟨rfl, rfl⟩ := hheap
  have hstep := wstep_setRow (cs := (arr0.toList.take off ++ us ++ arr0.toList.drop (off + us.length)).toArray) g3 g5
  have hdn : d < c.nt := by
    rcases Nat.lt_or_ge d c.nt with hlt | hge
    · exact hlt
    · have := h.out d hge; rw [hd] at this; cases this
  have hal : arr0.toList.length = cs.length := by simpa using g4
  refine h.putRow (S := fun b => b = b0) _ hstep (fun b' hb' => ⟨0, by rw [hb']; exact g1⟩) hdn rfl (fun i _ => rfl) (.inr ⟨⟨_, rfl, fun cs0 h0 => by (rw [hd] at h0; cases h0; exact RowKept.of_plain hnr)⟩, rfl, rfl⟩) ?_ (fun k b' hk => ?_) (fun k k' b' hk hk' => ?_)
  · refine .inl ⟨b0, (arr0.toList.take off ++ us ++ arr0.toList.drop (off + us.length)).toArray, t0, ?_, g2, setRow_heap w b0 arr0 _ t0 _ g3, ?_, g5, fun x hx => ?_, fun i x u hx hu => ?_⟩
    · rw [rowX_same]; exact g1
    · simp only [List.size_toArray, List.length_append, List.length_take, List.length_drop]
      omega
    · rcases List.mem_append.1 hx with hx | hx
      · rcases List.mem_append.1 hx with hx | hx
        · exact g6 x (List.mem_of_mem_take hx)
        · exact hvc x hx
      · exact g6 x (List.mem_of_mem_drop hx)
    · rw [rowX_same]
      have hu' : (arr0.toList.take off ++ us ++ arr0.toList.drop (off + us.length))[i]? = some u := by simpa using hu
      have old : ∀ j, i = j → cs[j]? = some x → arr0[j]? = some u → (j < off ∨ off + vc.length ≤ j) → CellR c.P (w.setRow b0 (arr0.toList.take off ++ us ++ arr0.toList.drop (off + us.length)).toArray) lim (cutRow (X d) off vc.length new (i + 1)) x u := by
        intro j hij hxj huj hout
        subst hij
        have hrow : cutRow (X d) off vc.length new (i + 1) = X d (i + 1) := by
          unfold cutRow
          rw [if_neg (by omega), if_neg (by omega)]
        rw [hrow]
        refine (g7 i x u hxj huj).mono hstep.ext fun b' hb' => hstep.blk b' (h.ours d (i + 1) b' hb').1 fun e => ?_
        have := h.dist d (i + 1) d 0 b' hb' (by rw [e]; exact g1)
        omega
      by_cases h1 : i < off
      · rw [List.append_assoc, List.getElem?_append_left (by simp; omega), List.getElem?_take, if_pos h1] at hx
        rw [List.append_assoc, List.getElem?_append_left (by simp; omega), List.getElem?_take, if_pos h1] at hu'
        exact old i rfl hx (by simpa using hu') (.inl h1)
      · by_cases h2 : i < off + vc.length
        · rw [List.append_assoc, List.getElem?_append_right (by simp; omega), List.getElem?_append_left (by simp; omega)] at hx
          rw [List.append_assoc, List.getElem?_append_right (by simp; omega), List.getElem?_append_left (by simp; omega)] at hu'
          have e1 : i - (cs.take off).length = i - off := by simp <;> omega
          have e2 : i - (arr0.toList.take off).length = i - off := by simp <;> omega
          rw [e1] at hx
          rw [e2] at hu'
          have hrow : cutRow (X d) off vc.length new (i + 1) = new (i - off) := by
            unfold cutRow
            rw [if_neg (by omega), if_pos (by omega)]
            congr 1 <;> omega
          rw [hrow]
          refine (hr (i - off) x u hx hu').mono hstep.ext fun b' hb' => hstep.blk b' (hn _ b' hb').2.2.1 fun e => (hn _ b' hb').2.2.2.1 d 0 (by rw [e]; exact g1)
        · have hlt : i < cs.length := by
            have := (List.getElem?_eq_some_iff.1 hx).1
            simp at this
            omega
          have e1 : (cs.take off ++ vc ++ cs.drop (off + vc.length))[i]? = cs[i]? := by
            rw [List.getElem?_append_right (by simp; omega), List.getElem?_drop]
            congr 1
            simp <;> omega
          have e2 : (arr0.toList.take off ++ us ++ arr0.toList.drop (off + us.length))[i]? = arr0.toList[i]? := by
            rw [List.getElem?_append_right (by simp; omega), List.getElem?_drop]
            congr 1
            simp <;> omega
          rw [e1] at hx
          rw [e2] at hu'
          exact old i rfl hx (by simpa using hu') (.inr (by omega))
  · unfold cutRow at hk
    split at hk
    · exact ⟨by simp; exact (h.ours d 0 b' hk).1, (h.ours d 0 b' hk).2, fun i j hi e => hi (h.dist i j d 0 b' e hk).1⟩
    · split at hk
      · have := hn _ b' hk
        exact ⟨by simp; exact this.2.2.1, this.2.1, fun i j _ => this.2.2.2.1 i j⟩
      · exact ⟨by simp; exact (h.ours d k b' hk).1, (h.ours d k b' hk).2, fun i j hi e => hi (h.dist i j d k b' e hk).1⟩
  · unfold cutRow at hk hk'
    split at hk <;> split at hk'
    · omega
    · split at hk'
      · exact ((hn _ b' hk').2.2.2.1 d 0 hk).elim
      · have := h.dist d 0 d k' b' hk hk'; omega
    · split at hk
      · exact ((hn _ b' hk).2.2.2.1 d 0 hk').elim
      · have := h.dist d k d 0 b' hk hk'; omega
    · split at hk <;> split at hk'
      · have := (hn _ b' hk).2.2.2.2 _ hk'
        omega
      · exact ((hn _ b' hk).2.2.2.1 d k' hk').elim
      · exact ((hn _ b' hk').2.2.2.1 d k hk).elim
      · have := h.dist d k d k' b' hk hk'; omega

theorem run_storeAt {P : Program} {T : TypeId} {w : World} {b off : Nat} {arr : Array Value} {t : TypeId} {v : Value} {us : List Value} {i : TypeInfo} (hi : P.info? T = some i) (hv : v.cells = us.toArray) (hn : us.length = P.cellsOf T)
    (hg : w.heap[b]? = some (.cells arr t (0, 0))) (hfit : off + us.length ≤ arr.size) (h1 : ∀ u ∈ us, u.oneCell' = true) :
    (Instr.storeAt T (.pointer (some ⟨b, off, none⟩)) v).run P w = .ok () (w.setRow b (arr.toList.take off ++ us ++ arr.toList.drop (off + us.length)).toArray) := by
  have hs := run_storeCells_at P b off t us 0 arr w hg (by simpa using hfit) h1
  simp only [Nat.add_zero] at hs
  simp [Instr.storeAt, Instr.sureAddr, storeVar, run_sizeOf hi, hv, hn, hs]

theorem exok_store {P : Program} {o : Oper} {σ : Nat → AV} {T : TypeId} {a x : Operand} {d off : Nat} {cs vc : List AV} {y : AV} (ho : o.op = .store T a x) (ha : getS P σ a = .ptr d off) (hd : σ d = .box cs)
    (hx : getS P σ x = y) (hy : y.cells? = some vc) (hn : vc.length = P.cellsOf T) (h0 : P.cellsOf T ≠ 0) (hfit : off + P.cellsOf T ≤ cs.length) (hnr : NoRow cs) :
    ExOK P o σ .dead [(d, .box (cs.take off ++ vc ++ cs.drop (off + P.cellsOf T)))] [d] := by
  intro c hc σ' tm w lim X hag hsim next Q hnx
  have hga : getS P σ' a = getS P σ a := getS_congr fun t ht => hag t (by simp [mem_uses (o := o) (x := a) (by rw [ho]; simp [Op.operands]) ht])
  have hgx : getS P σ' x = getS P σ x := getS_congr fun t ht => hag t (by simp [mem_uses (o := o) (x := x) (by rw [ho]; simp [Op.operands]) ht])
  have hd' : σ' d = .box cs := by rw [hag d (by simp), hd]
  have hva := opnd hc hsim ha hga
  rw [← hc] at hva
  obtain ⟨b, h1, h2, h3⟩ := ptr_box hsim hd' hnr hva
  obtain ⟨us, h4, h5⟩ := cells_rel hy (opnd hc hsim hx hgx)
  obtain ⟨b0, arr, t, g1, g2, g3, g4, g5, g6, g7⟩ := h3
  have hb0 : b0 = b := by rw [g1] at h1; exact Option.some.inj h1
  subst hb0
  obtain ⟨i, hi⟩ := info_of_cells h0
  have hset := hsim.setCells (off := off) (vc := vc) (us := us) (fun _ => none) hd' hnr g1 (by rw [hn]; exact hfit) h5.1 (fun z hz => .inl (h5.2.1 z hz)) (fun j z u hz hu => by
    have hz' := h5.2.1 z (List.mem_of_getElem? hz)
    have hr := h5.2.2 j z u hz hu
    cases z <;> simp [AV.isCell] at hz' <;> exact hr) g3 (fun _ _ he => by cases he)
  refine wp_of_skip (w' := w.setRow b0 (arr.toList.take off ++ us ++ arr.toList.drop (off + us.length)).toArray) ?_ (hnx undef _ ?_)
  · have hst := run_storeAt (P := P) (T := T) (w := w) (b := b0) (off := off) (v := Act.eval ⟨tm, []⟩ x) hi h4 (by rw [← h5.1, hn]) g3 (by rw [← h5.1, hn, g4]; exact hfit) (fun u hu => by
      obtain ⟨j, hj⟩ := List.mem_iff_getElem?.1 hu
      have hlt : j < vc.length := by rw [h5.1]; exact (List.getElem?_eq_some_iff.1 hj).1
      exact (h5.2.2 j _ u (List.getElem?_eq_getElem hlt) hj).oneCell (h5.2.1 _ (List.getElem_mem hlt)))
    simp only [execOp, ho, h2, Sem.run_bind, hst, Result.andThen_ok, Sem.run_pure]
  · rw [hn] at hset
    exact after_plain hset rfl (k := 0) trivial


/-- What a slot owned it owns no more; it is handed on by one value. -/
theorem after_own {c : Ctx} {σ1 : Nat → AV} {tm : Array Value} {w : World} {lim : Nat → Nat} {X : Nat → Nat → Option Nat} (h : Sim c σ1 tm w lim X) {dst : Option Tmp} {e : TypeId} {xs : List (List AV)} {v : Value} {ob : Option Nat}
    (hx : OwnR c.P w lim e xs v ob) (ho : ∀ b, ob = some b → (c.A b ∨ c.w0.heap.size ≤ b) ∧ ∀ i j, X i j ≠ some b) : After c dst σ1 (.own e xs) tm v w := by
  cases dst with
  | none => exact ⟨lim, X, h⟩
  | some d => exact fun hd hm => ⟨lim, _, h.putOwn hd (mayPutS_old hm) hx fun b hb => ⟨(ho b hb).1, fun i j _ => (ho b hb).2 i j⟩⟩

/-- A slot of one's own is seen as a slice; its block is free to be owned anew. -/
theorem Sim.free {c : Ctx} {σ : Nat → AV} {tm : Array Value} {w : World} {lim : Nat → Nat} {X : Nat → Nat → Option Nat} (h : Sim c σ tm w lim X) {t : Nat} {e : TypeId} {xs : List (List AV)} (ht : σ t = .own e xs) :
    Sim c (upd σ t (.slice false (c.P.cellsOf e) xs)) tm w lim (rowX X t noRow) ∧ OwnR c.P w lim e xs (tm.getD t undef) (X t 0) ∧
      ∀ b, X t 0 = some b → (c.A b ∨ c.w0.heap.size ≤ b) ∧ ∀ i j, rowX X t noRow i j ≠ some b := by
  have hr := h.rel t
  rw [ht] at hr
  have hr' : OwnR c.P w lim e xs (tm.getD t undef) (X t 0) := hr
  have htn : t < c.nt := by
    rcases Nat.lt_or_ge t c.nt with hlt | hge
    · exact hlt
    · have := h.out t hge; rw [ht] at this; cases this
  refine ⟨h.weaken (k := 0) htn (fun cs hcs => by rw [ht] at hcs; cases hcs) rfl (OwnR.rep hr' false rfl), hr', fun b hb => ⟨(h.ours t 0 b hb).2, fun i j hij => ?_⟩⟩
  by_cases hi : i = t
  · subst hi; rw [rowX_same] at hij; cases hij
  · rw [rowX_other X noRow hi] at hij
    exact hi (h.dist i j t 0 b hij hb).1

theorem exok_take {P : Program} {o : Oper} {σ : Nat → AV} {t : Nat} {e : TypeId} {xs : List (List AV)} (ho : o.op = .move (.tmp t) ∨ o.op = .assign (.tmp t)) (ht : σ t = .own e xs) :
    ExOK P o σ (.own e xs) [(t, .slice false (P.cellsOf e) xs)] [] := by
  intro c hc σ' tm w lim X hag hsim next Q hn
  have ht' : σ' t = .own e xs := by rw [hag t (by simp), ht]
  obtain ⟨h1, h2, h3⟩ := hsim.free ht'
  rw [hc] at h1
  refine wp_of_run (v := tm.getD t undef) (w' := w) ?_ (hn _ w (after_own h1 h2 h3))
  rcases ho with ho | ho <;> simp [execOp, ho, Act.eval]

/-- A nil slice that is one's own. -/
theorem exok_nil {P : Program} {o : Oper} {σ : Nat → AV} {e : TypeId} (ho : o.op = .assign (.const (.slice none 0 0))) : ExOK P o σ (.own e []) [] [] := by
  intro c hc σ' tm w lim X hag hsim next Q hn
  refine wp_of_run (v := .slice none 0 0) (w' := w) (by simp [execOp, ho, Act.eval]) (hn _ w (after_own (ob := none) hsim (.inl ⟨[], World.ownsRow_nil _ 0 e _, rfl, by simp, by simp, by simp, by simp⟩) (by simp)))

/-- A tuple is handed on. -/
theorem exok_tuple {P : Program} {o : Oper} {σ : Nat → AV} {t : Nat} {vs : List AV} (ho : o.op = .move (.tmp t)) (ht : σ t = .tuple vs) : ExOK P o σ (.tuple vs) [(t, .gone)] [] := by
  intro c hc σ' tm w lim X hag hsim next Q hn
  have ht' : σ' t = .tuple vs := by rw [hag t (by simp), ht]
  have htn : t < c.nt := by
    rcases Nat.lt_or_ge t c.nt with hlt | hge
    · exact hlt
    · have := hsim.out t hge; rw [ht'] at this; cases this
  have h1 : Sim c (upd σ' t .gone) tm w lim (rowX X t noRow) := hsim.weaken (k := 0) htn (fun cs hcs => by rw [ht'] at hcs; cases hcs) rfl trivial
  have hr := hsim.rel t
  rw [ht'] at hr
  obtain ⟨us, g1, g2, g3⟩ := hr
  refine wp_of_run (v := tm.getD t undef) (w' := w) (by simp [execOp, ho, Act.eval]) (hn _ w ?_)
  cases hdst : o.dst with
  | none => exact ⟨lim, _, h1⟩
  | some d =>
    intro hd hm
    refine ⟨lim, _, h1.putRow (X t) (WStep.refl w lim (fun _ => False)) (fun _ hs => hs.elim) hd (tm' := tm.setIfInBounds d (tm.getD t undef)) (by simp) (fun i hi => getD_set_other tm d i _ hi) (.inl (mayPutS_old hm)) ?_ (fun k b hk => ⟨(hsim.ours t k b hk).1, (hsim.ours t k b hk).2, fun i j _ hij => ?_⟩) (fun k k' b hk hk' => (hsim.dist t k t k' b hk hk').2)⟩
    · rw [getD_set tm d _ (by rw [hsim.size]; exact hd)]
      refine ⟨us, g1, g2, ?_⟩
      rw [rowX_same]
      exact g3
    · by_cases hi : i = t
      · subst hi; rw [rowX_same] at hij; cases hij
      · rw [rowX_other X noRow hi] at hij
        exact hi (hsim.dist i j t k b hij hk).1

theorem exok_extract {P : Program} {o : Oper} {σ : Nat → AV} {t i : Nat} {vs : List AV} {x : AV} (ho : o.op = .extract (.tmp t) i) (ht : σ t = .tuple vs) (hx : vs[i]? = some x) (hp : x.plain = true) (hnp : ∀ d p, x ≠ .ptr d p) (hne : ∀ cs, x ≠ .eptr cs) (hnd : x ≠ .dead) (hng : x ≠ .gone) : ExOK P o σ x [] [] := by
  intro c hc σ' tm w lim X hag hsim next Q hn
  have ht' : σ' t = .tuple vs := by rw [hag t (by simp [mem_uses (o := o) (x := .tmp t) (t := t) (by rw [ho]; simp [Op.operands]) rfl]), ht]
  have hr := hsim.rel t
  rw [ht'] at hr
  obtain ⟨us, g1, g2, g3⟩ := hr
  have hlt : i < us.length := by rw [g2]; exact (List.getElem?_eq_some_iff.1 hx).1
  have hu := List.getElem?_eq_getElem hlt
  have hc3 := g3 i x _ hx hu
  refine wp_of_run (v := us[i]) (w' := w) ?_ (hn _ w (after_plain hsim hp (k := 0) ?_))
  · have hev : Act.eval ⟨tm, []⟩ (.tmp t) = .tuple us.toArray := g1
    simp [execOp, ho, hev, Instr.extract, hlt]
  · cases x <;> first | (simp [AV.plain] at hp; done) | (exact (hnp _ _ rfl).elim) | (exact (hne _ rfl).elim) | (exact (hnd rfl).elim) | (exact (hng rfl).elim) | (have hz : Rep w lim _ _ := hc3; cases hz; done) | exact hc3

theorem exok_extract_own {P : Program} {o : Oper} {σ : Nat → AV} {t i : Nat} {vs : List AV} {e : TypeId} {xs : List (List AV)} (ho : o.op = .extract (.tmp t) i) (ht : σ t = .tuple vs) (hx : vs[i]? = some (.own e xs)) :
    ExOK P o σ (.own e xs) [(t, .tuple (vs.set i (.slice false (P.cellsOf e) xs)))] [] := by
  intro c hc σ' tm w lim X hag hsim next Q hn
  have ht' : σ' t = .tuple vs := by rw [hag t (by simp), ht]
  have htn : t < c.nt := by
    rcases Nat.lt_or_ge t c.nt with hlt | hge
    · exact hlt
    · have := hsim.out t hge; rw [ht'] at this; cases this
  have hr := hsim.rel t
  rw [ht'] at hr
  obtain ⟨us, g1, g2, g3⟩ := hr
  have hlt : i < us.length := by rw [g2]; exact (List.getElem?_eq_some_iff.1 hx).1
  have hu := List.getElem?_eq_getElem hlt
  have hown : OwnR c.P w lim e xs us[i] (X t (i + 1)) := g3 i _ _ hx hu
  have h1 : Sim c (upd σ' t (.tuple (vs.set i (.slice false (P.cellsOf e) xs)))) tm w lim (rowX X t fun k => if k = i + 1 then none else X t k) := by
    refine hsim.putRow (S := fun _ => False) _ (WStep.refl w lim _) (fun _ hs => hs.elim) htn rfl (fun j _ => rfl) (.inl fun cs hcs => by rw [ht'] at hcs; cases hcs) ?_ (fun k b hk => ?_) (fun k k' b hk hk' => ?_)
    · refine ⟨us, g1, by simp [g2], fun j y u hy hju => ?_⟩
      rw [rowX_same]
      by_cases hji : j = i
      · subst hji
        rw [List.getElem?_set_self (by omega)] at hy
        simp only [Option.some.injEq] at hy
        subst hy
        rw [hu] at hju
        simp only [Option.some.injEq] at hju
        subst hju
        have := OwnR.rep hown false rfl
        rw [hc] at this
        exact this
      · rw [List.getElem?_set_ne (fun h => hji h.symm)] at hy
        rw [if_neg (by omega)]
        exact g3 j y u hy hju
    · split at hk
      · cases hk
      · exact ⟨(hsim.ours t k b hk).1, (hsim.ours t k b hk).2, fun a j ha hj => ha (hsim.dist a j t k b hj hk).1⟩
    · split at hk <;> split at hk'
      · omega
      · cases hk
      · cases hk'
      · exact (hsim.dist t k t k' b hk hk').2
  refine wp_of_run (v := us[i]) (w' := w) ?_ (hn _ w (after_own h1 hown fun b hb => ⟨(hsim.ours t _ b hb).2, fun a j haj => ?_⟩))
  · have hev : Act.eval ⟨tm, []⟩ (.tmp t) = .tuple us.toArray := g1
    simp [execOp, ho, hev, Instr.extract, hlt]
  · by_cases ha : a = t
    · subst ha
      rw [rowX_same] at haj
      split at haj
      · cases haj
      · rename_i hne
        exact hne (hsim.dist a j a (i + 1) b haj hb).2
    · rw [rowX_other X _ ha] at haj
      exact ha (hsim.dist a j t (i + 1) b haj hb).1

end Go.AM
