/- Operations that read or make memory. Generic: no program stands in it. -/
import Derived.Test.YtjfhdhplmibnfaaAmOps
namespace Go.AM

def stripS (P : Program) : AV → AV
  | .row e _ _ xs => .slice false (P.cellsOf e) xs
  | .own e xs => .slice false (P.cellsOf e) xs
  | x => x

/-- What may lie in a box's cell. -/
def boxCell (x : AV) : Prop := x.isCell = true ∨ ∃ e xs, x = .own e xs

theorem add_none (b o n : Nat) : (⟨b, o, none⟩ : Addr).add n = ⟨b, o + n, none⟩ := by
  unfold Addr.add
  split
  · rename_i h; subst h; rfl
  · rfl

theorem info_of_underlying {P : Program} {T : TypeId} {d : TypeDesc} (h : P.underlying T = some d) : ∃ i, P.info? T = some i := by
  unfold Program.underlying at h
  split at h
  · rename_i hi; exact ⟨_, hi⟩
  · rename_i i hi; exact ⟨_, hi⟩
  · cases h

theorem cellsOf_info {P : Program} {T : TypeId} {i : TypeInfo} (h : P.info? T = some i) : P.cellsOf T = i.size := by simp [Program.cellsOf, h]

theorem run_sizeOf {P : Program} {T : TypeId} {i : TypeInfo} (h : P.info? T = some i) (w : World) : (sizeOf T).run P w = .ok (P.cellsOf T) w := by
  simp [sizeOf, typeInfo, h, cellsOf_info h]

theorem info_of_cells {P : Program} {T : TypeId} (h : P.cellsOf T ≠ 0) : ∃ i, P.info? T = some i := by
  cases hi : P.info? T with
  | none => simp [Program.cellsOf, hi] at h
  | some i => exact ⟨i, rfl⟩

theorem isAgg_true {P : Program} {T : TypeId} (h : isAggT P T = some true) (w : World) : (isAgg T).run P w = .ok true w := by
  unfold isAggT at h
  split at h <;> simp at h
  · rename_i hu; simp [isAgg, run_underlying hu]
  · rename_i hu; simp [isAgg, run_underlying hu]

theorem isAgg_false {P : Program} {T : TypeId} (h : isAggT P T = some false) (w : World) : (isAgg T).run P w = .ok false w := by
  unfold isAggT at h
  split at h <;> simp at h
  rename_i d h1 h2 hu
  simp only [isAgg, Sem.run_bind, run_underlying hu, Result.andThen_ok]
  rfl

theorem isAgg_info {P : Program} {T : TypeId} {b : Bool} (h : isAggT P T = some b) : ∃ i, P.info? T = some i := by
  unfold isAggT at h
  split at h <;> simp at h <;> (rename_i hu; exact info_of_underlying hu)

theorem CellR.strip {P : Program} {w : World} {lim : Nat → Nat} {ob : Option Nat} {x : AV} {v : Value} (h : CellR P w lim ob x v) (hx : boxCell x) :
    (stripS P x).isCell = true ∧ Rep w lim (stripS P x) v := by
  rcases hx with hx | ⟨e, xs, rfl⟩
  · cases x <;> simp [AV.isCell] at hx
    · exact ⟨rfl, h⟩
    · exact ⟨rfl, h⟩
  · exact ⟨rfl, OwnR.rep h false rfl⟩

theorem cell_of_heap {w : World} {b o : Nat} {arr : Array Value} {t : TypeId} {fr : Nat × Nat} (h : w.heap[b]? = some (.cells arr t fr)) : w.cell? ⟨b, o, none⟩ = arr[o]? := by
  simp [World.cell?, h]

/-- The content of a box, read: the part from 'off' on, 'n' cells. -/
theorem PlainR.part {P : Program} {w : World} {lim : Nat → Nat} {X : Nat → Option Nat} {cs : List AV} {v : Value} (h : PlainR P w lim X cs v) (off n : Nat) (hn : off + n ≤ cs.length) :
    ∃ (b : Nat) (us : List Value), X 0 = some b ∧ v = .pointer (some ⟨b, 0, none⟩) ∧ us.length = n ∧ (∀ (j : Nat) (u : Value), us[j]? = some u → w.cell? ⟨b, off + j, none⟩ = some u) ∧
      (∀ c ∈ ((cs.drop off).take n).map (stripS P), c.isCell = true) ∧
      ∀ (i : Nat) (c : AV) (u : Value), (((cs.drop off).take n).map (stripS P))[i]? = some c → us[i]? = some u → Rep w lim c u := by
  obtain ⟨b, arr, t, h1, h2, h3, h4, h5, h6, h7⟩ := h
  refine ⟨b, (arr.toList.drop off).take n, h1, h2, by simp [h4]; omega, fun j u hj => ?_, fun c hc => ?_, fun i c u hc hu => ?_⟩
  · rw [cell_of_heap h3]
    rw [List.getElem?_take] at hj
    split at hj
    · simpa using hj
    · cases hj
  · obtain ⟨x, hx, rfl⟩ := List.mem_map.1 hc
    have hx' : x ∈ cs := List.mem_of_mem_drop (List.mem_of_mem_take hx)
    rcases h6 x hx' with h | ⟨e, xs, rfl⟩
    · cases x <;> simp [AV.isCell] at h <;> rfl
    · rfl
  · rw [List.getElem?_map, List.getElem?_take] at hc
    rw [List.getElem?_take] at hu
    split at hc
    · rename_i hlt
      rw [if_pos hlt] at hu
      simp only [List.getElem?_drop] at hc hu
      cases hx : cs[off + i]? with
      | none => simp [hx] at hc
      | some x =>
        simp [hx] at hc
        subst hc
        have hmem : x ∈ cs := List.mem_of_getElem? hx
        exact ((h7 (off + i) x u hx (by simpa using hu)).strip (h6 x hmem)).2
    · simp at hc

/-- A pointer into a box, resolved. -/
theorem ptr_box {c : Ctx} {σ : Nat → AV} {tm : Array Value} {w : World} {lim : Nat → Nat} {X : Nat → Nat → Option Nat} (h : Sim c σ tm w lim X) {d off k : Nat} {cs : List AV} {v : Value}
    (hd : σ d = .box cs) (hn : NoRow cs) (hv : SlotR c.P w lim X σ k (.ptr d off) v) : ∃ b, X d 0 = some b ∧ v = .pointer (some ⟨b, off, none⟩) ∧ PlainR c.P w lim (X d) cs (.pointer (some ⟨b, 0, none⟩)) := by
  obtain ⟨b, cs', h1, h2, h3⟩ := hv
  have hr := h.rel d
  rw [hd] at hr
  have hr' := BoxR.plain hr hn
  have hrp := hr'
  obtain ⟨b', arr, t, g1, g2, _⟩ := hrp
  have : b' = b := by rw [g1] at h1; exact Option.some.inj h1
  subst this
  refine ⟨b', h1, h3, ?_⟩
  have hr'' : PlainR c.P w lim (X d) cs (tm.getD d undef) := hr'
  rw [g2] at hr''
  exact hr''

theorem run_loadAgg {P : Program} {T : TypeId} {w : World} {b off : Nat} {us : List Value} (hT : isAggT P T = some true) (hn : us.length = P.cellsOf T)
    (hc : ∀ (j : Nat) (u : Value), us[j]? = some u → w.cell? ⟨b, off + j, none⟩ = some u) : (Instr.loadAt T (.pointer (some ⟨b, off, none⟩))).run P w = .ok (.agg us.toArray) w := by
  obtain ⟨i, hi⟩ := isAgg_info hT
  have hl := run_loadCells_list (P := P) w ⟨b, off, none⟩ us (fun j v hj => by rw [add_none]; exact hc j v hj)
  rw [hn] at hl
  simp [Instr.loadAt, Instr.sureAddr, loadVar, isAgg_true hT, run_sizeOf hi, hl]

theorem run_loadCell {P : Program} {T : TypeId} {w : World} {b off : Nat} {u : Value} (hT : isAggT P T = some false)
    (hc : w.cell? ⟨b, off, none⟩ = some u) : (Instr.loadAt T (.pointer (some ⟨b, off, none⟩))).run P w = .ok u w := by
  simp [Instr.loadAt, Instr.sureAddr, loadVar, isAgg_false hT, hc]

theorem cell_slotR {P : Program} {w : World} {lim : Nat → Nat} {X : Nat → Nat → Option Nat} {σ : Nat → AV} {k : Nat} {x : AV} {v : Value} (hx : x.isCell = true) (h : Rep w lim x v) :
    x.plain = true ∧ SlotR P w lim X σ k x v := by
  cases x <;> simp [AV.isCell] at hx
  · exact ⟨rfl, h⟩
  · exact ⟨rfl, h⟩

theorem exok_load_agg {P : Program} {o : Oper} {σ : Nat → AV} {T : TypeId} {a : Operand} {d off : Nat} {cs : List AV} (ho : o.op = .load T a) (hT : isAggT P T = some true)
    (ha : getS P σ a = .ptr d off) (hd : σ d = .box cs) (hn : off + P.cellsOf T ≤ cs.length) (hnr : NoRow cs) : ExOK P o σ (.agg (((cs.drop off).take (P.cellsOf T)).map (stripS P))) [] [d] := by
  refine exok_plain [d] rfl fun c hc σ' tm w lim X hg hfp hsim => ?_
  rw [ho] at hg
  have hv := opnd hc hsim ha (hg a (by simp [Op.operands]))
  have hd' : σ' d = .box cs := by rw [hfp d (by simp), hd]
  rw [← hc] at hv
  obtain ⟨b, h1, h2, h3⟩ := ptr_box hsim hd' hnr hv
  obtain ⟨b', us, g1, g2, g3, g4, g5, g6⟩ := h3.part off (P.cellsOf T) hn
  have : b' = b := by rw [g1] at h1; exact Option.some.inj h1
  subst this
  refine ⟨.agg us.toArray, ?_, ?_⟩
  · simp [execOp, ho, h2, run_loadAgg hT g3 g4]
  · rw [hc] at g5 g6
    exact .agg (by simp [g3]; omega) g5 g6

theorem exok_load_cell {P : Program} {o : Oper} {σ : Nat → AV} {T : TypeId} {a : Operand} {d off : Nat} {cs : List AV} {x : AV} (ho : o.op = .load T a) (hT : isAggT P T = some false)
    (ha : getS P σ a = .ptr d off) (hd : σ d = .box cs) (hx : cs[off]? = some x) (hnr : NoRow cs) : ExOK P o σ (stripS P x) [] [d] := by
  intro c hc σ' tm w lim X hag hsim next Q hn
  have hg : getS P σ' a = getS P σ a := getS_congr fun t ht => hag t (by simp [mem_uses (o := o) (x := a) (by rw [ho]; simp [Op.operands]) ht])
  have hv := opnd hc hsim ha hg
  have hd' : σ' d = .box cs := by rw [hag d (by simp), hd]
  rw [← hc] at hv
  obtain ⟨b, h1, h2, h3⟩ := ptr_box hsim hd' hnr hv
  have hlt : off < cs.length := (List.getElem?_eq_some_iff.1 hx).1
  obtain ⟨b', us, g1, g2, g3, g4, g5, g6⟩ := h3.part off 1 (by omega)
  have : b' = b := by rw [g1] at h1; exact Option.some.inj h1
  subst this
  obtain ⟨u, rfl⟩ : ∃ u, us = [u] := List.length_eq_one_iff.1 g3
  have hcell := g4 0 u rfl
  rw [Nat.add_zero] at hcell
  have hl : ((cs.drop off).take 1).map (stripS c.P) = [stripS c.P x] := by
    have : (cs.drop off).take 1 = [x] := by
      rw [List.take_one, List.head?_drop, hx]; rfl
    rw [this]; rfl
  rw [hl] at g5 g6
  have hx1 := g5 (stripS c.P x) (by simp)
  have hx2 := g6 0 (stripS c.P x) u rfl rfl
  rw [hc] at hx1 hx2
  obtain ⟨p1, p2⟩ := cell_slotR (P := P) (X := X) (σ := σ') (k := 0) hx1 hx2
  refine wp_of_run (v := u) ?_ (hn u w (after_plain hsim p1 (k := 0) (by rw [hc]; exact p2)))
  simp [execOp, ho, h2, run_loadCell hT hcell]

theorem eptr_cells {P : Program} {w : World} {lim : Nat → Nat} {X : Nat → Nat → Option Nat} {σ : Nat → AV} {k : Nat} {cs : List AV} {v : Value} (h : SlotR P w lim X σ k (.eptr cs) v) :
    ∃ (b o : Nat) (us : List Value), v = .pointer (some ⟨b, o, none⟩) ∧ us.length = cs.length ∧ (us ≠ [] → o + us.length ≤ lim b) ∧
      (∀ (j : Nat) (u : Value), us[j]? = some u → w.cell? ⟨b, o + j, none⟩ = some u) ∧ (∀ c ∈ cs, c.isCell = true) ∧
      ∀ (j : Nat) (c : AV) (u : Value), cs[j]? = some c → us[j]? = some u → Rep w lim c u := h

theorem exok_load_eagg {P : Program} {o : Oper} {σ : Nat → AV} {T : TypeId} {a : Operand} {cs : List AV} (ho : o.op = .load T a) (hT : isAggT P T = some true)
    (ha : getS P σ a = .eptr cs) (hn : P.cellsOf T ≤ cs.length) : ExOK P o σ (.agg (cs.take (P.cellsOf T))) [] [] := by
  refine exok_plain [] rfl fun c hc σ' tm w lim X hg hfp hsim => ?_
  rw [ho] at hg
  obtain ⟨b, off, us, h1, h2, h3, h4, h5, h6⟩ := eptr_cells (opnd hc hsim ha (hg a (by simp [Op.operands])))
  refine ⟨.agg (us.take (P.cellsOf T)).toArray, ?_, ?_⟩
  · have := run_loadAgg (w := w) (b := b) (off := off) (us := us.take (P.cellsOf T)) hT (by simp [h2]; omega) (fun j u hj => h4 j u (by
      rw [List.getElem?_take] at hj; split at hj
      · exact hj
      · cases hj))
    simp [execOp, ho, h1, this]
  · refine .agg (by simp [h2]) (fun x hx => h5 x (List.mem_of_mem_take hx)) fun i x u hx hu => ?_
    rw [List.getElem?_take] at hx hu
    split at hx
    · rename_i hlt
      rw [if_pos hlt] at hu
      exact h6 i x u hx hu
    · cases hx

theorem exok_load_ecell {P : Program} {o : Oper} {σ : Nat → AV} {T : TypeId} {a : Operand} {x : AV} {cs : List AV} (ho : o.op = .load T a) (hT : isAggT P T = some false)
    (ha : getS P σ a = .eptr (x :: cs)) : ExOK P o σ x [] [] := by
  intro c hc σ' tm w lim X hag hsim next Q hn
  have hg : getS P σ' a = getS P σ a := getS_congr fun t ht => hag t (by simp [mem_uses (o := o) (x := a) (by rw [ho]; simp [Op.operands]) ht])
  obtain ⟨b, off, us, h1, h2, h3, h4, h5, h6⟩ := eptr_cells (opnd hc hsim ha hg)
  obtain ⟨u, us', rfl⟩ : ∃ u us', us = u :: us' := by
    cases us with
    | nil => simp at h2
    | cons u us' => exact ⟨u, us', rfl⟩
  have hcell := h4 0 u rfl
  rw [Nat.add_zero] at hcell
  obtain ⟨p1, p2⟩ := cell_slotR (P := P) (X := X) (σ := σ') (k := 0) (h5 x (by simp)) (h6 0 x u rfl rfl)
  refine wp_of_run (v := u) ?_ (hn u w (after_plain hsim p1 (k := 0) (by rw [hc]; exact p2)))
  simp [execOp, ho, h1, run_loadCell hT hcell]

theorem fieldOff_spec {P : Program} {T : TypeId} {f off : Nat} (h : fieldOff P T f = some off) :
    ∃ fs fd, P.underlying T = some (.struct fs) ∧ fs[f]? = some fd ∧ fd.offset = off ∧ P.cellsOf fd.type ≠ 0 := by
  unfold fieldOff at h
  split at h
  · rename_i fs hu
    split at h
    · rename_i fd hf
      split at h
      · cases h
      · rename_i hz
        exact ⟨fs, fd, hu, hf, by simpa using h, hz⟩
    · cases h
  · cases h

theorem run_fieldAt {P : Program} {T : TypeId} {f off b o : Nat} (h : fieldOff P T f = some off) (w : World) :
    (Instr.fieldAt T (.pointer (some ⟨b, o, none⟩)) f).run P w = .ok (.pointer (some ⟨b, o + off, none⟩)) w := by
  obtain ⟨fs, fd, h1, h2, h3, h4⟩ := fieldOff_spec h
  obtain ⟨i, hi⟩ := info_of_cells h4
  simp [Instr.fieldAt, run_underlying h1, h2, Instr.sureAddr, fieldPlace, run_sizeOf hi, h4, add_none, h3]

theorem exok_field_ptr {P : Program} {o : Oper} {σ : Nat → AV} {T : TypeId} {x : Operand} {f off d p : Nat} (ho : o.op = .fieldAddr T x f) (hf : fieldOff P T f = some off)
    (hx : getS P σ x = .ptr d p) : ExOK P o σ (.ptr d (p + off)) [] [] := by
  refine exok_plain [] rfl fun c hc σ' tm w lim X hg hfp hsim => ?_
  rw [ho] at hg
  obtain ⟨b, cs, h1, h2, h3⟩ := opnd hc hsim hx (hg x (by simp [Op.operands]))
  exact ⟨.pointer (some ⟨b, p + off, none⟩), by simp [execOp, ho, h3, run_fieldAt hf], b, cs, h1, h2, rfl⟩

theorem exok_field_eptr {P : Program} {o : Oper} {σ : Nat → AV} {T : TypeId} {x : Operand} {f off : Nat} {cs : List AV} (ho : o.op = .fieldAddr T x f) (hf : fieldOff P T f = some off)
    (hx : getS P σ x = .eptr cs) : ExOK P o σ (.eptr (cs.drop off)) [] [] := by
  refine exok_plain [] rfl fun c hc σ' tm w lim X hg hfp hsim => ?_
  rw [ho] at hg
  obtain ⟨b, p, us, h1, h2, h3, h4, h5, h6⟩ := eptr_cells (opnd hc hsim hx (hg x (by simp [Op.operands])))
  refine ⟨.pointer (some ⟨b, p + off, none⟩), by simp [execOp, ho, h1, run_fieldAt hf], b, p + off, us.drop off, rfl, by simp [h2], fun hne => ?_, fun j u hj => ?_, fun y hy => h5 y (List.mem_of_mem_drop hy), fun j y u hy hu => ?_⟩
  · have hl : off < us.length := by
      rcases Nat.lt_or_ge off us.length with h | h
      · exact h
      · exact (hne (List.drop_eq_nil_of_le h)).elim
    have := h3 (by intro e; subst e; simp at hl)
    simp only [List.length_drop]
    omega
  · rw [List.getElem?_drop] at hj
    have := h4 _ u hj
    rwa [← Nat.add_assoc] at this
  · rw [List.getElem?_drop] at hy hu
    exact h6 _ y u hy hu

theorem exok_nilCheck {P : Program} {o : Oper} {σ : Nat → AV} {x : Operand} {y : AV} (ho : o.op = .nilCheck x) (hx : getS P σ x = y) (hy : (∃ d p, y = .ptr d p) ∨ ∃ cs, y = .eptr cs) : ExOK P o σ y [] [] := by
  have hp : y.plain = true := by rcases hy with ⟨d, p, rfl⟩ | ⟨cs, rfl⟩ <;> rfl
  refine exok_plain [] hp fun c hc σ' tm w lim X hg hfp hsim => ?_
  rw [ho] at hg
  have hv := opnd hc hsim hx (hg x (by simp [Op.operands]))
  refine ⟨Act.eval ⟨tm, []⟩ x, ?_, hv⟩
  have : ∃ a, Act.eval ⟨tm, []⟩ x = .pointer (some a) := by
    rcases hy with ⟨d, p, rfl⟩ | ⟨cs, rfl⟩
    · obtain ⟨b, cs, h1, h2, h3⟩ := hv; exact ⟨_, h3⟩
    · obtain ⟨b, p, us, h1, _⟩ := hv; exact ⟨_, h1⟩
  obtain ⟨a, ha⟩ := this
  simp [execOp, ho, ha]

theorem exok_len_slice {P : Program} {o : Oper} {σ : Nat → AV} {cl : Call} {x : Operand} {T e : TypeId} {f : Bool} {s : Nat} {xs : List (List AV)} (ho : o.op = .call cl) (hcl : cl.callee = .builtin .len)
    (hargs : cl.args.toList = [x]) (hts : cl.argTypes.toList = [T]) (hT : P.underlying T = some (.slice e)) (hx : getS P σ x = .slice f s xs) : ExOK P o σ (.val (.int .i64 xs.length)) [] [] := by
  have hargs' : cl.args = #[x] := by apply Array.toList_inj.1; rw [hargs]
  have hts' : cl.argTypes = #[T] := by apply Array.toList_inj.1; rw [hts]
  refine exok_plain [] rfl fun c hc σ' tm w lim X hg hfp hsim => ⟨.int .i64 xs.length, ?_, .val rfl⟩
  rw [ho] at hg
  have hv := opnd hc hsim hx (hg x (by simp [Op.operands, Call.operands, hargs', hcl]))
  have : ∃ a cap, Act.eval ⟨tm, []⟩ x = .slice a xs.length cap := by
    have hv' : Rep w lim (.slice f s xs) (Act.eval ⟨tm, []⟩ x) := hv
    generalize Act.eval ⟨tm, []⟩ x = u at hv'
    cases hv' with
    | sliceN => exact ⟨none, 0, rfl⟩
    | sliceE _ => exact ⟨_, _, rfl⟩
    | sliceC => exact ⟨_, _, rfl⟩
  obtain ⟨a, cap, ha⟩ := this
  simp [execOp, ho, hcl, resolve, hargs', hts', invoke, builtin, Builtin.len_, run_underlying hT, ha, goInt]

theorem exok_len_str {P : Program} {o : Oper} {σ : Nat → AV} {cl : Call} {x : Operand} {T : TypeId} {s : ByteArray} (ho : o.op = .call cl) (hcl : cl.callee = .builtin .len)
    (hargs : cl.args.toList = [x]) (hts : cl.argTypes.toList = [T]) (hT : P.underlying T = some .string) (hx : getS P σ x = .val (.string s)) : ExOK P o σ (.val (.int .i64 s.size)) [] [] := by
  have hargs' : cl.args = #[x] := by apply Array.toList_inj.1; rw [hargs]
  have hts' : cl.argTypes = #[T] := by apply Array.toList_inj.1; rw [hts]
  refine exok_plain [] rfl fun c hc σ' tm w lim X hg hfp hsim => ⟨.int .i64 s.size, ?_, .val rfl⟩
  rw [ho] at hg
  have hv := opnd_val hc hsim hx (hg x (by simp [Op.operands, Call.operands, hargs', hcl]))
  simp [execOp, ho, hcl, resolve, hargs', hts', invoke, builtin, Builtin.len_, run_underlying hT, hv, goInt]

theorem flatten_drop_len (xs : List (List AV)) (s : Nat) (hs : ∀ x ∈ xs, x.length = s) : ∀ (n : Nat) (e : List AV), xs[n]? = some e → ∀ j, j < s → xs.flatten[n * s + j]? = e[j]? := by
  induction xs with
  | nil => intro n e h; simp at h
  | cons x xs ih =>
    intro n e h j hj
    have hx : x.length = s := hs x (by simp)
    cases n with
    | zero =>
      simp at h
      subst h
      simp only [List.flatten_cons, Nat.zero_mul, Nat.zero_add]
      rw [List.getElem?_append_left (by omega)]
    | succ n =>
      simp only [List.flatten_cons]
      rw [List.getElem?_append_right (by rw [hx, Nat.add_mul]; omega)]
      have : (n + 1) * s + j - x.length = n * s + j := by rw [hx, Nat.add_mul]; omega
      rw [this]
      exact ih (fun y hy => hs y (by simp [hy])) n e (by simpa using h) j hj

theorem exok_index {P : Program} {o : Oper} {σ : Nat → AV} {T el : TypeId} {x i : Operand} {f : Bool} {s : Nat} {xs : List (List AV)} {k : IntKind} {n : Int} {e : List AV} (ho : o.op = .indexAddr T x i)
    (hT : P.underlying T = some (.slice el)) (hs : s = P.cellsOf el) (hs0 : P.cellsOf el ≠ 0) (hx : getS P σ x = .slice f s xs) (hi : getS P σ i = .val (.int k n)) (h0 : 0 ≤ n) (he : xs[n.toNat]? = some e) :
    ExOK P o σ (.eptr e) [] [] := by
  refine exok_plain [] rfl fun c hc σ' tm w lim X hg hfp hsim => ?_
  rw [ho] at hg
  have hv : Rep w lim (.slice f s xs) (Act.eval ⟨tm, []⟩ x) := opnd hc hsim hx (hg x (by simp [Op.operands]))
  have hiv := opnd_val hc hsim hi (hg i (by simp [Op.operands]))
  generalize hu : Act.eval ⟨tm, []⟩ x = u at hv
  have hlt : n.toNat < xs.length := (List.getElem?_eq_some_iff.1 he).1
  cases hv with
  | sliceN => simp at hlt
  | sliceE _ => simp at hlt
  | @sliceC _ _ _ b p cap us hls hc1 hf hle hlim hus hcell hrep =>
    subst hs
    obtain ⟨inf, hinf⟩ := info_of_cells hs0
    have hel : e.length = P.cellsOf el := hls e (List.mem_of_getElem? he)
    have hmul : n.toNat * P.cellsOf el + P.cellsOf el ≤ xs.length * P.cellsOf el := by
      rw [← Nat.succ_mul]; exact Nat.mul_le_mul_right _ hlt
    refine ⟨.pointer (some ⟨b, p + n.toNat * P.cellsOf el, none⟩), ?_, b, p + n.toNat * P.cellsOf el, (us.drop (n.toNat * P.cellsOf el)).take (P.cellsOf el), rfl, ?_, fun _ => ?_, fun j w' hj => ?_, hc1 e (List.mem_of_getElem? he), fun j y w' hy hw' => ?_⟩
    · have hb : 0 ≤ n ∧ n < (xs.length : Int) := ⟨h0, by omega⟩
      simp [execOp, ho, hu, hiv, Instr.indexAt, asIntOf, run_underlying hT, hb, run_sizeOf hinf, add_none]
    · simp [hus, hel]; omega
    · have := hlim (by intro h; rw [h] at hus; simp at hus; omega)
      simp only [List.length_take, List.length_drop, hus] at this ⊢
      omega
    · rw [List.getElem?_take] at hj
      split at hj
      · rw [List.getElem?_drop] at hj
        have := hcell _ w' hj
        rwa [← Nat.add_assoc] at this
      · cases hj
    · rw [List.getElem?_take] at hw'
      split at hw'
      · rename_i hjlt
        rw [List.getElem?_drop] at hw'
        exact hrep _ y w' (by rw [flatten_drop_len xs _ hls n.toNat e he j hjlt]; exact hy) hw'
      · cases hw'

end Go.AM
