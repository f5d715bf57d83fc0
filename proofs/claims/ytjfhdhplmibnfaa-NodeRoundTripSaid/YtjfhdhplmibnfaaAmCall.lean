/- Append as an operation; calls. Generic: no program stands in it. -/
import Derived.Test.YtjfhdhplmibnfaaAmApp
namespace Go.AM

theorem exok_buildSlice {P : Program} {o : Oper} {σ : Nat → AV} {T e : TypeId} {len : Nat} {parts : Array (Nat × Operand)} {i : TypeInfo} {z : Value} {zc cs cs' : List AV} (ho : o.op = .buildSlice T len parts)
    (hT : P.underlying T = some (.slice e)) (hi : P.info? e = some i) (hz : i.zero = some z) (hzc : ofCsS z.cells.toList = some zc) (hzs : z.cells.size = i.size) (hs0 : 0 < i.size) (hbig : len * i.size ≤ 1048576)
    (hf : fillS (fun j => some (j * i.size, i.size)) ((List.replicate len zc).flatten) (parts.toList.map fun p => (p.1, getS P σ p.2)) = some cs)
    (hw : cs'.length = cs.length ∧ ∀ (w : World) (lim : Nat → Nat) (us : List Value), RelL w lim cs us → RelL w lim cs' us) : ExOK P o σ (.own e (elems i.size cs' len)) [] [] := by
  intro c hc σ' tm w lim X hag hsim next Q hn
  have hg : ∀ p ∈ parts.toList, getS P σ' p.2 = getS P σ p.2 := fun p hp => getS_congr fun t ht => hag t (by
    refine List.mem_append.2 (.inl (List.mem_append.2 (.inl (mem_uses (x := p.2) ?_ ht))))
    rw [ho]
    simp only [Op.operands, List.mem_toArray]
    exact List.mem_map.2 ⟨p, hp, rfl⟩)
  obtain ⟨h1, h2⟩ := eval_parts hc hsim parts hg
  have hz0 := relL_replicate (ofCsS_relL (w := w) (lim := lim) hzc) len
  obtain ⟨us', h3, h4⟩ := fill_rel (P := P) (X := X) (σ := σ') (k := 0) _ _ _ _ _ hz0 h1 h2 hf
  have hzl : z.cells.toList.length = i.size := by rw [← hzs]; simp
  have hcl : cs.length = len * i.size := by
    have hinv : ∀ (parts : List (Nat × AV)) (cells out : List AV), fillS (fun j => some (j * i.size, i.size)) cells parts = some out → out.length = cells.length := by
      intro parts
      induction parts with
      | nil => intro cells out h; simp only [fillS, Option.some.injEq] at h; rw [h]
      | cons p parts ih =>
        intro cells out h
        simp only [fillS] at h
        split at h
        · split at h
          · rename_i hcond
            rw [ih _ _ h]
            simp
            omega
          · cases h
        · cases h
    rw [hinv _ _ _ hf]
    have hzcl : zc.length = i.size := by rw [(ofCsS_relL (w := w) (lim := lim) hzc).1, hzl]
    simp [hzcl]
  replace h4 := hw.2 _ _ _ h4
  have hcl' : cs'.length = len * i.size := by rw [hw.1, hcl]
  have hb : (Instr.buildSlice T len (parts.map fun p => (p.1, Act.eval ⟨tm, []⟩ p.2))).run P w = .ok (.slice (some ⟨w.heap.size, 0, none⟩) len len) (w.alloc (.cells us'.toArray e)) := by
    have hnb : ¬ (2 ^ 24 < len * i.size) := by omega
    by_cases hnz : len * i.size = 0
    · have hl0 : len = 0 := (Nat.mul_eq_zero.1 hnz).elim id fun h => by omega
      subst hl0
      have hr0 : Array.range 0 = #[] := rfl
      simp only [Instr.buildSlice, Sem.run_bind, run_underlying hT, Result.andThen_ok, sizeOf, typeInfo, run_program, hi, Sem.run_pure, gt_iff_lt, Nat.zero_mul, Nat.not_lt_zero, if_false, if_true, hr0, Array.map_empty]
      simp only [List.replicate_zero, List.flatten_nil] at h3
      rw [h3]
      simp [newRow]
    · have hrep := replicate_zero z.cells.toList len
      rw [hzl, Array.toArray_toList] at hrep
      simp only [Instr.buildSlice, Sem.run_bind, run_underlying hT, Result.andThen_ok, sizeOf, typeInfo, run_program, hi, Sem.run_pure, gt_iff_lt, if_neg hnb, if_neg hnz, zeroValue, hz]
      rw [hrep, h3]
      simp [newRow]
  have hsz : P.cellsOf e = i.size := cellsOf_info hi
  have hstep := wstep_alloc w lim us'.toArray e us'.length (fun _ => False)
  have hel : (elems i.size cs' len).length = len := by simp [elems]
  have hfl := elems_flatten i.size len cs' hcl'
  have h5 := h4.mono hstep.ext
  have hlu : us'.length = len * i.size := by rw [← h4.1, hcl']
  have hlm : len ≤ maxLen := by
    have : len * 1 ≤ len * i.size := Nat.mul_le_mul_left _ hs0
    have : (1048576 : Nat) ≤ maxLen := by decide
    omega
  have key : OwnR P (w.alloc (.cells us'.toArray e)) (fun b => if b = w.heap.size then us'.length else lim b) e (elems i.size cs' len) (.slice (some ⟨w.heap.size, 0, none⟩) (elems i.size cs' len).length len) (some w.heap.size) := by
    refine .inl ⟨us', ⟨by rw [hel, hsz, hlu], .inr ⟨w.heap.size, len, us'.toArray, rfl, Nat.zero_le _, heap_new w _ e, by rw [hel]; exact Nat.le_refl _, hlm, by simp [hsz, hlu], by rw [hel, hsz, ← hlu]; simp⟩⟩, rfl, fun b hb => ?_, fun x hx => ?_, fun x hx y hy => ?_, fun j y u hy hu => ?_⟩
    · simp only [Option.some.injEq] at hb
      subst hb
      exact if_pos rfl
    · obtain ⟨j, hj, rfl⟩ := List.mem_map.1 hx
      have hj' : j < len := List.mem_range.1 hj
      have hm : j * i.size + i.size ≤ len * i.size := by rw [← Nat.succ_mul]; exact Nat.mul_le_mul_right _ hj'
      simp [hcl', hsz]
      omega
    · refine h5.2.1 y ?_
      rw [← hfl]
      exact List.mem_flatten.2 ⟨x, hx, hy⟩
    · rw [hfl] at hy
      exact h5.2.2 j y u hy hu
  rw [hel] at key
  have hw2 := hsim.world hstep fun _ hs => hs.elim
  refine wp_of_run (v := .slice (some ⟨w.heap.size, 0, none⟩) len len) (w' := w.alloc (.cells us'.toArray e)) (by simp only [execOp, ho, Sem.run_bind, hb, Result.andThen_ok, Sem.run_pure]) (hn _ _ (after_own hw2 (by rw [hc]; exact key) fun b hb => ?_))
  simp only [Option.some.injEq] at hb
  subst hb
  exact ⟨.inr hsim.frm.size, fun i j => not_size hsim i j⟩

theorem exok_append_own {P : Program} {o : Oper} {σ : Nat → AV} {cl : Call} {T e : TypeId} {i : TypeInfo} {z : Value} {t : Nat} {y : Operand} {xs ys : List (List AV)} {f : Bool} (ho : o.op = .call cl) (hcl : cl.callee = .builtin .append)
    (hargs : cl.args.toList = [.tmp t, y]) (hts : cl.argTypes.toList = [T, T]) (hT : P.underlying T = some (.slice e)) (hi : P.info? e = some i) (hz : i.zero = some z) (hzs : z.cells.size = i.size)
    (ht : σ t = .own e xs) (hy : getS P σ y = .slice f i.size ys) (hroom : (xs.length + ys.length) * (i.bytes + 1) ≤ roomMax) :
    ExOK P o σ (.own e (xs ++ ys)) [(t, .slice false i.size xs)] [] := by
  have hargs' : cl.args = #[.tmp t, y] := by apply Array.toList_inj.1; rw [hargs]
  have hts' : cl.argTypes = #[T, T] := by apply Array.toList_inj.1; rw [hts]
  intro c hc σ' tm w lim X hag hsim next Q hn
  have hsz : P.cellsOf e = i.size := cellsOf_info hi
  have hgy : getS P σ' y = getS P σ y := getS_congr fun t ht => hag t (by simp [mem_uses (o := o) (x := y) (by rw [ho]; simp [Op.operands, Call.operands, hargs', hcl]) ht])
  have ht' : σ' t = .own e xs := by rw [hag t (by simp), ht]
  obtain ⟨h1, h2, h3⟩ := hsim.free ht'
  have hyv : Rep w lim (.slice f (P.cellsOf e) ys) (Act.eval ⟨tm, []⟩ y) := by rw [hsz]; exact opnd hc hsim hy hgy
  rw [hc] at h2
  obtain ⟨v', w', lim', ob', r1, r2, r3, r4⟩ := append_run (ty := o.type) hT hi hz hzs h2 hyv hroom
  have hfree : ∀ b, X t 0 = some b → (c.A b ∨ c.w0.heap.size ≤ b) ∧ ∀ i j, rowX X t noRow i j ≠ some b := h3
  have hw := h1.world r3 hfree
  refine wp_of_run (v := v') (w' := w') ?_ (hn _ w' ?_)
  · have hev : Act.eval ⟨tm, []⟩ (.tmp t) = tm.getD t undef := rfl
    simp only [execOp, ho, resolve, hcl, hargs', hts', List.map_toArray, List.map_cons, List.map_nil, Sem.run_bind, Sem.run_pure, Result.andThen_ok, invoke, builtin, hev, r1]
  · rw [hc, hsz] at hw
    rw [← hc] at r2
    refine after_own hw r2 fun b hb => ?_
    rcases r4 with r4 | r4
    · rw [r4] at hb; exact h3 b hb
    · rw [r4] at hb
      simp only [Option.some.injEq] at hb
      subst hb
      exact ⟨.inr hsim.frm.size, fun i j => not_size h1 i j⟩

theorem own_full {P : Program} {w : World} {lim : Nat → Nat} {e : TypeId} {v : Value} {s : Nat} (h : Rep w lim (.slice true s []) v) : OwnR P w lim e [] v none := by
  have key : ∀ (y : AV), Rep w lim y v → y = .slice true s [] → OwnR P w lim e [] v none := by
    intro y hy hye
    cases hy with
    | sliceN => exact .inl ⟨[], World.ownsRow_nil _ 0 e _, rfl, by simp, by simp, by simp, by simp⟩
    | @sliceE f s' a cap hf =>
      injection hye with h1 h2 h3
      have := hf h1
      subst this
      exact .inr ⟨rfl, rfl, a, rfl⟩
    | @sliceC f s' xs b o cap us hs hc hf hle hlim hus hcell hr =>
      injection hye with h1 h2 h3
      subst h3
      have := hf h1
      simp at this
      subst this
      exact .inr ⟨rfl, rfl, _, rfl⟩
    | val _ => cases hye
    | agg _ _ _ => cases hye
  exact key _ h rfl

theorem exok_append_full {P : Program} {o : Oper} {σ : Nat → AV} {cl : Call} {T e : TypeId} {i : TypeInfo} {z : Value} {x y : Operand} {ys : List (List AV)} {f : Bool} {s : Nat} (ho : o.op = .call cl) (hcl : cl.callee = .builtin .append)
    (hargs : cl.args.toList = [x, y]) (hts : cl.argTypes.toList = [T, T]) (hT : P.underlying T = some (.slice e)) (hi : P.info? e = some i) (hz : i.zero = some z) (hzs : z.cells.size = i.size)
    (hx : getS P σ x = .slice true s []) (hy : getS P σ y = .slice f i.size ys) (hroom : (([] : List (List AV)).length + ys.length) * (i.bytes + 1) ≤ roomMax) :
    ExOK P o σ (.own e ys) [] [] := by
  have hargs' : cl.args = #[x, y] := by apply Array.toList_inj.1; rw [hargs]
  have hts' : cl.argTypes = #[T, T] := by apply Array.toList_inj.1; rw [hts]
  intro c hc σ' tm w lim X hag hsim next Q hn
  have hsz : P.cellsOf e = i.size := cellsOf_info hi
  have hgx : getS P σ' x = getS P σ x := getS_congr fun t ht => hag t (by simp [mem_uses (o := o) (x := x) (by rw [ho]; simp [Op.operands, Call.operands, hargs', hcl]) ht])
  have hgy : getS P σ' y = getS P σ y := getS_congr fun t ht => hag t (by simp [mem_uses (o := o) (x := y) (by rw [ho]; simp [Op.operands, Call.operands, hargs', hcl]) ht])
  have hxv : OwnR P w lim e [] (Act.eval ⟨tm, []⟩ x) none := own_full (s := s) (opnd hc hsim hx hgx)
  have hyv : Rep w lim (.slice f (P.cellsOf e) ys) (Act.eval ⟨tm, []⟩ y) := by rw [hsz]; exact opnd hc hsim hy hgy
  obtain ⟨v', w', lim', ob', r1, r2, r3, r4⟩ := append_run (ty := o.type) hT hi hz hzs hxv hyv hroom
  have hw := hsim.world r3 fun b hb => by cases hb
  refine wp_of_run (v := v') (w' := w') ?_ (hn _ w' ?_)
  · simp only [execOp, ho, resolve, hcl, hargs', hts', List.map_toArray, List.map_cons, List.map_nil, Sem.run_bind, Sem.run_pure, Result.andThen_ok, invoke, builtin, r1]
  · rw [← hc, List.nil_append] at r2
    refine after_own hw r2 fun b hb => ?_
    rcases r4 with r4 | r4
    · rw [r4] at hb; cases hb
    · rw [r4] at hb
      simp only [Option.some.injEq] at hb
      subst hb
      exact ⟨.inr hsim.frm.size, fun i j => not_size hsim i j⟩

def argS (l : List AV) : Nat → AV := fun i => (l[i]?).getD .dead

def Dist (X : Nat → Nat → Option Nat) : Prop := ∀ d k d' k' b, X d k = some b → X d' k' = some b → d = d' ∧ k = k'

def Callable (P : Program) (f : FuncId) : Prop := ∃ fn, P.funcs[f]? = some fn ∧ (fn.name == "runtime.NumGoroutine") = false ∧ fn.body.isNone = false

/-- What a call does: whatever stands for the arguments, the function returns what stands for the result, and the boxes come back as 'outs' says. -/
def CallOk (P : Program) (f : FuncId) (args : List AV) (res : AV) (outs : List AV) : Prop :=
  Callable P f ∧ ∀ (w : World) (lim : Nat → Nat) (X : Nat → Nat → Option Nat) (cargs : List Value), cargs.length = args.length →
    (∀ i, SlotR P w lim X (argS args) i (argS args i) (cargs.getD i undef)) → Dist X → (∀ i k b, X i k = some b → b < w.heap.size) →
    Calls P f cargs.toArray w fun e w' => ∃ v lim' X', e = .returned v ∧ WStep w lim w' lim' (fun b => ∃ i k, X i k = some b) ∧ outs.length = args.length ∧
      (∀ i, SlotR P w' lim' X' (argS (outs ++ [res])) i (argS (outs ++ [res]) i) ((cargs ++ [v]).getD i undef)) ∧ Dist X' ∧
      ∀ i k b, X' i k = some b → b < w'.heap.size ∧ ((∃ i k, X i k = some b) ∨ w.heap.size ≤ b)

/-- How an argument is handed over. -/
inductive AK where
  | imm (x : AV)
  | own (t : Nat) (e : TypeId) (xs : List (List AV))
  | box (d : Nat) (cs : List AV)

def AK.av : AK → AV
  | .imm x => x
  | .own _ e xs => .own e xs
  | .box _ cs => .box cs

def AK.slot : AK → Option Nat
  | .imm _ => none
  | .own t _ _ => some t
  | .box d _ => some d

def immut (x : AV) : Prop := (∃ v, x = .val v) ∨ (∃ cs, x = .agg cs) ∨ ∃ f s xs, x = .slice f s xs

def AK.ok (P : Program) (σ : Nat → AV) (x : Operand) : AK → Prop
  | .imm y => getS P σ x = y ∧ immut y
  | .own t e xs => x = .tmp t ∧ σ t = .own e xs
  | .box d cs => getS P σ x = .ptr d 0 ∧ σ d = .box cs ∧ NoRow cs

def upsS : List AK → List AV → List (Nat × AV)
  | .own t _ _ :: as, _ :: os => (t, .gone) :: upsS as os
  | .box d _ :: as, o :: os => (d, o) :: upsS as os
  | .imm _ :: as, _ :: os => upsS as os
  | _, _ => []

theorem upsS_other : ∀ (as : List AK) (os : List AV) (σ : Nat → AV) (d : Nat), (∀ a ∈ as, a.slot ≠ some d) → updL σ (upsS as os) d = σ d
  | [], os, σ, d, _ => by cases os <;> rfl
  | .imm _ :: as, [], σ, d, _ => rfl
  | .own _ _ _ :: as, [], σ, d, _ => rfl
  | .box _ _ :: as, [], σ, d, _ => rfl
  | .imm _ :: as, o :: os, σ, d, h => upsS_other as os σ d fun a ha => h a (by simp [ha])
  | .own t e xs :: as, o :: os, σ, d, h => by
    show updL (upd σ t .gone) (upsS as os) d = σ d
    rw [upsS_other as os _ d fun a ha => h a (by simp [ha])]
    exact upd_other σ _ fun hd => h (.own t e xs) (by simp) (by rw [hd]; rfl)
  | .box t cs :: as, o :: os, σ, d, h => by
    show updL (upd σ t o) (upsS as os) d = σ d
    rw [upsS_other as os _ d fun a ha => h a (by simp [ha])]
    exact upd_other σ _ fun hd => h (.box t cs) (by simp) (by rw [hd]; rfl)

theorem upsS_at : ∀ (as : List AK) (os : List AV) (σ : Nat → AV) (i : Nat) (a : AK) (o : AV) (d : Nat), as.length = os.length → (as.filterMap AK.slot).Nodup → as[i]? = some a → os[i]? = some o → a.slot = some d →
    updL σ (upsS as os) d = match a with | .own _ _ _ => .gone | _ => o
  | [], os, σ, i, a, o, d, _, _, ha, _, _ => by simp at ha
  | b :: as, [], σ, i, a, o, d, hl, _, _, _, _ => by simp at hl
  | b :: as, p :: os, σ, 0, a, o, d, hl, hnd, ha, ho, hd => by
    simp only [List.getElem?_cons_zero, Option.some.injEq] at ha ho
    subst ha
    subst ho
    have hno : ∀ a ∈ as, a.slot ≠ some d := by
      intro a ha hs
      rw [List.filterMap_cons, hd] at hnd
      exact (List.nodup_cons.1 hnd).1 (List.mem_filterMap.2 ⟨a, ha, hs⟩)
    cases b with
    | imm x => simp [AK.slot] at hd
    | own t e xs =>
      simp only [AK.slot, Option.some.injEq] at hd
      subst hd
      show updL (upd σ t .gone) (upsS as os) t = .gone
      rw [upsS_other as os _ t hno, upd_same]
    | box t cs =>
      simp only [AK.slot, Option.some.injEq] at hd
      subst hd
      show updL (upd σ t p) (upsS as os) t = p
      rw [upsS_other as os _ t hno, upd_same]
  | b :: as, p :: os, σ, i + 1, a, o, d, hl, hnd, ha, ho, hd => by
    have hl' : as.length = os.length := by simpa using hl
    have ha' : as[i]? = some a := by simpa using ha
    have ho' : os[i]? = some o := by simpa using ho
    cases b with
    | imm x => exact upsS_at as os σ i a o d hl' (by simpa [List.filterMap_cons, AK.slot] using hnd) ha' ho' hd
    | own t e xs =>
      rw [List.filterMap_cons] at hnd
      exact upsS_at as os (upd σ t .gone) i a o d hl' (List.nodup_cons.1 hnd).2 ha' ho' hd
    | box t cs =>
      rw [List.filterMap_cons] at hnd
      exact upsS_at as os (upd σ t p) i a o d hl' (List.nodup_cons.1 hnd).2 ha' ho' hd

theorem slot_inj : ∀ (as : List AK), (as.filterMap AK.slot).Nodup → ∀ (i j : Nat) (a b : AK) (d : Nat), as[i]? = some a → as[j]? = some b → a.slot = some d → b.slot = some d → i = j
  | [], _, i, j, a, b, d, ha, _, _, _ => by simp at ha
  | x :: as, hnd, i, j, a, b, d, ha, hb, hda, hdb => by
    have htail : (as.filterMap AK.slot).Nodup := by
      rw [List.filterMap_cons] at hnd
      split at hnd
      · exact hnd
      · exact (List.nodup_cons.1 hnd).2
    have hhead : ∀ d, x.slot = some d → ∀ a ∈ as, a.slot ≠ some d := by
      intro d hx a ha hs
      rw [List.filterMap_cons, hx] at hnd
      exact (List.nodup_cons.1 hnd).1 (List.mem_filterMap.2 ⟨a, ha, hs⟩)
    cases i with
    | zero =>
      cases j with
      | zero => rfl
      | succ j =>
        simp only [List.getElem?_cons_zero, Option.some.injEq] at ha
        subst ha
        exact (hhead d hda b (List.mem_of_getElem? (by simpa using hb)) hdb).elim
    | succ i =>
      cases j with
      | zero =>
        simp only [List.getElem?_cons_zero, Option.some.injEq] at hb
        subst hb
        exact (hhead d hdb a (List.mem_of_getElem? (by simpa using ha)) hda).elim
      | succ j => rw [slot_inj as htail i j a b d (by simpa using ha) (by simpa using hb) hda hdb]

/-- The blocks of the arguments. -/
def XofA (X : Nat → Nat → Option Nat) (as : List AK) : Nat → Nat → Option Nat := fun i k =>
  match as[i]? with
  | some (.own t _ _) => if k = 0 then X t 0 else none
  | some (.box d _) => X d k
  | _ => none

def findA : List AK → Nat → Nat → Option (Nat × AK)
  | [], _, _ => none
  | a :: as, d, n => if a.slot = some d then some (n, a) else findA as d (n + 1)

theorem findA_some : ∀ (as : List AK) (d n m : Nat) (a : AK), findA as d n = some (m, a) → ∃ i, m = n + i ∧ as[i]? = some a ∧ a.slot = some d
  | [], _, _, _, _, h => by cases h
  | b :: as, d, n, m, a, h => by
    unfold findA at h
    split at h
    · rename_i hs
      simp only [Option.some.injEq, Prod.mk.injEq] at h
      obtain ⟨rfl, rfl⟩ := h
      exact ⟨0, rfl, rfl, hs⟩
    · obtain ⟨i, h1, h2, h3⟩ := findA_some as d (n + 1) m a h
      exact ⟨i + 1, by omega, by simpa using h2, h3⟩

theorem findA_none : ∀ (as : List AK) (d n : Nat), findA as d n = none → ∀ a ∈ as, a.slot ≠ some d
  | [], _, _, _, a, ha => by simp at ha
  | b :: as, d, n, h, a, ha => by
    unfold findA at h
    split at h
    · cases h
    · rename_i hs
      rcases List.mem_cons.1 ha with rfl | ha
      · exact hs
      · exact findA_none as d (n + 1) h a ha

def XaA (X X' : Nat → Nat → Option Nat) (as : List AK) : Nat → Nat → Option Nat := fun d k =>
  match findA as d 0 with
  | some (i, .box _ _) => X' i k
  | some _ => none
  | none => X d k

/-- What a function may hand back. -/
def retval (x : AV) : Prop := immut x ∨ (∃ e xs, x = .own e xs) ∨ ∃ vs, x = .tuple vs

theorem retval_rel {P : Program} {w : World} {lim : Nat → Nat} {X X' : Nat → Nat → Option Nat} {σ σ' : Nat → AV} {d d' : Nat} {x : AV} {v : Value} (hx : retval x) (h : SlotR P w lim X σ d x v) (hX : X' d' = X d) : SlotR P w lim X' σ' d' x v := by
  rcases hx with (⟨u, rfl⟩ | ⟨cs, rfl⟩ | ⟨f, s, xs, rfl⟩) | ⟨e, xs, rfl⟩ | ⟨vs, rfl⟩
  · exact h
  · exact h
  · exact h
  · show OwnR P w lim e xs v (X' d' 0); rw [hX]; exact h
  · obtain ⟨us, h1, h2, h3⟩ := h
    refine ⟨us, h1, h2, ?_⟩
    rw [hX]
    exact h3

theorem immut_rel {P : Program} {w : World} {lim : Nat → Nat} {X X' : Nat → Nat → Option Nat} {σ σ' : Nat → AV} {d d' : Nat} {x : AV} {v : Value} (hx : immut x) (h : SlotR P w lim X σ d x v) : SlotR P w lim X' σ' d' x v := by
  rcases hx with ⟨u, rfl⟩ | ⟨cs, rfl⟩ | ⟨f, s, xs, rfl⟩ <;> exact h

theorem exok_call {P : Program} {o : Oper} {σ : Nat → AV} {cl : Call} {f : FuncId} {aks : List AK} {res : AV} {outs : List AV} (ho : o.op = .call cl) (hcl : cl.callee = .value (.func f))
    (hlen : cl.args.toList.length = aks.length) (hargs : ∀ (i : Nat) (x : Operand) (a : AK), cl.args.toList[i]? = some x → aks[i]? = some a → a.ok P σ x) (hnd : (aks.filterMap AK.slot).Nodup)
    (hol : outs.length = aks.length) (hout : ∀ (i d : Nat) (cs : List AV) (y : AV), aks[i]? = some (.box d cs) → outs[i]? = some y → ∃ cs', y = .box cs') (hres : retval res)
    (hcall : CallOk P f (aks.map AK.av) res outs) : ExOK P o σ res (upsS aks outs) (aks.filterMap AK.slot) := by
  intro c hc σ' tm w lim X hag hsim next Q hn
  obtain ⟨⟨fn, hfn, hname, hbody⟩, hc2⟩ := hcall
  have hslot : ∀ a ∈ aks, ∀ d, a.slot = some d → σ' d = σ d := fun a ha d hd => hag d (by
    refine List.mem_append.2 (.inl (List.mem_append.2 (.inr (List.mem_filterMap.2 ⟨a, ha, hd⟩))))) 
  have hops : ∀ x ∈ cl.args.toList, x ∈ o.op.operands := by
    intro x hx
    rw [ho]
    simp only [Op.operands, Call.operands, hcl]
    simp [Array.mem_toList_iff.1 hx]
  have hg : ∀ x ∈ cl.args.toList, getS P σ' x = getS P σ x := fun x hx => getS_congr fun t ht => hag t (List.mem_append.2 (.inl (List.mem_append.2 (.inl (mem_uses (hops x hx) ht)))))
  have hok : ∀ (i : Nat) (x : Operand) (a : AK), cl.args.toList[i]? = some x → aks[i]? = some a → a.ok P σ' x := by
    intro i x a hx ha
    have h := hargs i x a hx ha
    cases a with
    | imm y => exact ⟨(hg x (List.mem_of_getElem? hx)).trans h.1, h.2⟩
    | own t e xs => exact ⟨h.1, (hslot _ (List.mem_of_getElem? ha) t rfl).trans h.2⟩
    | box d cs => exact ⟨(hg x (List.mem_of_getElem? hx)).trans h.1, (hslot _ (List.mem_of_getElem? ha) d rfl).trans h.2.1, h.2.2⟩
  have hcl2 : ((cl.args.toList.map (Act.eval ⟨tm, []⟩)).length) = (aks.map AK.av).length := by simp [hlen]
  -- the arguments as the callee sees them
  have hrel : ∀ i, SlotR P w lim (XofA X aks) (argS (aks.map AK.av)) i (argS (aks.map AK.av) i) ((cl.args.toList.map (Act.eval ⟨tm, []⟩)).getD i undef) := by
    intro i
    cases ha : aks[i]? with
    | none =>
      have : argS (aks.map AK.av) i = .dead := by simp [argS, ha]
      rw [this]
      trivial
    | some a =>
      have hav : argS (aks.map AK.av) i = a.av := by simp [argS, ha]
      have hlt : i < cl.args.toList.length := by rw [hlen]; exact (List.getElem?_eq_some_iff.1 ha).1
      obtain ⟨x, hx⟩ : ∃ x, cl.args.toList[i]? = some x := ⟨_, List.getElem?_eq_getElem hlt⟩
      have hv : (cl.args.toList.map (Act.eval ⟨tm, []⟩)).getD i undef = Act.eval ⟨tm, []⟩ x := by
        rw [List.getD_eq_getElem?_getD, List.getElem?_map, hx]; rfl
      rw [hav, hv]
      have h := hok i x a hx ha
      cases a with
      | imm y =>
        have := (getS_rel hsim x 0).2
        rw [hc, h.1] at this
        exact immut_rel h.2 this
      | own t e xs =>
        obtain ⟨rfl, ht⟩ := h
        have := hsim.rel t
        rw [ht, hc] at this
        have hX : XofA X aks i 0 = X t 0 := by simp [XofA, ha]
        show OwnR P w lim e xs _ (XofA X aks i 0)
        rw [hX]
        exact this
      | box d cs =>
        have h1 := (getS_rel hsim x 0).2
        rw [hc, h.1] at h1
        rw [← hc] at h1
        obtain ⟨b, h2, h3, h4⟩ := ptr_box hsim h.2.1 h.2.2 h1
        rw [h3]
        have hX : XofA X aks i = X d := by funext k; simp [XofA, ha]
        show BoxR P w lim (XofA X aks i) cs _
        rw [hX, ← hc]
        exact .inl h4
  have hXof : ∀ i k b, XofA X aks i k = some b → ∃ a d, aks[i]? = some a ∧ a.slot = some d ∧ X d k = some b := by
    intro i k b h
    unfold XofA at h
    split at h
    · rename_i t e xs ha
      split at h
      · rename_i hk; subst hk; exact ⟨_, t, ha, rfl, h⟩
      · cases h
    · rename_i d cs ha; exact ⟨_, d, ha, rfl, h⟩
    · cases h
  have hdist : Dist (XofA X aks) := by
    intro i k i' k' b h h'
    obtain ⟨a, d, h1, h2, h3⟩ := hXof i k b h
    obtain ⟨a', d', h1', h2', h3'⟩ := hXof i' k' b h'
    obtain ⟨e1, e2⟩ := hsim.dist d k d' k' b h3 h3'
    subst e1
    exact ⟨slot_inj aks hnd i i' a a' d h1 h1' h2 h2', e2⟩
  have hsize : ∀ i k b, XofA X aks i k = some b → b < w.heap.size := by
    intro i k b h
    obtain ⟨a, d, h1, h2, h3⟩ := hXof i k b h
    exact (hsim.ours d k b h3).1
  have hcalls := hc2 w lim (XofA X aks) _ hcl2 hrel hdist hsize
  have hrun : (execOp (Act.eval ⟨tm, []⟩) o).run P w = .ok (.enter f (cl.args.toList.map (Act.eval ⟨tm, []⟩)).toArray) w := by
    have harr : (#[] : Array Value) ++ cl.args.map (Act.eval ⟨tm, []⟩) ++ #[] = (cl.args.toList.map (Act.eval ⟨tm, []⟩)).toArray := by
      apply Array.toList_inj.1; simp
    have hev : Act.eval ⟨tm, []⟩ (.func f) = .func (.func f) #[] #[] := rfl
    simp only [execOp, ho, resolve, hcl, hev, Deferred.ofValue, Sem.run_bind, Sem.run_pure, Result.andThen_ok, invoke, callFunc, run_program, hfn, hname, hbody]
    rw [harr]
    rfl
  unfold Oper.wp
  rw [hrun, Oper.upon_enter]
  refine hcalls.mono ?_
  rintro e w' ⟨v, lim', X', rfl, hstep, hl', hrel', hdist', hours'⟩
  refine hn v w' ?_
  -- what the slots are behind the call
  have hpass : ∀ d, (∃ i a, findA aks d 0 = some (i, a) ∧ aks[i]? = some a ∧ a.slot = some d) ∨ (findA aks d 0 = none ∧ ∀ a ∈ aks, a.slot ≠ some d) := by
    intro d
    cases hf : findA aks d 0 with
    | none => exact .inr ⟨rfl, findA_none aks d 0 hf⟩
    | some p =>
      obtain ⟨m, a⟩ := p
      obtain ⟨i, h1, h2, h3⟩ := findA_some aks d 0 m a hf
      rw [Nat.zero_add] at h1
      subst h1
      exact .inl ⟨m, a, rfl, h2, h3⟩
  have houtAt : ∀ i a, aks[i]? = some a → ∃ y, outs[i]? = some y := fun i a ha => ⟨_, List.getElem?_eq_getElem (by rw [hol]; exact (List.getElem?_eq_some_iff.1 ha).1)⟩
  have hboxOut : ∀ i d cs, aks[i]? = some (.box d cs) → ∃ cs' b, outs[i]? = some (.box cs') ∧ BoxR P w' lim' (X' i) cs' (tm.getD d undef) ∧ X' i 0 = some b ∧ X d 0 = some b ∧ updL σ' (upsS aks outs) d = .box cs' := by
    intro i d cs ha
    obtain ⟨y, hy⟩ := houtAt i _ ha
    obtain ⟨cs', rfl⟩ := hout i d cs y ha hy
    have h1 := hrel' i
    have hlt : i < outs.length := (List.getElem?_eq_some_iff.1 hy).1
    have ho1 : argS (outs ++ [res]) i = .box cs' := by
      simp only [argS]
      rw [List.getElem?_append_left hlt, hy]
      rfl
    have hlt2 : i < cl.args.toList.length := by rw [hlen]; exact (List.getElem?_eq_some_iff.1 ha).1
    obtain ⟨x, hx⟩ : ∃ x, cl.args.toList[i]? = some x := ⟨_, List.getElem?_eq_getElem hlt2⟩
    have hv : (cl.args.toList.map (Act.eval ⟨tm, []⟩) ++ [v]).getD i undef = Act.eval ⟨tm, []⟩ x := by
      rw [List.getD_eq_getElem?_getD, List.getElem?_append_left (by simp; exact hlt2), List.getElem?_map, hx]; rfl
    rw [ho1, hv] at h1
    have hok' := hok i x _ hx ha
    have h2 := (getS_rel hsim x 0).2
    rw [hc, hok'.1] at h2
    rw [← hc] at h2
    obtain ⟨b, h3, h4, h5⟩ := ptr_box hsim hok'.2.1 hok'.2.2 h2
    have h6 := hsim.rel d
    rw [hok'.2.1] at h6
    obtain ⟨b0, arr0, t0, k1, k2, _⟩ := BoxR.plain h6 hok'.2.2
    have hb0 : b0 = b := by rw [k1] at h3; exact Option.some.inj h3
    subst hb0
    have h1' : BoxR P w' lim' (X' i) cs' (Act.eval ⟨tm, []⟩ x) := h1
    have hsame : Act.eval ⟨tm, []⟩ x = tm.getD d undef := by rw [h4, k2]
    rw [hsame] at h1'
    have h1'' := h1'
    have h1p : PlainR P w' lim' (X' i) cs' (tm.getD d undef) := by
      rcases h1' with h | ⟨_, _, _, _, _, _, _, _, h, _⟩
      · exact h
      · rw [k2] at h; cases h
    obtain ⟨b1, arr1, t1, m1, m2, _⟩ := h1p
    rw [k2] at m2
    simp only [Value.pointer.injEq, Option.some.injEq, Addr.mk.injEq, and_true] at m2
    subst m2
    exact ⟨cs', b0, hy, h1'', m1, h3, upsS_at aks outs σ' i (.box d cs) (.box cs') d hol.symm hnd ha hy rfl⟩
  have hafter : Sim c (updL σ' (upsS aks outs)) tm w' lim' (XaA X X' aks) := by
    have hSours : ∀ b, (∃ i k, XofA X aks i k = some b) → c.A b ∨ c.w0.heap.size ≤ b := by
      rintro b ⟨i, k, h⟩
      obtain ⟨a, d, _, _, h3⟩ := hXof i k b h
      exact (hsim.ours d k b h3).2
    have hXa : ∀ d k b, XaA X X' aks d k = some b → (∃ i a cs, findA aks d 0 = some (i, a) ∧ aks[i]? = some (.box d cs) ∧ X' i k = some b) ∨ (findA aks d 0 = none ∧ (∀ a ∈ aks, a.slot ≠ some d) ∧ X d k = some b) := by
      intro d k b h
      unfold XaA at h
      rcases hpass d with ⟨i, a, h1, h2, h3⟩ | ⟨h1, h2⟩
      · rw [h1] at h
        cases a with
        | imm y => simp at h
        | own t e xs => simp at h
        | box d' cs =>
          simp only [AK.slot, Option.some.injEq] at h3
          subst h3
          exact .inl ⟨i, _, cs, h1, h2, h⟩
      · rw [h1] at h
        exact .inr ⟨h1, h2, h⟩
    have hXold : ∀ d k b, (∀ a ∈ aks, a.slot ≠ some d) → X d k = some b → ¬ ∃ i k, XofA X aks i k = some b := by
      rintro d k b hno hb ⟨i, k', h⟩
      obtain ⟨a, d', h1, h2, h3⟩ := hXof i k' b h
      obtain ⟨e1, _⟩ := hsim.dist d k d' k' b hb h3
      subst e1
      exact hno a (List.mem_of_getElem? h1) h2
    refine ⟨fun d => ?_, hsim.size, fun d hd => ?_, fun d k d' k' b h h' => ?_, fun d k b h => ?_, hsim.frm.step hstep hSours, fun d v hv => ?_⟩
    · rcases hpass d with ⟨i, a, h1, h2, h3⟩ | ⟨h1, h2⟩
      · cases a with
        | imm y => simp [AK.slot] at h3
        | own t e xs =>
          simp only [AK.slot, Option.some.injEq] at h3
          subst h3
          obtain ⟨y, hy⟩ := houtAt i _ h2
          rw [upsS_at aks outs σ' i (.own t e xs) y t hol.symm hnd h2 hy rfl]
          trivial
        | box d' cs =>
          simp only [AK.slot, Option.some.injEq] at h3
          subst h3
          obtain ⟨cs', b, g1, g2, g3, g4, g5⟩ := hboxOut i d' cs h2
          rw [g5]
          have hrow : XaA X X' aks d' = X' i := by funext k; simp only [XaA, h1]
          show BoxR c.P w' lim' (XaA X X' aks d') cs' _
          rw [hrow, hc]
          exact g2
      · rw [upsS_other aks outs σ' d h2]
        have hm := (hsim.rel d).mono hstep.ext fun k b hb => hstep.blk b (hsim.ours d k b hb).1 (hXold d k b h2 hb)
        refine hm.chg (by funext k; simp only [XaA, h1]) fun d' cs hd' => ?_
        rcases hpass d' with ⟨i, a, k1, k2, k3⟩ | ⟨k1, k2⟩
        · cases a with
          | imm y => simp [AK.slot] at k3
          | own t e xs =>
            simp only [AK.slot, Option.some.injEq] at k3
            subst k3
            have hlt2 : i < cl.args.toList.length := by rw [hlen]; exact (List.getElem?_eq_some_iff.1 k2).1
            have := hok i _ _ (List.getElem?_eq_getElem hlt2) k2
            rw [this.2] at hd'
            cases hd'
          | box d'' cs'' =>
            simp only [AK.slot, Option.some.injEq] at k3
            subst k3
            obtain ⟨cs', b, g1, g2, g3, g4, g5⟩ := hboxOut i d'' cs'' k2
            have hlt2 : i < cl.args.toList.length := by rw [hlen]; exact (List.getElem?_eq_some_iff.1 k2).1
            have hkk := hok i _ _ (List.getElem?_eq_getElem hlt2) k2
            refine ⟨⟨cs', g5, RowKept.of_plain (by
              have hcc := hkk.2.1
              rw [hd'] at hcc
              cases hcc
              exact hkk.2.2)⟩, ?_⟩
            simp only [XaA, k1]
            rw [g3, g4]
        · exact ⟨⟨cs, by rw [upsS_other aks outs σ' d' k2]; exact hd', RowKept.refl cs⟩, by simp only [XaA, k1]⟩
    · have hno : ∀ a ∈ aks, a.slot ≠ some d := by
        intro a ha hs
        obtain ⟨i, hi⟩ := List.mem_iff_getElem?.1 ha
        have hlt2 : i < cl.args.toList.length := by rw [hlen]; exact (List.getElem?_eq_some_iff.1 hi).1
        have hok' := hok i _ _ (List.getElem?_eq_getElem hlt2) hi
        have hdead := hsim.out d hd
        cases a with
        | imm y => simp [AK.slot] at hs
        | own t e xs =>
          simp only [AK.slot, Option.some.injEq] at hs
          subst hs
          rw [hok'.2] at hdead
          cases hdead
        | box t cs =>
          simp only [AK.slot, Option.some.injEq] at hs
          subst hs
          rw [hok'.2.1] at hdead
          cases hdead
      rw [upsS_other aks outs σ' d hno]
      exact hsim.out d hd
    · rcases hXa d k b h with ⟨i, a, cs, g1, g2, g3⟩ | ⟨g1, g2, g3⟩ <;> rcases hXa d' k' b h' with ⟨i', a', cs', g1', g2', g3'⟩ | ⟨g1', g2', g3'⟩
      · obtain ⟨e1, e2⟩ := hdist' i k i' k' b g3 g3'
        subst e1
        rw [g2] at g2'
        simp only [Option.some.injEq, AK.box.injEq] at g2'
        exact ⟨g2'.1, e2⟩
      · rcases (hours' i k b g3).2 with hS | hS
        · exact (hXold d' k' b g2' g3' hS).elim
        · have := (hsim.ours d' k' b g3').1; omega
      · rcases (hours' i' k' b g3').2 with hS | hS
        · exact (hXold d k b g2 g3 hS).elim
        · have := (hsim.ours d k b g3).1; omega
      · exact hsim.dist d k d' k' b g3 g3'
    · rcases hXa d k b h with ⟨i, a, cs, g1, g2, g3⟩ | ⟨g1, g2, g3⟩
      · refine ⟨(hours' i k b g3).1, ?_⟩
        rcases (hours' i k b g3).2 with hS | hS
        · exact hSours b hS
        · exact .inr (Nat.le_trans hsim.frm.size hS)
      · exact ⟨Nat.lt_of_lt_of_le (hsim.ours d k b g3).1 hstep.size, (hsim.ours d k b g3).2⟩
    · obtain ⟨p1, cs, p2⟩ := hsim.pin d v hv
      refine ⟨p1, ?_⟩
      rcases hpass d with ⟨i, a, k1, k2, k3⟩ | ⟨k1, k2⟩
      · cases a with
        | imm y => simp [AK.slot] at k3
        | own t e xs =>
          simp only [AK.slot, Option.some.injEq] at k3
          subst k3
          have hlt2 : i < cl.args.toList.length := by rw [hlen]; exact (List.getElem?_eq_some_iff.1 k2).1
          have := hok i _ _ (List.getElem?_eq_getElem hlt2) k2
          rw [this.2] at p2
          cases p2
        | box d'' cs'' =>
          simp only [AK.slot, Option.some.injEq] at k3
          subst k3
          obtain ⟨cs', b, g1, g2, g3, g4, g5⟩ := hboxOut i d'' cs'' k2
          exact ⟨cs', g5⟩
      · exact ⟨cs, by rw [upsS_other aks outs σ' d k2]; exact p2⟩
  -- the result
  have hresv : SlotR P w' lim' X' (argS (outs ++ [res])) aks.length res v := by
    have h1 := hrel' aks.length
    have ho1 : argS (outs ++ [res]) aks.length = res := by
      simp only [argS]
      rw [List.getElem?_append_right (by omega), hol]
      simp
    have hv : (cl.args.toList.map (Act.eval ⟨tm, []⟩) ++ [v]).getD aks.length undef = v := by
      rw [List.getD_eq_getElem?_getD, List.getElem?_append_right (by simp [hlen])]
      simp [hlen]
    rw [ho1, hv] at h1
    exact h1
  cases hdst : o.dst with
  | none => exact ⟨lim', _, hafter⟩
  | some d =>
    intro hd hm
    refine ⟨lim', _, hafter.putRow (X' aks.length) (WStep.refl w' lim' (fun _ => False)) (fun _ hs => hs.elim) hd (tm' := tm.setIfInBounds d v) (by simp) (fun i hi => getD_set_other tm d i v hi) (.inl (mayPutS_old hm)) ?_ (fun k b hk => ⟨(hours' _ k b hk).1, ?_, fun i j hi hij => ?_⟩) (fun k k' b hk hk' => (hdist' _ k _ k' b hk hk').2)⟩
    · rw [getD_set tm d v (by rw [hsim.size]; exact hd), hc]
      exact retval_rel hres hresv (rowX_same _ d _)
    · rcases (hours' _ k b hk).2 with ⟨i, k', hS⟩ | hS
      · obtain ⟨a, d', _, _, h3⟩ := hXof i k' b hS
        exact (hsim.ours d' k' b h3).2
      · exact .inr (Nat.le_trans hsim.frm.size hS)
    · unfold XaA at hij
      rcases hpass i with ⟨m, a, h1, h2, h3⟩ | ⟨h1, h2⟩
      · rw [h1] at hij
        cases a with
        | imm y => simp at hij
        | own t e xs => simp at hij
        | box d' cs =>
          obtain ⟨e1, _⟩ := hdist' _ _ _ _ b hk hij
          have := (List.getElem?_eq_some_iff.1 h2).1
          omega
      · rw [h1] at hij
        rcases (hours' _ k b hk).2 with ⟨i', k', hS⟩ | hS
        · obtain ⟨a, d', g1, g2, g3⟩ := hXof i' k' b hS
          obtain ⟨e1, _⟩ := hsim.dist i j d' k' b hij g3
          subst e1
          exact h2 a (List.mem_of_getElem? g1) g2
        · have := (hsim.ours i j b hij).1; omega

end Go.AM
