/- AmCall, AmInp, AmWp, AmSound, AmSnd2, AmSnd3, AmReg, AmEvo, AmWeak: texts of the proof, put together. -/
import Derived.Test.YtjfhdhplmibnfaaM1
import Derived.Laws.MakeOwn
import Derived.Laws.CopyRow
import Derived.Orders

section
namespace Go.AM

theorem exok_buildSlice {P : Program} {o : Oper} {σ : Nat → AV} {T e : TypeId} {len : Nat} {parts : Array (Nat × Operand)} {i : TypeInfo} {z : Value} {zc cs cs' : List AV} (ho : o.op = .buildSlice T len parts)
    (hT : P.underlying T = some (.slice e)) (hi : P.info? e = some i) (hz : i.zero = some z) (hzc : ofCsS z.cells.toList = some zc) (hzs : z.cells.size = i.size) (hs0 : 0 < i.size) (hbig : len * i.size ≤ 1048576)
    (hf : fillS (fun j => some (j * i.size, i.size)) ((List.replicate len zc).flatten) (parts.toList.map fun p => (p.1, getS P σ p.2)) = some cs)
    (hw : cs'.length = cs.length ∧ ∀ (w : World) (lim : Nat → Nat) (us : List Value), RelL w lim cs us → RelL w lim cs' us) : ExOK P o σ (.own e (elems i.size cs' len)) [] [] := by
  intro c hc σ' tm w lim X hag hsim next Q hn
  have hg : ∀ p ∈ parts.toList, getS P σ' p.2 = getS P σ p.2 := fun p hp => getS_congr fun t ht => hag t (by
    refine List.mem_append.2 (.inl (List.mem_append.2 (.inl (mem_uses (x := p.2) ?_ ht))))
    rw [ho]
    simp only [Op.operands, List.mem_toArray]
    exact List.mem_map.2 ⟨p, hp, rfl⟩)
  obtain ⟨h1, h2⟩ := eval_parts hc hsim parts hg
  have hz0 := relL_replicate (ofCsS_relL (w := w) (lim := lim) hzc) len
  obtain ⟨us', h3, h4⟩ := fill_rel (P := P) (X := X) (σ := σ') (k := 0) _ _ _ _ _ hz0 h1 h2 hf
  have hzl : z.cells.toList.length = i.size := by rw [← hzs]; simp
  have hcl : cs.length = len * i.size := by
    have hinv : ∀ (parts : List (Nat × AV)) (cells out : List AV), fillS (fun j => some (j * i.size, i.size)) cells parts = some out → out.length = cells.length := by
      intro parts
      induction parts with
      | nil => intro cells out h; simp only [fillS, Option.some.injEq] at h; rw [h]
      | cons p parts ih =>
        intro cells out h
        simp only [fillS] at h
        split at h
        · split at h
          · rename_i hcond
            rw [ih _ _ h]
            simp
            omega
          · cases h
        · cases h
    rw [hinv _ _ _ hf]
    have hzcl : zc.length = i.size := by rw [(ofCsS_relL (w := w) (lim := lim) hzc).1, hzl]
    simp [hzcl]
  replace h4 := hw.2 _ _ _ h4
  have hcl' : cs'.length = len * i.size := by rw [hw.1, hcl]
  have hb : (Instr.buildSlice T len (parts.map fun p => (p.1, Act.eval ⟨tm, []⟩ p.2))).run P w = .ok (.slice (some ⟨w.heap.size, 0, none⟩) len len) (w.alloc (.cells us'.toArray e)) := by
    have hnb : ¬ (2 ^ 24 < len * i.size) := by omega
    by_cases hnz : len * i.size = 0
    · have hl0 : len = 0 := (Nat.mul_eq_zero.1 hnz).elim id fun h => by omega
      subst hl0
      have hr0 : Array.range 0 = #[] := rfl
      simp only [Instr.buildSlice, Sem.run_bind, run_underlying hT, Result.andThen_ok, sizeOf, typeInfo, run_program, hi, Sem.run_pure, gt_iff_lt, Nat.zero_mul, Nat.not_lt_zero, if_false, if_true, hr0, Array.map_empty]
      simp only [List.replicate_zero, List.flatten_nil] at h3
      rw [h3]
      simp [newRow]
    · have hrep := replicate_zero z.cells.toList len
      rw [hzl, Array.toArray_toList] at hrep
      simp only [Instr.buildSlice, Sem.run_bind, run_underlying hT, Result.andThen_ok, sizeOf, typeInfo, run_program, hi, Sem.run_pure, gt_iff_lt, if_neg hnb, if_neg hnz, zeroValue, hz]
      rw [hrep, h3]
      simp [newRow]
  have hsz : P.cellsOf e = i.size := cellsOf_info hi
  have hstep := wstep_alloc w lim us'.toArray e us'.length (fun _ => False)
  have hel : (elems i.size cs' len).length = len := by simp [elems]
  have hfl := elems_flatten i.size len cs' hcl'
  have h5 := h4.mono hstep.ext
  have hlu : us'.length = len * i.size := by rw [← h4.1, hcl']
  have hlm : len ≤ maxLen := by
    have : len * 1 ≤ len * i.size := Nat.mul_le_mul_left _ hs0
    have : (1048576 : Nat) ≤ maxLen := by decide
    omega
  have key : OwnR P (w.alloc (.cells us'.toArray e)) (fun b => if b = w.heap.size then us'.length else lim b) e (elems i.size cs' len) (.slice (some ⟨w.heap.size, 0, none⟩) (elems i.size cs' len).length len) (some w.heap.size) := by
    refine .inl ⟨us', ⟨by rw [hel, hsz, hlu], .inr ⟨w.heap.size, len, us'.toArray, rfl, Nat.zero_le _, heap_new w _ e, by rw [hel]; exact Nat.le_refl _, hlm, by simp [hsz, hlu], by rw [hel, hsz, ← hlu]; simp⟩⟩, rfl, fun b hb => ?_, fun x hx => ?_, fun x hx y hy => ?_, fun j y u hy hu => ?_⟩
    · simp only [Option.some.injEq] at hb
      subst hb
      exact if_pos rfl
    · obtain ⟨j, hj, rfl⟩ := List.mem_map.1 hx
      have hj' : j < len := List.mem_range.1 hj
      have hm : j * i.size + i.size ≤ len * i.size := by rw [← Nat.succ_mul]; exact Nat.mul_le_mul_right _ hj'
      simp [hcl', hsz]
      omega
    · refine h5.2.1 y ?_
      rw [← hfl]
      exact List.mem_flatten.2 ⟨x, hx, hy⟩
    · rw [hfl] at hy
      exact h5.2.2 j y u hy hu
  rw [hel] at key
  have hw2 := hsim.world hstep fun _ hs => hs.elim
  refine wp_of_run (v := .slice (some ⟨w.heap.size, 0, none⟩) len len) (w' := w.alloc (.cells us'.toArray e)) (by simp only [execOp, ho, Sem.run_bind, hb, Result.andThen_ok, Sem.run_pure]) (hn _ _ (after_own hw2 (by rw [hc]; exact key) fun b hb => ?_))
  simp only [Option.some.injEq] at hb
  subst hb
  exact ⟨.inr hsim.frm.size, fun i j => not_size hsim i j⟩

theorem exok_append_own {P : Program} {o : Oper} {σ : Nat → AV} {cl : Call} {T e : TypeId} {i : TypeInfo} {z : Value} {t : Nat} {y : Operand} {xs ys : List (List AV)} {f : Bool} (ho : o.op = .call cl) (hcl : cl.callee = .builtin .append)
    (hargs : cl.args.toList = [.tmp t, y]) (hts : cl.argTypes.toList = [T, T]) (hT : P.underlying T = some (.slice e)) (hi : P.info? e = some i) (hz : i.zero = some z) (hzs : z.cells.size = i.size)
    (ht : σ t = .own e xs) (hy : getS P σ y = .slice f i.size ys) (hroom : (xs.length + ys.length) * (i.bytes + 1) ≤ roomMax) :
    ExOK P o σ (.own e (xs ++ ys)) [(t, .slice false i.size xs)] [] := by
  have hargs' : cl.args = #[.tmp t, y] := by apply Array.toList_inj.1; rw [hargs]
  have hts' : cl.argTypes = #[T, T] := by apply Array.toList_inj.1; rw [hts]
  intro c hc σ' tm w lim X hag hsim next Q hn
  have hsz : P.cellsOf e = i.size := cellsOf_info hi
  have hgy : getS P σ' y = getS P σ y := getS_congr fun t ht => hag t (by simp [mem_uses (o := o) (x := y) (by rw [ho]; simp [Op.operands, Call.operands, hargs', hcl]) ht])
  have ht' : σ' t = .own e xs := by rw [hag t (by simp), ht]
  obtain ⟨h1, h2, h3⟩ := hsim.free ht'
  have hyv : Rep w lim (.slice f (P.cellsOf e) ys) (Act.eval ⟨tm, []⟩ y) := by rw [hsz]; exact opnd hc hsim hy hgy
  rw [hc] at h2
  obtain ⟨v', w', lim', ob', r1, r2, r3, r4⟩ := append_run (ty := o.type) hT hi hz hzs h2 hyv hroom
  have hfree : ∀ b, X t 0 = some b → (c.A b ∨ c.w0.heap.size ≤ b) ∧ ∀ i j, rowX X t noRow i j ≠ some b := h3
  have hw := h1.world r3 hfree
  refine wp_of_run (v := v') (w' := w') ?_ (hn _ w' ?_)
  · have hev : Act.eval ⟨tm, []⟩ (.tmp t) = tm.getD t undef := rfl
    simp only [execOp, ho, resolve, hcl, hargs', hts', List.map_toArray, List.map_cons, List.map_nil, Sem.run_bind, Sem.run_pure, Result.andThen_ok, invoke, builtin, hev, r1]
  · rw [hc, hsz] at hw
    rw [← hc] at r2
    refine after_own hw r2 fun b hb => ?_
    rcases r4 with r4 | r4
    · rw [r4] at hb; exact h3 b hb
    · rw [r4] at hb
      simp only [Option.some.injEq] at hb
      subst hb
      exact ⟨.inr hsim.frm.size, fun i j => not_size h1 i j⟩

theorem own_full {P : Program} {w : World} {lim : Nat → Nat} {e : TypeId} {v : Value} {s : Nat} (h : Rep w lim (.slice true s []) v) : OwnR P w lim e [] v none := by
  have key : ∀ (y : AV), Rep w lim y v → y = .slice true s [] → OwnR P w lim e [] v none := by
    intro y hy hye
    cases hy with
    | sliceN => exact .inl ⟨[], World.ownsRow_nil _ 0 e _, rfl, by simp, by simp, by simp, by simp⟩
    | @sliceE f s' a cap hf =>
      injection hye with h1 h2 h3
      have := hf h1
      subst this
      exact .inr ⟨rfl, rfl, a, rfl⟩
    | @sliceC f s' xs b o cap us hs hc hf hle hlim hus hcell hr =>
      injection hye with h1 h2 h3
      subst h3
      have := hf h1
      simp at this
      subst this
      exact .inr ⟨rfl, rfl, _, rfl⟩
    | val _ => cases hye
    | agg _ _ _ => cases hye
  exact key _ h rfl

theorem exok_append_full {P : Program} {o : Oper} {σ : Nat → AV} {cl : Call} {T e : TypeId} {i : TypeInfo} {z : Value} {x y : Operand} {ys : List (List AV)} {f : Bool} {s : Nat} (ho : o.op = .call cl) (hcl : cl.callee = .builtin .append)
    (hargs : cl.args.toList = [x, y]) (hts : cl.argTypes.toList = [T, T]) (hT : P.underlying T = some (.slice e)) (hi : P.info? e = some i) (hz : i.zero = some z) (hzs : z.cells.size = i.size)
    (hx : getS P σ x = .slice true s []) (hy : getS P σ y = .slice f i.size ys) (hroom : (([] : List (List AV)).length + ys.length) * (i.bytes + 1) ≤ roomMax) :
    ExOK P o σ (.own e ys) [] [] := by
  have hargs' : cl.args = #[x, y] := by apply Array.toList_inj.1; rw [hargs]
  have hts' : cl.argTypes = #[T, T] := by apply Array.toList_inj.1; rw [hts]
  intro c hc σ' tm w lim X hag hsim next Q hn
  have hsz : P.cellsOf e = i.size := cellsOf_info hi
  have hgx : getS P σ' x = getS P σ x := getS_congr fun t ht => hag t (by simp [mem_uses (o := o) (x := x) (by rw [ho]; simp [Op.operands, Call.operands, hargs', hcl]) ht])
  have hgy : getS P σ' y = getS P σ y := getS_congr fun t ht => hag t (by simp [mem_uses (o := o) (x := y) (by rw [ho]; simp [Op.operands, Call.operands, hargs', hcl]) ht])
  have hxv : OwnR P w lim e [] (Act.eval ⟨tm, []⟩ x) none := own_full (s := s) (opnd hc hsim hx hgx)
  have hyv : Rep w lim (.slice f (P.cellsOf e) ys) (Act.eval ⟨tm, []⟩ y) := by rw [hsz]; exact opnd hc hsim hy hgy
  obtain ⟨v', w', lim', ob', r1, r2, r3, r4⟩ := append_run (ty := o.type) hT hi hz hzs hxv hyv hroom
  have hw := hsim.world r3 fun b hb => by cases hb
  refine wp_of_run (v := v') (w' := w') ?_ (hn _ w' ?_)
  · simp only [execOp, ho, resolve, hcl, hargs', hts', List.map_toArray, List.map_cons, List.map_nil, Sem.run_bind, Sem.run_pure, Result.andThen_ok, invoke, builtin, r1]
  · rw [← hc, List.nil_append] at r2
    refine after_own hw r2 fun b hb => ?_
    rcases r4 with r4 | r4
    · rw [r4] at hb; cases hb
    · rw [r4] at hb
      simp only [Option.some.injEq] at hb
      subst hb
      exact ⟨.inr hsim.frm.size, fun i j => not_size hsim i j⟩

def argS (l : List AV) : Nat → AV := fun i => (l[i]?).getD .dead

def Dist (X : Nat → Nat → Option Nat) : Prop := ∀ d k d' k' b, X d k = some b → X d' k' = some b → d = d' ∧ k = k'

def Callable (P : Program) (f : FuncId) : Prop := ∃ fn, P.funcs[f]? = some fn ∧ (fn.name == "runtime.NumGoroutine") = false ∧ fn.body.isNone = false

/-- What a call does: whatever stands for the arguments, the function returns what stands for the result, and the boxes come back as 'outs' says. -/
def CallOk (P : Program) (f : FuncId) (args : List AV) (res : AV) (outs : List AV) : Prop :=
  Callable P f ∧ ∀ (w : World) (lim : Nat → Nat) (X : Nat → Nat → Option Nat) (cargs : List Value), cargs.length = args.length →
    (∀ i, SlotR P w lim X (argS args) i (argS args i) (cargs.getD i undef)) → Dist X → (∀ i k b, X i k = some b → b < w.heap.size) →
    Calls P f cargs.toArray w fun e w' => ∃ v lim' X', e = .returned v ∧ WStep w lim w' lim' (fun b => ∃ i k, X i k = some b) ∧ outs.length = args.length ∧
      (∀ i, SlotR P w' lim' X' (argS (outs ++ [res])) i (argS (outs ++ [res]) i) ((cargs ++ [v]).getD i undef)) ∧ Dist X' ∧
      ∀ i k b, X' i k = some b → b < w'.heap.size ∧ ((∃ i k, X i k = some b) ∨ w.heap.size ≤ b)

/-- How an argument is handed over. -/
inductive AK where
  | imm (x : AV)
  | own (t : Nat) (e : TypeId) (xs : List (List AV))
  | box (d : Nat) (cs : List AV)

def AK.av : AK → AV
  | .imm x => x
  | .own _ e xs => .own e xs
  | .box _ cs => .box cs

def AK.slot : AK → Option Nat
  | .imm _ => none
  | .own t _ _ => some t
  | .box d _ => some d

def immut (x : AV) : Prop := (∃ v, x = .val v) ∨ (∃ cs, x = .agg cs) ∨ ∃ f s xs, x = .slice f s xs

def AK.ok (P : Program) (σ : Nat → AV) (x : Operand) : AK → Prop
  | .imm y => getS P σ x = y ∧ immut y
  | .own t e xs => x = .tmp t ∧ σ t = .own e xs
  | .box d cs => getS P σ x = .ptr d 0 ∧ σ d = .box cs ∧ NoRow cs

def upsS : List AK → List AV → List (Nat × AV)
  | .own t _ _ :: as, _ :: os => (t, .gone) :: upsS as os
  | .box d _ :: as, o :: os => (d, o) :: upsS as os
  | .imm _ :: as, _ :: os => upsS as os
  | _, _ => []

theorem upsS_other : ∀ (as : List AK) (os : List AV) (σ : Nat → AV) (d : Nat), (∀ a ∈ as, a.slot ≠ some d) → updL σ (upsS as os) d = σ d
  | [], os, σ, d, _ => by cases os <;> rfl
  | .imm _ :: as, [], σ, d, _ => rfl
  | .own _ _ _ :: as, [], σ, d, _ => rfl
  | .box _ _ :: as, [], σ, d, _ => rfl
  | .imm _ :: as, o :: os, σ, d, h => upsS_other as os σ d fun a ha => h a (by simp [ha])
  | .own t e xs :: as, o :: os, σ, d, h => by
    show updL (upd σ t .gone) (upsS as os) d = σ d
    rw [upsS_other as os _ d fun a ha => h a (by simp [ha])]
    exact upd_other σ _ fun hd => h (.own t e xs) (by simp) (by rw [hd]; rfl)
  | .box t cs :: as, o :: os, σ, d, h => by
    show updL (upd σ t o) (upsS as os) d = σ d
    rw [upsS_other as os _ d fun a ha => h a (by simp [ha])]
    exact upd_other σ _ fun hd => h (.box t cs) (by simp) (by rw [hd]; rfl)

theorem upsS_at : ∀ (as : List AK) (os : List AV) (σ : Nat → AV) (i : Nat) (a : AK) (o : AV) (d : Nat), as.length = os.length → (as.filterMap AK.slot).Nodup → as[i]? = some a → os[i]? = some o → a.slot = some d →
    updL σ (upsS as os) d = match a with | .own _ _ _ => .gone | _ => o
  | [], os, σ, i, a, o, d, _, _, ha, _, _ => by simp at ha
  | b :: as, [], σ, i, a, o, d, hl, _, _, _, _ => by simp at hl
  | b :: as, p :: os, σ, 0, a, o, d, hl, hnd, ha, ho, hd => by
    simp only [List.getElem?_cons_zero, Option.some.injEq] at ha ho
    subst ha
    subst ho
    have hno : ∀ a ∈ as, a.slot ≠ some d := by
      intro a ha hs
      rw [List.filterMap_cons, hd] at hnd
      exact (List.nodup_cons.1 hnd).1 (List.mem_filterMap.2 ⟨a, ha, hs⟩)
    cases b with
    | imm x => simp [AK.slot] at hd
    | own t e xs =>
      simp only [AK.slot, Option.some.injEq] at hd
      subst hd
      show updL (upd σ t .gone) (upsS as os) t = .gone
      rw [upsS_other as os _ t hno, upd_same]
    | box t cs =>
      simp only [AK.slot, Option.some.injEq] at hd
      subst hd
      show updL (upd σ t p) (upsS as os) t = p
      rw [upsS_other as os _ t hno, upd_same]
  | b :: as, p :: os, σ, i + 1, a, o, d, hl, hnd, ha, ho, hd => by
    have hl' : as.length = os.length := by simpa using hl
    have ha' : as[i]? = some a := by simpa using ha
    have ho' : os[i]? = some o := by simpa using ho
    cases b with
    | imm x => exact upsS_at as os σ i a o d hl' (by simpa [List.filterMap_cons, AK.slot] using hnd) ha' ho' hd
    | own t e xs =>
      rw [List.filterMap_cons] at hnd
      exact upsS_at as os (upd σ t .gone) i a o d hl' (List.nodup_cons.1 hnd).2 ha' ho' hd
    | box t cs =>
      rw [List.filterMap_cons] at hnd
      exact upsS_at as os (upd σ t p) i a o d hl' (List.nodup_cons.1 hnd).2 ha' ho' hd

theorem slot_inj : ∀ (as : List AK), (as.filterMap AK.slot).Nodup → ∀ (i j : Nat) (a b : AK) (d : Nat), as[i]? = some a → as[j]? = some b → a.slot = some d → b.slot = some d → i = j
  | [], _, i, j, a, b, d, ha, _, _, _ => by simp at ha
  | x :: as, hnd, i, j, a, b, d, ha, hb, hda, hdb => by
    have htail : (as.filterMap AK.slot).Nodup := by
      rw [List.filterMap_cons] at hnd
      split at hnd
      · exact hnd
      · exact (List.nodup_cons.1 hnd).2
    have hhead : ∀ d, x.slot = some d → ∀ a ∈ as, a.slot ≠ some d := by
      intro d hx a ha hs
      rw [List.filterMap_cons, hx] at hnd
      exact (List.nodup_cons.1 hnd).1 (List.mem_filterMap.2 ⟨a, ha, hs⟩)
    cases i with
    | zero =>
      cases j with
      | zero => rfl
      | succ j =>
        simp only [List.getElem?_cons_zero, Option.some.injEq] at ha
        subst ha
        exact (hhead d hda b (List.mem_of_getElem? (by simpa using hb)) hdb).elim
    | succ i =>
      cases j with
      | zero =>
        simp only [List.getElem?_cons_zero, Option.some.injEq] at hb
        subst hb
        exact (hhead d hdb a (List.mem_of_getElem? (by simpa using ha)) hda).elim
      | succ j => rw [slot_inj as htail i j a b d (by simpa using ha) (by simpa using hb) hda hdb]

/-- The blocks of the arguments. -/
def XofA (X : Nat → Nat → Option Nat) (as : List AK) : Nat → Nat → Option Nat := fun i k =>
  match as[i]? with
  | some (.own t _ _) => if k = 0 then X t 0 else none
  | some (.box d _) => X d k
  | _ => none

def findA : List AK → Nat → Nat → Option (Nat × AK)
  | [], _, _ => none
  | a :: as, d, n => if a.slot = some d then some (n, a) else findA as d (n + 1)

theorem findA_some : ∀ (as : List AK) (d n m : Nat) (a : AK), findA as d n = some (m, a) → ∃ i, m = n + i ∧ as[i]? = some a ∧ a.slot = some d
  | [], _, _, _, _, h => by cases h
  | b :: as, d, n, m, a, h => by
    unfold findA at h
    split at h
    · rename_i hs
      simp only [Option.some.injEq, Prod.mk.injEq] at h
      obtain ⟨rfl, rfl⟩ := h
      exact ⟨0, rfl, rfl, hs⟩
    · obtain ⟨i, h1, h2, h3⟩ := findA_some as d (n + 1) m a h
      exact ⟨i + 1, by omega, by simpa using h2, h3⟩

theorem findA_none : ∀ (as : List AK) (d n : Nat), findA as d n = none → ∀ a ∈ as, a.slot ≠ some d
  | [], _, _, _, a, ha => by simp at ha
  | b :: as, d, n, h, a, ha => by
    unfold findA at h
    split at h
    · cases h
    · rename_i hs
      rcases List.mem_cons.1 ha with rfl | ha
      · exact hs
      · exact findA_none as d (n + 1) h a ha

def XaA (X X' : Nat → Nat → Option Nat) (as : List AK) : Nat → Nat → Option Nat := fun d k =>
  match findA as d 0 with
  | some (i, .box _ _) => X' i k
  | some _ => none
  | none => X d k

/-- What a function may hand back. -/
def retval (x : AV) : Prop := immut x ∨ (∃ e xs, x = .own e xs) ∨ ∃ vs, x = .tuple vs

theorem retval_rel {P : Program} {w : World} {lim : Nat → Nat} {X X' : Nat → Nat → Option Nat} {σ σ' : Nat → AV} {d d' : Nat} {x : AV} {v : Value} (hx : retval x) (h : SlotR P w lim X σ d x v) (hX : X' d' = X d) : SlotR P w lim X' σ' d' x v := by
  rcases hx with (⟨u, rfl⟩ | ⟨cs, rfl⟩ | ⟨f, s, xs, rfl⟩) | ⟨e, xs, rfl⟩ | ⟨vs, rfl⟩
  · exact h
  · exact h
  · exact h
  · show OwnR P w lim e xs v (X' d' 0); rw [hX]; exact h
  · obtain ⟨us, h1, h2, h3⟩ := h
    refine ⟨us, h1, h2, ?_⟩
    rw [hX]
    exact h3

theorem immut_rel {P : Program} {w : World} {lim : Nat → Nat} {X X' : Nat → Nat → Option Nat} {σ σ' : Nat → AV} {d d' : Nat} {x : AV} {v : Value} (hx : immut x) (h : SlotR P w lim X σ d x v) : SlotR P w lim X' σ' d' x v := by
  rcases hx with ⟨u, rfl⟩ | ⟨cs, rfl⟩ | ⟨f, s, xs, rfl⟩ <;> exact h

theorem exok_call {P : Program} {o : Oper} {σ : Nat → AV} {cl : Call} {f : FuncId} {aks : List AK} {res : AV} {outs : List AV} (ho : o.op = .call cl) (hcl : cl.callee = .value (.func f))
    (hlen : cl.args.toList.length = aks.length) (hargs : ∀ (i : Nat) (x : Operand) (a : AK), cl.args.toList[i]? = some x → aks[i]? = some a → a.ok P σ x) (hnd : (aks.filterMap AK.slot).Nodup)
    (hol : outs.length = aks.length) (hout : ∀ (i d : Nat) (cs : List AV) (y : AV), aks[i]? = some (.box d cs) → outs[i]? = some y → ∃ cs', y = .box cs') (hres : retval res)
    (hcall : CallOk P f (aks.map AK.av) res outs) : ExOK P o σ res (upsS aks outs) (aks.filterMap AK.slot) := by
  intro c hc σ' tm w lim X hag hsim next Q hn
  obtain ⟨⟨fn, hfn, hname, hbody⟩, hc2⟩ := hcall
  have hslot : ∀ a ∈ aks, ∀ d, a.slot = some d → σ' d = σ d := fun a ha d hd => hag d (by
    refine List.mem_append.2 (.inl (List.mem_append.2 (.inr (List.mem_filterMap.2 ⟨a, ha, hd⟩))))) 
  have hops : ∀ x ∈ cl.args.toList, x ∈ o.op.operands := by
    intro x hx
    rw [ho]
    simp only [Op.operands, Call.operands, hcl]
    simp [Array.mem_toList_iff.1 hx]
  have hg : ∀ x ∈ cl.args.toList, getS P σ' x = getS P σ x := fun x hx => getS_congr fun t ht => hag t (List.mem_append.2 (.inl (List.mem_append.2 (.inl (mem_uses (hops x hx) ht)))))
  have hok : ∀ (i : Nat) (x : Operand) (a : AK), cl.args.toList[i]? = some x → aks[i]? = some a → a.ok P σ' x := by
    intro i x a hx ha
    have h := hargs i x a hx ha
    cases a with
    | imm y => exact ⟨(hg x (List.mem_of_getElem? hx)).trans h.1, h.2⟩
    | own t e xs => exact ⟨h.1, (hslot _ (List.mem_of_getElem? ha) t rfl).trans h.2⟩
    | box d cs => exact ⟨(hg x (List.mem_of_getElem? hx)).trans h.1, (hslot _ (List.mem_of_getElem? ha) d rfl).trans h.2.1, h.2.2⟩
  have hcl2 : ((cl.args.toList.map (Act.eval ⟨tm, []⟩)).length) = (aks.map AK.av).length := by simp [hlen]
  -- the arguments as the callee sees them
  have hrel : ∀ i, SlotR P w lim (XofA X aks) (argS (aks.map AK.av)) i (argS (aks.map AK.av) i) ((cl.args.toList.map (Act.eval ⟨tm, []⟩)).getD i undef) := by
    intro i
    cases ha : aks[i]? with
    | none =>
      have : argS (aks.map AK.av) i = .dead := by simp [argS, ha]
      rw [this]
      trivial
    | some a =>
      have hav : argS (aks.map AK.av) i = a.av := by simp [argS, ha]
      have hlt : i < cl.args.toList.length := by rw [hlen]; exact (List.getElem?_eq_some_iff.1 ha).1
      obtain ⟨x, hx⟩ : ∃ x, cl.args.toList[i]? = some x := ⟨_, List.getElem?_eq_getElem hlt⟩
      have hv : (cl.args.toList.map (Act.eval ⟨tm, []⟩)).getD i undef = Act.eval ⟨tm, []⟩ x := by
        rw [List.getD_eq_getElem?_getD, List.getElem?_map, hx]; rfl
      rw [hav, hv]
      have h := hok i x a hx ha
      cases a with
      | imm y =>
        have := (getS_rel hsim x 0).2
        rw [hc, h.1] at this
        exact immut_rel h.2 this
      | own t e xs =>
        obtain ⟨rfl, ht⟩ := h
        have := hsim.rel t
        rw [ht, hc] at this
        have hX : XofA X aks i 0 = X t 0 := by simp [XofA, ha]
        show OwnR P w lim e xs _ (XofA X aks i 0)
        rw [hX]
        exact this
      | box d cs =>
        have h1 := (getS_rel hsim x 0).2
        rw [hc, h.1] at h1
        rw [← hc] at h1
        obtain ⟨b, h2, h3, h4⟩ := ptr_box hsim h.2.1 h.2.2 h1
        rw [h3]
        have hX : XofA X aks i = X d := by funext k; simp [XofA, ha]
        show BoxR P w lim (XofA X aks i) cs _
        rw [hX, ← hc]
        exact .inl h4
  have hXof : ∀ i k b, XofA X aks i k = some b → ∃ a d, aks[i]? = some a ∧ a.slot = some d ∧ X d k = some b := by
    intro i k b h
    unfold XofA at h
    split at h
    · rename_i t e xs ha
      split at h
      · rename_i hk; subst hk; exact ⟨_, t, ha, rfl, h⟩
      · cases h
    · rename_i d cs ha; exact ⟨_, d, ha, rfl, h⟩
    · cases h
  have hdist : Dist (XofA X aks) := by
    intro i k i' k' b h h'
    obtain ⟨a, d, h1, h2, h3⟩ := hXof i k b h
    obtain ⟨a', d', h1', h2', h3'⟩ := hXof i' k' b h'
    obtain ⟨e1, e2⟩ := hsim.dist d k d' k' b h3 h3'
    subst e1
    exact ⟨slot_inj aks hnd i i' a a' d h1 h1' h2 h2', e2⟩
  have hsize : ∀ i k b, XofA X aks i k = some b → b < w.heap.size := by
    intro i k b h
    obtain ⟨a, d, h1, h2, h3⟩ := hXof i k b h
    exact (hsim.ours d k b h3).1
  have hcalls := hc2 w lim (XofA X aks) _ hcl2 hrel hdist hsize
  have hrun : (execOp (Act.eval ⟨tm, []⟩) o).run P w = .ok (.enter f (cl.args.toList.map (Act.eval ⟨tm, []⟩)).toArray) w := by
    have harr : (#[] : Array Value) ++ cl.args.map (Act.eval ⟨tm, []⟩) ++ #[] = (cl.args.toList.map (Act.eval ⟨tm, []⟩)).toArray := by
      apply Array.toList_inj.1; simp
    have hev : Act.eval ⟨tm, []⟩ (.func f) = .func (.func f) #[] #[] := rfl
    simp only [execOp, ho, resolve, hcl, hev, Deferred.ofValue, Sem.run_bind, Sem.run_pure, Result.andThen_ok, invoke, callFunc, run_program, hfn, hname, hbody]
    rw [harr]
    rfl
  unfold Oper.wp
  rw [hrun, Oper.upon_enter]
  refine hcalls.mono ?_
  rintro e w' ⟨v, lim', X', rfl, hstep, hl', hrel', hdist', hours'⟩
  refine hn v w' ?_
  -- what the slots are behind the call
  have hpass : ∀ d, (∃ i a, findA aks d 0 = some (i, a) ∧ aks[i]? = some a ∧ a.slot = some d) ∨ (findA aks d 0 = none ∧ ∀ a ∈ aks, a.slot ≠ some d) := by
    intro d
    cases hf : findA aks d 0 with
    | none => exact .inr ⟨rfl, findA_none aks d 0 hf⟩
    | some p =>
      obtain ⟨m, a⟩ := p
      obtain ⟨i, h1, h2, h3⟩ := findA_some aks d 0 m a hf
      rw [Nat.zero_add] at h1
      subst h1
      exact .inl ⟨m, a, rfl, h2, h3⟩
  have houtAt : ∀ i a, aks[i]? = some a → ∃ y, outs[i]? = some y := fun i a ha => ⟨_, List.getElem?_eq_getElem (by rw [hol]; exact (List.getElem?_eq_some_iff.1 ha).1)⟩
  have hboxOut : ∀ i d cs, aks[i]? = some (.box d cs) → ∃ cs' b, outs[i]? = some (.box cs') ∧ BoxR P w' lim' (X' i) cs' (tm.getD d undef) ∧ X' i 0 = some b ∧ X d 0 = some b ∧ updL σ' (upsS aks outs) d = .box cs' := by
    intro i d cs ha
    obtain ⟨y, hy⟩ := houtAt i _ ha
    obtain ⟨cs', rfl⟩ := hout i d cs y ha hy
    have h1 := hrel' i
    have hlt : i < outs.length := (List.getElem?_eq_some_iff.1 hy).1
    have ho1 : argS (outs ++ [res]) i = .box cs' := by
      simp only [argS]
      rw [List.getElem?_append_left hlt, hy]
      rfl
    have hlt2 : i < cl.args.toList.length := by rw [hlen]; exact (List.getElem?_eq_some_iff.1 ha).1
    obtain ⟨x, hx⟩ : ∃ x, cl.args.toList[i]? = some x := ⟨_, List.getElem?_eq_getElem hlt2⟩
    have hv : (cl.args.toList.map (Act.eval ⟨tm, []⟩) ++ [v]).getD i undef = Act.eval ⟨tm, []⟩ x := by
      rw [List.getD_eq_getElem?_getD, List.getElem?_append_left (by simp; exact hlt2), List.getElem?_map, hx]; rfl
    rw [ho1, hv] at h1
    have hok' := hok i x _ hx ha
    have h2 := (getS_rel hsim x 0).2
    rw [hc, hok'.1] at h2
    rw [← hc] at h2
    obtain ⟨b, h3, h4, h5⟩ := ptr_box hsim hok'.2.1 hok'.2.2 h2
    have h6 := hsim.rel d
    rw [hok'.2.1] at h6
    obtain ⟨b0, arr0, t0, k1, k2, _⟩ := BoxR.plain h6 hok'.2.2
    have hb0 : b0 = b := by rw [k1] at h3; exact Option.some.inj h3
    subst hb0
    have h1' : BoxR P w' lim' (X' i) cs' (Act.eval ⟨tm, []⟩ x) := h1
    have hsame : Act.eval ⟨tm, []⟩ x = tm.getD d undef := by rw [h4, k2]
    rw [hsame] at h1'
    have h1'' := h1'
    have h1p : PlainR P w' lim' (X' i) cs' (tm.getD d undef) := by
      rcases h1' with h | ⟨_, _, _, _, _, _, _, _, h, _⟩
      · exact h
      · rw [k2] at h; cases h
    obtain ⟨b1, arr1, t1, m1, m2, _⟩ := h1p
    rw [k2] at m2
    simp only [Value.pointer.injEq, Option.some.injEq, Addr.mk.injEq, and_true] at m2
    subst m2
    exact ⟨cs', b0, hy, h1'', m1, h3, upsS_at aks outs σ' i (.box d cs) (.box cs') d hol.symm hnd ha hy rfl⟩
  have hafter : Sim c (updL σ' (upsS aks outs)) tm w' lim' (XaA X X' aks) := by
    have hSours : ∀ b, (∃ i k, XofA X aks i k = some b) → c.A b ∨ c.w0.heap.size ≤ b := by
      rintro b ⟨i, k, h⟩
      obtain ⟨a, d, _, _, h3⟩ := hXof i k b h
      exact (hsim.ours d k b h3).2
    have hXa : ∀ d k b, XaA X X' aks d k = some b → (∃ i a cs, findA aks d 0 = some (i, a) ∧ aks[i]? = some (.box d cs) ∧ X' i k = some b) ∨ (findA aks d 0 = none ∧ (∀ a ∈ aks, a.slot ≠ some d) ∧ X d k = some b) := by
      intro d k b h
      unfold XaA at h
      rcases hpass d with ⟨i, a, h1, h2, h3⟩ | ⟨h1, h2⟩
      · rw [h1] at h
        cases a with
        | imm y => simp at h
        | own t e xs => simp at h
        | box d' cs =>
          simp only [AK.slot, Option.some.injEq] at h3
          subst h3
          exact .inl ⟨i, _, cs, h1, h2, h⟩
      · rw [h1] at h
        exact .inr ⟨h1, h2, h⟩
    have hXold : ∀ d k b, (∀ a ∈ aks, a.slot ≠ some d) → X d k = some b → ¬ ∃ i k, XofA X aks i k = some b := by
      rintro d k b hno hb ⟨i, k', h⟩
      obtain ⟨a, d', h1, h2, h3⟩ := hXof i k' b h
      obtain ⟨e1, _⟩ := hsim.dist d k d' k' b hb h3
      subst e1
      exact hno a (List.mem_of_getElem? h1) h2
    refine ⟨fun d => ?_, hsim.size, fun d hd => ?_, fun d k d' k' b h h' => ?_, fun d k b h => ?_, hsim.frm.step hstep hSours, fun d v hv => ?_⟩
    · rcases hpass d with ⟨i, a, h1, h2, h3⟩ | ⟨h1, h2⟩
      · cases a with
        | imm y => simp [AK.slot] at h3
        | own t e xs =>
          simp only [AK.slot, Option.some.injEq] at h3
          subst h3
          obtain ⟨y, hy⟩ := houtAt i _ h2
          rw [upsS_at aks outs σ' i (.own t e xs) y t hol.symm hnd h2 hy rfl]
          trivial
        | box d' cs =>
          simp only [AK.slot, Option.some.injEq] at h3
          subst h3
          obtain ⟨cs', b, g1, g2, g3, g4, g5⟩ := hboxOut i d' cs h2
          rw [g5]
          have hrow : XaA X X' aks d' = X' i := by funext k; simp only [XaA, h1]
          show BoxR c.P w' lim' (XaA X X' aks d') cs' _
          rw [hrow, hc]
          exact g2
      · rw [upsS_other aks outs σ' d h2]
        have hm := (hsim.rel d).mono hstep.ext fun k b hb => hstep.blk b (hsim.ours d k b hb).1 (hXold d k b h2 hb)
        refine hm.chg (by funext k; simp only [XaA, h1]) fun d' cs hd' => ?_
        rcases hpass d' with ⟨i, a, k1, k2, k3⟩ | ⟨k1, k2⟩
        · cases a with
          | imm y => simp [AK.slot] at k3
          | own t e xs =>
            simp only [AK.slot, Option.some.injEq] at k3
            subst k3
            have hlt2 : i < cl.args.toList.length := by rw [hlen]; exact (List.getElem?_eq_some_iff.1 k2).1
            have := hok i _ _ (List.getElem?_eq_getElem hlt2) k2
            rw [this.2] at hd'
            cases hd'
          | box d'' cs'' =>
            simp only [AK.slot, Option.some.injEq] at k3
            subst k3
            obtain ⟨cs', b, g1, g2, g3, g4, g5⟩ := hboxOut i d'' cs'' k2
            have hlt2 : i < cl.args.toList.length := by rw [hlen]; exact (List.getElem?_eq_some_iff.1 k2).1
            have hkk := hok i _ _ (List.getElem?_eq_getElem hlt2) k2
            refine ⟨⟨cs', g5, RowKept.of_plain (by
              have hcc := hkk.2.1
              rw [hd'] at hcc
              cases hcc
              exact hkk.2.2)⟩, ?_⟩
            simp only [XaA, k1]
            rw [g3, g4]
        · exact ⟨⟨cs, by rw [upsS_other aks outs σ' d' k2]; exact hd', RowKept.refl cs⟩, by simp only [XaA, k1]⟩
    · have hno : ∀ a ∈ aks, a.slot ≠ some d := by
        intro a ha hs
        obtain ⟨i, hi⟩ := List.mem_iff_getElem?.1 ha
        have hlt2 : i < cl.args.toList.length := by rw [hlen]; exact (List.getElem?_eq_some_iff.1 hi).1
        have hok' := hok i _ _ (List.getElem?_eq_getElem hlt2) hi
        have hdead := hsim.out d hd
        cases a with
        | imm y => simp [AK.slot] at hs
        | own t e xs =>
          simp only [AK.slot, Option.some.injEq] at hs
          subst hs
          rw [hok'.2] at hdead
          cases hdead
        | box t cs =>
          simp only [AK.slot, Option.some.injEq] at hs
          subst hs
          rw [hok'.2.1] at hdead
          cases hdead
      rw [upsS_other aks outs σ' d hno]
      exact hsim.out d hd
    · rcases hXa d k b h with ⟨i, a, cs, g1, g2, g3⟩ | ⟨g1, g2, g3⟩ <;> rcases hXa d' k' b h' with ⟨i', a', cs', g1', g2', g3'⟩ | ⟨g1', g2', g3'⟩
      · obtain ⟨e1, e2⟩ := hdist' i k i' k' b g3 g3'
        subst e1
        rw [g2] at g2'
        simp only [Option.some.injEq, AK.box.injEq] at g2'
        exact ⟨g2'.1, e2⟩
      · rcases (hours' i k b g3).2 with hS | hS
        · exact (hXold d' k' b g2' g3' hS).elim
        · have := (hsim.ours d' k' b g3').1; omega
      · rcases (hours' i' k' b g3').2 with hS | hS
        · exact (hXold d k b g2 g3 hS).elim
        · have := (hsim.ours d k b g3).1; omega
      · exact hsim.dist d k d' k' b g3 g3'
    · rcases hXa d k b h with ⟨i, a, cs, g1, g2, g3⟩ | ⟨g1, g2, g3⟩
      · refine ⟨(hours' i k b g3).1, ?_⟩
        rcases (hours' i k b g3).2 with hS | hS
        · exact hSours b hS
        · exact .inr (Nat.le_trans hsim.frm.size hS)
      · exact ⟨Nat.lt_of_lt_of_le (hsim.ours d k b g3).1 hstep.size, (hsim.ours d k b g3).2⟩
    · obtain ⟨p1, cs, p2⟩ := hsim.pin d v hv
      refine ⟨p1, ?_⟩
      rcases hpass d with ⟨i, a, k1, k2, k3⟩ | ⟨k1, k2⟩
      · cases a with
        | imm y => simp [AK.slot] at k3
        | own t e xs =>
          simp only [AK.slot, Option.some.injEq] at k3
          subst k3
          have hlt2 : i < cl.args.toList.length := by rw [hlen]; exact (List.getElem?_eq_some_iff.1 k2).1
          have := hok i _ _ (List.getElem?_eq_getElem hlt2) k2
          rw [this.2] at p2
          cases p2
        | box d'' cs'' =>
          simp only [AK.slot, Option.some.injEq] at k3
          subst k3
          obtain ⟨cs', b, g1, g2, g3, g4, g5⟩ := hboxOut i d'' cs'' k2
          exact ⟨cs', g5⟩
      · exact ⟨cs, by rw [upsS_other aks outs σ' d k2]; exact p2⟩
  -- the result
  have hresv : SlotR P w' lim' X' (argS (outs ++ [res])) aks.length res v := by
    have h1 := hrel' aks.length
    have ho1 : argS (outs ++ [res]) aks.length = res := by
      simp only [argS]
      rw [List.getElem?_append_right (by omega), hol]
      simp
    have hv : (cl.args.toList.map (Act.eval ⟨tm, []⟩) ++ [v]).getD aks.length undef = v := by
      rw [List.getD_eq_getElem?_getD, List.getElem?_append_right (by simp [hlen])]
      simp [hlen]
    rw [ho1, hv] at h1
    exact h1
  cases hdst : o.dst with
  | none => exact ⟨lim', _, hafter⟩
  | some d =>
    intro hd hm
    refine ⟨lim', _, hafter.putRow (X' aks.length) (WStep.refl w' lim' (fun _ => False)) (fun _ hs => hs.elim) hd (tm' := tm.setIfInBounds d v) (by simp) (fun i hi => getD_set_other tm d i v hi) (.inl (mayPutS_old hm)) ?_ (fun k b hk => ⟨(hours' _ k b hk).1, ?_, fun i j hi hij => ?_⟩) (fun k k' b hk hk' => (hdist' _ k _ k' b hk hk').2)⟩
    · rw [getD_set tm d v (by rw [hsim.size]; exact hd), hc]
      exact retval_rel hres hresv (rowX_same _ d _)
    · rcases (hours' _ k b hk).2 with ⟨i, k', hS⟩ | hS
      · obtain ⟨a, d', _, _, h3⟩ := hXof i k' b hS
        exact (hsim.ours d' k' b h3).2
      · exact .inr (Nat.le_trans hsim.frm.size hS)
    · unfold XaA at hij
      rcases hpass i with ⟨m, a, h1, h2, h3⟩ | ⟨h1, h2⟩
      · rw [h1] at hij
        cases a with
        | imm y => simp at hij
        | own t e xs => simp at hij
        | box d' cs =>
          obtain ⟨e1, _⟩ := hdist' _ _ _ _ b hk hij
          have := (List.getElem?_eq_some_iff.1 h2).1
          omega
      · rw [h1] at hij
        rcases (hours' _ k b hk).2 with ⟨i', k', hS⟩ | hS
        · obtain ⟨a, d', g1, g2, g3⟩ := hXof i' k' b hS
          obtain ⟨e1, _⟩ := hsim.dist i j d' k' b hij g3
          subst e1
          exact h2 a (List.mem_of_getElem? g1) g2
        · have := (hsim.ours i j b hij).1; omega

end Go.AM
end

section
namespace Go.AM

theorem after_row {c : Ctx} {σ : Nat → AV} {tm : Array Value} {w : World} {lim : Nat → Nat} {X : Nat → Nat → Option Nat} (h : Sim c σ tm w lim X) {dst : Option Tmp} {e : TypeId} {n : Nat} {xs : List (List AV)} {arr : Array Value}
    (hl : xs.length = n) (hm : n ≤ maxLen) (ha : arr.size = n * c.P.cellsOf e) (h1 : ∀ x ∈ xs, x.length = c.P.cellsOf e) (h2 : ∀ x ∈ xs, ∀ z ∈ x, z.isCell = true)
    (hr : ∀ (j : Nat) (z : AV) (u : Value), xs.flatten[j]? = some z → arr[j]? = some u → Rep w lim z u) :
    After c dst σ (.box [.row e n n xs]) tm (.slice (some ⟨w.heap.size, 0, none⟩) n n) (w.alloc (.cells arr e)) := by
  have hstep := wstep_alloc w lim arr e 0 (fun _ => False)
  cases dst with
  | none => exact ⟨_, X, h.world hstep fun _ hs => hs.elim⟩
  | some d =>
    intro hd hmp
    have h1' := h.world hstep fun _ hs => hs.elim
    refine ⟨_, _, h1'.putRow (oneRow (some w.heap.size)) (WStep.refl _ _ (fun _ => False)) (fun _ hs => hs.elim) hd (tm' := tm.setIfInBounds d (.slice (some ⟨w.heap.size, 0, none⟩) n n)) (by simp) (fun i hi => getD_set_other tm d i _ hi) (.inl (dead_of_box hmp)) ?_ (fun k b hk => ?_) (fun k k' b hk hk' => ?_)⟩
    · rw [getD_set tm d _ (by rw [h.size]; exact hd)]
      refine .inr ⟨e, n, n, xs, rfl, w.heap.size, arr, ?_, rfl, heap_new w _ e, if_pos rfl, hl, Nat.le_refl _, hm, ha, h1, h2, fun j z u hz hu => (hr j z u hz hu).mono hstep.ext⟩
      rw [rowX_same]
      rfl
    · unfold oneRow at hk
      split at hk
      · simp only [Option.some.injEq] at hk
        subst hk
        exact ⟨by simp, .inr h.frm.size, fun i j _ => not_size h i j⟩
      · cases hk
    · unfold oneRow at hk hk'
      split at hk <;> split at hk'
      · omega
      · cases hk'
      · cases hk
      · cases hk

/-- The cells of a slice that is written in place are written. -/
theorem Sim.setRow {c : Ctx} {σ : Nat → AV} {tm : Array Value} {w : World} {lim : Nat → Nat} {X : Nat → Nat → Option Nat} (h : Sim c σ tm w lim X) {d b n cap : Nat} {e : TypeId} {xs xs' : List (List AV)} {arr arr' : Array Value}
    (hd : σ d = .box [.row e n cap xs]) (hX : X d 0 = some b) (hheap : w.heap[b]? = some (.cells arr e (0, 0))) (hsz : arr'.size = arr.size) (hl : xs'.length = n) (h1 : ∀ x ∈ xs', x.length = c.P.cellsOf e) (h2 : ∀ x ∈ xs', ∀ z ∈ x, z.isCell = true)
    (hr : ∀ (j : Nat) (z : AV) (u : Value), xs'.flatten[j]? = some z → arr'[j]? = some u → Rep w lim z u) :
    ∃ X', Sim c (upd σ d (.box [.row e n cap xs'])) tm (w.setRow b arr') lim X' := by
  have hrel := h.rel d
  rw [hd] at hrel
  obtain ⟨b0, arr0, g1, g2, g3, g4, g5, g6, g7, g8, g9, g10, g11⟩ := BoxR.row hrel
  have hb0 : b0 = b := by rw [g1] at hX; exact Option.some.inj hX
  subst hb0
  rw [g3] at hheap
  simp only [Option.some.injEq, Obj.cells.injEq, and_true] at hheap
  subst hheap
  have hstep := wstep_setRow (cs := arr') g3 g4
  have hdn : d < c.nt := by
    rcases Nat.lt_or_ge d c.nt with hlt | hge
    · exact hlt
    · have := h.out d hge; rw [hd] at this; cases this
  refine ⟨_, h.putRow (S := fun b => b = b0) (oneRow (some b0)) hstep (fun b' hb' => ⟨0, by rw [hb']; exact g1⟩) hdn rfl (fun i _ => rfl) (.inr ⟨⟨_, rfl, fun cs0 h0 => by (rw [hd] at h0; cases h0; intro e2 n2 cap2 xs2 he2; cases he2; exact ⟨xs', rfl⟩)⟩, g1.symm, rfl⟩) ?_ (fun k b' hk => ?_) (fun k k' b' hk hk' => ?_)⟩
  · refine .inr ⟨e, n, cap, xs', rfl, b0, arr', ?_, g2, setRow_heap w b0 arr0 arr' e _ g3, g4, hl, g6, g7, by rw [hsz]; exact g8, h1, h2, fun j z u hz hu => (hr j z u hz hu).mono hstep.ext⟩
    rw [rowX_same]
    rfl
  · unfold oneRow at hk
    split at hk
    · simp only [Option.some.injEq] at hk
      subst hk
      exact ⟨by have := (h.ours d 0 b0 g1).1; simpa using this, (h.ours d 0 b0 g1).2, fun i j hi hij => hi (h.dist i j d 0 b0 hij g1).1⟩
    · cases hk
  · unfold oneRow at hk hk'
    split at hk <;> split at hk'
    · omega
    · cases hk'
    · cases hk
    · cases hk

theorem exok_make {P : Program} {o : Oper} {σ : Nat → AV} {T e : TypeId} {t : Nat} {i : TypeInfo} {z : Value} {zc zc' : List AV} {k : IntKind} {m : Int} (ho : o.op = .makeSlice T (.tmp t) (.tmp t)) (hT : P.underlying T = some (.slice e)) (hi : P.info? e = some i)
    (hz : i.zero = some z) (hzs : z.cells.size = i.size) (hzc : ofCsS z.cells.toList = some zc) (ht : getS P σ (.tmp t) = .val (.int k m)) (h0 : 0 ≤ m) (hm : m.toNat * (i.bytes + 1) ≤ roomMax)
    (hw : zc'.length = zc.length ∧ ∀ (w : World) (lim : Nat → Nat) (us : List Value), RelL w lim zc us → RelL w lim zc' us) :
    ExOK P o σ (.box [.row e m.toNat m.toNat (List.replicate m.toNat zc')]) [] [] := by
  intro c hc σ' tm w lim X hag hsim next Q hn
  have hg : getS P σ' (.tmp t) = getS P σ (.tmp t) := getS_congr fun t' ht' => hag t' (by simp [mem_uses (o := o) (x := .tmp t) (by rw [ho]; simp [Op.operands]) ht'])
  have hv : Act.eval ⟨tm, []⟩ (.tmp t) = .int k m := opnd_val hc hsim ht hg
  have hsz : P.cellsOf e = i.size := cellsOf_info hi
  have hzr := hw.2 w lim _ (ofCsS_relL (w := w) (lim := lim) hzc)
  have hzl : z.cells.toList.length = i.size := by rw [← hzs]; simp
  have hb1 : m.toNat ≤ 1099511627776 := by
    have : m.toNat * 1 ≤ m.toNat * (i.bytes + 1) := Nat.mul_le_mul_left _ (by omega)
    unfold roomMax at hm
    omega
  have hb2 : (i.bytes : Int) * m ≤ 281474976710656 := by
    have h1 : m.toNat * i.bytes ≤ m.toNat * (i.bytes + 1) := Nat.mul_le_mul_left _ (by omega)
    unfold roomMax at hm
    have h2 : ((m.toNat * i.bytes : Nat) : Int) = (i.bytes : Int) * m := by
      rw [Int.natCast_mul, Int.mul_comm]
      congr 1
      omega
    omega
  have hmx : (1099511627776 : Nat) ≤ maxLen := by decide
  have hrun := run_make (P := P) w T e i z hT hi hz k k m m h0 (Int.le_refl _) hb2 (by omega)
  have hmade : madeCells z.cells (m.toNat * i.size) = ((List.replicate m.toNat z.cells.toList).flatten).toArray := by
    have := replicate_zero z.cells.toList m.toNat
    rw [hzl, Array.toArray_toList] at this
    exact this
  have hrl := relL_replicate hzr m.toNat
  have hx1 : ∀ x ∈ List.replicate m.toNat zc', x.length = c.P.cellsOf e := by
    intro x hx
    rw [(List.mem_replicate.1 hx).2, hzr.1, hzl, hc, hsz]
  refine wp_of_run (v := .slice (some ⟨w.heap.size, 0, none⟩) m.toNat m.toNat) (w' := w.alloc (.cells (madeCells z.cells (m.toNat * i.size)) e)) ?_ (hn _ _ (after_row hsim (by simp) (by omega) (by rw [size_madeCells, hc, hsz]) hx1 (fun x hx y hy => ?_) fun j y u hy hu => ?_))
  · simp only [execOp, ho, hv, Sem.run_bind, hrun, Result.andThen_ok, Sem.run_pure]
  · rw [(List.mem_replicate.1 hx).2] at hy
    exact hzr.2.1 y hy
  · rw [hmade] at hu
    exact hrl.2.2 j y u hy (by simpa using hu)

/-- The slice in another slot, and its block. -/
theorem mref_row {c : Ctx} {σ : Nat → AV} {tm : Array Value} {w : World} {lim : Nat → Nat} {X : Nat → Nat → Option Nat} (h : Sim c σ tm w lim X) {d k n cap : Nat} {e : TypeId} {xs : List (List AV)} {v : Value}
    (hd : σ d = .box [.row e n cap xs]) (hv : SlotR c.P w lim X σ k (.mref d) v) : ∃ b arr, X d 0 = some b ∧ v = .slice (some ⟨b, 0, none⟩) n cap ∧ w.heap[b]? = some (.cells arr e (0, 0)) ∧ lim b = 0 ∧ xs.length = n ∧ n ≤ cap ∧ cap ≤ maxLen ∧
      arr.size = cap * c.P.cellsOf e ∧ (∀ x ∈ xs, x.length = c.P.cellsOf e) ∧ (∀ x ∈ xs, ∀ c ∈ x, c.isCell = true) ∧ ∀ (j : Nat) (c : AV) (u : Value), xs.flatten[j]? = some c → arr[j]? = some u → Rep w lim c u := by
  obtain ⟨b, e', n', cap', xs', h1, h2, h3⟩ := hv
  rw [hd] at h2
  simp only [AV.box.injEq, List.cons.injEq, AV.row.injEq, and_true] at h2
  obtain ⟨rfl, rfl, rfl, rfl⟩ := h2
  have hrel := h.rel d
  rw [hd] at hrel
  obtain ⟨b0, arr, g1, g2, g3⟩ := BoxR.row hrel
  have : b0 = b := by rw [g1] at h1; exact Option.some.inj h1
  subst this
  exact ⟨b0, arr, g1, h3, g3⟩

theorem exok_index_row {P : Program} {o : Oper} {σ : Nat → AV} {T e : TypeId} {x i : Operand} {d n cap : Nat} {xs : List (List AV)} {k : IntKind} {z : Int} (ho : o.op = .indexAddr T x i)
    (hT : P.underlying T = some (.slice e)) (hs0 : P.cellsOf e ≠ 0) (hx : getS P σ x = .mref d) (hd : σ d = .box [.row e n cap xs]) (hi : getS P σ i = .val (.int k z)) (h0 : 0 ≤ z) (hz : z.toNat < n) :
    ExOK P o σ (.ptr d (z.toNat * P.cellsOf e + 0)) [] [d] := by
  refine exok_plain [d] rfl fun c hc σ' tm w lim X hg hfp hsim => ?_
  rw [ho] at hg
  have hv := opnd hc hsim hx (hg x (by simp [Op.operands]))
  have hiv := opnd_val hc hsim hi (hg i (by simp [Op.operands]))
  have hd' : σ' d = .box [.row e n cap xs] := by rw [hfp d (by simp), hd]
  rw [← hc] at hv
  obtain ⟨b, arr, g1, g2, g3⟩ := mref_row hsim hd' hv
  obtain ⟨inf, hinf⟩ := info_of_cells hs0
  have hsz : P.cellsOf e = inf.size := cellsOf_info hinf
  refine ⟨.pointer (some ⟨b, z.toNat * P.cellsOf e + 0, none⟩), ?_, b, _, g1, hd', rfl⟩
  have hb : 0 ≤ z ∧ z < (n : Int) := ⟨h0, by omega⟩
  simp [execOp, ho, g2, hiv, Instr.indexAt, asIntOf, run_underlying hT, hb, run_sizeOf hinf, add_none]

theorem flatten_take_n {s : Nat} : ∀ (xs : List (List AV)) (k : Nat), (∀ x ∈ xs, x.length = s) → (xs.take k).flatten = xs.flatten.take (k * s)
  | [], k, _ => by simp
  | x :: xs, 0, _ => by simp
  | x :: xs, k + 1, h => by
    have hx : x.length = s := h x (by simp)
    simp only [List.take_succ_cons, List.flatten_cons]
    rw [flatten_take_n xs k fun y hy => h y (by simp [hy]), List.take_append]
    have e1 : (k + 1) * s - x.length = k * s := by rw [Nat.succ_mul]; omega
    rw [e1, List.take_of_length_le (l := x) (by rw [Nat.succ_mul]; omega)]

theorem flatten_drop_n {s : Nat} : ∀ (xs : List (List AV)) (k : Nat), (∀ x ∈ xs, x.length = s) → (xs.drop k).flatten = xs.flatten.drop (k * s)
  | [], k, _ => by simp
  | x :: xs, 0, _ => by simp
  | x :: xs, k + 1, h => by
    have hx : x.length = s := h x (by simp)
    simp only [List.drop_succ_cons, List.flatten_cons]
    rw [flatten_drop_n xs k fun y hy => h y (by simp [hy]), List.drop_append]
    have e1 : (k + 1) * s - x.length = k * s := by rw [Nat.succ_mul]; omega
    rw [e1, List.drop_of_length_le (l := x) (by rw [Nat.succ_mul]; omega)]
    rfl

theorem setElem_flatten {s : Nat} {xs : List (List AV)} {i o : Nat} {e : List AV} (h : ∀ x ∈ xs, x.length = s) (hi : i < xs.length) (ho : o + e.length ≤ s) :
    (setElem xs i o e).flatten = xs.flatten.take (i * s + o) ++ e ++ xs.flatten.drop (i * s + o + e.length) := by
  have hx : xs[i].length = s := h _ (List.getElem_mem hi)
  have e0 : xs = xs.take i ++ xs[i] :: xs.drop (i + 1) := by rw [List.getElem_cons_drop, List.take_append_drop]
  have hl : (xs.take i).flatten.length = i * s := by
    rw [flatten_take_n xs i h, List.length_take, getD_replicate_flat xs _ h]
    have : i * s ≤ xs.length * s := Nat.mul_le_mul_right _ (by omega)
    omega
  have e1 : setElem xs i o e = xs.take i ++ setCells xs[i] o e :: xs.drop (i + 1) := by
    unfold setElem
    rw [List.modify_eq_take_cons_drop hi]
  have e2 := congrArg List.flatten e0
  rw [List.flatten_append, List.flatten_cons] at e2
  rw [e1, e2]
  simp only [List.flatten_append, List.flatten_cons]
  rw [List.take_append, List.drop_append, hl, List.take_of_length_le (l := (xs.take i).flatten) (by rw [hl]; omega), List.drop_of_length_le (l := (xs.take i).flatten) (by rw [hl]; omega)]
  have e3 : i * s + o - i * s = o := by omega
  have e4 : i * s + o + e.length - i * s = o + e.length := by omega
  rw [e3, e4, List.take_append_of_le_length (by omega), List.drop_append_of_le_length (by omega)]
  unfold setCells
  simp only [List.nil_append, List.append_assoc]

theorem setElem_mem {s : Nat} {xs : List (List AV)} {i o : Nat} {e : List AV} (h : ∀ x ∈ xs, x.length = s) (hc : ∀ x ∈ xs, ∀ c ∈ x, c.isCell = true) (ho : o + e.length ≤ s) (he : ∀ c ∈ e, c.isCell = true) :
    ∀ x ∈ setElem xs i o e, x.length = s ∧ ∀ c ∈ x, c.isCell = true := by
  intro x hx
  obtain ⟨j, hj⟩ := List.mem_iff_getElem?.1 hx
  unfold setElem at hj
  rw [List.getElem?_modify] at hj
  cases hy : xs[j]? with
  | none => rw [hy] at hj; cases hj
  | some y =>
    rw [hy] at hj
    simp only [Option.map_eq_map, Option.map_some, Option.some.injEq] at hj
    subst hj
    split
    · have hm := List.mem_of_getElem? hy
      have hl := h y hm
      refine ⟨by simp [setCells, hl]; omega, fun c hcx => ?_⟩
      unfold setCells at hcx
      rcases List.mem_append.1 hcx with hcx | hcx
      · rcases List.mem_append.1 hcx with hcx | hcx
        · exact hc y hm c (List.mem_of_mem_take hcx)
        · exact he c hcx
      · exact hc y hm c (List.mem_of_mem_drop hcx)
    · have hm := List.mem_of_getElem? hy
      exact ⟨h y hm, hc y hm⟩

theorem over_rep {R : AV → Value → Prop} {zs vs : List AV} {us ws : List Value} {off : Nat} (h : ∀ (j : Nat) (z : AV) (u : Value), zs[j]? = some z → us[j]? = some u → R z u) (h' : ∀ (j : Nat) (z : AV) (u : Value), vs[j]? = some z → ws[j]? = some u → R z u)
    (hl : vs.length = ws.length) (h1 : off ≤ zs.length) (h2 : off ≤ us.length) :
    ∀ (j : Nat) (z : AV) (u : Value), (zs.take off ++ vs ++ zs.drop (off + vs.length))[j]? = some z → (us.take off ++ ws ++ us.drop (off + ws.length))[j]? = some u → R z u := by
  intro j z u hz hu
  have l1 : (zs.take off).length = off := by rw [List.length_take]; omega
  have l2 : (us.take off).length = off := by rw [List.length_take]; omega
  rw [List.append_assoc] at hz hu
  rcases Nat.lt_or_ge j off with hlt | hge
  · rw [List.getElem?_append_left (by omega), List.getElem?_take_of_lt hlt] at hz hu
    exact h j z u hz hu
  · rw [List.getElem?_append_right (by omega), l1] at hz
    rw [List.getElem?_append_right (by omega), l2] at hu
    rcases Nat.lt_or_ge (j - off) vs.length with hlt | hge'
    · rw [List.getElem?_append_left hlt] at hz
      rw [List.getElem?_append_left (by omega)] at hu
      exact h' _ z u hz hu
    · rw [List.getElem?_append_right hge', List.getElem?_drop] at hz
      rw [List.getElem?_append_right (by omega), List.getElem?_drop] at hu
      rw [← hl] at hu
      exact h _ z u hz hu

theorem exok_store_row {P : Program} {o : Oper} {σ : Nat → AV} {T e : TypeId} {a x : Operand} {d n cap i off : Nat} {xs : List (List AV)} {vc vc' : List AV} {y : AV} (ho : o.op = .store T a x) (ha : getS P σ a = .ptr d (i * P.cellsOf e + off)) (hd : σ d = .box [.row e n cap xs])
    (hx : getS P σ x = y) (hy : y.cells? = some vc) (hn : vc.length = P.cellsOf T) (h0 : P.cellsOf T ≠ 0) (hi : i < n) (hfit : off + P.cellsOf T ≤ P.cellsOf e)
    (hw : vc'.length = vc.length ∧ ∀ (w : World) (lim : Nat → Nat) (us : List Value), RelL w lim vc us → RelL w lim vc' us) :
    ExOK P o σ .dead [(d, .box [.row e n cap (setElem xs i off vc')])] [d] := by
  intro c hc σ' tm w lim X hag hsim next Q hnx
  have hga : getS P σ' a = getS P σ a := getS_congr fun t ht => hag t (by simp [mem_uses (o := o) (x := a) (by rw [ho]; simp [Op.operands]) ht])
  have hgx : getS P σ' x = getS P σ x := getS_congr fun t ht => hag t (by simp [mem_uses (o := o) (x := x) (by rw [ho]; simp [Op.operands]) ht])
  have hd' : σ' d = .box [.row e n cap xs] := by rw [hag d (by simp), hd]
  have hva := opnd hc hsim ha hga
  rw [← hc] at hva
  obtain ⟨b, cs, h1, h2, h3⟩ := hva
  obtain ⟨us, h4, h5⟩ := cells_rel hy (opnd hc hsim hx hgx)
  have hrel := hsim.rel d
  rw [hd'] at hrel
  obtain ⟨b0, arr, g1, g2, g3, g4, g5, g6, g7, g8, g9, g10, g11⟩ := BoxR.row hrel
  have hb0 : b0 = b := by rw [g1] at h1; exact Option.some.inj h1
  subst hb0
  rw [hc] at g8 g9 h3
  obtain ⟨inf, hinf⟩ := info_of_cells h0
  have h5' := hw.2 w lim us h5
  have hlen : us.length = P.cellsOf T := by rw [← h5.1, hn]
  have hmul : i * P.cellsOf e + P.cellsOf e ≤ n * P.cellsOf e := by
    rw [← Nat.succ_mul]; exact Nat.mul_le_mul_right _ hi
  have hcap : n * P.cellsOf e ≤ cap * P.cellsOf e := Nat.mul_le_mul_right _ g6
  have hmem := setElem_mem (i := i) g9 g10 (by rw [hw.1, hn]; exact hfit) h5'.2.1
  have hst := run_storeAt (P := P) (T := T) (w := w) (b := b0) (off := i * P.cellsOf e + off) (v := Act.eval ⟨tm, []⟩ x) hinf h4 hlen g3 (by rw [hlen, g8]; omega) (fun u hu => by
    obtain ⟨j, hj⟩ := List.mem_iff_getElem?.1 hu
    have hlt : j < vc.length := by rw [h5.1]; exact (List.getElem?_eq_some_iff.1 hj).1
    exact (h5.2.2 j _ u (List.getElem?_eq_getElem hlt) hj).oneCell (h5.2.1 _ (List.getElem_mem hlt)))
  obtain ⟨X', hset⟩ := hsim.setRow (xs' := setElem xs i off vc') (arr' := (arr.toList.take (i * P.cellsOf e + off) ++ us ++ arr.toList.drop (i * P.cellsOf e + off + us.length)).toArray) hd' g1 g3
    (by simp [g8]; omega) (by simp [setElem, g5]) (fun x hx => by rw [hc]; exact (hmem x hx).1) (fun x hx => (hmem x hx).2) (fun j z u hz hu => by
      rw [setElem_flatten g9 (by omega) (by rw [hw.1, hn]; exact hfit)] at hz
      refine over_rep (R := Rep w lim) (us := arr.toList) (fun j z u hz hu => g11 j z u hz (by simpa using hu)) h5'.2.2 (by rw [hw.1, h5.1]) ?_ ?_ j z u hz (by simpa using hu)
      · rw [getD_replicate_flat xs _ g9, g5]; omega
      · simp [g8]; omega)
  refine wp_of_skip (w' := w.setRow b0 (arr.toList.take (i * P.cellsOf e + off) ++ us ++ arr.toList.drop (i * P.cellsOf e + off + us.length)).toArray) ?_ (hnx undef _ ?_)
  · simp only [execOp, ho, h3, Sem.run_bind, hst, Result.andThen_ok, Sem.run_pure]
  · exact after_plain hset rfl (k := 0) trivial

theorem exok_len_row {P : Program} {o : Oper} {σ : Nat → AV} {cl : Call} {x : Operand} {T el e : TypeId} {d n cap : Nat} {xs : List (List AV)} (ho : o.op = .call cl) (hcl : cl.callee = .builtin .len)
    (hargs : cl.args.toList = [x]) (hts : cl.argTypes.toList = [T]) (hT : P.underlying T = some (.slice el)) (hx : getS P σ x = .mref d) (hd : σ d = .box [.row e n cap xs]) : ExOK P o σ (.val (.int .i64 xs.length)) [] [d] := by
  have hargs' : cl.args = #[x] := by apply Array.toList_inj.1; rw [hargs]
  have hts' : cl.argTypes = #[T] := by apply Array.toList_inj.1; rw [hts]
  refine exok_plain [d] rfl fun c hc σ' tm w lim X hg hfp hsim => ⟨.int .i64 xs.length, ?_, .val rfl⟩
  rw [ho] at hg
  have hv := opnd hc hsim hx (hg x (by simp [Op.operands, Call.operands, hargs', hcl]))
  have hd' : σ' d = .box [.row e n cap xs] := by rw [hfp d (by simp), hd]
  rw [← hc] at hv
  obtain ⟨b, arr, g1, g2, g3, g4, g5, g6⟩ := mref_row hsim hd' hv
  rw [g5]
  simp [execOp, ho, hcl, resolve, hargs', hts', invoke, builtin, Builtin.len_, g2, run_underlying hT, goInt]

/-- What is copied out of a slice. -/
theorem copy_src {P : Program} {w : World} {lim : Nat → Nat} {f : Bool} {ys : List (List AV)} {v : Value} (n : Nat) (h : Rep w lim (.slice f 1 ys) v) :
    (v = .slice none 0 0 ∧ ys = []) ∨ ∃ (a : Addr) (sLen sCap : Nat) (cs : List Value), v = .slice (some a) sLen sCap ∧ cs.length = Nat.min sLen n ∧ sLen = ys.length ∧ (∀ y ∈ ys, y.length = 1 ∧ ∀ c ∈ y, c.isCell = true) ∧ (∀ j u, cs[j]? = some u → w.cell? (a.add j) = some u) ∧
      (∀ u ∈ cs, u.oneCell' = true) ∧ ∀ (j : Nat) (z : AV) (u : Value), (ys.take n).flatten[j]? = some z → cs[j]? = some u → Rep w lim z u := by
  have key : ∀ (y : AV), Rep w lim y v → y = .slice f 1 ys → (v = .slice none 0 0 ∧ ys = []) ∨ ∃ (a : Addr) (sLen sCap : Nat) (cs : List Value), v = .slice (some a) sLen sCap ∧ cs.length = Nat.min sLen n ∧ sLen = ys.length ∧ (∀ y ∈ ys, y.length = 1 ∧ ∀ c ∈ y, c.isCell = true) ∧ (∀ j u, cs[j]? = some u → w.cell? (a.add j) = some u) ∧
      (∀ u ∈ cs, u.oneCell' = true) ∧ ∀ (j : Nat) (z : AV) (u : Value), (ys.take n).flatten[j]? = some z → cs[j]? = some u → Rep w lim z u := by
    intro y hy hye
    cases hy with
    | sliceN => injection hye with h1 h2 h3; exact .inl ⟨rfl, h3.symm⟩
    | @sliceE f' s2 a cap hf =>
      injection hye with h1 h2 h3
      subst h3
      exact .inr ⟨a, 0, cap, [], rfl, by simp, rfl, by simp, by simp, by simp, by simp⟩
    | @sliceC f' s2 xs b o cap us hs hc hf hle hlim hus hcell hr =>
      injection hye with h1 h2 h3
      subst h2
      subst h3
      have hfl : xs.flatten.length = us.length := by rw [getD_replicate_flat xs _ hs, hus]
      refine .inr ⟨⟨b, o, none⟩, xs.length, cap, us.take n, rfl, ?_, rfl, fun y hy => ⟨hs y hy, hc y hy⟩, fun j u hj => ?_, fun u hu => ?_, fun j z u hz hu => ?_⟩
      · rw [List.length_take, hus, Nat.mul_one]; exact Nat.min_comm _ _
      · rw [List.getElem?_take] at hj
        split at hj
        · rw [add_none]; exact hcell j u hj
        · cases hj
      · obtain ⟨j, hj⟩ := List.mem_iff_getElem?.1 (List.mem_of_mem_take hu)
        have hlt : j < xs.flatten.length := by rw [hfl]; exact (List.getElem?_eq_some_iff.1 hj).1
        have hz : xs.flatten[j]? = some xs.flatten[j] := List.getElem?_eq_getElem hlt
        obtain ⟨l, hl, hzl⟩ := List.mem_flatten.1 (List.getElem_mem hlt)
        exact (hr j _ u hz hj).oneCell (hc l hl _ hzl)
      · rw [flatten_take_n xs n hs, Nat.mul_one, List.getElem?_take] at hz
        rw [List.getElem?_take] at hu
        split at hz
        · rename_i hjn
          rw [if_pos hjn] at hu
          exact hr j z u hz hu
        · cases hz
    | val _ => cases hye
    | agg _ _ _ => cases hye
  exact key _ h rfl

theorem exok_copy_row {P : Program} {o : Oper} {σ : Nat → AV} {cl : Call} {T T' e : TypeId} {x y : Operand} {d n cap : Nat} {xs ys : List (List AV)} {f : Bool} (ho : o.op = .call cl) (hcl : cl.callee = .builtin .copy)
    (hargs : cl.args.toList = [x, y]) (hts : cl.argTypes.toList = [T, T']) (hT : P.underlying T = some (.slice e)) (hs : P.cellsOf e = 1) (hx : getS P σ x = .mref d) (hd : σ d = .box [.row e n cap xs]) (hy : getS P σ y = .slice f 1 ys) :
    ExOK P o σ .dead [(d, .box [.row e n cap (splL xs ys)])] [d] := by
  have hargs' : cl.args = #[x, y] := by apply Array.toList_inj.1; rw [hargs]
  have hts' : cl.argTypes = #[T, T'] := by apply Array.toList_inj.1; rw [hts]
  intro c hc σ' tm w lim X hag hsim next Q hn
  subst hc
  have hgx : getS c.P σ' x = getS c.P σ x := getS_congr fun t ht => hag t (by simp [mem_uses (o := o) (x := x) (by rw [ho]; simp [Op.operands, Call.operands, hargs', hcl]) ht])
  have hgy : getS c.P σ' y = getS c.P σ y := getS_congr fun t ht => hag t (by simp [mem_uses (o := o) (x := y) (by rw [ho]; simp [Op.operands, Call.operands, hargs', hcl]) ht])
  have hd' : σ' d = .box [.row e n cap xs] := by rw [hag d (by simp), hd]
  have hyv : Rep w lim (.slice f 1 ys) (Act.eval ⟨tm, []⟩ y) := opnd rfl hsim hy hgy
  obtain ⟨b, arr, g1, g2, g3, g4, g5, g6, g7, g8, g9, g10, g11⟩ := mref_row hsim hd' (opnd rfl hsim hx hgx)
  obtain ⟨inf, hinf⟩ := info_of_cells (P := c.P) (T := e) (by omega)
  have hsz : c.P.cellsOf e = inf.size := cellsOf_info hinf
  have hs1 : (c.P.info? e).map (·.size) = some 1 := by rw [hinf, Option.map_some, ← hsz, hs]
  have hf1 : ∀ x ∈ xs, x.length = 1 := fun x hx => by rw [g9 x hx, hs]
  rw [hs, Nat.mul_one] at g8
  rcases copy_src (P := c.P) n hyv with ⟨hv, hnil⟩ | ⟨a, sLen, sCap, cs, hv, h1, h2, h3, h4, h5, h6⟩
  · subst hnil
    have e0 : splL xs [] = xs := by simp [splL]
    have hrun := run_copy_nil c.P w T T' o.type e ⟨b, 0, none⟩ n cap hT (by rw [hs1]; rfl)
    refine wp_of_run (v := goInt 0) (w' := w) ?_ (hn _ w ?_)
    · simp only [execOp, ho, resolve, hcl, hargs', hts', List.map_toArray, List.map_cons, List.map_nil, Sem.run_bind, Sem.run_pure, Result.andThen_ok, invoke, builtin, g2, hv, hrun]
    · rw [e0]
      have : updL σ' [(d, .box [.row e n cap xs])] = σ' := by
        funext k
        simp only [updL, upd]
        split
        · rename_i hk; rw [hk, hd']
        · rfl
      rw [this]
      exact after_plain hsim rfl (k := 0) trivial
  · have h1' : cs.length = min sLen n := h1
    have hrun := run_copy_row c.P w T T' o.type e b 0 n cap a sLen sCap arr e cs hT hs1 g3 h1 h4 (by rw [h1', g8]; omega) h5
    rw [Nat.zero_add] at hrun
    have hcl' : cs.length ≤ n := by rw [h1]; exact Nat.min_le_right _ _
    have e1 : splL xs ys = ys.take n ++ xs.drop cs.length := by
      unfold splL
      rw [g5, h1']
      congr 1
      by_cases hle : ys.length ≤ n
      · rw [h2, Nat.min_eq_left hle]
      · rw [h2, Nat.min_eq_right (by omega), List.drop_of_length_le (by omega), List.drop_of_length_le (by omega)]
    have hyl : (ys.take n).length = cs.length := by rw [List.length_take, h1', h2]; exact Nat.min_comm _ _
    have hm : ∀ x ∈ splL xs ys, x.length = 1 ∧ ∀ c ∈ x, c.isCell = true := by
      rw [e1]
      intro x hx
      rcases List.mem_append.1 hx with hx | hx
      · exact h3 x (List.mem_of_mem_take hx)
      · exact ⟨hf1 x (List.mem_of_mem_drop hx), g10 x (List.mem_of_mem_drop hx)⟩
    have hyf : (ys.take n).flatten.length = cs.length := by rw [getD_replicate_flat (ys.take n) 1 fun y hy => (h3 y (List.mem_of_mem_take hy)).1, hyl, Nat.mul_one]
    obtain ⟨X', hset⟩ := hsim.setRow (xs' := splL xs ys) (arr' := (arr.toList.take 0 ++ cs ++ arr.toList.drop cs.length).toArray) hd' g1 g3 (by simp; omega) (by rw [e1, List.length_append, hyl, List.length_drop]; omega)
      (fun x hx => by rw [hs]; exact (hm x hx).1) (fun x hx => (hm x hx).2) (fun j z u hz hu => by
        rw [e1, List.flatten_append, flatten_drop_n xs cs.length hf1, Nat.mul_one] at hz
        refine over_rep (R := Rep w lim) (off := 0) (zs := xs.flatten) (us := arr.toList) (fun j z u hz hu => g11 j z u hz (by simpa using hu)) h6 hyf (Nat.zero_le _) (Nat.zero_le _) j z u ?_ ?_
        · rw [Nat.zero_add, hyf]; simpa using hz
        · rw [Nat.zero_add]; simpa using hu)
    refine wp_of_run (v := goInt cs.length) (w' := w.setRow b (arr.toList.take 0 ++ cs ++ arr.toList.drop cs.length).toArray) ?_ (hn _ _ (after_plain hset rfl (k := 0) trivial))
    simp only [execOp, ho, resolve, hcl, hargs', hts', List.map_toArray, List.map_cons, List.map_nil, Sem.run_bind, Sem.run_pure, Result.andThen_ok, invoke, builtin, g2, hv, hrun]

end Go.AM
end

section
namespace Go.AM

def updA (A : Nat → List V → Prop) (n : Nat) (B : List V → Prop) : Nat → List V → Prop := fun i vs => if i = n then B vs else A i vs

def STree.wp (P : Program) (R : AV → List AV → Prop) : STree → (Nat → List V → Prop) → (Nat → V) → Prop
  | .stuck _, _, _ => False
  | .branch b t e, A, ρ => (b.den ρ = true → t.wp P R A ρ) ∧ (b.den ρ = false → e.wp P R A ρ)
  | .req p t, A, ρ => p.den ρ ∧ t.wp P R A ρ
  | .elem l i sh n t, A, ρ => ∃ vs, 0 ≤ i.den ρ ∧ (l.den ρ)[(i.den ρ).toNat]? = some ((shapesAt sh n).map (SC.den (bind ρ n vs))) ∧ t.wp P R A (bind ρ n vs)
  | .nilq l n t, A, ρ => ∀ b : Bool, (b = true → l.den ρ = []) → t.wp P R A (bind ρ n [.b b])
  | .call f args res outs n _ t, A, ρ => ∃ vs, CallOk P f (args.map (SV.den ρ)) (res.den (bind ρ n vs)) (outs.map (SV.den (bind ρ n vs))) ∧ t.wp P R A (bind ρ n vs)
  | .loop lv init n t, A, ρ => ∃ (I : List V → Prop) (m : List V → Nat), I (init.map (VE.den ρ)) ∧
      ∀ vs, vs.length = init.length → I vs → t.wp P R (updA A lv fun vs' => I vs' ∧ m vs' < m vs) (bind zeroE n vs)
  | .again lv vals, A, ρ => A lv (vals.map (VE.den ρ))
  | .ret res outs, _, ρ => R (res.den ρ) (outs.map (SV.den ρ))

/-- Of two values of one of these types '==' compares the cells. -/
def kindsV : List Sh → List Value → Prop
  | [], [] => True
  | .int k :: L, .int k' _ :: us => k = k' ∧ kindsV L us
  | .bool :: L, .bool _ :: us => kindsV L us
  | _, _ => False

def eqV : List Value → List Value → Bool
  | .int _ a :: us, .int _ b :: vs => (a == b) && eqV us vs
  | .bool a :: us, .bool b :: vs => (a == b) && eqV us vs
  | _, _ => true

def PlainSound (P : Program) (plain : List TypeId) : Prop :=
  ∀ T ∈ plain, P.eqGuardType P.depth T = false ∧ ∀ L, leafs P 8 T = some L → ∀ (us vs : List Value), kindsV L us → kindsV L vs → ∀ w,
    (Op.equalIn 10000 T (.agg us.toArray) (.agg vs.toArray)).run P w = .ok (eqV us vs) w

end Go.AM
end

section
namespace Go.AM

theorem mkBranch_wp {P : Program} {R : AV → List AV → Prop} {A : Nat → List V → Prop} {ρ : Nat → V} {b : BE} {t e : STree} (h : (mkBranch b t e).wp P R A ρ) :
    (b.den ρ = true → t.wp P R A ρ) ∧ (b.den ρ = false → e.wp P R A ρ) := by
  unfold mkBranch at h
  split at h
  · exact ⟨fun _ => h, fun hb => by simp [BE.den] at hb⟩
  · exact ⟨fun hb => by simp [BE.den] at hb, fun _ => h⟩
  · exact h

theorem mkNot_den (b : BE) (ρ : Nat → V) : (mkNot b).den ρ = !b.den ρ := by unfold mkNot; split <;> rfl
theorem mkNot_bd {b : BE} {n : Nat} (h : b.bd n) : (mkNot b).bd n := by
  unfold mkNot
  split
  · trivial
  · exact h

theorem ofC_den {v : Value} (ρ : Nat → V) : (ofC v).map (SC.den ρ) = ofCS v := by
  cases v with
  | slice a l c => cases a <;> cases l <;> cases c <;> rfl
  | _ => rfl

theorem ofCs_den (ρ : Nat → V) : ∀ (vs : List Value), (ofCs vs).map (List.map (SC.den ρ)) = ofCsS vs
  | [] => rfl
  | v :: vs => by
    have h1 := ofC_den (v := v) ρ
    have h2 := ofCs_den ρ vs
    simp only [ofCs, ofCsS]
    cases hc : ofC v <;> cases hcs : ofCs vs <;> rw [hc] at h1 <;> rw [hcs] at h2 <;> simp at h1 h2 <;> rw [← h1] <;> try rw [← h2]
    · simp
    · simp
    · simp
    · simp

theorem ofC_bd {v : Value} {c : SC} {n : Nat} (h : ofC v = some c) : c.bd n := by
  unfold ofC at h
  split at h <;> simp at h <;> subst h <;> trivial

theorem ofCs_bd {n : Nat} : ∀ {vs : List Value} {cs : List SC}, ofCs vs = some cs → ∀ c ∈ cs, c.bd n
  | [], cs, h => by simp [ofCs] at h; subst h; simp
  | v :: vs, cs, h => by
    simp only [ofCs] at h
    split at h
    · rename_i c cs' hc hcs
      simp at h
      subst h
      intro x hx
      rcases List.mem_cons.1 hx with rfl | hx
      · exact ofC_bd hc
      · exact ofCs_bd hcs x hx
    · simp at h

theorem ofV_den (v : Value) (ρ : Nat → V) : (ofV v).den ρ = ofVS v := by
  cases v with
  | agg cs =>
    have := ofCs_den ρ cs.toList
    simp only [ofV, ofVS]
    rw [← this]
    cases ofCs cs.toList <;> rfl
  | slice a l c =>
    have := ofC_den (v := .slice a l c) ρ
    simp only [ofV, ofVS]
    rw [← this]
    cases ofC (.slice a l c) <;> rfl
  | _ => rfl

theorem ofV_bd (v : Value) (n : Nat) : (ofV v).bd n := by
  unfold ofV
  split
  · split
    · rename_i l hl; exact ofCs_bd hl
    · trivial
  · split
    · rename_i c hc; exact ofC_bd (v := v) hc
    · trivial

theorem boxO_den (t : Nat) (cs : List BC) (ρ : Nat → V) : (boxO t cs).den ρ = boxS t (cs.map (BC.den ρ)) := by
  match cs with
  | [] => rfl
  | [.row _ _ _ _] => rfl
  | [.own _ _] => rfl
  | [.c x] => cases x <;> rfl
  | a :: b :: r =>
    cases a with
    | c x => cases x <;> rfl
    | _ => rfl

theorem boxO_bd (t : Nat) (cs : List BC) (n : Nat) : (boxO t cs).bd n := by
  unfold boxO
  split <;> trivial

theorem getO_den (P : Program) (g : Nat → SV) (ρ : Nat → V) (x : Operand) : (getO P g x).den ρ = getS P (fun d => (g d).den ρ) x := by
  cases x with
  | tmp t =>
    simp only [getO, getS]
    cases g t with
    | c x => cases x <;> rfl
    | box cs => exact boxO_den t cs ρ
    | _ => rfl
  | const v => exact ofV_den v ρ
  | global g => rfl
  | func f => rfl

theorem getO_bd {P : Program} {g : Nat → SV} {n : Nat} (hg : ∀ d, (g d).bd n) (x : Operand) : (getO P g x).bd n := by
  cases x with
  | tmp t =>
    have := hg t
    simp only [getO]
    cases hs : g t <;> rw [hs] at this <;> first | exact this | exact boxO_bd _ _ _ | trivial
  | const v => exact ofV_bd v n
  | global g => trivial
  | func f => trivial

theorem getS_of {P : Program} {g : Nat → SV} {x : Operand} {y : SV} (ρ : Nat → V) (h : getO P g x = y) : getS P (fun d => (g d).den ρ) x = y.den ρ := by rw [← getO_den, h]

def Goal (P : Program) (R : AV → List AV → Prop) (A : Nat → List V → Prop) (ρ : Nat → V) (g : Nat → SV) (o : Oper) (n : Nat) (k : K) : Prop :=
  ∃ ρ' n' x us fp, n ≤ n' ∧ (∀ m, m < n → ρ' m = ρ m) ∧ x.bd n' ∧ (∀ u ∈ us, u.2.bd n') ∧ (k x us fp n').wp P R A ρ' ∧
    ExOK P o (fun d => (g d).den ρ) (x.den ρ') (us.map fun u => (u.1, u.2.den ρ')) fp

section
variable {P : Program} {R : AV → List AV → Prop} {A : Nat → List V → Prop} {ρ : Nat → V} {g : Nat → SV} {o : Oper} {n : Nat} {k : K}

theorem goal0 {x : SV} {us : Ups} {fp : List Nat} (hk : (k x us fp n).wp P R A ρ) (hx : x.bd n) (hus : ∀ u ∈ us, u.2.bd n)
    (hex : ExOK P o (fun d => (g d).den ρ) (x.den ρ) (us.map fun u => (u.1, u.2.den ρ)) fp) : Goal P R A ρ g o n k :=
  ⟨ρ, n, x, us, fp, Nat.le_refl _, fun _ _ => rfl, hx, hus, hk, hex⟩

theorem goalP {x : SV} {fp : List Nat} (hk : (k x [] fp n).wp P R A ρ) (hx : x.bd n) (hex : ExOK P o (fun d => (g d).den ρ) (x.den ρ) [] fp) : Goal P R A ρ g o n k :=
  goal0 hk hx (by simp) hex

/-- The values of cells that are integers or bools. -/
def valOf (ρ : Nat → V) : SC → Value
  | .int k e => .int k (e.den ρ)
  | .bool b => .bool (b.den ρ)
  | .str s => .string (s.den ρ)
  | .slice _ _ _ => .slice none 0 0

theorem kindsV_of (ρ : Nat → V) : ∀ (L : List Sh) (cs : List SC), kindsOk L cs = true → kindsV L (cs.map (valOf ρ)) ∧ cs.map (SC.den ρ) = (cs.map (valOf ρ)).map AV.val ∧ ∀ u ∈ cs.map (valOf ρ), scalar u = true
  | [], [], _ => ⟨trivial, rfl, by simp⟩
  | [], _ :: _, h => by simp [kindsOk] at h
  | _ :: _, [], h => by simp [kindsOk] at h
  | s :: L, c :: cs, h => by
    simp only [kindsOk, Bool.and_eq_true] at h
    obtain ⟨h1, h2, h3⟩ := kindsV_of ρ L cs h.2
    have h0 := h.1
    cases s <;> cases c <;> simp [kindOk] at h0
    · refine ⟨⟨h0, h1⟩, by simp only [List.map_cons, h2]; rfl, ?_⟩
      intro u hu
      rw [List.map_cons] at hu
      rcases List.mem_cons.1 hu with rfl | hu
      · rfl
      · exact h3 u hu
    · refine ⟨h1, by simp only [List.map_cons, h2]; rfl, ?_⟩
      intro u hu
      rw [List.map_cons] at hu
      rcases List.mem_cons.1 hu with rfl | hu
      · rfl
      · exact h3 u hu

theorem aggEq_den (ρ : Nat → V) : ∀ (xs ys : List SC) (e : BE), aggEq xs ys = some e → e.den ρ = eqV (xs.map (valOf ρ)) (ys.map (valOf ρ))
  | [], [], e, h => by simp [aggEq] at h; subst h; rfl
  | [], _ :: _, e, h => by simp [aggEq] at h
  | _ :: _, [], e, h => by simp [aggEq] at h
  | a :: as, b :: bs, e, h => by
    simp only [aggEq] at h
    split at h
    · rename_i x y hx hy
      simp at h
      subst h
      have ih := aggEq_den ρ as bs y hy
      cases a <;> cases b <;> simp [cellEq] at hx
      · obtain ⟨_, rfl⟩ := hx
        simp only [BE.den, List.map_cons, valOf, eqV, ih, cop]
      · subst hx
        simp only [BE.den, List.map_cons, valOf, eqV, ih]
    · simp at h

theorem aggEq_bd {n : Nat} : ∀ (xs ys : List SC) (e : BE), (∀ c ∈ xs, c.bd n) → (∀ c ∈ ys, c.bd n) → aggEq xs ys = some e → e.bd n
  | [], [], e, _, _, h => by simp [aggEq] at h; subst h; trivial
  | [], _ :: _, e, _, _, h => by simp [aggEq] at h
  | _ :: _, [], e, _, _, h => by simp [aggEq] at h
  | a :: as, b :: bs, e, hx, hy, h => by
    simp only [aggEq] at h
    split at h
    · rename_i x y hx' hy'
      simp at h
      subst h
      have ih := aggEq_bd as bs y (fun c hc => hx c (by simp [hc])) (fun c hc => hy c (by simp [hc])) hy'
      have ha := hx a (by simp)
      have hb := hy b (by simp)
      cases a <;> cases b <;> simp [cellEq] at hx'
      · obtain ⟨_, rfl⟩ := hx'
        exact ⟨⟨ha, hb⟩, ih⟩
      · subst hx'
        exact ⟨⟨ha, hb⟩, ih⟩
    · simp at h

theorem agg_vals {w : World} {lim : Nat → Nat} {us : List Value} {v : Value} (h : Rep w lim (.agg (us.map AV.val)) v) : v = .agg us.toArray := by
  have key : ∀ y, Rep w lim y v → y = .agg (us.map AV.val) → v = .agg us.toArray := by
    intro y hy he
    cases hy with
    | @agg cs vs hl hc hr =>
      injection he with he
      subst he
      have hlen : us.length = vs.length := by simpa using hl
      have : vs = us := by
        apply List.ext_getElem hlen.symm
        intro i h1 h2
        exact rep_val (hr i (.val us[i]) vs[i] (by simp [h2]) (by simp [h1]))
      rw [this]
    | val _ => cases he
    | sliceN => cases he
    | sliceE _ => cases he
    | sliceC _ _ _ _ _ _ _ _ => cases he
  exact key _ h rfl

theorem exok_struct {T T' : TypeId} {x y : Operand} {op : BinOp} {us vs : List Value} {σ : Nat → AV} {L : List Sh} {plain : List TypeId} (hps : PlainSound P plain) (hT : T ∈ plain) (hL : leafs P 8 T = some L) (ho : o.op = .binOp op T x y T')
    (hop : op = .eql ∨ op = .neq) (hx : getS P σ x = .agg (us.map AV.val)) (hy : getS P σ y = .agg (vs.map AV.val)) (hu : kindsV L us) (hv : kindsV L vs) :
    ExOK P o σ (.val (.bool (if op = .eql then eqV us vs else !eqV us vs))) [] [] := by
  refine exok_plain [] rfl fun c hc σ' tm w lim X hg hfp hsim => ⟨.bool (if op = .eql then eqV us vs else !eqV us vs), ?_, .val rfl⟩
  rw [ho] at hg
  have h1 := agg_vals (opnd hc hsim hx (hg x (by simp [Op.operands])))
  have h2 := agg_vals (opnd hc hsim hy (hg y (by simp [Op.operands])))
  obtain ⟨p1, p2⟩ := hps T hT
  have p3 := p2 L hL us vs hu hv w
  rcases hop with rfl | rfl
  · simp only [execOp, ho, h1, h2, Sem.run_bind, run_eqGuard_agg w .eql T x y us.toArray vs.toArray p1, Result.andThen_ok, run_eql_struct, p3]
    simp
  · simp only [execOp, ho, h1, h2, Sem.run_bind, run_eqGuard_agg w .neq T x y us.toArray vs.toArray p1, Result.andThen_ok, run_neq_struct, p3]
    simp

theorem bin_sound {plain : List TypeId} {op : BinOp} {T T' : TypeId} {xo yo : Operand} (hps : PlainSound P plain) (hg : ∀ d, (g d).bd n) (ho : o.op = .binOp op T xo yo T')
    (h : (bin P plain op T (getO P g xo) (getO P g yo) fun v => k v [] [] n).wp P R A ρ) : Goal P R A ρ g o n k := by
  have bx := getO_bd (P := P) hg xo
  have bY := getO_bd (P := P) hg yo
  generalize hx : getO P g xo = x at h bx
  generalize hy : getO P g yo = y at h bY
  have sx := getS_of ρ hx
  have sy := getS_of ρ hy
  unfold bin at h
  split at h
  · rename_i kx a ky b
    have arith : ∀ (i : IOp), kx = ky → iopOf op = some i → (i = .quo ∨ i = .rem → b.den ρ ≠ 0) → (k (.c (.int kx (.bin i kx a b))) [] [] n).wp P R A ρ → Goal P R A ρ g o n k := by
      intro i hk hi hz hk'
      subst hk
      exact goalP hk' ⟨bx, bY⟩ (exok_iop ho hi sx sy hz)
    have comp : ∀ (i : COp), kx = ky → copOf op = some i → (k (.c (.bool (.cmp i a b))) [] [] n).wp P R A ρ → Goal P R A ρ g o n k := by
      intro i hk hi hk'
      subst hk
      exact goalP hk' ⟨bx, bY⟩ (exok_cop ho hi sx sy)
    split at h
    · exact goalP h.2 ⟨bx, bY⟩ (exok_shift ho (.inl ⟨rfl, rfl⟩) sx sy h.1)
    · exact goalP h.2 ⟨bx, bY⟩ (exok_shift ho (.inr ⟨rfl, rfl⟩) sx sy h.1)
    · split at h
      · rename_i hk
        split at h <;> first
          | exact h.elim
          | exact arith _ hk rfl (by simp) h
          | exact arith _ hk rfl (fun _ => h.1) h.2
          | exact comp _ hk rfl h
      · exact h.elim
  · rename_i a b
    split at h
    · exact goalP h ⟨bx, bY⟩ (exok_str (op := .eql) ho (.inl rfl) sx sy)
    · exact goalP h ⟨bx, bY⟩ (exok_str (op := .neq) ho (.inr rfl) sx sy)
    · exact h.elim
  · rename_i a b
    split at h
    · rename_i hT
      split at h
      · exact goalP h ⟨bx, bY⟩ (exok_bool (op := .eql) ho hT (.inl rfl) sx sy)
      · exact goalP h ⟨bx, bY⟩ (exok_bool (op := .neq) ho hT (.inr rfl) sx sy)
      · exact h.elim
    · exact h.elim
  · rename_i xs ys
    split at h
    · rename_i e hpl he
      simp only [isPlain, Bool.and_eq_true, List.contains_iff_mem] at hpl
      obtain ⟨hT, hk⟩ := hpl
      cases hL : leafs P 8 T with
      | none => simp [hL] at hk
      | some L =>
        rw [hL] at hk
        simp only [Bool.and_eq_true] at hk
        obtain ⟨u1, u2, u3⟩ := kindsV_of ρ L xs hk.1
        obtain ⟨v1, v2, v3⟩ := kindsV_of ρ L ys hk.2
        have hbd := aggEq_bd xs ys e bx bY he
        have sx' : getS P (fun d => (g d).den ρ) xo = .agg ((xs.map (valOf ρ)).map AV.val) := by rw [sx, ← u2]; rfl
        have sy' : getS P (fun d => (g d).den ρ) yo = .agg ((ys.map (valOf ρ)).map AV.val) := by rw [sy, ← v2]; rfl
        split at h
        · refine goalP h hbd ?_
          have := exok_struct (o := o) (op := .eql) hps hT hL ho (.inl rfl) sx' sy' u1 v1
          rw [if_pos rfl, ← aggEq_den ρ xs ys e he] at this
          exact this
        · refine goalP h hbd ?_
          have := exok_struct (o := o) (op := .neq) hps hT hL ho (.inr rfl) sx' sy' u1 v1
          rw [if_neg (by simp), ← aggEq_den ρ xs ys e he] at this
          exact this
        · exact h.elim
    · exact h.elim
  · exact h.elim

end

end Go.AM
end

section
namespace Go.AM

theorem scden_cell (ρ : Nat → V) (c : SC) : (c.den ρ).isCell = true := by cases c <;> rfl

theorem cells_den {x : SV} {cs : List SC} (ρ : Nat → V) (h : x.cells = some cs) : (x.den ρ).cells? = some (cs.map (SC.den ρ)) := by
  cases x with
  | c y =>
    simp only [SV.cells, Option.some.injEq] at h
    subst h
    cases y <;> rfl
  | agg ds =>
    simp only [SV.cells, Option.some.injEq] at h
    subst h
    rfl
  | _ => simp [SV.cells] at h

theorem cells_bd {x : SV} {cs : List SC} {n : Nat} (h : x.cells = some cs) (hx : x.bd n) : ∀ c ∈ cs, c.bd n := by
  cases x with
  | c y =>
    simp only [SV.cells, Option.some.injEq] at h
    subst h
    intro c hc
    simp at hc
    subst hc
    exact hx
  | agg ds =>
    simp only [SV.cells, Option.some.injEq] at h
    subst h
    exact hx
  | _ => simp [SV.cells] at h

theorem fillA_den (ρ : Nat → V) (place : Nat → Option (Nat × Nat)) : ∀ (parts : List (Nat × SV)) (cells out : List SC), fillA place cells parts = some out →
    fillS place (cells.map (SC.den ρ)) (parts.map fun p => (p.1, p.2.den ρ)) = some (out.map (SC.den ρ))
  | [], cells, out, h => by simp only [fillA, Option.some.injEq] at h; subst h; rfl
  | (i, v) :: parts, cells, out, h => by
    simp only [fillA] at h
    split at h
    · rename_i off size vc hp hv
      split at h
      · rename_i hc
        have ih := fillA_den ρ place parts _ out h
        simp only [List.map_append, List.map_take, List.map_drop] at ih
        simp only [List.map_cons, fillS, hp, cells_den ρ hv]
        rw [if_pos (by simpa using hc)]
        exact ih
      · cases h
    · cases h

theorem fillA_bd {n : Nat} (place : Nat → Option (Nat × Nat)) : ∀ (parts : List (Nat × SV)) (cells out : List SC), (∀ c ∈ cells, c.bd n) → (∀ p ∈ parts, p.2.bd n) → fillA place cells parts = some out → ∀ c ∈ out, c.bd n
  | [], cells, out, hc, _, h => by simp only [fillA, Option.some.injEq] at h; subst h; exact hc
  | (i, v) :: parts, cells, out, hc, hp, h => by
    simp only [fillA] at h
    split at h
    · rename_i off size vc hpl hv
      split at h
      · refine fillA_bd place parts _ out (fun c hcc => ?_) (fun p hp' => hp p (by simp [hp'])) h
        rcases List.mem_append.1 hcc with h1 | h1
        · rcases List.mem_append.1 h1 with h1 | h1
          · exact hc c (List.mem_of_mem_take h1)
          · exact cells_bd hv (hp (i, v) (by simp)) c h1
        · exact hc c (List.mem_of_mem_drop h1)
      · cases h
    · cases h

theorem ceOf_den (ρ : Nat → V) : ∀ (cs : List SC), (ceOf cs).den ρ = cs.map (SC.den ρ)
  | [] => rfl
  | c :: cs => by simp only [ceOf, CE.den, ceOf_den ρ cs, List.map_cons]

theorem ceOf_bd {n : Nat} : ∀ (cs : List SC), (∀ c ∈ cs, c.bd n) → (ceOf cs).bd n
  | [], _ => trivial
  | c :: cs, h => ⟨h c (by simp), ceOf_bd cs fun x hx => h x (by simp [hx])⟩

theorem lOf_den (ρ : Nat → V) (size : Nat) (cs : List SC) : ∀ (n : Nat), (lOf size cs n).den ρ = elems size (cs.map (SC.den ρ)) n
  | 0 => rfl
  | n + 1 => by
    simp only [lOf, LE.den, lOf_den ρ size cs n, ceOf_den, elems, List.range_succ, List.map_append, List.map_cons, List.map_nil, List.map_take, List.map_drop]

theorem lOf_bd {m : Nat} (size : Nat) (cs : List SC) (h : ∀ c ∈ cs, c.bd m) : ∀ (n : Nat), (lOf size cs n).bd m
  | 0 => trivial
  | n + 1 => ⟨lOf_bd size cs h n, ceOf_bd _ fun c hc => h c (List.mem_of_mem_drop (List.mem_of_mem_take hc))⟩

theorem stripB_den (P : Program) (ρ : Nat → V) (b : BC) : (stripB P b).den ρ = stripS P (b.den ρ) := by
  cases b with
  | c x => cases x <;> rfl
  | own e l => rfl
  | row e m cp l => rfl

/-- A box that is no slice written in place. -/
theorem plainB_ok {cs : List BC} (h : plainB cs = true) (ρ : Nat → V) : NoRow (cs.map (BC.den ρ)) := by
  intro c hc e n cap xs he
  obtain ⟨b, hb, rfl⟩ := List.mem_map.1 hc
  unfold plainB at h
  rw [List.all_eq_true] at h
  have := h b hb
  cases b with
  | c x => cases x <;> cases he
  | own e l => cases he
  | row _ _ _ _ => cases this

theorem stripB_bd {P : Program} {n : Nat} {b : BC} (h : b.bd n) : (stripB P b).bd n := by
  cases b with
  | row e m cp l => exact h.2.2
  | _ => exact h

theorem zeroB_ok {P : Program} {T : TypeId} {cs : List BC} (ρ : Nat → V) (n : Nat) (h : zeroB P T = some cs) :
    ∃ i z, P.info? T = some i ∧ i.zero = some z ∧ zeroOk (cs.map (BC.den ρ)) z.cells.toList ∧ ∀ c ∈ cs, c.bd n := by
  unfold zeroB at h
  split at h
  · rename_i i hi
    split at h
    · rename_i z hz
      split at h
      · rename_i sc hsc
        split at h
        · rename_i hlen
          simp only [Option.some.injEq] at h
          subst h
          have hl : sc.length = z.cells.toList.length := by
            have h1 := ofCs_den ρ z.cells.toList
            rw [hsc] at h1
            have h2 := (ofCsS_rep (w := default) (lim := fun _ => 0) h1.symm).1
            simpa using h2
          refine ⟨i, z, hi, hz, ⟨by simp [hlen, hl], fun j x u hx hu => ?_⟩, fun c hc => ?_⟩
          · rw [List.getElem?_map, List.getElem?_zipWith] at hx
            cases h1 : (sliceElems P 8 T)[j]? with
            | none => simp [h1] at hx
            | some e =>
              cases h2 : sc[j]? with
              | none => simp [h1, h2] at hx
              | some c =>
                simp only [h1, h2, Option.map_some, Option.some.injEq] at hx
                have hcu : ofC u = some c := by
                  have key : ∀ (vs : List Value) (cs : List SC) (j : Nat), ofCs vs = some cs → cs[j]? = some c → vs[j]? = some u → ofC u = some c := by
                    intro vs
                    induction vs with
                    | nil => intro cs j _ _ h; simp at h
                    | cons v vs ih =>
                      intro cs j h hc hv
                      simp only [ofCs] at h
                      split at h
                      · rename_i c' cs' hc' hcs'
                        simp only [Option.some.injEq] at h
                        subst h
                        cases j with
                        | zero => simp at hc hv; subst hc; subst hv; exact hc'
                        | succ j => exact ih cs' j hcs' (by simpa using hc) (by simpa using hv)
                      · cases h
                  exact key _ _ j hsc h2 hu
                have hnorm : (∃ e', zeroCell e c = .own e' .nil ∧ u = .slice none 0 0) ∨ zeroCell e c = .c c := by
                  cases e with
                  | none => right; cases c <;> rfl
                  | some e =>
                    cases c with
                    | slice f s l =>
                      cases f with
                      | false => right; cases l <;> rfl
                      | true =>
                        cases l with
                        | nil =>
                          left
                          refine ⟨e, rfl, ?_⟩
                          unfold ofC at hcu
                          split at hcu <;> simp at hcu
                          rfl
                        | _ => right; rfl
                    | _ => right; rfl
                rcases hnorm with ⟨e', h3, h4⟩ | h3
                · rw [h3] at hx
                  exact .inr ⟨e', hx.symm, h4⟩
                · rw [h3] at hx
                  left
                  rw [← ofC_den ρ, hcu, ← hx]
                  rfl
          · obtain ⟨j, hj⟩ := List.mem_iff_getElem?.1 hc
            rw [List.getElem?_zipWith] at hj
            cases h1 : (sliceElems P 8 T)[j]? with
            | none => simp [h1] at hj
            | some e =>
              cases h2 : sc[j]? with
              | none => simp [h1, h2] at hj
              | some c' =>
                simp only [h1, h2, Option.some.injEq] at hj
                subst hj
                have hb : c'.bd n := ofCs_bd hsc c' (List.mem_of_getElem? h2)
                unfold zeroCell
                split
                · trivial
                · exact hb
        · cases h
      · cases h
    · cases h
  · cases h

theorem shapeAt_bd (s : Sh) (n : Nat) : (shapeAt s n).bd (n + 1) := by cases s <;> exact Nat.lt_succ_self n

theorem shapesAt_bd : ∀ (l : List Sh) (n : Nat), ∀ c ∈ shapesAt l n, c.bd (n + l.length)
  | [], n, c, h => by simp [shapesAt] at h
  | s :: ss, n, c, h => by
    rcases List.mem_cons.1 h with rfl | h
    · exact SC.bd_mono (by simp) _ (shapeAt_bd s n)
    · have := shapesAt_bd ss (n + 1) c h
      exact SC.bd_mono (by simp only [List.length_cons]; omega) _ this

theorem boxAt_bd (s : Sh) (n : Nat) : (boxAt s n).bd (n + 1) := by cases s <;> exact Nat.lt_succ_self n

theorem boxesAt_bd : ∀ (l : List Sh) (n : Nat), ∀ c ∈ boxesAt l n, c.bd (n + l.length)
  | [], n, c, h => by simp [boxesAt] at h
  | s :: ss, n, c, h => by
    rcases List.mem_cons.1 h with rfl | h
    · exact BC.bd_mono (by simp) _ (boxAt_bd s n)
    · have := boxesAt_bd ss (n + 1) c h
      exact BC.bd_mono (by simp only [List.length_cons]; omega) _ this

theorem outsOf_le : ∀ (as : List SV) (n : Nat), n ≤ (outsOf as n).2.2
  | [], n => Nat.le_refl n
  | a :: as, n => by
    cases a with
    | box cs =>
      simp only [outsOf]
      exact Nat.le_trans (Nat.le_add_right _ _) (outsOf_le as _)
    | _ => exact outsOf_le as n

theorem outsOf_len : ∀ (as : List SV) (n : Nat), (outsOf as n).1.length = as.length
  | [], n => rfl
  | a :: as, n => by
    cases a <;> simp only [outsOf, List.length_cons, outsOf_len as]

theorem outsOf_bd : ∀ (as : List SV) (n : Nat), ∀ x ∈ (outsOf as n).1, x.bd (outsOf as n).2.2
  | [], n, x, h => by simp [outsOf] at h
  | a :: as, n, x, h => by
    cases a with
    | box cs =>
      simp only [outsOf] at h ⊢
      rcases List.mem_cons.1 h with rfl | h
      · intro c hc
        have h1 := boxesAt_bd (cs.map shOfB) n c hc
        exact BC.bd_mono (outsOf_le as _) _ h1
      · exact outsOf_bd as _ x h
    | _ =>
      simp only [outsOf] at h ⊢
      rcases List.mem_cons.1 h with rfl | h
      · trivial
      · exact outsOf_bd as _ x h

theorem outsOf_box : ∀ (as : List SV) (n i : Nat) (cs : List BC) (y : SV), as[i]? = some (.box cs) → (outsOf as n).1[i]? = some y → ∃ cs', y = .box cs'
  | [], n, i, cs, y, h, _ => by simp at h
  | a :: as, n, i, cs, y, h, h' => by
    cases i with
    | zero =>
      simp only [List.getElem?_cons_zero, Option.some.injEq] at h
      subst h
      simp only [outsOf, List.getElem?_cons_zero, Option.some.injEq] at h'
      exact ⟨_, h'.symm⟩
    | succ i =>
      have h1 : as[i]? = some (.box cs) := by simpa using h
      cases a with
      | box ds => simp only [outsOf, List.getElem?_cons_succ] at h'; exact outsOf_box as _ i cs y h1 h'
      | _ => simp only [outsOf, List.getElem?_cons_succ] at h'; exact outsOf_box as _ i cs y h1 h'

theorem rshTC_bd (r : RSh) (n : Nat) : (rshTC r n).1.bd (n + (rshTC r n).2.length) := by
  cases r with
  | c s => cases s <;> exact Nat.lt_succ_self n
  | agg l => exact shapesAt_bd l n

theorem resTuple_ok {P : Program} {fresh : Bool} : ∀ (Ts : List TypeId) (n : Nat) (vs : List TC) (sh : List Sh) (n' : Nat), resTuple P fresh Ts n = some (vs, sh, n') → n ≤ n' ∧ ∀ v ∈ vs, v.bd n'
  | [], n, vs, sh, n', h => by
    simp only [resTuple, Option.some.injEq, Prod.mk.injEq] at h
    obtain ⟨rfl, rfl, rfl⟩ := h
    exact ⟨Nat.le_refl _, by simp⟩
  | T :: Ts, n, vs, sh, n', h => by
    simp only [resTuple] at h
    split at h
    · rename_i r hr
      split at h
      · rename_i vs' sh' m hm
        simp only [Option.some.injEq, Prod.mk.injEq] at h
        obtain ⟨rfl, rfl, rfl⟩ := h
        obtain ⟨h1, h2⟩ := resTuple_ok Ts _ vs' sh' m hm
        refine ⟨by omega, fun v hv => ?_⟩
        rcases List.mem_cons.1 hv with rfl | hv
        · exact TC.bd_mono h1 _ (rshTC_bd r n)
        · exact h2 v hv
      · cases h
    · cases h

theorem tcSV_den (ρ : Nat → V) (x : TC) : (tcSV x).den ρ = x.den ρ := by cases x <;> rfl
theorem tcSV_bd {n : Nat} {x : TC} (h : x.bd n) : (tcSV x).bd n := by cases x <;> exact h

theorem tc_retval (ρ : Nat → V) (x : TC) : retval (x.den ρ) := by
  cases x with
  | c y => cases y <;> first | exact .inl (.inl ⟨_, rfl⟩) | exact .inl (.inr (.inr ⟨_, _, _, rfl⟩))
  | agg cs => exact .inl (.inr (.inl ⟨_, rfl⟩))
  | own e l => exact .inr (.inl ⟨_, _, rfl⟩)

theorem resultAt_ok {P : Program} {fresh : Bool} {Ts : List TypeId} {n n' : Nat} {res : SV} {sh : List Sh} (h : resultAt P fresh Ts n = some (res, sh, n')) :
    n ≤ n' ∧ res.bd n' ∧ ∀ ρ, retval (res.den ρ) := by
  unfold resultAt at h
  split at h
  · rename_i x sh' m hm
    simp only [Option.some.injEq, Prod.mk.injEq] at h
    obtain ⟨rfl, rfl, rfl⟩ := h
    obtain ⟨h1, h2⟩ := resTuple_ok Ts n [x] sh' m hm
    exact ⟨h1, tcSV_bd (h2 x (by simp)), fun ρ => by rw [tcSV_den]; exact tc_retval ρ x⟩
  · rename_i vs sh' m _ hm
    simp only [Option.some.injEq, Prod.mk.injEq] at h
    obtain ⟨rfl, rfl, rfl⟩ := h
    obtain ⟨h1, h2⟩ := resTuple_ok Ts n vs sh' m hm
    exact ⟨h1, h2, fun ρ => .inr (.inr ⟨_, rfl⟩)⟩
  · cases h

def SAK.den (ρ : Nat → V) : SAK → AK
  | .imm x => .imm (x.den ρ)
  | .own t e l => .own t e (l.den ρ)
  | .box d cs => .box d (cs.map (BC.den ρ))

theorem sak_av (ρ : Nat → V) (a : SAK) : (a.den ρ).av = a.sv.den ρ := by cases a <;> rfl
theorem sak_slot (ρ : Nat → V) (a : SAK) : (a.den ρ).slot = a.slot := by cases a <;> rfl

theorem argOf_ok {P : Program} {g : Nat → SV} {x : Operand} {a : SAK} (ρ : Nat → V) (h : argOf P g x = some a) : (a.den ρ).ok P (fun d => (g d).den ρ) x := by
  unfold argOf at h
  split at h
  · rename_i t e l h1 h2
    simp only [Option.some.injEq] at h
    subst h
    have hx : x = .tmp t := by cases x <;> simp [slotOf] at h1; rw [h1]
    subst hx
    simp only [slotOf, Option.map_some, Option.some.injEq] at h2
    exact ⟨rfl, by show (g t).den ρ = _; rw [h2]; rfl⟩
  · split at h
    · rename_i v hv
      simp only [Option.some.injEq] at h
      subst h
      refine ⟨getS_of ρ hv, ?_⟩
      cases v <;> first | exact .inl ⟨_, rfl⟩ | exact .inr (.inr ⟨_, _, _, rfl⟩)
    · rename_i cs hv
      simp only [Option.some.injEq] at h
      subst h
      exact ⟨getS_of ρ hv, .inr (.inl ⟨_, rfl⟩)⟩
    · rename_i d hv
      split at h
      · rename_i cs hcs
        split at h
        · rename_i hpl
          simp only [Option.some.injEq] at h
          subst h
          exact ⟨getS_of ρ hv, by show (g d).den ρ = _; rw [hcs]; rfl, plainB_ok hpl ρ⟩
        · cases h
      · cases h
    · cases h

theorem argsOf_ok {P : Program} {g : Nat → SV} (ρ : Nat → V) : ∀ (xs : List Operand) (as : List SAK), argsOf P g xs = some as →
    xs.length = as.length ∧ ∀ (i : Nat) (x : Operand) (a : AK), xs[i]? = some x → (as.map (SAK.den ρ))[i]? = some a → a.ok P (fun d => (g d).den ρ) x
  | [], as, h => by simp only [argsOf, Option.some.injEq] at h; subst h; exact ⟨rfl, by simp⟩
  | x :: xs, as, h => by
    simp only [argsOf] at h
    split at h
    · rename_i a as' ha has
      simp only [Option.some.injEq] at h
      subst h
      obtain ⟨h1, h2⟩ := argsOf_ok ρ xs as' has
      refine ⟨by simp [h1], fun i y b hy hb => ?_⟩
      cases i with
      | zero =>
        simp only [List.map_cons, List.getElem?_cons_zero, Option.some.injEq] at hy hb
        subst hy
        subst hb
        exact argOf_ok ρ ha
      | succ i => exact h2 i y b (by simpa using hy) (by simpa using hb)
    · cases h

theorem nodupB_ok : ∀ (l : List Nat), nodupB l = true → l.Nodup
  | [], _ => List.nodup_nil
  | x :: xs, h => by
    simp only [nodupB, Bool.and_eq_true, Bool.not_eq_true', List.contains_eq_mem, decide_eq_false_iff_not] at h
    exact List.nodup_cons.2 ⟨h.1, nodupB_ok xs h.2⟩

theorem upsOf_den (ρ ρ' : Nat → V) : ∀ (as : List SAK) (os : List SV), upsS (as.map (SAK.den ρ)) (os.map (SV.den ρ')) = (upsOf as os).map fun u => (u.1, u.2.den ρ')
  | [], os => by cases os <;> rfl
  | a :: as, [] => by cases a <;> rfl
  | a :: as, o :: os => by
    cases a <;> simp only [List.map_cons, SAK.den, upsS, upsOf, upsOf_den ρ ρ' as os] <;> rfl

theorem upsOf_bd {n : Nat} : ∀ (as : List SAK) (os : List SV), (∀ o ∈ os, o.bd n) → ∀ u ∈ upsOf as os, u.2.bd n
  | [], os, _, u, h => by cases os <;> simp [upsOf] at h
  | a :: as, [], _, u, h => by cases a <;> simp [upsOf] at h
  | a :: as, o :: os, ho, u, h => by
    cases a with
    | imm x => exact upsOf_bd as os (fun o' h' => ho o' (by simp [h'])) u h
    | own t e l =>
      rcases List.mem_cons.1 h with rfl | h
      · trivial
      · exact upsOf_bd as os (fun o' h' => ho o' (by simp [h'])) u h
    | box d cs =>
      rcases List.mem_cons.1 h with rfl | h
      · exact ho o (by simp)
      · exact upsOf_bd as os (fun o' h' => ho o' (by simp [h'])) u h

end Go.AM
end

section
namespace Go.AM

theorem us1 {t n : Nat} {x : SV} (h : x.bd n) : ∀ u ∈ [(t, x)], u.2.bd n := by
  intro u hu
  rw [List.mem_singleton] at hu
  subst hu
  exact h

theorem us2 {t t' n : Nat} {x y : SV} (h : x.bd n) (h' : y.bd n) : ∀ u ∈ [(t, x), (t', y)], u.2.bd n := by
  intro u hu
  rcases List.mem_cons.1 hu with rfl | hu
  · exact h
  · exact us1 h' u hu

section
variable {P : Program} {E : Env} {tk : Bool} {R : AV → List AV → Prop} {A : Nat → List V → Prop} {ρ : Nat → V} {g : Nat → SV} {o : Oper} {n : Nat} {k : K}

theorem op_move {x : Operand} (hg : ∀ d, (g d).bd n) (ho : o.op = .move x) (h : (evOp P E tk g o n k).wp P R A ρ) : Goal P R A ρ g o n k := by
  have plain : (k (getO P g x) [] [] n).wp P R A ρ → Goal P R A ρ g o n k := fun hk => goalP hk (getO_bd hg x) (by rw [getO_den]; exact exok_move (.inl ho))
  simp only [evOp, ho] at h
  split at h
  · rename_i t
    have ht := hg t
    split at h
    · rename_i vs hv
      rw [hv] at ht
      exact goal0 h ht (us1 trivial) (exok_tuple ho (by rw [hv]; rfl))
    · rename_i e xs hv
      rw [hv] at ht
      split at h
      · exact goal0 h ht (us1 ht) (exok_take (.inl ho) (by rw [hv]; rfl))
      · refine plain ?_
        have : getO P g (.tmp t) = .c (.slice false (P.cellsOf e) xs) := by simp only [getO, hv]
        rw [this]
        exact h
    · exact plain h
  · exact plain h

theorem op_assign {x : Operand} (hg : ∀ d, (g d).bd n) (ho : o.op = .assign x) (h : (evOp P E tk g o n k).wp P R A ρ) : Goal P R A ρ g o n k := by
  have plain : (k (getO P g x) [] [] n).wp P R A ρ → Goal P R A ρ g o n k := fun hk => goalP hk (getO_bd hg x) (by rw [getO_den]; exact exok_move (.inr ho))
  simp only [evOp, ho] at h
  split at h
  · rename_i t
    have ht := hg t
    split at h
    · exact h.elim
    · rename_i e xs hv
      rw [hv] at ht
      split at h
      · exact goal0 h ht (us1 ht) (exok_take (.inr ho) (by rw [hv]; rfl))
      · refine plain ?_
        have : getO P g (.tmp t) = .c (.slice false (P.cellsOf e) xs) := by simp only [getO, hv]
        rw [this]
        exact h
    · exact plain h
  · split at h
    · exact goalP h trivial (exok_nil ho)
    · exact h.elim
  · exact plain h

theorem op_pick {c a b : Operand} (hg : ∀ d, (g d).bd n) (ho : o.op = .pick c a b) (h : (evOp P E tk g o n k).wp P R A ρ) : Goal P R A ρ g o n k := by
  simp only [evOp, ho] at h
  split at h
  · rename_i v hv
    obtain ⟨h1, h2⟩ := mkBranch_wp h
    have hc := getS_of ρ hv
    have hex := exok_pick ho hc
    cases hb : v.den ρ with
    | true =>
      rw [hb, if_pos rfl] at hex
      exact goalP (h1 hb) (getO_bd hg a) (by rw [getO_den]; exact hex)
    | false =>
      rw [hb, if_neg (by simp)] at hex
      exact goalP (h2 hb) (getO_bd hg b) (by rw [getO_den]; exact hex)
  · exact h.elim

theorem op_alloc {T : TypeId} (ho : o.op = .alloc T) (h : (evOp P E tk g o n k).wp P R A ρ) : Goal P R A ρ g o n k := by
  simp only [evOp, ho] at h
  split at h
  · rename_i cs hcs
    obtain ⟨i, z, h1, h2, h3, h4⟩ := zeroB_ok ρ n hcs
    exact goalP h h4 (exok_alloc ho h1 h2 h3)
  · exact h.elim

theorem op_box {T : TypeId} {x : Operand} (hg : ∀ d, (g d).bd n) (ho : o.op = .box T x) (h : (evOp P E tk g o n k).wp P R A ρ) : Goal P R A ρ g o n k := by
  simp only [evOp, ho] at h
  split at h
  · rename_i cs hcs
    refine goalP h (fun c hc => ?_) ?_
    · obtain ⟨y, hy, rfl⟩ := List.mem_map.1 hc
      exact cells_bd hcs (getO_bd hg x) y hy
    · have hd := cells_den ρ hcs
      have := exok_box ho (getO_den P g ρ x).symm hd
      have he : ((SV.box (cs.map .c)).den ρ) = .box (cs.map (SC.den ρ)) := by simp only [SV.den, List.map_map]; rfl
      rw [he]
      exact this
  · exact h.elim

theorem parts_den (parts : Array (Nat × Operand)) : (parts.toList.map fun p => (p.1, getS P (fun d => (g d).den ρ) p.2)) = (parts.toList.map fun p => (p.1, getO P g p.2)).map fun p => (p.1, p.2.den ρ) := by
  rw [List.map_map]
  refine List.map_congr_left fun p _ => ?_
  simp only [Function.comp, getO_den]

theorem parts_bd (hg : ∀ d, (g d).bd n) (parts : Array (Nat × Operand)) : ∀ p ∈ (parts.toList.map fun p => (p.1, getO P g p.2)), p.2.bd n := by
  intro p hp
  obtain ⟨q, _, rfl⟩ := List.mem_map.1 hp
  exact getO_bd hg q.2

theorem op_build {T : TypeId} {parts : Array (Nat × Operand)} (hg : ∀ d, (g d).bd n) (ho : o.op = .build T parts) (h : (evOp P E tk g o n k).wp P R A ρ) : Goal P R A ρ g o n k := by
  simp only [evOp, ho] at h
  split at h
  · rename_i fs i hT hi
    split at h
    · rename_i hall
      split at h
      · rename_i z hz
        split at h
        · rename_i zc hzc
          split at h
          · rename_i cs hcs
            refine goalP h (fillA_bd _ _ _ _ (ofCs_bd hzc) (parts_bd hg parts) hcs) ?_
            have h1 := ofCs_den ρ z.cells.toList
            rw [hzc] at h1
            refine exok_build ho hT hi hz h1.symm hall ?_
            rw [parts_den]
            exact fillA_den ρ _ _ _ _ hcs
          · exact h.elim
        · exact h.elim
      · exact h.elim
    · exact h.elim
  · exact h.elim

theorem rep_nil {w : World} {lim : Nat → Nat} {f g : Bool} {s s' : Nat} {v : Value} (hg : g = true → f = true) (h : Rep w lim (.slice f s []) v) : Rep w lim (.slice g s' []) v := by
  have key : ∀ (y : AV), Rep w lim y v → y = .slice f s [] → Rep w lim (.slice g s' []) v := by
    intro y hy hye
    cases hy with
    | sliceN => exact .sliceN
    | @sliceE f' s2 a cap hf =>
      injection hye with h1 h2 h3
      exact .sliceE fun h => hf (h1.trans (hg h))
    | @sliceC f' s2 xs b o cap us hs hc hf hle hlim hus hcell hr =>
      injection hye with h1 h2 h3
      subst h3
      exact .sliceE fun h => by have := hf (h1.trans (hg h)); simpa using this
    | val _ => cases hye
    | agg _ _ _ => cases hye
  exact key _ h rfl

theorem rep_imm {w : World} {lim : Nat → Nat} {f : Bool} {s : Nat} {xs : List (List AV)} {v : Value} (h : Rep w lim (.slice f s xs) v) : Rep w lim (.slice false s xs) v := by
  have key : ∀ (y : AV), Rep w lim y v → y = .slice f s xs → Rep w lim (.slice false s xs) v := by
    intro y hy hye
    cases hy with
    | sliceN => injection hye with h1 h2 h3; subst h3; exact .sliceN
    | @sliceE f' s2 a cap hf => injection hye with h1 h2 h3; subst h3; exact .sliceE fun h => by cases h
    | @sliceC f' s2 xs b o cap us hs hc hf hle hlim hus hcell hr =>
      injection hye with h1 h2 h3
      subst h2
      subst h3
      exact .sliceC hs hc (fun h => by cases h) hle hlim hus hcell hr
    | val _ => cases hye
    | agg _ _ _ => cases hye
  exact key _ h rfl

theorem normC_ok (ρ : Nat → V) {s : Sh} {c c' : SC} (h : normC s c = some c') : ∀ (w : World) (lim : Nat → Nat) (u : Value), Rep w lim (c.den ρ) u → Rep w lim (c'.den ρ) u := by
  unfold normC at h
  split at h
  · split at h
    · simp only [Option.some.injEq] at h
      subst h
      rename_i hk
      subst hk
      exact fun w lim u hr => rep_imm hr
    · split at h
      · simp only [Option.some.injEq] at h
        subst h
        exact fun w lim u hr => rep_nil (fun h => by cases h) hr
      · cases h
  · simp only [Option.some.injEq] at h
    subst h
    exact fun _ _ _ h => h

theorem normC_bd {n : Nat} {s : Sh} {c c' : SC} (h : normC s c = some c') (hb : c.bd n) : c'.bd n := by
  unfold normC at h
  split at h
  · split at h
    · simp only [Option.some.injEq] at h
      subst h
      exact hb
    · split at h
      · simp only [Option.some.injEq] at h
        subst h
        trivial
      · cases h
  · simp only [Option.some.injEq] at h
    subst h
    exact hb

theorem normCs_bd {n : Nat} : ∀ (l : List Sh) (cs cs' : List SC), normCs l cs = some cs' → (∀ c ∈ cs, c.bd n) → ∀ c ∈ cs', c.bd n
  | [], [], _, h, _ => by simp only [normCs, Option.some.injEq] at h; subst h; simp
  | [], _ :: _, _, h, _ => by simp [normCs] at h
  | _ :: _, [], _, h, _ => by simp [normCs] at h
  | s :: ss, c :: cs, r, h, hb => by
    simp only [normCs] at h
    split at h
    · rename_i v vs hv hvs
      simp only [Option.some.injEq] at h
      subst h
      intro x hx
      rcases List.mem_cons.1 hx with rfl | hx
      · exact normC_bd hv (hb c (by simp))
      · exact normCs_bd ss cs vs hvs (fun y hy => hb y (by simp [hy])) x hx
    · cases h

theorem normCs_at (ρ : Nat → V) : ∀ (l : List Sh) (cs cs' : List SC), normCs l cs = some cs' → cs'.length = cs.length ∧ ∀ (i : Nat) (c : SC), cs'[i]? = some c → ∃ c0, cs[i]? = some c0 ∧ ∀ (w : World) (lim : Nat → Nat) (u : Value), Rep w lim (c0.den ρ) u → Rep w lim (c.den ρ) u
  | [], [], _, h => by simp only [normCs, Option.some.injEq] at h; subst h; exact ⟨rfl, by simp⟩
  | [], _ :: _, _, h => by simp [normCs] at h
  | _ :: _, [], _, h => by simp [normCs] at h
  | s :: ss, c :: cs, r, h => by
    simp only [normCs] at h
    split at h
    · rename_i v vs hv hvs
      simp only [Option.some.injEq] at h
      subst h
      obtain ⟨h1, h2⟩ := normCs_at ρ ss cs vs hvs
      refine ⟨by simp [h1], fun i x hx => ?_⟩
      cases i with
      | zero =>
        simp only [List.getElem?_cons_zero, Option.some.injEq] at hx
        subst hx
        exact ⟨c, rfl, normC_ok ρ hv⟩
      | succ i => exact h2 i x (by simpa using hx)
    · cases h

theorem normCs_ok (ρ : Nat → V) (l : List Sh) (cs cs' : List SC) (h : normCs l cs = some cs') : (cs'.map (SC.den ρ)).length = (cs.map (SC.den ρ)).length ∧
    ∀ (w : World) (lim : Nat → Nat) (us : List Value), RelL w lim (cs.map (SC.den ρ)) us → RelL w lim (cs'.map (SC.den ρ)) us := by
  obtain ⟨h1, h2⟩ := normCs_at ρ l cs cs' h
  refine ⟨by simp [h1], fun w lim us hr => ⟨by rw [← hr.1]; simp [h1], fun x hx => ?_, fun i x u hx hu => ?_⟩⟩
  · obtain ⟨y, _, rfl⟩ := List.mem_map.1 hx
    exact scden_cell ρ y
  · rw [List.getElem?_map] at hx
    cases hc : cs'[i]? with
    | none => rw [hc] at hx; cases hx
    | some c =>
      rw [hc] at hx
      simp only [Option.map_some, Option.some.injEq] at hx
      subst hx
      obtain ⟨c0, g1, g2⟩ := h2 i c hc
      exact g2 w lim u (hr.2.2 i _ u (by rw [List.getElem?_map, g1]; rfl) hu)

theorem op_buildSlice {T : TypeId} {len : Nat} {parts : Array (Nat × Operand)} (hg : ∀ d, (g d).bd n) (ho : o.op = .buildSlice T len parts) (h : (evOp P E tk g o n k).wp P R A ρ) : Goal P R A ρ g o n k := by
  simp only [evOp, ho] at h
  split at h
  · rename_i e hT
    split at h
    · rename_i i hi
      split at h
      · rename_i z hz
        split at h
        · rename_i zc hzc
          split at h
          · rename_i hh
            split at h
            · rename_i cs sh hcs hsh
              split at h
              · rename_i cs' hcs'
                have hb : ∀ c ∈ cs, c.bd n := fillA_bd _ _ _ _ (fun c hc => by
                  obtain ⟨l, hl, hc⟩ := List.mem_flatten.1 hc
                  rw [(List.mem_replicate.1 hl).2] at hc
                  exact ofCs_bd hzc c hc) (parts_bd hg parts) hcs
                refine goalP h (x := .own e _) (lOf_bd _ _ (normCs_bd _ _ _ hcs' hb) _) ?_
                have h1 := ofCs_den ρ z.cells.toList
                rw [hzc] at h1
                have h2 := fillA_den ρ _ _ _ _ hcs
                rw [← parts_den, List.map_flatten, List.map_replicate] at h2
                have := exok_buildSlice ho hT hi hz h1.symm hh.1 hh.2.1 hh.2.2 h2 (normCs_ok ρ _ _ _ hcs')
                rw [← lOf_den] at this
                exact this
              · exact h.elim
            · exact h.elim
          · exact h.elim
        · exact h.elim
      · exact h.elim
    · exact h.elim
  · exact h.elim

theorem sc_strip (ρ : Nat → V) (x : SC) : stripS P (x.den ρ) = x.den ρ := by cases x <;> rfl

theorem op_load {T : TypeId} {a : Operand} (hg : ∀ d, (g d).bd n) (ho : o.op = .load T a) (h : (evOp P E tk g o n k).wp P R A ρ) : Goal P R A ρ g o n k := by
  have ba := getO_bd (P := P) hg a
  simp only [evOp, ho] at h
  split at h
  · rename_i d off hT ha
    split at h
    · rename_i cs hcs
      split at h
      · rename_i hle
        have hb := hg d
        rw [hcs] at hb
        refine goalP h (fun c hc => ?_) ?_
        · obtain ⟨y, hy, rfl⟩ := List.mem_map.1 hc
          exact stripB_bd (hb y (List.mem_of_mem_drop (List.mem_of_mem_take hy)))
        · have := exok_load_agg (cs := cs.map (BC.den ρ)) ho hT (getS_of ρ ha) (by rw [hcs]; rfl) (by simpa using hle.1) (plainB_ok hle.2 ρ)
          have he : (SV.agg (((cs.drop off).take (P.cellsOf T)).map (stripB P))).den ρ = .agg (((((cs.map (BC.den ρ)).drop off).take (P.cellsOf T))).map (stripS P)) := by
            simp only [SV.den, List.map_map, ← List.map_take, ← List.map_drop]
            congr 1
            exact List.map_congr_left fun b _ => stripB_den P ρ b
          rw [he]
          exact this
      · exact h.elim
    · exact h.elim
  · rename_i d off hT ha
    split at h
    · rename_i cs hcs
      have hb := hg d
      rw [hcs] at hb
      have hd : (fun d => (g d).den ρ) d = .box (cs.map (BC.den ρ)) := by show (g d).den ρ = _; rw [hcs]; rfl
      split at h
      case isFalse => exact h.elim
      rename_i hpl
      have hnr := plainB_ok hpl ρ
      split at h
      · rename_i e xs hx
        have hx' : (cs.map (BC.den ρ))[off]? = some (.own e (xs.den ρ)) := by rw [List.getElem?_map, hx]; rfl
        have hbx := hb _ (List.mem_of_getElem? hx)
        split at h
        · refine goal0 h hbx (us1 (fun c hc => ?_)) ?_
          · rcases List.mem_or_eq_of_mem_set hc with hc | rfl
            · exact hb c hc
            · exact hbx
          · have := exok_load_own ho hT (getS_of ρ ha) hd hx' hnr
            simp only [List.map_cons, List.map_nil, SV.den, List.map_set]
            exact this
        · exact goalP h hbx (exok_load_cell ho hT (getS_of ρ ha) hd hx' hnr)
      · rename_i x hx
        have hx' : (cs.map (BC.den ρ))[off]? = some (x.den ρ) := by rw [List.getElem?_map, hx]; rfl
        have := exok_load_cell ho hT (getS_of ρ ha) hd hx' hnr
        rw [sc_strip] at this
        exact goalP h (hb _ (List.mem_of_getElem? hx)) this
      · exact h.elim
      · exact h.elim
    · exact h.elim
  · rename_i cs hT ha
    rw [ha] at ba
    split at h
    · rename_i hle
      refine goalP h (fun c hc => ba c (List.mem_of_mem_take hc)) ?_
      have := exok_load_eagg (cs := cs.map (SC.den ρ)) ho hT (getS_of ρ ha) (by simpa using hle)
      rw [← List.map_take] at this
      exact this
    · exact h.elim
  · rename_i cs hT ha
    rw [ha] at ba
    split at h
    · rename_i x rest
      exact goalP h (ba x (by simp)) (exok_load_ecell (cs := rest.map (SC.den ρ)) ho hT (getS_of ρ ha))
    · exact h.elim
  · exact h.elim

theorem op_store {T : TypeId} {a x : Operand} (hg : ∀ d, (g d).bd n) (ho : o.op = .store T a x) (h : (evOp P E tk g o n k).wp P R A ρ) : Goal P R A ρ g o n k := by
  have bx := getO_bd (P := P) hg x
  simp only [evOp, ho] at h
  split at h
  · rename_i d off ha
    split at h
    · rename_i cs hcs
      have hb := hg d
      rw [hcs] at hb
      have hd : (fun d => (g d).den ρ) d = .box (cs.map (BC.den ρ)) := by show (g d).den ρ = _; rw [hcs]; rfl
      split at h
      · rename_i t e xs h1 h2
        have hx : x = .tmp t := by cases x <;> simp [slotOf] at h1; rw [h1]
        subst hx
        simp only [slotOf, Option.map_some, Option.some.injEq] at h2
        have ht := hg t
        rw [h2] at ht
        split at h
        · rename_i hh
          refine goal0 h trivial (us2 ht (fun c hc => ?_)) ?_
          · rcases List.mem_or_eq_of_mem_set hc with hc | rfl
            · exact hb c hc
            · exact ht
          · have := exok_store_own (e := e) (xs := xs.den ρ) ho (getS_of ρ ha) hd (by show (g t).den ρ = _; rw [h2]; rfl) hh.1 (by simpa using hh.2.1) (plainB_ok hh.2.2 ρ)
            simp only [List.map_cons, List.map_nil, SV.den, List.map_set]
            exact this
        · exact h.elim
      · split at h
        · rename_i vc hvc
          split at h
          · rename_i hh
            refine goal0 h trivial (us1 (fun c hc => ?_)) ?_
            · rcases List.mem_append.1 hc with hc | hc
              · rcases List.mem_append.1 hc with hc | hc
                · exact hb c (List.mem_of_mem_take hc)
                · obtain ⟨y, hy, rfl⟩ := List.mem_map.1 hc
                  exact cells_bd hvc bx y hy
              · exact hb c (List.mem_of_mem_drop hc)
            · have := exok_store (vc := vc.map (SC.den ρ)) ho (getS_of ρ ha) hd (getO_den P g ρ x).symm (cells_den ρ hvc) (by simpa using hh.1) (by omega) (by simpa using hh.2.2.1) (plainB_ok hh.2.2.2 ρ)
              have he : (SV.box (cs.take off ++ vc.map .c ++ cs.drop (off + P.cellsOf T))).den ρ = .box ((cs.map (BC.den ρ)).take off ++ vc.map (SC.den ρ) ++ (cs.map (BC.den ρ)).drop (off + P.cellsOf T)) := by
                simp only [SV.den, List.map_append, List.map_map, List.map_take, List.map_drop]
                rfl
              simp only [List.map_cons, List.map_nil, he]
              exact this
          · exact h.elim
        · exact h.elim
    · exact h.elim
  · rename_i d i s off ha
    split at h
    · rename_i e m cp l vc hcs hvc
      have hb := hg d
      rw [hcs] at hb
      have hb1 := hb _ (List.mem_singleton.2 rfl)
      have hpt := getO_bd (P := P) hg a
      rw [ha] at hpt
      have hd : (fun d => (g d).den ρ) d = .box [.row e (m.den ρ).toNat (cp.den ρ).toNat (l.den ρ)] := by show (g d).den ρ = _; rw [hcs]; rfl
      split at h
      · rename_i sh hsh
        split at h
        · rename_i vc' hvc'
          split at h
          · rename_i hh
            obtain ⟨r1, r2, h⟩ := h
            have r1' : 0 ≤ i.den ρ := r1
            have r2' : i.den ρ < m.den ρ := r2
            have hbv := normCs_bd _ _ _ hvc' (cells_bd hvc bx)
            refine goal0 h trivial (us1 (fun c hc => ?_)) ?_
            · rw [List.mem_singleton] at hc
              subst hc
              exact ⟨hb1.1, hb1.2.1, hb1.2.2, hpt, ceOf_bd _ hbv⟩
            · obtain ⟨h1, h2, h3, h4⟩ := hh
              subst h1
              have := exok_store_row (vc := vc.map (SC.den ρ)) (vc' := vc'.map (SC.den ρ)) ho (getS_of ρ ha) hd (getO_den P g ρ x).symm (cells_den ρ hvc) (by simpa using h2) (by omega) (by omega) h4 (normCs_ok ρ _ _ _ hvc')
              rw [← ceOf_den] at this
              exact this
          · exact h.elim
        · exact h.elim
      · exact h.elim
    · exact h.elim
  · exact h.elim

theorem op_nilCheck {x : Operand} (hg : ∀ d, (g d).bd n) (ho : o.op = .nilCheck x) (h : (evOp P E tk g o n k).wp P R A ρ) : Goal P R A ρ g o n k := by
  have bx := getO_bd (P := P) hg x
  simp only [evOp, ho] at h
  split at h
  · rename_i d off hx
    exact goalP h trivial (exok_nilCheck ho (getS_of ρ hx) (.inl ⟨_, _, rfl⟩))
  · rename_i cs hx
    rw [hx] at bx
    exact goalP h bx (exok_nilCheck ho (getS_of ρ hx) (.inr ⟨_, rfl⟩))
  · rename_i d i s off hx
    rw [hx] at bx
    exact goalP h bx (exok_nilCheck ho (getS_of ρ hx) (.inl ⟨_, _, rfl⟩))
  · exact h.elim

theorem op_unOp {op : UnOp} {T : TypeId} {x : Operand} (hg : ∀ d, (g d).bd n) (ho : o.op = .unOp op T x) (h : (evOp P E tk g o n k).wp P R A ρ) : Goal P R A ρ g o n k := by
  have bx := getO_bd (P := P) hg x
  simp only [evOp, ho] at h
  split at h
  · rename_i b hx
    rw [hx] at bx
    refine goalP h (mkNot_bd bx) ?_
    have := exok_not ho (getS_of ρ hx)
    rw [← mkNot_den] at this
    exact this
  · rename_i kd e hx
    rw [hx] at bx
    exact goalP h ⟨trivial, bx⟩ (exok_neg ho (getS_of ρ hx))
  · exact h.elim

theorem op_convert {S T : TypeId} {x : Operand} (hg : ∀ d, (g d).bd n) (ho : o.op = .convert S T x) (h : (evOp P E tk g o n k).wp P R A ρ) : Goal P R A ρ g o n k := by
  have bx := getO_bd (P := P) hg x
  simp only [evOp, ho] at h
  split at h
  · rename_i hS hT hx
    rw [hx] at bx
    exact goalP h bx (exok_conv ho hS hT (getS_of ρ hx))
  · rename_i hS hT hx
    rw [hx] at bx
    split at h
    · rename_i he
      split at h
      · rename_i hs
        subst hs
        exact goalP h.2 bx (exok_bytes ho hS he hT (getS_of ρ hx) h.1)
      · exact h.elim
    · exact h.elim
  · exact h.elim

theorem op_fieldAddr {T : TypeId} {x : Operand} {f : Nat} (hg : ∀ d, (g d).bd n) (ho : o.op = .fieldAddr T x f) (h : (evOp P E tk g o n k).wp P R A ρ) : Goal P R A ρ g o n k := by
  have bx := getO_bd (P := P) hg x
  simp only [evOp, ho] at h
  split at h
  · rename_i hf hx
    exact goalP h trivial (exok_field_ptr ho hf (getS_of ρ hx))
  · rename_i off cs hf hx
    rw [hx] at bx
    refine goalP h (fun c hc => bx c (List.mem_of_mem_drop hc)) ?_
    have := exok_field_eptr (cs := cs.map (SC.den ρ)) ho hf (getS_of ρ hx)
    rw [← List.map_drop] at this
    exact this
  · rename_i off d i s off' hf hx
    rw [hx] at bx
    refine goalP h bx ?_
    have := exok_field_ptr ho hf (getS_of ρ hx)
    rw [Nat.add_assoc] at this
    exact this
  · exact h.elim

theorem op_indexAddr {T : TypeId} {x i : Operand} (hg : ∀ d, (g d).bd n) (ho : o.op = .indexAddr T x i) (h : (evOp P E tk g o n k).wp P R A ρ) : Goal P R A ρ g o n k := by
  simp only [evOp, ho] at h
  split at h
  · rename_i hT hx hi
    split at h
    · rename_i sh hsh
      split at h
      · rename_i hh
        obtain ⟨vs, h1, h2, h3⟩ := h
        exact ⟨bind ρ n vs, n + sh.length, .eptr (shapesAt sh n), [], [], Nat.le_add_right _ _, bind_lt ρ n vs, shapesAt_bd sh n, by simp, h3,
          exok_index ho hT hh.1 (by omega) (getS_of ρ hx) (getS_of ρ hi) h1 h2⟩
      · exact h.elim
    · exact h.elim
  · rename_i e d kd ix hT hx hi
    split at h
    · rename_i e' m cp l hcs
      split at h
      · rename_i hh
        obtain ⟨rfl, h0⟩ := hh
        obtain ⟨r1, r2, h⟩ := h
        have r1' : 0 ≤ ix.den ρ := r1
        have r2' : ix.den ρ < m.den ρ := r2
        have bi := getO_bd (P := P) hg i
        rw [hi] at bi
        exact goalP h bi (exok_index_row ho hT (by omega) (getS_of ρ hx) (by show (g d).den ρ = _; rw [hcs]; rfl) (getS_of ρ hi) r1' (by omega))
      · exact h.elim
    · exact h.elim
  · exact h.elim

theorem op_make {T : TypeId} {a b : Operand} (hg : ∀ d, (g d).bd n) (ho : o.op = .makeSlice T a b) (h : (evOp P E tk g o n k).wp P R A ρ) : Goal P R A ρ g o n k := by
  simp only [evOp, ho] at h
  split at h
  · rename_i t t' ha hb
    have hxa : a = .tmp t := by cases a <;> simp [slotOf] at ha; rw [ha]
    have hxb : b = .tmp t' := by cases b <;> simp [slotOf] at hb; rw [hb]
    subst hxa
    subst hxb
    split at h
    · rename_i e kd m hT hx
      have bm := getO_bd (P := P) hg (.tmp t)
      rw [hx] at bm
      split at h
      · rename_i i hi
        split at h
        · rename_i z hz
          split at h
          · rename_i zc sh hzc hsh
            split at h
            · rename_i zc' hzc'
              split at h
              · rename_i hh
                obtain ⟨rfl, hzs⟩ := hh
                have h1 := ofCs_den ρ z.cells.toList
                rw [hzc] at h1
                refine goalP h.2 (fun c hc => ?_) ?_
                · rw [List.mem_singleton] at hc
                  subst hc
                  exact ⟨bm, bm, bm, ceOf_bd _ (normCs_bd _ _ _ hzc' (ofCs_bd hzc))⟩
                · have := exok_make (zc := zc.map (SC.den ρ)) (zc' := zc'.map (SC.den ρ)) ho hT hi hz hzs h1.symm (getS_of ρ hx) h.1.1 h.1.2 (normCs_ok ρ _ _ _ hzc')
                  rw [← ceOf_den] at this
                  exact this
              · exact h.elim
            · exact h.elim
          · exact h.elim
        · exact h.elim
      · exact h.elim
    · exact h.elim
  · exact h.elim

theorem op_slice {T : TypeId} {x : Operand} {lo hi mx : Option Operand} (hg : ∀ d, (g d).bd n) (ho : o.op = .slice T x lo hi mx) (h : (evOp P E tk g o n k).wp P R A ρ) : Goal P R A ρ g o n k := by
  have bx := getO_bd (P := P) hg x
  simp only [evOp, ho] at h
  split at h
  · rename_i e full s xs hT hx
    rw [hx] at bx
    have sx := getS_of ρ hx
    split at h
    · rename_i hh
      have hs0 : P.cellsOf e ≠ 0 := by omega
      unfold sliceOp at h
      split at h
      · rename_i k1 k2 h1 h2 h3
        cases lo with
        | some y => simp at h1
        | none =>
          cases hi with
          | none => simp at h2
          | some y =>
            cases mx with
            | none => simp at h3
            | some z =>
              simp only [Option.map_some, Option.some.injEq] at h2 h3
              exact goalP h trivial (exok_cut00 ho hT hs0 sx (getS_of ρ h2) (getS_of ρ h3))
      · rename_i h1 h2 h3
        cases lo with
        | some y => simp at h1
        | none =>
          cases hi with
          | some y => simp at h2
          | none =>
            cases mx with
            | some z => simp at h3
            | none =>
              have := exok_cut (l := 0) (h := (xs.den ρ).length) (f' := full) ho hT hh.1 hs0 sx (Nat.zero_le _) (Nat.le_refl _) (.inl ⟨rfl, rfl⟩) (.inl ⟨rfl, rfl⟩) (fun h => ⟨h, rfl⟩)
              rw [List.take_length, List.drop_zero] at this
              exact goalP h bx this
      · rename_i kl l h1 h2 h3
        cases lo with
        | none => simp at h1
        | some y =>
          cases hi with
          | some y => simp at h2
          | none =>
            cases mx with
            | some z => simp at h3
            | none =>
              simp only [Option.map_some, Option.some.injEq] at h1
              have by1 := getO_bd (P := P) hg y
              rw [h1] at by1
              obtain ⟨r1, r2, h⟩ := h
              have r1' : 0 ≤ l.den ρ := r1
              have r2' : l.den ρ ≤ ((xs.den ρ).length : Int) := r2
              have sy := getS_of ρ h1
              have e1 : ((l.den ρ).toNat : Int) = l.den ρ := Int.toNat_of_nonneg r1'
              have := exok_cut (l := (l.den ρ).toNat) (h := (xs.den ρ).length) (f' := full) ho hT hh.1 hs0 sx (by omega) (Nat.le_refl _) (.inr ⟨y, kl, rfl, by rw [e1]; exact sy⟩) (.inl ⟨rfl, rfl⟩) (fun h => ⟨h, rfl⟩)
              rw [List.take_length] at this
              exact goalP h ⟨bx, by1⟩ this
      · rename_i kl l h1 h2 h3
        cases lo with
        | some y => simp at h1
        | none =>
          cases hi with
          | none => simp at h2
          | some y =>
            cases mx with
            | some z => simp at h3
            | none =>
              simp only [Option.map_some, Option.some.injEq] at h2
              have by1 := getO_bd (P := P) hg y
              rw [h2] at by1
              obtain ⟨r1, r2, h⟩ := h
              have r1' : 0 ≤ l.den ρ := r1
              have r2' : l.den ρ ≤ ((xs.den ρ).length : Int) := r2
              have sy := getS_of ρ h2
              have e1 : ((l.den ρ).toNat : Int) = l.den ρ := Int.toNat_of_nonneg r1'
              have := exok_cut (l := 0) (h := (l.den ρ).toNat) (f' := false) ho hT hh.1 hs0 sx (Nat.zero_le _) (by omega) (.inl ⟨rfl, rfl⟩) (.inr ⟨y, kl, rfl, by rw [e1]; exact sy⟩) (fun h => by simp at h)
              rw [List.drop_zero] at this
              exact goalP h ⟨bx, by1⟩ this
      · rename_i kl l kh hb h1 h2 h3
        cases lo with
        | none => simp at h1
        | some y =>
          cases hi with
          | none => simp at h2
          | some z =>
            cases mx with
            | some z => simp at h3
            | none =>
              simp only [Option.map_some, Option.some.injEq] at h1 h2
              have by1 := getO_bd (P := P) hg y
              rw [h1] at by1
              have by2 := getO_bd (P := P) hg z
              rw [h2] at by2
              obtain ⟨r1, r2, r3, h⟩ := h
              have r1' : 0 ≤ l.den ρ := r1
              have r2' : l.den ρ ≤ hb.den ρ := r2
              have r3' : hb.den ρ ≤ ((xs.den ρ).length : Int) := r3
              have sy := getS_of ρ h1
              have sz := getS_of ρ h2
              have e1 : ((l.den ρ).toNat : Int) = l.den ρ := Int.toNat_of_nonneg r1'
              have e2 : ((hb.den ρ).toNat : Int) = hb.den ρ := Int.toNat_of_nonneg (by omega)
              have := exok_cut (l := (l.den ρ).toNat) (h := (hb.den ρ).toNat) (f' := false) ho hT hh.1 hs0 sx (by omega) (by omega) (.inr ⟨y, kl, rfl, by rw [e1]; exact sy⟩) (.inr ⟨z, kh, rfl, by rw [e2]; exact sz⟩) (fun h => by simp at h)
              exact goalP h ⟨⟨bx, by2⟩, by1⟩ this
      · exact h.elim
    · exact h.elim
  · exact h.elim

theorem op_extract {x : Operand} {i : Nat} (hg : ∀ d, (g d).bd n) (ho : o.op = .extract x i) (h : (evOp P E tk g o n k).wp P R A ρ) : Goal P R A ρ g o n k := by
  simp only [evOp, ho] at h
  split at h
  · rename_i t vs h1 h2
    have hx : x = .tmp t := by cases x <;> simp [slotOf] at h1; rw [h1]
    subst hx
    simp only [slotOf, Option.map_some, Option.some.injEq] at h2
    have hb := hg t
    rw [h2] at hb
    have ht : (fun d => (g d).den ρ) t = .tuple (vs.map (TC.den ρ)) := by show (g t).den ρ = _; rw [h2]; rfl
    split at h
    · rename_i e xs hv
      have hv' : (vs.map (TC.den ρ))[i]? = some (.own e (xs.den ρ)) := by rw [List.getElem?_map, hv]; rfl
      have hbx := hb _ (List.mem_of_getElem? hv)
      refine goal0 h hbx (us1 (fun c hc => ?_)) ?_
      · rcases List.mem_or_eq_of_mem_set hc with hc | rfl
        · exact hb c hc
        · exact hbx
      · have := exok_extract_own (P := P) (σ := fun d => (g d).den ρ) ho ht hv'
        simp only [List.map_cons, List.map_nil, SV.den, List.map_set]
        exact this
    · rename_i y hv
      have hv' : (vs.map (TC.den ρ))[i]? = some (y.den ρ) := by rw [List.getElem?_map, hv]; rfl
      refine goalP h (hb _ (List.mem_of_getElem? hv)) (exok_extract (σ := fun d => (g d).den ρ) ho ht hv' ?_ ?_ ?_ ?_ ?_)
      · cases y <;> rfl
      all_goals first
        | (intro d p; cases y <;> simp [SV.den, SC.den])
        | (intro d; cases y <;> simp [SV.den, SC.den])
        | (cases y <;> simp [SV.den, SC.den])
    · rename_i cs hv
      have hv' : (vs.map (TC.den ρ))[i]? = some (.agg (cs.map (SC.den ρ))) := by rw [List.getElem?_map, hv]; rfl
      exact goalP h (hb _ (List.mem_of_getElem? hv)) (exok_extract (σ := fun d => (g d).den ρ) ho ht hv' rfl (fun _ _ h => by cases h) (fun _ h => by cases h) (fun h => by cases h) (fun h => by cases h))
    · exact h.elim
  · exact h.elim

theorem op_len {c : Call} (hg : ∀ d, (g d).bd n) (ho : o.op = .call c) (hc : c.callee = .builtin .len) (h : (evOp P E tk g o n k).wp P R A ρ) : Goal P R A ρ g o n k := by
  simp only [evOp, ho, hc] at h
  split at h
  · rename_i x T hargs hts
    have bx := getO_bd (P := P) hg x
    split at h
    · rename_i d hx
      split at h
      · rename_i e e' m cp l hT hcs
        have hb := hg d
        rw [hcs] at hb
        have hb1 := hb _ (List.mem_singleton.2 rfl)
        exact goalP h hb1.2.2 (exok_len_row ho hc hargs hts hT (getS_of ρ hx) (by show (g d).den ρ = _; rw [hcs]; rfl))
      · exact h.elim
    · unfold lenOp at h
      split at h
      · rename_i hT hx
        rw [hx] at bx
        exact goalP h bx (exok_len_slice ho hc hargs hts hT (getS_of ρ hx))
      · rename_i hT hx
        rw [hx] at bx
        exact goalP h bx (exok_len_str ho hc hargs hts hT (getS_of ρ hx))
      · exact h.elim
  · exact h.elim

theorem op_copy {c : Call} (hg : ∀ d, (g d).bd n) (ho : o.op = .call c) (hc : c.callee = .builtin .copy) (h : (evOp P E tk g o n k).wp P R A ρ) : Goal P R A ρ g o n k := by
  simp only [evOp, ho, hc] at h
  split at h
  · rename_i x y T T' hargs hts
    split at h
    · rename_i e d f s ys hT hx hy
      split at h
      · rename_i e' m cp l hcs
        split at h
        · rename_i hh
          obtain ⟨rfl, h1, rfl⟩ := hh
          have hb := hg d
          rw [hcs] at hb
          have hb1 := hb _ (List.mem_singleton.2 rfl)
          have by1 := getO_bd (P := P) hg y
          rw [hy] at by1
          refine goal0 h trivial (us1 (fun c hc => ?_)) (exok_copy_row (f := f) ho hc hargs hts hT h1 (getS_of ρ hx) (by show (g d).den ρ = _; rw [hcs]; rfl) (getS_of ρ hy))
          rw [List.mem_singleton] at hc
          subst hc
          exact ⟨hb1.1, hb1.2.1, hb1.2.2, by1⟩
        · exact h.elim
      · exact h.elim
    · exact h.elim
  · exact h.elim

theorem appendOp_ok {c : Call} {T : TypeId} {x y : Operand} (src : Option Nat) {xv : SV} (hg : ∀ d, (g d).bd n) (ho : o.op = .call c) (hc : c.callee = .builtin .append) (hargs : c.args.toList = [x, y])
    (hts : c.argTypes.toList = [T, T]) (hsrc : ∀ t, src = some t → x = .tmp t ∧ xv = g t) (hnone : src = none → xv = getO P g x)
    (h : (appendOp P T src xv (getO P g y) fun v us => k v us [] n).wp P R A ρ) : Goal P R A ρ g o n k := by
  have bY := getO_bd (P := P) hg y
  have hxv : xv.bd n := by
    cases src with
    | none => rw [hnone rfl]; exact getO_bd hg x
    | some t => rw [(hsrc t rfl).2]; exact hg t
  unfold appendOp at h
  split at h
  · rename_i e hT
    split at h
    · rename_i i hi
      split at h
      · rename_i z hz
        split at h
        · rename_i hh
          split at h
          · rename_i e' xs f s ys hy
            rw [hy] at bY
            split at h
            · rename_i t
              obtain ⟨rfl, hx⟩ := hsrc t rfl
              split at h
              · rename_i he
                obtain ⟨rfl, rfl⟩ := he
                refine goal0 h.2 ⟨hxv, bY⟩ (us1 hxv) ?_
                exact exok_append_own (σ := fun d => (g d).den ρ) ho hc hargs hts hT hi hz hh.1 (by show (g t).den ρ = _; rw [← hx]; rfl) (getS_of ρ hy) h.1
              · exact h.elim
            · exact h.elim
          · rename_i s0 f s ys hy
            rw [hy] at bY
            split at h
            · rename_i he
              subst he
              refine goal0 h.2 bY (by simp) ?_
              have hx : getS P (fun d => (g d).den ρ) x = .slice true s0 [] := by
                cases src with
                | none => exact getS_of ρ (hnone rfl).symm
                | some t =>
                  obtain ⟨rfl, hx⟩ := hsrc t rfl
                  simp only [getS, ← hx]
                  rfl
              exact exok_append_full (σ := fun d => (g d).den ρ) ho hc hargs hts hT hi hz hh.1 hx (getS_of ρ hy) h.1
            · exact h.elim
          · exact h.elim
        · exact h.elim
      · exact h.elim
    · exact h.elim
  · exact h.elim

theorem op_append {c : Call} (hg : ∀ d, (g d).bd n) (ho : o.op = .call c) (hc : c.callee = .builtin .append) (h : (evOp P E tk g o n k).wp P R A ρ) : Goal P R A ρ g o n k := by
  simp only [evOp, ho, hc] at h
  split at h
  · rename_i x y T T' hargs hts
    split at h
    · rename_i hTT
      subst hTT
      split at h
      · rename_i t ht
        have hx : x = .tmp t := by cases x <;> simp [slotOf] at ht; rw [ht]
        exact appendOp_ok (some t) hg ho hc hargs hts (fun t' ht' => by simp only [Option.some.injEq] at ht'; subst ht'; exact ⟨hx, rfl⟩) (fun h => by cases h) h
      · exact appendOp_ok none hg ho hc hargs hts (fun t' ht' => by cases ht') (fun _ => rfl) h
    · exact h.elim
  · exact h.elim

theorem two_of {c : Call} {ka kb : IntKind} {a b : IE} (h : c.args.toList.map (getO P g) = [.c (.int ka a), .c (.int kb b)]) :
    ∃ x y, c.args.toList = [x, y] ∧ getO P g x = .c (.int ka a) ∧ getO P g y = .c (.int kb b) := by
  cases hl : c.args.toList with
  | nil => simp [hl] at h
  | cons x l =>
    cases l with
    | nil => simp [hl] at h
    | cons y l =>
      cases l with
      | nil => simp only [hl, List.map_cons, List.map_nil, List.cons.injEq, and_true] at h; exact ⟨x, y, rfl, h.1, h.2⟩
      | cons z l => simp [hl] at h

theorem op_min {c : Call} (hg : ∀ d, (g d).bd n) (ho : o.op = .call c) (hc : c.callee = .builtin .min) (h : (evOp P E tk g o n k).wp P R A ρ) : Goal P R A ρ g o n k := by
  simp only [evOp, ho, hc] at h
  split at h
  · rename_i ka a kb b hl
    obtain ⟨x, y, h1, h2, h3⟩ := two_of hl
    split at h
    · rename_i he
      subst he
      have b1 := getO_bd (P := P) hg x
      have b2 := getO_bd (P := P) hg y
      rw [h2] at b1
      rw [h3] at b2
      exact goalP h ⟨b1, b2⟩ (exok_minmax (mn := true) ho hc h1 (getS_of ρ h2) (getS_of ρ h3))
    · exact h.elim
  · exact h.elim

theorem op_max {c : Call} (hg : ∀ d, (g d).bd n) (ho : o.op = .call c) (hc : c.callee = .builtin .max) (h : (evOp P E tk g o n k).wp P R A ρ) : Goal P R A ρ g o n k := by
  simp only [evOp, ho, hc] at h
  split at h
  · rename_i ka a kb b hl
    obtain ⟨x, y, h1, h2, h3⟩ := two_of hl
    split at h
    · rename_i he
      subst he
      have b1 := getO_bd (P := P) hg x
      have b2 := getO_bd (P := P) hg y
      rw [h2] at b1
      rw [h3] at b2
      exact goalP h ⟨b1, b2⟩ (exok_minmax (mn := false) ho hc h1 (getS_of ρ h2) (getS_of ρ h3))
    · exact h.elim
  · exact h.elim

theorem sak_slots (ρ : Nat → V) (l : List SAK) : (l.map (SAK.den ρ)).filterMap AK.slot = l.filterMap SAK.slot := by
  rw [List.filterMap_map]
  congr 1
  funext a
  exact sak_slot ρ a

theorem op_call {c : Call} {f : FuncId} (ho : o.op = .call c) (hc : c.callee = .value (.func f)) (h : (evOp P E tk g o n k).wp P R A ρ) : Goal P R A ρ g o n k := by
  simp only [evOp, ho, hc] at h
  split at h
  · rename_i saks Ts hs _
    split at h
    · rename_i hnd
      split at h
      · rename_i res sh n' hr
        obtain ⟨q1, q2, q3⟩ := resultAt_ok hr
        obtain ⟨vs, h1, h2⟩ := h
        obtain ⟨a1, a2⟩ := argsOf_ok ρ _ _ hs
        have hlen : ((outsOf (saks.map SAK.sv) n').1).length = saks.length := by rw [outsOf_len, List.length_map]
        refine ⟨bind ρ n vs, (outsOf (saks.map SAK.sv) n').2.2, res, upsOf saks (outsOf (saks.map SAK.sv) n').1, saks.filterMap SAK.slot, Nat.le_trans q1 (outsOf_le _ _), bind_lt ρ n vs, SV.bd_mono (outsOf_le _ _) _ q2,
          upsOf_bd _ _ (outsOf_bd _ _), h2, ?_⟩
        have := exok_call (σ := fun d => (g d).den ρ) (aks := saks.map (SAK.den ρ)) (res := res.den (bind ρ n vs)) (outs := (outsOf (saks.map SAK.sv) n').1.map (SV.den (bind ρ n vs))) ho hc (by simpa using a1) a2
          (by rw [sak_slots]; exact nodupB_ok _ hnd) (by simp [hlen]) (fun i d cs y hi hy => ?_) (q3 _) ?_
        · rw [upsOf_den, sak_slots] at this
          exact this
        · rw [List.getElem?_map] at hi hy
          cases hsi : saks[i]? with
          | none => simp [hsi] at hi
          | some a =>
            cases hyi : (outsOf (saks.map SAK.sv) n').1[i]? with
            | none => simp [hyi] at hy
            | some y0 =>
              simp only [hsi, hyi, Option.map_some, Option.some.injEq] at hi hy
              subst hy
              cases a with
              | imm x => cases hi
              | own t e l => cases hi
              | box d0 cs0 =>
                obtain ⟨cs', rfl⟩ := outsOf_box (saks.map SAK.sv) n' i cs0 y0 (by rw [List.getElem?_map, hsi]; rfl) hyi
                exact ⟨_, rfl⟩
        · have he : (saks.map (SAK.den ρ)).map AK.av = (saks.map SAK.sv).map (SV.den ρ) := by
            rw [List.map_map, List.map_map]
            exact List.map_congr_left fun a _ => sak_av ρ a
          rw [he]
          exact h1
      · exact h.elim
    · exact h.elim
  · exact h.elim

theorem evOp_sound (hps : PlainSound P E.plain) (hg : ∀ d, (g d).bd n) (h : (evOp P E tk g o n k).wp P R A ρ) : Goal P R A ρ g o n k := by
  cases ho : o.op with
  | move x => exact op_move hg ho h
  | assign x => exact op_assign hg ho h
  | pick c a b => exact op_pick hg ho h
  | alloc T => exact op_alloc ho h
  | box T x => exact op_box hg ho h
  | build T parts => exact op_build hg ho h
  | buildSlice T len parts => exact op_buildSlice hg ho h
  | load T a => exact op_load hg ho h
  | store T a x => exact op_store hg ho h
  | nilCheck x => exact op_nilCheck hg ho h
  | binOp op T x y T' => exact bin_sound hps hg ho (by simp only [evOp, ho] at h; exact h)
  | unOp op T x => exact op_unOp hg ho h
  | convert S T x => exact op_convert hg ho h
  | fieldAddr T x f => exact op_fieldAddr hg ho h
  | indexAddr T x i => exact op_indexAddr hg ho h
  | makeSlice T a b => exact op_make hg ho h
  | slice T x lo hi mx => exact op_slice hg ho h
  | extract x i => exact op_extract hg ho h
  | call c =>
    cases hc : c.callee with
    | builtin b =>
      cases b with
      | len => exact op_len hg ho hc h
      | append => exact op_append hg ho hc h
      | copy => exact op_copy hg ho hc h
      | min => exact op_min hg ho hc h
      | max => exact op_max hg ho hc h
      | _ => simp only [evOp, ho, hc] at h; exact h.elim
    | value x =>
      cases x with
      | func f => exact op_call ho hc h
      | _ => simp only [evOp, ho, hc] at h; exact h.elim
    | _ => simp only [evOp, ho, hc] at h; exact h.elim
  | _ => simp only [evOp, ho] at h; exact h.elim

end

end Go.AM
end

section
namespace Go.AM

/-- What one operation asks of the slots, and what it makes of them. -/
structure Stp where
  F : List Nat
  ups : List (Nat × AV)

def StpOk (P : Program) (nt : Nat) (ops : Array Oper) (i : Nat) (pre : Nat → AV) (s : Stp) : Prop :=
  (∀ u ∈ s.ups, u.1 ∈ s.F) ∧
  ∀ (c : Ctx), c.P = P → c.nt = nt → ∀ (σ' : Nat → AV) (tm : Array Value) (w : World) (lim : Nat → Nat) (X : Nat → Nat → Option Nat),
    (∀ d ∈ s.F, σ' d = pre d) → Sim c σ' tm w lim X → ∀ (Q : Exit → Act → World → Prop) (K : Act → World → Prop),
      (∀ tm' w' lim' X', Sim c (updL σ' s.ups) tm' w' lim' X' → K ⟨tm', []⟩ w') → wpOp P ops Q i K ⟨tm, []⟩ w

def Chain (P : Program) (nt : Nat) (ops : Array Oper) : Nat → (Nat → AV) → List Stp → Prop
  | _, _, [] => True
  | i, σ, s :: ss => StpOk P nt ops i σ s ∧ Chain P nt ops (i + 1) (updL σ s.ups) ss

def runS (σ : Nat → AV) : List Stp → (Nat → AV)
  | [] => σ
  | s :: ss => runS (updL σ s.ups) ss

section
variable {P : Program} {nt : Nat} {ops : Array Oper} {Q : Exit → Act → World → Prop} {c : Ctx}

theorem chain_text (hc : c.P = P) (hn : c.nt = nt) : ∀ (ss : List Stp) (i : Nat) (σ : Nat → AV) (tm : Array Value) (w : World) (lim : Nat → Nat) (X : Nat → Nat → Option Nat),
    Chain P nt ops i σ ss → Sim c σ tm w lim X → (∀ tm' w' lim' X', Sim c (runS σ ss) tm' w' lim' X' → Q .normal ⟨tm', []⟩ w') → wpOps P ops Q (List.range' i ss.length) ⟨tm, []⟩ w
  | [], i, σ, tm, w, lim, X, _, hs, hk => by
    show Q .normal ⟨tm, []⟩ w
    exact hk tm w lim X hs
  | s :: ss, i, σ, tm, w, lim, X, h, hs, hk => by
    rw [List.length_cons, List.range'_succ, wpOps_cons]
    exact h.1.2 c hc hn σ tm w lim X (fun _ _ => rfl) hs Q _ fun tm' w' lim' X' hs' => chain_text hc hn ss (i + 1) _ tm' w' lim' X' h.2 hs' hk

/-- The last value that is laid into slot d. -/
def lastV : List (Nat × AV) → Nat → Option AV
  | [], _ => none
  | (e, x) :: us, d => match lastV us d with | some y => some y | none => if d = e then some x else none

theorem updL_last : ∀ (us : List (Nat × AV)) (σ : Nat → AV) (d : Nat), updL σ us d = (lastV us d).getD (σ d)
  | [], σ, d => rfl
  | (e, x) :: us, σ, d => by
    simp only [updL, lastV, updL_last us]
    cases lastV us d with
    | some y => rfl
    | none =>
      by_cases h : d = e
      · subst h; simp [upd]
      · simp [upd, h]

theorem lastV_none : ∀ (us : List (Nat × AV)) (d : Nat), d ∉ us.map (·.1) → lastV us d = none
  | [], d, _ => rfl
  | (e, x) :: us, d, h => by
    simp only [List.map_cons, List.mem_cons, not_or] at h
    simp only [lastV, lastV_none us d h.2, if_neg h.1]

theorem lastV_some : ∀ (us : List (Nat × AV)) (d : Nat), d ∈ us.map (·.1) → ∃ x, lastV us d = some x
  | [], d, h => by simp at h
  | (e, x) :: us, d, h => by
    simp only [lastV]
    cases hl : lastV us d with
    | some y => exact ⟨y, rfl⟩
    | none =>
      simp only [List.map_cons, List.mem_cons] at h
      rcases h with h | h
      · subst h; exact ⟨x, by simp⟩
      · obtain ⟨y, hy⟩ := lastV_some us d h; rw [hl] at hy; cases hy

/-- What the operations of S among these have made of the slots. -/
def comp (S : Nat → Bool) : Nat → (Nat → AV) → List Stp → (Nat → AV)
  | _, σ, [] => σ
  | i, σ, s :: ss => comp S (i + 1) (if S i = true then updL σ s.ups else σ) ss

theorem comp_all (S : Nat → Bool) : ∀ (ss : List Stp) (i : Nat) (σ : Nat → AV), (∀ j, i ≤ j → j < i + ss.length → S j = true) → comp S i σ ss = runS σ ss
  | [], _, _, _ => rfl
  | s :: ss, i, σ, h => by
    simp only [comp, runS, h i (Nat.le_refl _) (by simp), if_true]
    exact comp_all S ss (i + 1) _ fun j h1 h2 => h j (by omega) (by simp only [List.length_cons]; omega)

theorem comp_none (S : Nat → Bool) : ∀ (ss : List Stp) (i : Nat) (σ : Nat → AV), (∀ j, i ≤ j → j < i + ss.length → S j = false) → comp S i σ ss = σ
  | [], _, _, _ => rfl
  | s :: ss, i, σ, h => by
    simp only [comp, h i (Nat.le_refl _) (by simp), Bool.false_eq_true, if_false]
    exact comp_none S ss (i + 1) _ fun j h1 h2 => h j (by omega) (by simp only [List.length_cons]; omega)

/-- Slot d is the same where the two sets agree on what writes it, and the starts agree. -/
theorem comp_congr {d : Nat} (S T : Nat → Bool) : ∀ (ss : List Stp) (i : Nat) (σ τ : Nat → AV), σ d = τ d → (∀ (j : Nat) (s : Stp), ss[j]? = some s → d ∈ s.ups.map (·.1) → S (i + j) = T (i + j)) → comp S i σ ss d = comp T i τ ss d
  | [], _, _, _, h, _ => h
  | s :: ss, i, σ, τ, h, hS => by
    simp only [comp]
    refine comp_congr S T ss (i + 1) _ _ ?_ fun j s' hs' hd => by
      have := hS (j + 1) s' (by simpa using hs') hd
      rw [show i + 1 + j = i + (j + 1) by omega]
      exact this
    by_cases hd : d ∈ s.ups.map (·.1)
    · have h0 := hS 0 s rfl hd
      rw [Nat.add_zero] at h0
      rw [h0]
      split
      · rw [updL_last, updL_last, h]
      · exact h
    · have hl := lastV_none s.ups d hd
      split <;> split <;> first
        | (rw [updL_last, updL_last, hl]; exact h)
        | (rw [updL_last, hl]; exact h)
        | exact h

theorem runS_take : ∀ (ss : List Stp) (i : Nat) (σ : Nat → AV) (m : Nat), comp (fun j => decide (j < i + m)) i σ ss = runS σ (ss.take m)
  | [], i, σ, m => by simp [comp, runS]
  | s :: ss, i, σ, 0 => by
    rw [List.take_zero]
    exact comp_none _ (s :: ss) i σ fun j h1 _ => by simp; omega
  | s :: ss, i, σ, m + 1 => by
    simp only [comp, List.take_succ_cons, runS, decide_eq_true_eq]
    rw [if_pos (by omega), ← runS_take ss (i + 1)]
    congr 1
    funext j
    rw [show i + 1 + m = i + (m + 1) by omega]

theorem chain_at : ∀ (ss : List Stp) (i : Nat) (σ : Nat → AV), Chain P nt ops i σ ss → ∀ (j : Nat) (s : Stp), ss[j]? = some s → StpOk P nt ops (i + j) (runS σ (ss.take j)) s
  | [], _, _, _, j, s, h => by simp at h
  | s0 :: ss, i, σ, hc, 0, s, h => by
    simp only [List.getElem?_cons_zero, Option.some.injEq] at h
    subst h
    exact hc.1
  | s0 :: ss, i, σ, hc, j + 1, s, h => by
    have := chain_at ss (i + 1) _ hc.2 j s (by simpa using h)
    rw [show i + (j + 1) = i + 1 + j by omega]
    exact this

/-- Any order: what has not its place by the edges touches nothing in common. -/
theorem chain_any (hc : c.P = P) (hn : c.nt = nt) {ss : List Stp} {σ : Nat → AV} (hch : Chain P nt ops 0 σ ss) (hlen : ss.length = ops.size)
    (hlow : ∀ (i : Nat) (o : Oper), ops[i]? = some o → ∀ e ∈ o.after, Region.binds .any e = true → e.on < i)
    (hind : ∀ (i j : Nat) (a b : Stp), ss[i]? = some a → ss[j]? = some b → j < i → (∃ S : Nat → Prop, (∀ k o, ops[k]? = some o → S k → ∀ e ∈ o.after, Region.binds .any e = true → S e.on) ∧ S i ∧ ¬ S j) →
      (∀ d ∈ b.ups.map (·.1), d ∉ a.F) ∧ ∀ d ∈ a.ups.map (·.1), d ∉ b.F) (hfin : ∀ tm' w' lim' X', Sim c (runS σ ss) tm' w' lim' X' → Q .normal ⟨tm', []⟩ w') :
    ∀ (fuel : Nat) (listed : Array Bool) (tm : Array Value) (w : World) (lim : Nat → Nat) (X : Nat → Nat → Option Nat), listed.size = ops.size →
      (∀ k o, ops[k]? = some o → listed.getD k false = true → ∀ e ∈ o.after, Region.binds .any e = true → listed.getD e.on false = true) →
      ((List.range ops.size).countP (fun i => !listed.getD i false) ≤ fuel) →
      Sim c (comp (fun i => listed.getD i false) 0 σ ss) tm w lim X → wpAny P .any ops Q fuel listed ⟨tm, []⟩ w := by
  -- where nothing is ready, all is done
  have hdone : ∀ (listed : Array Bool), listed.size = ops.size → Region.ready .any ops listed = [] → ∀ j, j < ops.size → listed.getD j false = true := by
    intro listed hsz hr j
    induction j using Nat.strongRecOn with
    | _ j ih =>
      intro hj
      cases hl : listed.getD j false with
      | true => rfl
      | false =>
        have : j ∈ Region.ready .any ops listed := by
          rw [mem_ready]
          refine ⟨?_, ops[j], Array.getElem?_eq_getElem hj, fun e he hb => ?_⟩
          · simp only [Array.getD, hsz, hj, dite_true] at hl ⊢
            exact hl
          · have hlt := hlow j _ (Array.getElem?_eq_getElem hj) e he hb
            exact ih e.on hlt (by omega)
        rw [hr] at this
        cases this
  have hend : ∀ (listed : Array Bool) (tm : Array Value) (w : World) (lim : Nat → Nat) (X : Nat → Nat → Option Nat), listed.size = ops.size → Region.ready .any ops listed = [] →
      Sim c (comp (fun i => listed.getD i false) 0 σ ss) tm w lim X → Q .normal ⟨tm, []⟩ w := by
    intro listed tm w lim X hsz hr hs
    rw [comp_all _ ss 0 σ fun j _ h2 => hdone listed hsz hr j (by omega)] at hs
    exact hfin tm w lim X hs
  intro fuel
  induction fuel with
  | zero =>
    intro listed tm w lim X hsz hcl hcnt hs
    have hall : ∀ j, j < ops.size → listed.getD j false = true := by
      intro j hj
      have h0 : (List.range ops.size).countP (fun i => !listed.getD i false) = 0 := by omega
      have := (List.countP_eq_zero.1 h0) j (by simpa using hj)
      simpa using this
    have hr : Region.ready .any ops listed = [] := by
      refine List.eq_nil_iff_forall_not_mem.2 fun j hj => ?_
      obtain ⟨h1, o, h2, _⟩ := mem_ready.1 hj
      have hlt := (Array.getElem?_eq_some_iff.1 h2).1
      have := hall j hlt
      simp only [Array.getD, hsz, hlt, dite_true] at h1 this
      rw [h1] at this
      cases this
    exact ⟨hr, hend listed tm w lim X hsz hr hs⟩
  | succ fuel ih =>
    intro listed tm w lim X hsz hcl hcnt hs
    refine ⟨fun hr => hend listed tm w lim X hsz hr hs, fun i hi => ?_⟩
    obtain ⟨h1, o, h2, h3⟩ := mem_ready.1 hi
    have hlt := (Array.getElem?_eq_some_iff.1 h2).1
    have hun : listed.getD i false = false := by
      simp only [Array.getD, hsz, hlt, dite_true] at h1 ⊢
      exact h1
    obtain ⟨s, hsi⟩ : ∃ s, ss[i]? = some s := ⟨_, List.getElem?_eq_getElem (by omega)⟩
    have hst := chain_at ss 0 σ hch i s hsi
    rw [Nat.zero_add] at hst
    have hset : ∀ j, (listed.setIfInBounds i true).getD j false = if j = i then true else listed.getD j false := by
      intro j
      by_cases hji : j = i
      · subst hji
        simp [Array.getD, hsz, hlt]
      · rw [if_neg hji, getD_set_ne false (Ne.symm hji)]
    -- i is not before what is listed
    have hnot : ∀ j, listed.getD j false = true → ∃ S : Nat → Prop, (∀ k o, ops[k]? = some o → S k → ∀ e ∈ o.after, Region.binds .any e = true → S e.on) ∧ S j ∧ ¬ S i :=
      fun j hj => ⟨fun k => listed.getD k false = true, hcl, hj, by simp [hun]⟩
    -- what is not listed is not before i
    have hnot' : ∀ j, j ≠ i → listed.getD j false = false → ∃ S : Nat → Prop, (∀ k o, ops[k]? = some o → S k → ∀ e ∈ o.after, Region.binds .any e = true → S e.on) ∧ S i ∧ ¬ S j := by
      intro j hji hj
      refine ⟨fun k => k = i ∨ listed.getD k false = true, fun k o' hk hS e he hb => ?_, .inl rfl, by simp [hji, hj]⟩
      rcases hS with rfl | hS
      · rw [h2] at hk
        cases hk
        exact .inr (h3 e he hb)
      · exact .inr (hcl k o' hk hS e he hb)
    have hpre : ∀ d ∈ s.F, comp (fun i => listed.getD i false) 0 σ ss d = runS σ (ss.take i) d := by
      intro d hd
      rw [← runS_take ss 0 σ i]
      refine comp_congr _ _ ss 0 σ σ rfl fun j s' hj hdj => ?_
      simp only [Nat.zero_add]
      rcases Nat.lt_trichotomy j i with hlt' | rfl | hgt
      · simp only [hlt', decide_true]
        cases hl : listed.getD j false with
        | true => rfl
        | false => exact (((hind i j s s' hsi hj hlt' (hnot' j (by omega) hl)).1 d hdj) hd).elim
      · simp [hun]
      · have hf : decide (j < i) = false := by simp; omega
        rw [hf]
        cases hl : listed.getD j false with
        | false => rfl
        | true => exact (((hind j i s' s hj hsi hgt (hnot j hl)).2 d hdj) hd).elim
    refine hst.2 c hc hn _ tm w lim X hpre hs Q _ fun tm' w' lim' X' hs' => ?_
    refine ih (listed.setIfInBounds i true) tm' w' lim' X' (by simpa using hsz) ?_ ?_ ?_
    · intro k o' hk hl e he hb
      rw [hset] at hl ⊢
      by_cases hei : e.on = i
      · simp [hei]
      · rw [if_neg hei]
        by_cases hki : k = i
        · subst hki
          rw [h2] at hk
          cases hk
          exact h3 e he hb
        · rw [if_neg hki] at hl
          exact hcl k o' hk hl e he hb
    · have hlt2 : (List.range ops.size).countP (fun j => !(listed.setIfInBounds i true).getD j false) < (List.range ops.size).countP (fun j => !listed.getD j false) := by
        have key : ∀ (l : List Nat), i ∈ l → l.countP (fun j => !(listed.setIfInBounds i true).getD j false) < l.countP (fun j => !listed.getD j false) := by
          have hle : ∀ (l : List Nat), l.countP (fun j => !(listed.setIfInBounds i true).getD j false) ≤ l.countP (fun j => !listed.getD j false) := by
            intro l
            refine List.countP_mono_left fun j _ hj => ?_
            rw [hset] at hj
            split at hj
            · simp at hj
            · exact hj
          intro l
          induction l with
          | nil => intro h; cases h
          | cons x l ihl =>
            intro h
            rw [List.countP_cons, List.countP_cons]
            by_cases hx : x = i
            · subst hx
              have h1 : (listed.setIfInBounds x true).getD x false = true := by rw [hset, if_pos rfl]
              have := hle l
              rw [h1, hun]
              simp only [Bool.not_true, Bool.not_false, Bool.false_eq_true, if_false, if_true]
              omega
            · have := ihl (by rcases List.mem_cons.1 h with h | h; exact (hx h.symm).elim; exact h)
              rw [hset x, if_neg hx]
              omega
        exact key _ (by simpa using hlt)
      omega
    · have he : comp (fun j => (listed.setIfInBounds i true).getD j false) 0 σ ss = updL (comp (fun i => listed.getD i false) 0 σ ss) s.ups := by
        funext d
        rw [updL_last]
        by_cases hd : d ∈ s.ups.map (·.1)
        · have hdF : d ∈ s.F := by
            obtain ⟨u, hu, rfl⟩ := List.mem_map.1 hd
            exact hst.1 u hu
          -- nothing behind i that is listed writes d
          rw [comp_congr (d := d) _ (fun j => decide (j < i + 1)) ss 0 σ σ rfl fun j s' hj hdj => ?_]
          · have := runS_take ss 0 σ (i + 1)
            rw [Nat.zero_add] at this
            rw [this, List.take_add_one, hsi]
            have happ : ∀ (l : List Stp) (τ : Nat → AV), runS τ (l ++ [s]) = updL (runS τ l) s.ups := by
              intro l
              induction l with
              | nil => intro τ; rfl
              | cons x l ihl => intro τ; exact ihl _
            show runS σ (ss.take i ++ [s]) d = _
            rw [happ, updL_last]
            obtain ⟨x, hx⟩ := lastV_some s.ups d hd
            rw [hx]
            rfl
          · rw [Nat.zero_add, hset]
            rcases Nat.lt_trichotomy j i with hlt' | rfl | hgt
            · have : decide (j < i + 1) = true := by simp; omega
              rw [this, if_neg (by omega)]
              cases hl : listed.getD j false with
              | true => rfl
              | false => exact (((hind i j s s' hsi hj hlt' (hnot' j (by omega) hl)).1 d hdj) hdF).elim
            · simp
            · have : decide (j < i + 1) = false := by simp; omega
              rw [this, if_neg (by omega)]
              cases hl : listed.getD j false with
              | false => rfl
              | true => exact (((hind j i s' s hj hsi hgt (hnot j hl)).2 d hdj) hdF).elim
        · rw [lastV_none s.ups d hd]
          refine comp_congr _ _ ss 0 σ σ rfl fun j s' hj hdj => ?_
          rw [Nat.zero_add, hset]
          by_cases hji : j = i
          · subst hji
            rw [hsi] at hj
            cases hj
            exact (hd hdj).elim
          · rw [if_neg hji]
      rw [he]
      exact hs'

end

/-- What 'Region.before' tells lies within what is closed. -/
theorem before_closed {ops : Array Oper} {S : Nat → Prop} (hS : ∀ k o, ops[k]? = some o → S k → ∀ e ∈ o.after, Region.binds .any e = true → S e.on) (i j : Nat) (hi : S i)
    (hb : ((Region.before ops).getD i 0).testBit j = true) : S j := by
  have inner : ∀ (acc : Array Nat), (∀ i j, S i → (acc.getD i 0).testBit j = true → S j) → ∀ (l : List Edge), (∀ e ∈ l, Region.binds .any e = true → S e.on) → ∀ (s : Nat), (∀ j, s.testBit j = true → S j) →
      ∀ j, (l.foldl (fun s e => if Region.binds .any e then s ||| 2 ^ e.on ||| acc.getD e.on 0 else s) s).testBit j = true → S j := by
    intro acc hacc l
    induction l with
    | nil => intro _ s hs j hj; exact hs j hj
    | cons e l ih =>
      intro hl s hs j hj
      rw [List.foldl_cons] at hj
      refine ih (fun e' he' => hl e' (by simp [he'])) _ ?_ j hj
      intro j' hj'
      split at hj'
      · rename_i hbd
        have hon := hl e (by simp) hbd
        rw [Nat.testBit_or, Nat.testBit_or, Nat.testBit_two_pow, Bool.or_eq_true, Bool.or_eq_true, decide_eq_true_eq] at hj'
        rcases hj' with (h | h) | h
        · exact hs j' h
        · rw [← h]; exact hon
        · exact hacc e.on j' hon h
      · exact hs j' hj'
  have outer : ∀ (l : List Oper) (acc : Array Nat), (∀ j, l[j]? = ops[acc.size + j]?) → (∀ i j, S i → (acc.getD i 0).testBit j = true → S j) →
      ∀ i j, S i → ((l.foldl (fun acc o => acc.push (o.after.foldl (fun s e => if Region.binds .any e then s ||| 2 ^ e.on ||| acc.getD e.on 0 else s) 0)) acc).getD i 0).testBit j = true → S j := by
    intro l
    induction l with
    | nil => intro acc _ hacc i j hi hj; exact hacc i j hi hj
    | cons o l ih =>
      intro acc hl hacc i j hi hj
      rw [List.foldl_cons] at hj
      refine ih _ (fun j => ?_) ?_ i j hi hj
      · have := hl (j + 1)
        simp only [List.getElem?_cons_succ, Array.size_push] at this ⊢
        rw [this]
        congr 1
        omega
      · intro i' j' hi' hj'
        have h0 : ops[acc.size]? = some o := by simpa using (hl 0).symm
        by_cases h : i' < acc.size
        · refine hacc i' j' hi' ?_
          simp only [Array.getD, Array.size_push, h, dite_true] at hj' ⊢
          rw [dif_pos (by omega)] at hj'
          simp only [Array.getInternal_eq_getElem, Array.getElem_push, h, dite_true] at hj' ⊢
          exact hj'
        · by_cases h' : i' = acc.size
          · subst h'
            have : (acc.push (o.after.foldl (fun s e => if Region.binds .any e then s ||| 2 ^ e.on ||| acc.getD e.on 0 else s) 0)).getD acc.size 0 = o.after.foldl (fun s e => if Region.binds .any e then s ||| 2 ^ e.on ||| acc.getD e.on 0 else s) 0 := by
              simp [Array.getD]
            rw [this, ← Array.foldl_toList] at hj'
            exact inner acc hacc o.after.toList (fun e he hb => hS acc.size o h0 hi' e (by simpa using he) hb) 0 (by simp) j' hj'
          · have : (acc.push (o.after.foldl (fun s e => if Region.binds .any e then s ||| 2 ^ e.on ||| acc.getD e.on 0 else s) 0)).getD i' 0 = 0 := by
              simp only [Array.getD, Array.size_push]
              rw [dif_neg (by omega)]
            rw [this] at hj'
            simp at hj'
  have := outer ops.toList #[] (fun j => by simp) (fun i j _ h => by simp at h) i j hi
  apply this
  rw [Array.foldl_toList]
  exact hb

end Go.AM
end

section
namespace Go.AM

theorem Tr.get_set : ∀ (k : Nat) (t : Tr) (d i : Nat) (x : SV), d < 2 ^ k → i < 2 ^ k → (Tr.set k t d x).get i = if i = d then x else t.get i
  | 0, t, d, i, x, hd, hi => by
    have h1 : d = 0 := by simpa using hd
    have h2 : i = 0 := by simpa using hi
    subst h1
    subst h2
    rfl
  | k + 1, .node l r, d, i, x, hd, hi => by
    have hd2 : d / 2 < 2 ^ k := by rw [Nat.pow_succ] at hd; omega
    have hi2 : i / 2 < 2 ^ k := by rw [Nat.pow_succ] at hi; omega
    have ihl := Tr.get_set k l (d / 2) (i / 2) x hd2 hi2
    have ihr := Tr.get_set k r (d / 2) (i / 2) x hd2 hi2
    rcases Nat.mod_two_eq_zero_or_one d with h | h <;> rcases Nat.mod_two_eq_zero_or_one i with h' | h'
    · simp only [Tr.set, h, Tr.get, h', ihl]
      by_cases he : i = d
      · simp [he]
      · rw [if_neg he, if_neg (by omega)]
    · simp only [Tr.set, h, Tr.get, h']
      rw [if_neg (by omega)]
    · simp only [Tr.set, h, Tr.get, h']
      rw [if_neg (by omega)]
    · simp only [Tr.set, h, Tr.get, h', ihr]
      by_cases he : i = d
      · simp [he]
      · rw [if_neg he, if_neg (by omega)]
  | k + 1, .leaf y, d, i, x, hd, hi => by
    have hd2 : d / 2 < 2 ^ k := by rw [Nat.pow_succ] at hd; omega
    have hi2 : i / 2 < 2 ^ k := by rw [Nat.pow_succ] at hi; omega
    have ih := Tr.get_set k (.leaf y) (d / 2) (i / 2) x hd2 hi2
    rcases Nat.mod_two_eq_zero_or_one d with h | h <;> rcases Nat.mod_two_eq_zero_or_one i with h' | h'
    · simp only [Tr.set, h, Tr.get, h', ih]
      by_cases he : i = d
      · simp [he]
      · rw [if_neg he, if_neg (by omega)]
    · simp only [Tr.set, h, Tr.get, h']
      rw [if_neg (by omega)]
    · simp only [Tr.set, h, Tr.get, h']
      rw [if_neg (by omega)]
    · simp only [Tr.set, h, Tr.get, h', ih]
      by_cases he : i = d
      · simp [he]
      · rw [if_neg he, if_neg (by omega)]

def sden (E : Env) (s : Tr) (ρ : Nat → V) : Nat → AV := fun d => (gE E s d).den ρ
def stBd (E : Env) (s : Tr) (n : Nat) : Prop := ∀ d, (gE E s d).bd n

section
variable {P : Program} {E : Env} {R : AV → List AV → Prop} {A : Nat → List V → Prop}

theorem gE_set (hnt : E.nt ≤ 1024) {d : Nat} (hd : d < E.nt) (s : Tr) (x : SV) (i : Nat) : gE E (s.set depth d x) i = if i = d then x else gE E s i := by
  unfold gE
  by_cases hi : i < E.nt
  · rw [if_pos hi, if_pos hi]
    exact Tr.get_set 10 s d i x (by omega) (by omega)
  · rw [if_neg hi, if_neg hi, if_neg (by omega)]

theorem sden_set (hnt : E.nt ≤ 1024) {d : Nat} (hd : d < E.nt) (s : Tr) (x : SV) (ρ : Nat → V) : sden E (s.set depth d x) ρ = upd (sden E s ρ) d (x.den ρ) := by
  funext i
  simp only [sden, gE_set hnt hd, upd]
  split <;> rfl

theorem stBd_set (hnt : E.nt ≤ 1024) {d n : Nat} (hd : d < E.nt) {s : Tr} {x : SV} (hs : stBd E s n) (hx : x.bd n) : stBd E (s.set depth d x) n := by
  intro i
  rw [gE_set hnt hd]
  split
  · exact hx
  · exact hs i

def usLow (E : Env) (us : Ups) : Prop := us.all (fun u => decide (u.1 < E.nt)) = true

theorem sden_applyU (hnt : E.nt ≤ 1024) (ρ : Nat → V) : ∀ (us : Ups) (s : Tr), usLow E us → sden E (applyU us s) ρ = updL (sden E s ρ) (us.map fun u => (u.1, u.2.den ρ))
  | [], _, _ => rfl
  | (d, x) :: us, s, h => by
    simp only [usLow, List.all_cons, Bool.and_eq_true, decide_eq_true_eq] at h
    simp only [applyU, List.map_cons, updL]
    rw [sden_applyU hnt ρ us _ h.2, sden_set hnt h.1]

theorem stBd_applyU (hnt : E.nt ≤ 1024) {n : Nat} : ∀ (us : Ups) (s : Tr), usLow E us → stBd E s n → (∀ u ∈ us, u.2.bd n) → stBd E (applyU us s) n
  | [], _, _, hs, _ => hs
  | (d, x) :: us, s, h, hs, hu => by
    simp only [usLow, List.all_cons, Bool.and_eq_true, decide_eq_true_eq] at h
    exact stBd_applyU hnt us _ h.2 (stBd_set hnt h.1 hs (hu (d, x) (by simp))) fun u h' => hu u (by simp [h'])

theorem stBd_mono {s : Tr} {n n' : Nat} (h : stBd E s n) (hn : n ≤ n') : stBd E s n' := fun d => SV.bd_mono hn _ (h d)

theorem sden_congr {s : Tr} {n : Nat} {ρ ρ' : Nat → V} (h : stBd E s n) (hρ : ∀ m, m < n → ρ' m = ρ m) : sden E s ρ' = sden E s ρ := by
  funext d
  exact SV.den_congr hρ _ (h d)

theorem notBox_den {x : SV} (ρ : Nat → V) (h : ∀ cs, x ≠ .box cs) : ∀ cs, x.den ρ ≠ .box cs := by
  intro cs he
  cases x with
  | box ds => exact h ds rfl
  | c y => cases y <;> cases he
  | _ => cases he

theorem mayPutS_of {a b : AV} (ha : ∀ cs, a ≠ .box cs) (hb : (∀ cs, b ≠ .box cs) ∨ a = .dead) : mayPutS a b = true := by
  unfold mayPutS
  split
  · rename_i cs; exact (ha cs rfl).elim
  · rfl
  · rename_i h1 h2
    rcases hb with hb | hb
    · exact (hb _ rfl).elim
    · exact (h2 hb).elim
  · rfl

theorem mayPut_den {a b : SV} (ρ : Nat → V) (h : mayPut a b = true) : mayPutS (a.den ρ) (b.den ρ) = true := by
  cases a with
  | box cs => cases b <;> cases h
  | dead => exact mayPutS_of (notBox_den ρ (fun _ h => by cases h)) (.inr rfl)
  | _ =>
    cases b with
    | box cs => cases h
    | _ => exact mayPutS_of (notBox_den ρ (fun _ h => by cases h)) (.inl (notBox_den ρ (fun _ h => by cases h)))

theorem updL_append (σ : Nat → AV) : ∀ (us vs : List (Nat × AV)), updL σ (us ++ vs) = updL (updL σ us) vs
  | [], _ => rfl
  | (d, x) :: us, vs => by
    simp only [List.cons_append, updL]
    exact updL_append _ us vs

theorem yielded_of {c : Ctx} {σ : Nat → AV} {tm : Array Value} {w : World} {lim : Nat → Nat} {X : Nat → Nat → Option Nat} (h : Sim c σ tm w lim X) {ops : Array Oper} {j gd : Nat} {b : Bool}
    (hd : (ops[j]?).bind (·.dst) = some gd) (hb : σ gd = .val (.bool b)) : yielded ops tm j = some b := by
  have hlt : gd < tm.size := by
    rcases Nat.lt_or_ge gd c.nt with h1 | h1
    · rw [h.size]; exact h1
    · have := h.out gd h1; rw [hb] at this; cases this
  have hr := h.rel gd
  rw [hb] at hr
  have hv : tm.getD gd undef = .bool b := rep_val hr
  have h2 : tm[gd]? = some (.bool b) := by
    simp only [Array.getD, hlt, dite_true] at hv
    rw [Array.getElem?_eq_getElem hlt]
    exact congrArg some hv
  unfold yielded
  simp only [hd, Option.bind_some, h2]

theorem yielded_none {c : Ctx} {σ : Nat → AV} {tm : Array Value} {w : World} {lim : Nat → Nat} {X : Nat → Nat → Option Nat} (h : Sim c σ tm w lim X) {ops : Array Oper} {j gd : Nat}
    (hd : (ops[j]?).bind (·.dst) = some gd) (hb : σ gd = .tuple []) : yielded ops tm j = none := by
  have hr := h.rel gd
  rw [hb] at hr
  obtain ⟨us, h1, h2, _⟩ := hr
  have : us = [] := List.eq_nil_of_length_eq_zero h2
  subst this
  unfold yielded
  simp only [hd, Option.bind_some]
  by_cases hlt : gd < tm.size
  · simp only [Array.getD, hlt, dite_true] at h1
    have h3 : tm[gd]? = some (.tuple #[]) := by
      rw [Array.getElem?_eq_getElem hlt]
      exact congrArg some h1
    simp only [h3]
  · simp only [Array.getElem?_eq_none (Nat.le_of_not_lt hlt)]

theorem Sim.putUndef {c : Ctx} {σ : Nat → AV} {tm : Array Value} {w : World} {lim : Nat → Nat} {X : Nat → Nat → Option Nat} (h : Sim c σ tm w lim X) {d : Nat} (hd : d < c.nt) (hb : ∀ cs, σ d ≠ .box cs) :
    ∃ X', Sim c (upd σ d (.tuple [])) (tm.setIfInBounds d undef) w lim X' :=
  ⟨_, h.putRow noRow (WStep.refl w lim (fun _ => False)) (fun _ hs => hs.elim) hd (by simp) (fun i hi => getD_set_other tm d i undef hi) (.inl hb)
    ⟨[], by rw [getD_set tm d undef (by rw [h.size]; exact hd)]; rfl, rfl, by simp⟩ (fun k b hk => by simp [noRow] at hk) (fun k k' b hk => by simp [noRow] at hk)⟩

/-- What a guard says of the slots. -/
def guardOk (ops : Array Oper) (o : Oper) (σ : Nat → AV) (gs : List Nat) (v : Bool) : Prop :=
  (o.guard = none ∧ v = true) ∨ (∃ j want gd b, o.guard = some (j, want) ∧ (ops[j]?).bind (·.dst) = some gd ∧ gd ∈ gs ∧ σ gd = .val (.bool b) ∧ (v = true ↔ want = b)) ∨
  ∃ j want gd, o.guard = some (j, want) ∧ (ops[j]?).bind (·.dst) = some gd ∧ gd ∈ gs ∧ σ gd = .tuple [] ∧ v = false

theorem wanted_of {ops : Array Oper} {o : Oper} {σ : Nat → AV} {gs : List Nat} {v : Bool} (hg : guardOk ops o σ gs v) {c : Ctx} {σ' : Nat → AV} {tm : Array Value} {w : World} {lim : Nat → Nat} {X : Nat → Nat → Option Nat}
    (h : Sim c σ' tm w lim X) (hag : ∀ d ∈ gs, σ' d = σ d) : Region.wanted o (yielded ops tm) = v := by
  rcases hg with ⟨h1, h2⟩ | ⟨j, want, gd, b, h1, h2, h3, h4, h5⟩ | ⟨j, want, gd, h1, h2, h3, h4, h5⟩
  · unfold Region.wanted; rw [h1, h2]
  · have hy := yielded_of h h2 ((hag gd h3).trans h4)
    unfold Region.wanted
    rw [h1]
    simp only [hy]
    cases v <;> cases want <;> cases b <;> simp_all
  · have hy := yielded_none h h2 ((hag gd h3).trans h4)
    unfold Region.wanted
    rw [h1, h5]
    simp only [hy]
    rfl

/-- The outcome of one operation. -/
def StepGoal (P : Program) (E : Env) (R : AV → List AV → Prop) (A : Nat → List V → Prop) (ops : Array Oper) (i : Nat) (s : Tr) (ρ : Nat → V) (cont : Tr → Nat → Log → STree) : Prop :=
  ∃ (st : Stp) (ρ' : Nat → V) (n' : Nat) (s' : Tr), stBd E s' n' ∧ (cont s' n' ⟨i, st.F, st.ups.map (·.1)⟩).wp P R A ρ' ∧ StpOk P E.nt ops i (sden E s ρ) st ∧ sden E s' ρ' = updL (sden E s ρ) st.ups

variable {ops : Array Oper} {o : Oper} {i : Nat} {s : Tr} {n : Nat} {ρ : Nat → V} {cont : Tr → Nat → Log → STree} {gs : List Nat} {tk : Bool}

theorem evRun_sound (hps : PlainSound P E.plain) (hnt : E.nt ≤ 1024) (hi : ops[i]? = some o) (hs : stBd E s n) (hg : guardOk ops o (sden E s ρ) gs true) (h : (evRun P E tk o i s gs n cont).wp P R A ρ) :
    StepGoal P E R A ops i s ρ cont := by
  obtain ⟨ρ', n', x, us, fp, h1, h2, h3, h4, h5, h6⟩ := evOp_sound hps hs h
  have hσ : (fun d => (gE E s d).den ρ) = sden E s ρ := rfl
  rw [hσ] at h6
  have hs' : stBd E s n' := stBd_mono hs h1
  have hc := sden_congr hs h2
  dsimp only at h5
  split at h5
  case isFalse => exact h5.elim
  rename_i hlow
  have hfst : (us.map fun u => (u.1, u.2.den ρ')).map (·.1) = us.map (·.1) := by rw [List.map_map]; rfl
  have hden : sden E (applyU us s) ρ' = updL (sden E s ρ) (us.map fun u => (u.1, u.2.den ρ')) := by rw [sden_applyU hnt ρ' us s hlow, hc]
  split at h5
  · rename_i d hd
    split at h5
    · rename_i hh
      refine ⟨⟨usesOf o ++ gs ++ fp ++ us.map (·.1) ++ [d], (us.map fun u => (u.1, u.2.den ρ')) ++ [(d, x.den ρ')]⟩, ρ', n', (applyU us s).set depth d x, stBd_set hnt hh.1 (stBd_applyU hnt us s hlow hs' h4) h3, ?_, ⟨?_, ?_⟩, ?_⟩
      · rw [List.map_append, hfst]
        exact h5
      · intro u hu
        rcases List.mem_append.1 hu with hu | hu
        · refine List.mem_append.2 (.inl (List.mem_append.2 (.inr ?_)))
          rw [← hfst]
          exact List.mem_map.2 ⟨u, hu, rfl⟩
        · rw [List.mem_singleton] at hu
          subst hu
          simp
      · intro c hcP hcn σ' tm w lim X hag hsim Q K hK
        unfold wpOp
        simp only [hi]
        rw [wanted_of hg hsim fun d' hd' => hag d' (by simp [hd'])]
        rw [if_pos rfl]
        refine .inl (h6 c hcP σ' tm w lim X (fun d' hd' => hag d' (by
          rw [hfst] at hd'
          simp only [List.mem_append] at hd' ⊢
          rcases hd' with (hd' | hd') | hd' <;> simp [hd'])) hsim K Q fun v w' ha => ?_)
        rw [hd] at ha ⊢
        obtain ⟨lim', X', hsim'⟩ := ha (by rw [hcn]; exact hh.1) (by
          have : updL σ' (us.map fun u => (u.1, u.2.den ρ')) d = (gE E (applyU us s) d).den ρ' := by
            have h7 := congrFun hden d
            rw [updL_last] at h7 ⊢
            rw [hag d (by simp)]
            exact h7.symm
          rw [this]
          exact mayPut_den ρ' hh.2)
        refine hK _ w' lim' X' ?_
        rw [updL_append]
        exact hsim'
      · rw [sden_set hnt hh.1, hden, updL_append]
        rfl
    · exact h5.elim
  · rename_i hd
    refine ⟨⟨usesOf o ++ gs ++ fp ++ us.map (·.1), us.map fun u => (u.1, u.2.den ρ')⟩, ρ', n', applyU us s, stBd_applyU hnt us s hlow hs' h4, ?_, ⟨?_, ?_⟩, hden⟩
    · rw [hfst]
      exact h5
    · intro u hu
      refine List.mem_append.2 (.inr ?_)
      rw [← hfst]
      exact List.mem_map.2 ⟨u, hu, rfl⟩
    · intro c hcP hcn σ' tm w lim X hag hsim Q K hK
      unfold wpOp
      simp only [hi]
      rw [wanted_of hg hsim fun d' hd' => hag d' (by simp [hd'])]
      rw [if_pos rfl]
      refine .inl (h6 c hcP σ' tm w lim X (fun d' hd' => hag d' (by
        rw [hfst] at hd'
        simp only [List.mem_append] at hd' ⊢
        rcases hd' with (hd' | hd') | hd' <;> simp [hd'])) hsim K Q fun v w' ha => ?_)
      rw [hd] at ha ⊢
      obtain ⟨lim', X', hsim'⟩ := ha
      exact hK _ w' lim' X' hsim'

theorem evSkip_sound (hnt : E.nt ≤ 1024) (hi : ops[i]? = some o) (hs : stBd E s n) (hg : guardOk ops o (sden E s ρ) gs false) (h : (evSkip E o i s gs n cont).wp P R A ρ) :
    StepGoal P E R A ops i s ρ cont := by
  unfold evSkip at h
  split at h
  · rename_i d hd
    split at h
    · rename_i hh
      refine ⟨⟨gs ++ [d], [(d, .tuple [])]⟩, ρ, n, s.set depth d (.tuple []), stBd_set hnt hh.1 hs (by simp [SV.bd]), h, ⟨by simp, ?_⟩, sden_set hnt hh.1 _ _ _⟩
      intro c hcP hcn σ' tm w lim X hag hsim Q K hK
      unfold wpOp
      simp only [hi]
      rw [wanted_of hg hsim fun d' hd' => hag d' (by simp [hd'])]
      rw [if_neg (by simp), hd]
      obtain ⟨X', hs'⟩ := hsim.putUndef (d := d) (by rw [hcn]; exact hh.1) (by
        rw [hag d (by simp)]
        exact mayPutS_old (mayPut_den ρ hh.2))
      exact hK _ w lim X' hs'
    · exact h.elim
  · rename_i hd
    refine ⟨⟨gs, []⟩, ρ, n, s, hs, h, ⟨by simp, ?_⟩, rfl⟩
    intro c hcP hcn σ' tm w lim X hag hsim Q K hK
    unfold wpOp
    simp only [hi]
    rw [wanted_of hg hsim hag]
    rw [if_neg (by simp), hd]
    exact hK _ w lim X hsim

theorem sden_refine (hnt : E.nt ≤ 1024) {t : Nat} {b : BE} {v : Bool} (hb : gE E s t = .c (.bool b)) (hv : b.den ρ = v) : t < E.nt ∧ sden E (s.set depth t (.c (.bool (.lit v)))) ρ = sden E s ρ := by
  have hlt : t < E.nt := by
    unfold gE at hb
    split at hb
    · assumption
    · cases hb
  refine ⟨hlt, ?_⟩
  rw [sden_set hnt hlt]
  funext d
  by_cases hd : d = t
  · subst hd
    rw [upd_same]
    simp only [sden, hb, SV.den, SC.den, hv, BE.den]
  · rw [upd_other _ _ hd]

theorem evStep_sound (hps : PlainSound P E.plain) (hnt : E.nt ≤ 1024) (hi : ops[i]? = some o) (hs : stBd E s n) (h : (evStep P E tk ops o i s n cont).wp P R A ρ) : StepGoal P E R A ops i s ρ cont := by
  unfold evStep at h
  split at h
  · rename_i hg
    exact evRun_sound hps hnt hi hs (.inl ⟨hg, rfl⟩) h
  · rename_i j want hg
    split at h
    · exact h.elim
    · rename_i gd hgd
      split at h
      · rename_i hb
        have hv : sden E s ρ gd = .tuple [] := by simp only [sden, hb]; rfl
        exact evSkip_sound hnt hi hs (.inr (.inr ⟨j, want, gd, hg, hgd, by simp, hv, rfl⟩)) h
      · rename_i b hb
        have hv : sden E s ρ gd = .val (.bool b) := by simp only [sden, hb]; rfl
        split at h
        · rename_i hw
          exact evRun_sound hps hnt hi hs (.inr (.inl ⟨j, want, gd, b, hg, hgd, by simp, hv, by simp [hw]⟩)) h
        · rename_i hw
          exact evSkip_sound hnt hi hs (.inr (.inl ⟨j, want, gd, b, hg, hgd, by simp, hv, by simp [hw]⟩)) h
      · rename_i b _ hb
        obtain ⟨ht, hf⟩ := h
        have hcase : ∀ v, b.den ρ = v → (if want = v then evRun P E tk o i (s.set depth gd (.c (.bool (.lit v)))) [gd] n cont else evSkip E o i (s.set depth gd (.c (.bool (.lit v)))) [gd] n cont).wp P R A ρ → StepGoal P E R A ops i s ρ cont := by
          intro v hv hw
          obtain ⟨hlt, hsame⟩ := sden_refine hnt hb hv
          have hbd : stBd E (s.set depth gd (.c (.bool (.lit v)))) n := stBd_set hnt hlt hs trivial
          have hval : sden E (s.set depth gd (.c (.bool (.lit v)))) ρ gd = .val (.bool v) := by rw [hsame]; simp only [sden, hb, SV.den, SC.den, hv]
          have hgoal : StepGoal P E R A ops i (s.set depth gd (.c (.bool (.lit v)))) ρ cont := by
            split at hw
            · rename_i hw'
              exact evRun_sound hps hnt hi hbd (.inr (.inl ⟨j, want, gd, v, hg, hgd, by simp, hval, by simp [hw']⟩)) hw
            · rename_i hw'
              exact evSkip_sound hnt hi hbd (.inr (.inl ⟨j, want, gd, v, hg, hgd, by simp, hval, by simp [hw']⟩)) hw
          unfold StepGoal at hgoal ⊢
          rw [hsame] at hgoal
          exact hgoal
        cases hv : b.den ρ with
        | true => exact hcase true hv (ht hv)
        | false => exact hcase false hv (hf hv)
      · exact h.elim

def logsOf : Nat → List Stp → List Log
  | _, [] => []
  | i, s :: ss => logsOf (i + 1) ss ++ [⟨i, s.F, s.ups.map (·.1)⟩]

theorem logsOf_mem : ∀ (ss : List Stp) (i j : Nat) (s : Stp), ss[j]? = some s → (⟨i + j, s.F, s.ups.map (·.1)⟩ : Log) ∈ logsOf i ss
  | [], i, j, s, h => by simp at h
  | s0 :: ss, i, 0, s, h => by
    simp only [List.getElem?_cons_zero, Option.some.injEq] at h
    subst h
    simp [logsOf]
  | s0 :: ss, i, j + 1, s, h => by
    have := logsOf_mem ss (i + 1) j s (by simpa using h)
    rw [show i + (j + 1) = i + 1 + j by omega]
    exact List.mem_append.2 (.inl this)

theorem evOps_sound (hps : PlainSound P E.plain) (hnt : E.nt ≤ 1024) {tks : Nat → Bool} {k : Tr → Nat → List Log → STree} : ∀ (l : List Oper) (i : Nat) (s : Tr) (n : Nat) (logs : List Log) (ρ : Nat → V), (∀ j, l[j]? = ops[i + j]?) → stBd E s n →
    (evOps P E tks ops l i s n logs k).wp P R A ρ → ∃ (ss : List Stp) (ρ' : Nat → V) (n' : Nat) (s' : Tr), ss.length = l.length ∧ stBd E s' n' ∧ (k s' n' (logsOf i ss ++ logs)).wp P R A ρ' ∧
      Chain P E.nt ops i (sden E s ρ) ss ∧ sden E s' ρ' = runS (sden E s ρ) ss
  | [], i, s, n, logs, ρ, _, hs, h => ⟨[], ρ, n, s, rfl, hs, h, trivial, rfl⟩
  | o :: l, i, s, n, logs, ρ, hl, hs, h => by
    have h0 : ops[i]? = some o := by simpa using (hl 0).symm
    obtain ⟨st, ρ1, n1, s1, g1, g2, g3, g4⟩ := evStep_sound hps hnt h0 hs h
    obtain ⟨ss, ρ2, n2, s2, k1, k2, k3, k4, k5⟩ := evOps_sound hps hnt l (i + 1) s1 n1 _ ρ1 (fun j => by
      have := hl (j + 1)
      rw [show i + (j + 1) = i + 1 + j by omega] at this
      simpa using this) g1 g2
    refine ⟨st :: ss, ρ2, n2, s2, by simp [k1], k2, ?_, ⟨g3, ?_⟩, ?_⟩
    · simp only [logsOf, List.append_assoc, List.singleton_append]
      exact k3
    · rw [← g4]; exact k4
    · simp only [runS]
      rw [← g4]; exact k5

theorem disj_ok {a b : List Nat} (h : disj a b = true) : ∀ d ∈ a, d ∉ b := by
  intro d hd
  simp only [disj, List.all_eq_true] at h
  simpa using h d hd

theorem region_sound (hm : P.follows .mixedOrders = true) (hps : PlainSound P E.plain) (hnt : E.nt ≤ 1024) {id : Nat} {draw : Bool} {k : Tr → Nat → STree} {tks : Nat → Bool} (hs : stBd E s n)
    (h : (evOps P E tks ops ops.toList 0 s n [] fun s' n' logs => if draw = true then (if indepOk ops logs = true then k s' n' else .stuck 114) else k s' n').wp P R A ρ)
    {c : Ctx} (hcP : c.P = P) (hcn : c.nt = E.nt) {tm : Array Value} {w : World} {lim : Nat → Nat} {X : Nat → Nat → Option Nat} (hsim : Sim c (sden E s ρ) tm w lim X) {Q : Exit → Act → World → Prop}
    (hk : ∀ s' n' ρ', stBd E s' n' → (k s' n').wp P R A ρ' → ∀ tm' w' lim' X', Sim c (sden E s' ρ') tm' w' lim' X' → Q .normal ⟨tm', []⟩ w') : (Code.region id ops draw).wp P Q ⟨tm, []⟩ w := by
  obtain ⟨ss, ρ', n', s', h1, h2, h3, h4, h5⟩ := evOps_sound hps hnt ops.toList 0 s n [] ρ (by simp) hs h
  have hlen : ss.length = ops.size := by simpa using h1
  cases draw with
  | false =>
    refine wp_region ?_
    rw [List.range_eq_range', ← hlen]
    refine chain_text hcP hcn ss 0 _ tm w lim X h4 hsim fun tm' w' lim' X' hs' => hk s' n' ρ' h2 (by simpa using h3) tm' w' lim' X' ?_
    rw [h5]; exact hs'
  | true =>
    simp only [if_true] at h3
    split at h3
    · rename_i hi
      rw [List.append_nil] at hi
      simp only [indepOk, Bool.and_eq_true, CheckFast.beforeF_eq] at hi
      obtain ⟨hlow, hind⟩ := hi
      refine wp_region_any hm ?_
      have hsd : Sim c (sden E s ρ) tm w.drew lim X := hsim.world (WStep.refl w lim fun _ => False).drew fun b hb => hb.elim
      refine chain_any hcP hcn h4 hlen ?_ ?_ (fun tm' w' lim' X' hs' => hk s' n' ρ' h2 h3 tm' w' lim' X' (by rw [h5]; exact hs')) ops.size _ tm w.drew lim X (by simp) ?_ ?_ ?_
      · intro i o hio e he hb
        rw [List.all_eq_true] at hlow
        have := hlow (o, i) (by
          rw [List.mem_zipIdx_iff_getElem?]
          simpa using hio)
        rw [Array.all_eq_true_iff_forall_mem] at this
        have := this e he
        simpa [hb] using this
      · rintro i j a b hia hjb hji ⟨S, hS, hSi, hSj⟩
        rw [List.all_eq_true] at hind
        have m1 := logsOf_mem ss 0 i a hia
        have m2 := logsOf_mem ss 0 j b hjb
        rw [Nat.zero_add] at m1 m2
        have := hind _ m1
        rw [List.all_eq_true] at this
        have := this _ m2
        simp only [Bool.or_eq_true, Bool.and_eq_true, Bool.not_eq_true', decide_eq_false_iff_not] at this
        rcases this with (this | this) | this
        · exact (this hji).elim
        · exact (hSj (before_closed hS i j hSi this)).elim
        · exact ⟨disj_ok this.1, disj_ok this.2⟩
      · intro k o hk hl
        have hlt := (Array.getElem?_eq_some_iff.1 hk).1
        simp [Array.getD, hlt] at hl
      · have := List.countP_le_length (p := fun i => !(Array.replicate ops.size false).getD i false) (l := List.range ops.size)
        simpa using this
      · rw [comp_none]
        · exact hsd
        · intro j _ hj
          simp [Array.getD]
    · exact h3.elim

end

end Go.AM
end

section
namespace Go.AM

/-- A cell or component 'x' may stand where 'y' is looked for. -/
inductive CellW (P : Program) : AV → AV → Prop
  | same {x : AV} (h : x.isCell = true ∨ ∃ e xs, x = .own e xs) : CellW P x x
  | nil {s s' : Nat} {f : Bool} : CellW P (.slice true s []) (.slice f s' [])
  | imm {f : Bool} {s : Nat} {xs : List (List AV)} : CellW P (.slice f s xs) (.slice false s xs)
  | immN {f : Bool} {s s' : Nat} : CellW P (.slice f s []) (.slice false s' [])
  | own {e : TypeId} {xs : List (List AV)} : CellW P (.own e xs) (.slice false (P.cellsOf e) xs)
  | give {s : Nat} {e : TypeId} : CellW P (.slice true s []) (.own e [])

theorem rep_own {w : World} {lim : Nat → Nat} {e : TypeId} {xs : List (List AV)} {v : Value} (h : Rep w lim (.own e xs) v) : False := by cases h

theorem rep_weak {P : Program} {w : World} {lim : Nat → Nat} {x y : AV} {v : Value} (h : Rep w lim x v) (hw : CellW P x y) (hy : y.isCell = true) : Rep w lim y v := by
  cases hw with
  | same _ => exact h
  | nil => exact rep_nil (fun _ => rfl) h
  | imm => exact rep_imm h
  | immN => exact rep_nil (fun h => by cases h) h
  | own => exact (rep_own h).elim
  | give => cases hy

theorem cell_weak {P : Program} {w : World} {lim : Nat → Nat} {ob : Option Nat} {x y : AV} {v : Value} (h : CellR P w lim ob x v) (hw : CellW P x y) : ∃ ob', (ob' = ob ∨ ob' = none) ∧ CellR P w lim ob' y v := by
  cases hw with
  | same _ => exact ⟨ob, .inl rfl, h⟩
  | nil => exact ⟨ob, .inl rfl, rep_nil (fun _ => rfl) h⟩
  | imm => exact ⟨ob, .inl rfl, rep_imm h⟩
  | immN => exact ⟨ob, .inl rfl, rep_nil (fun h => by cases h) h⟩
  | own => exact ⟨ob, .inl rfl, OwnR.rep h false rfl⟩
  | give => exact ⟨none, .inr rfl, own_full h⟩

/-- A whole value. -/
inductive CompW (P : Program) : AV → AV → Prop
  | cell {x y : AV} (h : CellW P x y) : CompW P x y
  | agg {cs cs' : List AV} (hl : cs.length = cs'.length) (hc : ∀ c ∈ cs', c.isCell = true) (h : ∀ (i : Nat) (c c' : AV), cs[i]? = some c → cs'[i]? = some c' → CellW P c c') : CompW P (.agg cs) (.agg cs')

theorem rep_agg {w : World} {lim : Nat → Nat} {cs : List AV} {v : Value} (h : Rep w lim (.agg cs) v) : ∃ vs : List Value, v = .agg vs.toArray ∧ cs.length = vs.length ∧
    ∀ (i : Nat) (c : AV) (v : Value), cs[i]? = some c → vs[i]? = some v → Rep w lim c v := by
  cases h with
  | agg hl hc hr => exact ⟨_, rfl, hl, hr⟩

theorem comp_weak {P : Program} {w : World} {lim : Nat → Nat} {ob : Option Nat} {x y : AV} {v : Value} (h : CellR P w lim ob x v) (hw : CompW P x y) : ∃ ob', (ob' = ob ∨ ob' = none) ∧ CellR P w lim ob' y v := by
  cases hw with
  | cell hw => exact cell_weak h hw
  | @agg cs cs' hl hc hp =>
    refine ⟨ob, .inl rfl, ?_⟩
    obtain ⟨vs, rfl, h1, h2⟩ := rep_agg (show Rep w lim (.agg cs) v from h)
    refine Rep.agg (by omega) hc fun i c' u hc' hu => ?_
    obtain ⟨c, hcc⟩ : ∃ c, cs[i]? = some c := ⟨_, List.getElem?_eq_getElem (by rw [hl]; exact (List.getElem?_eq_some_iff.1 hc').1)⟩
    exact rep_weak (h2 i c u hcc hu) (hp i c c' hcc hc') (hc c' (List.mem_of_getElem? hc'))

theorem choose_obs {P : Program} {w : World} {lim : Nat → Nat} {cs cs' : List AV} {us : List Value} {Y : Nat → Option Nat} (hl : cs.length = cs'.length) (h : ∀ (i : Nat) (c : AV) (u : Value), cs[i]? = some c → us[i]? = some u → CellR P w lim (Y i) c u)
    (hw : ∀ (i : Nat) (c c' : AV), cs[i]? = some c → cs'[i]? = some c' → CompW P c c') :
    ∃ r : Nat → Option Nat, (∀ i, r i = Y i ∨ r i = none) ∧ ∀ (i : Nat) (c' : AV) (u : Value), cs'[i]? = some c' → us[i]? = some u → CellR P w lim (r i) c' u := by
  have key : ∀ i, ∃ ob : Option Nat, (ob = Y i ∨ ob = none) ∧ ∀ (c' : AV) (u : Value), cs'[i]? = some c' → us[i]? = some u → CellR P w lim ob c' u := by
    intro i
    cases hc' : cs'[i]? with
    | none => exact ⟨none, .inr rfl, fun c' u h => by cases h⟩
    | some c' =>
      cases hu : us[i]? with
      | none => exact ⟨none, .inr rfl, fun c' u _ h => by cases h⟩
      | some u =>
        obtain ⟨c, hc⟩ : ∃ c, cs[i]? = some c := ⟨_, List.getElem?_eq_getElem (by rw [hl]; exact (List.getElem?_eq_some_iff.1 hc').1)⟩
        obtain ⟨ob, h1, h2⟩ := comp_weak (h i c u hc hu) (hw i c c' hc hc')
        refine ⟨ob, h1, fun c2 u2 e1 e2 => ?_⟩
        cases e1
        cases e2
        exact h2
  obtain ⟨r, hr⟩ := Classical.axiomOfChoice key
  exact ⟨r, fun i => (hr i).1, fun i => (hr i).2⟩

inductive SlotW (P : Program) : AV → AV → Prop
  | dead {x : AV} : SlotW P x .dead
  | comp {x y : AV} (h : CompW P x y) : SlotW P x y
  | tuple {cs cs' : List AV} (hl : cs.length = cs'.length) (h : ∀ (i : Nat) (c c' : AV), cs[i]? = some c → cs'[i]? = some c' → CompW P c c') : SlotW P (.tuple cs) (.tuple cs')
  | box {cs cs' : List AV} (hl : cs.length = cs'.length) (h : ∀ (i : Nat) (c c' : AV), cs[i]? = some c → cs'[i]? = some c' → CellW P c c') : SlotW P (.box cs) (.box cs')
  | row {e : TypeId} {n cap : Nat} {xs : List (List AV)} : SlotW P (.box [.row e n cap xs]) (.box [.row e n cap xs])

theorem cellW_right {P : Program} {x y : AV} (h : CellW P x y) : y.isCell = true ∨ ∃ e xs, y = .own e xs := by
  cases h with
  | same h => exact h
  | nil => exact .inl rfl
  | imm => exact .inl rfl
  | immN => exact .inl rfl
  | own => exact .inl rfl
  | give => exact .inr ⟨_, _, rfl⟩

theorem cellW_left {P : Program} {x y : AV} (h : CellW P x y) : x.isCell = true ∨ ∃ e xs, x = .own e xs := by
  cases h with
  | same h => exact h
  | nil => exact .inl rfl
  | imm => exact .inl rfl
  | immN => exact .inl rfl
  | own => exact .inr ⟨_, _, rfl⟩
  | give => exact .inl rfl

theorem noRow_of {cs : List AV} (h : ∀ c ∈ cs, c.isCell = true ∨ ∃ e xs, c = .own e xs) : NoRow cs := by
  intro c hc e n cap xs he
  subst he
  rcases h _ hc with h | ⟨_, _, h⟩ <;> cases h

theorem noRow_left {P : Program} {cs cs' : List AV} (hl : cs.length = cs'.length) (h : ∀ (i : Nat) (c c' : AV), cs[i]? = some c → cs'[i]? = some c' → CellW P c c') : NoRow cs := by
  refine noRow_of fun c hc => ?_
  obtain ⟨i, hi⟩ := List.mem_iff_getElem?.1 hc
  have hlt : i < cs'.length := by rw [← hl]; exact (List.getElem?_eq_some_iff.1 hi).1
  exact cellW_left (h i c _ hi (List.getElem?_eq_getElem hlt))

theorem noRow_right {P : Program} {cs cs' : List AV} (hl : cs.length = cs'.length) (h : ∀ (i : Nat) (c c' : AV), cs[i]? = some c → cs'[i]? = some c' → CellW P c c') : NoRow cs' := by
  refine noRow_of fun c hc => ?_
  obtain ⟨i, hi⟩ := List.mem_iff_getElem?.1 hc
  have hlt : i < cs.length := by rw [hl]; exact (List.getElem?_eq_some_iff.1 hi).1
  exact cellW_right (h i _ c (List.getElem?_eq_getElem hlt) hi)

theorem slot_weak {P : Program} {w : World} {lim : Nat → Nat} {X : Nat → Nat → Option Nat} {σ : Nat → AV} {d : Nat} {x y : AV} {v : Value} (h : SlotR P w lim X σ d x v) (hw : SlotW P x y) :
    ∃ r : Nat → Option Nat, (∀ k, r k = X d k ∨ r k = none) ∧ ∀ (X' : Nat → Nat → Option Nat) (σ' : Nat → AV) (d' : Nat), X' d' = r → SlotR P w lim X' σ' d' y v := by
  cases hw with
  | dead => exact ⟨fun _ => none, fun _ => .inr rfl, fun _ _ _ _ => trivial⟩
  | comp hw =>
    have hc : CellR P w lim (X d 0) x v := by
      cases hw with
      | agg hl hc hp => exact h
      | cell hw =>
        rcases cellW_left hw with hx | ⟨e, xs, rfl⟩
        · cases x <;> simp [AV.isCell] at hx <;> exact h
        · exact h
    obtain ⟨ob, h1, h2⟩ := comp_weak hc hw
    refine ⟨fun k => if k = 0 then ob else none, fun k => ?_, fun X' σ' d' hX => ?_⟩
    · dsimp only
      split
      · rename_i hk; subst hk; exact h1
      · exact .inr rfl
    · have h3 : X' d' 0 = ob := by rw [hX]; rfl
      cases hw with
      | agg hl hc hp => exact h2
      | cell hw =>
        rcases cellW_right hw with hy | ⟨e, xs, rfl⟩
        · cases y <;> simp [AV.isCell] at hy <;> exact h2
        · show OwnR P w lim e xs v (X' d' 0)
          rw [h3]
          exact h2
  | @tuple cs cs' hl hp =>
    obtain ⟨us, rfl, h2, h3⟩ := h
    obtain ⟨r, g1, g2⟩ := choose_obs (Y := fun i => X d (i + 1)) hl h3 hp
    refine ⟨fun k => match k with | 0 => none | k + 1 => r k, fun k => ?_, fun X' σ' d' hX => ?_⟩
    · cases k with
      | zero => exact .inr rfl
      | succ k => exact g1 k
    · refine ⟨us, rfl, by rw [h2, hl], fun i c u hc hu => ?_⟩
      have : X' d' (i + 1) = r i := by rw [hX]
      rw [this]
      exact g2 i c u hc hu
  | row =>
    have hr := BoxR.row h
    exact ⟨fun k => match k with | 0 => X d 0 | k + 1 => none, fun k => by cases k with | zero => exact .inl rfl | succ k => exact .inr rfl,
      fun X' σ' d' hX => .inr ⟨_, _, _, _, rfl, by rw [hX]; exact hr⟩⟩
  | @box cs cs' hl hp =>
    obtain ⟨b, arr, t, h1, rfl, h3, h4, h5, h6, h7⟩ := BoxR.plain h (noRow_left hl hp)
    obtain ⟨r, g1, g2⟩ := choose_obs (P := P) (w := w) (lim := lim) (us := arr.toList) (Y := fun i => X d (i + 1)) hl (fun i c u hc hu => h7 i c u hc (by simpa using hu)) (fun i c c' hc hc' => .cell (hp i c c' hc hc'))
    refine ⟨fun k => match k with | 0 => X d 0 | k + 1 => r k, fun k => ?_, fun X' σ' d' hX => ?_⟩
    · cases k with
      | zero => exact .inl rfl
      | succ k => exact g1 k
    · refine .inl ⟨b, arr, t, by rw [hX]; exact h1, rfl, h3, by rw [h4, hl], h5, fun c hc => ?_, fun i c u hc hu => ?_⟩
      · obtain ⟨i, hi⟩ := List.mem_iff_getElem?.1 hc
        obtain ⟨c0, hc0⟩ : ∃ c0, cs[i]? = some c0 := ⟨_, List.getElem?_eq_getElem (by rw [hl]; exact (List.getElem?_eq_some_iff.1 hi).1)⟩
        exact cellW_right (hp i c0 c hc0 hi)
      · have : X' d' (i + 1) = r i := by rw [hX]
        rw [this]
        exact g2 i c u hc (by simpa using hu)

theorem WStep.wider {w : World} {lim : Nat → Nat} {w' : World} {lim' : Nat → Nat} {S S' : Nat → Prop} (h : WStep w lim w' lim' S) (hs : ∀ b, S b → S' b) : WStep w lim w' lim' S' :=
  ⟨h.os, h.tape, h.output, h.size, h.frz, fun b hb hn => h.blk b hb fun hS => hn (hs b hS), h.ext⟩

/-- Lists of slots, place by place. -/
def SlotsW (P : Program) (as bs : List AV) : Prop := as.length = bs.length ∧ ∀ (i : Nat) (a b : AV), as[i]? = some a → bs[i]? = some b → SlotW P a b

theorem slots_weak {P : Program} {w : World} {lim : Nat → Nat} {X : Nat → Nat → Option Nat} {as bs : List AV} {vs : Nat → Value} (h : ∀ i, SlotR P w lim X (argS as) i (argS as i) (vs i)) (hw : SlotsW P as bs) :
    ∃ X' : Nat → Nat → Option Nat, (∀ i k, X' i k = X i k ∨ X' i k = none) ∧ ∀ i, SlotR P w lim X' (argS bs) i (argS bs i) (vs i) := by
  have key : ∀ i, ∃ r : Nat → Option Nat, (∀ k, r k = X i k ∨ r k = none) ∧ ∀ X' : Nat → Nat → Option Nat, X' i = r → SlotR P w lim X' (argS bs) i (argS bs i) (vs i) := by
    intro i
    have hi := h i
    cases hb : bs[i]? with
    | none =>
      refine ⟨fun _ => none, fun _ => .inr rfl, fun X' _ => ?_⟩
      have : argS bs i = .dead := by simp [argS, hb]
      rw [this]
      trivial
    | some b =>
      obtain ⟨a, ha⟩ : ∃ a, as[i]? = some a := ⟨_, List.getElem?_eq_getElem (by rw [hw.1]; exact (List.getElem?_eq_some_iff.1 hb).1)⟩
      have h1 : argS as i = a := by simp [argS, ha]
      have h2 : argS bs i = b := by simp [argS, hb]
      rw [h1] at hi
      rw [h2]
      obtain ⟨r, g1, g2⟩ := slot_weak hi (hw.2 i a b ha hb)
      exact ⟨r, g1, fun X' hX => g2 X' _ _ hX⟩
  obtain ⟨X', hX⟩ := Classical.axiomOfChoice key
  exact ⟨X', fun i => (hX i).1, fun i => (hX i).2 X' rfl⟩

theorem dist_weak {X X' : Nat → Nat → Option Nat} (h : Dist X) (hX : ∀ i k, X' i k = X i k ∨ X' i k = none) : Dist X' := by
  intro d k d' k' b h1 h2
  rcases hX d k with e1 | e1
  · rcases hX d' k' with e2 | e2
    · exact h d k d' k' b (e1.symm.trans h1) (e2.symm.trans h2)
    · rw [e2] at h2; cases h2
  · rw [e1] at h1; cases h1

theorem CallOk.weak {P : Program} {f : FuncId} {as bs : List AV} {res res' : AV} {outs outs' : List AV} (h : CallOk P f bs res outs) (ha : SlotsW P as bs) (ho : SlotsW P (outs ++ [res]) (outs' ++ [res'])) : CallOk P f as res' outs' := by
  refine ⟨h.1, fun w lim X cargs hcl hrel hdist hsize => ?_⟩
  obtain ⟨X2, g1, g2⟩ := slots_weak hrel ha
  have hX2 : ∀ i k b, X2 i k = some b → X i k = some b := by
    intro i k b hb
    rcases g1 i k with e | e
    · rw [← e]; exact hb
    · rw [e] at hb; cases hb
  refine (h.2 w lim X2 cargs (by rw [hcl, ha.1]) g2 (dist_weak hdist g1) fun i k b hb => hsize i k b (hX2 i k b hb)).mono ?_
  rintro e w' ⟨v, lim', X', he, hst, hol, hr, hd, hin⟩
  obtain ⟨X3, k1, k2⟩ := slots_weak hr ho
  have hX3 : ∀ i k b, X3 i k = some b → X' i k = some b := by
    intro i k b hb
    rcases k1 i k with e | e
    · rw [← e]; exact hb
    · rw [e] at hb; cases hb
  have hll : outs.length = outs'.length := by have := ho.1; simpa using this
  refine ⟨v, lim', X3, he, hst.wider fun b ⟨i, k, hb⟩ => ⟨i, k, hX2 i k b hb⟩, by rw [← hll, hol, ha.1], k2, dist_weak hd k1, fun i k b hb => ?_⟩
  obtain ⟨m1, m2⟩ := hin i k b (hX3 i k b hb)
  exact ⟨m1, m2.imp (fun ⟨i, k, h⟩ => ⟨i, k, hX2 i k b h⟩) id⟩

theorem CallOk.stronger {P : Program} {f : FuncId} {as bs : List AV} {res : AV} {outs : List AV} (h : CallOk P f bs res outs) (ha : SlotsW P as bs) : CallOk P f as res outs := by
  refine ⟨h.1, fun w lim X cargs hcl hrel hdist hsize => ?_⟩
  obtain ⟨X2, g1, g2⟩ := slots_weak hrel ha
  have hX2 : ∀ i k b, X2 i k = some b → X i k = some b := by
    intro i k b hb
    rcases g1 i k with e | e
    · rw [← e]; exact hb
    · rw [e] at hb; cases hb
  refine (h.2 w lim X2 cargs (by rw [hcl, ha.1]) g2 (dist_weak hdist g1) fun i k b hb => hsize i k b (hX2 i k b hb)).mono ?_
  rintro e w' ⟨v, lim', X', he, hst, hol, hr, hd, hin⟩
  refine ⟨v, lim', X', he, hst.wider fun b ⟨i, k, hb⟩ => ⟨i, k, hX2 i k b hb⟩, by rw [hol, ha.1], hr, hd, fun i k b hb => ?_⟩
  obtain ⟨m1, m2⟩ := hin i k b hb
  exact ⟨m1, m2.imp (fun ⟨i, k, h⟩ => ⟨i, k, hX2 i k b h⟩) id⟩

end Go.AM
end
