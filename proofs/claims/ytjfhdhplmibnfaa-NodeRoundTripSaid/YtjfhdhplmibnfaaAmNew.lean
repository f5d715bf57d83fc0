/- Values put together, variables made. Generic: no program stands in it. -/
import Derived.Test.YtjfhdhplmibnfaaAmMake
namespace Go.AM

/-- Cells that stand for cells. -/
def RelL (w : World) (lim : Nat → Nat) (cs : List AV) (us : List Value) : Prop :=
  cs.length = us.length ∧ (∀ c ∈ cs, c.isCell = true) ∧ ∀ (i : Nat) (c : AV) (u : Value), cs[i]? = some c → us[i]? = some u → Rep w lim c u

theorem RelL.nil (w : World) (lim : Nat → Nat) : RelL w lim [] [] := ⟨rfl, by simp, by simp⟩

theorem RelL.one {w : World} {lim : Nat → Nat} {c : AV} {u : Value} (hc : c.isCell = true) (h : Rep w lim c u) : RelL w lim [c] [u] :=
  ⟨rfl, by simp [hc], fun i c' u' h1 h2 => by
    cases i with
    | zero => simp at h1 h2; subst h1; subst h2; exact h
    | succ i => simp at h1⟩

theorem RelL.append {w : World} {lim : Nat → Nat} {cs ds : List AV} {us vs : List Value} (h : RelL w lim cs us) (k : RelL w lim ds vs) : RelL w lim (cs ++ ds) (us ++ vs) := by
  refine ⟨by simp [h.1, k.1], fun c hc => (List.mem_append.1 hc).elim (h.2.1 c) (k.2.1 c), fun i c u hc hu => ?_⟩
  by_cases hi : i < cs.length
  · rw [List.getElem?_append_left hi] at hc
    rw [List.getElem?_append_left (by rw [← h.1]; exact hi)] at hu
    exact h.2.2 i c u hc hu
  · rw [List.getElem?_append_right (by omega)] at hc
    rw [List.getElem?_append_right (by rw [← h.1]; omega)] at hu
    rw [← h.1] at hu
    exact k.2.2 _ c u hc hu

theorem RelL.take {w : World} {lim : Nat → Nat} {cs : List AV} {us : List Value} (h : RelL w lim cs us) (n : Nat) : RelL w lim (cs.take n) (us.take n) := by
  refine ⟨by simp [h.1], fun c hc => h.2.1 c (List.mem_of_mem_take hc), fun i c u hc hu => ?_⟩
  rw [List.getElem?_take] at hc hu
  split at hc
  · rename_i hlt
    rw [if_pos hlt] at hu
    exact h.2.2 i c u hc hu
  · cases hc

theorem RelL.drop {w : World} {lim : Nat → Nat} {cs : List AV} {us : List Value} (h : RelL w lim cs us) (n : Nat) : RelL w lim (cs.drop n) (us.drop n) := by
  refine ⟨by simp [h.1], fun c hc => h.2.1 c (List.mem_of_mem_drop hc), fun i c u hc hu => ?_⟩
  rw [List.getElem?_drop] at hc hu
  exact h.2.2 _ c u hc hu

theorem RelL.mono {w w' : World} {lim lim' : Nat → Nat} {cs : List AV} {us : List Value} (h : RelL w lim cs us) (he : Ext w lim w' lim') : RelL w' lim' cs us :=
  ⟨h.1, h.2.1, fun i c u hc hu => (h.2.2 i c u hc hu).mono he⟩

/-- The cells of a value that may be stored. -/
def AV.cells? : AV → Option (List AV)
  | .agg cs => some cs
  | .val v => some [.val v]
  | .slice f s xs => some [.slice f s xs]
  | _ => none

theorem cells_rel {P : Program} {w : World} {lim : Nat → Nat} {X : Nat → Nat → Option Nat} {σ : Nat → AV} {k : Nat} {x : AV} {v : Value} {cs : List AV} (hx : x.cells? = some cs) (h : SlotR P w lim X σ k x v) :
    ∃ us : List Value, v.cells = us.toArray ∧ RelL w lim cs us := by
  cases x with
  | agg ds =>
    simp only [AV.cells?, Option.some.injEq] at hx
    subst hx
    have h' : Rep w lim (.agg ds) v := h
    cases h' with
    | agg hl hc hr => exact ⟨_, rfl, hl, hc, hr⟩
  | val u =>
    simp only [AV.cells?, Option.some.injEq] at hx
    subst hx
    have h' : Rep w lim (.val u) v := h
    refine ⟨[v], ?_, RelL.one rfl h'⟩
    cases h' with
    | val hs => cases v <;> simp [scalar] at hs <;> rfl
  | slice f s xs =>
    simp only [AV.cells?, Option.some.injEq] at hx
    subst hx
    have h' : Rep w lim (.slice f s xs) v := h
    refine ⟨[v], ?_, RelL.one rfl h'⟩
    cases h' <;> rfl
  | _ => simp [AV.cells?] at hx

theorem ofCsS_relL {w : World} {lim : Nat → Nat} {vs : List Value} {cs : List AV} (h : ofCsS vs = some cs) : RelL w lim cs vs := ofCsS_rep h

theorem foldl_set (off : Nat) : ∀ (l : List Value) (k : Nat) (cs : Array Value), off + k + l.length ≤ cs.size →
    (l.zipIdx k).foldl (fun cs p => cs.setIfInBounds (off + p.2) p.1) cs = (cs.toList.take (off + k) ++ l ++ cs.toList.drop (off + k + l.length)).toArray
  | [], k, cs, _ => by simp
  | v :: l, k, cs, h => by
    simp only [List.zipIdx_cons, List.foldl_cons]
    simp only [List.length_cons] at h
    rw [foldl_set off l (k + 1) (cs.setIfInBounds (off + k) v) (by simp; omega)]
    simp only [Array.toList_setIfInBounds]
    congr 1
    have := list_seg_step cs.toList (off + k) v l (by simp; omega)
    rw [← Nat.add_assoc]
    exact this

theorem fill_zip (off : Nat) (l : List Value) (cs : Array Value) (h : off + l.length ≤ cs.size) :
    (l.toArray.zipIdx.foldl (fun cs (p : Value × Nat) => cs.setIfInBounds (off + p.2) p.1) cs) = (cs.toList.take off ++ l ++ cs.toList.drop (off + l.length)).toArray := by
  rw [← Array.foldl_toList]
  have := foldl_set off l 0 cs (by simpa using h)
  simpa using this

def fillS (place : Nat → Option (Nat × Nat)) : List AV → List (Nat × AV) → Option (List AV)
  | cells, [] => some cells
  | cells, (i, v) :: rest =>
    match place i, v.cells? with
    | some (off, size), some vc =>
      if vc.length = size ∧ off + size ≤ cells.length then fillS place (cells.take off ++ vc ++ cells.drop (off + size)) rest else none
    | _, _ => none

theorem fill_rel {P : Program} {w : World} {lim : Nat → Nat} {X : Nat → Nat → Option Nat} {σ : Nat → AV} {k : Nat} {place : Nat → Option (Nat × Nat)} :
    ∀ (parts : List (Nat × AV)) (vparts : List (Nat × Value)) (cells : List AV) (us : List Value) (out : List AV), RelL w lim cells us →
      parts.length = vparts.length → (∀ (i : Nat) (p : Nat × AV) (q : Nat × Value), parts[i]? = some p → vparts[i]? = some q → p.1 = q.1 ∧ SlotR P w lim X σ k p.2 q.2) →
      fillS place cells parts = some out → ∃ us', Instr.fill place us.toArray vparts = some us'.toArray ∧ RelL w lim out us'
  | [], vparts, cells, us, out, hr, hl, _, hf => by
    have : vparts = [] := List.eq_nil_of_length_eq_zero (by simpa using hl.symm)
    subst this
    simp only [fillS, Option.some.injEq] at hf
    subst hf
    exact ⟨us, rfl, hr⟩
  | (i, x) :: parts, vparts, cells, us, out, hr, hl, hp, hf => by
    cases vparts with
    | nil => simp at hl
    | cons q vparts =>
      obtain ⟨i', v⟩ := q
      obtain ⟨rfl, hx⟩ := hp 0 (i, x) (i', v) rfl rfl
      simp only [fillS] at hf
      split at hf
      · rename_i off size vc hpl hvc
        split at hf
        · rename_i hcond
          obtain ⟨us1, hus1, hrel1⟩ := cells_rel hvc hx
          have hlen : us1.length = size := by rw [← hrel1.1]; exact hcond.1
          have hfit : off + us1.length ≤ us.length := by rw [hlen, ← hr.1]; exact hcond.2
          have hz := fill_zip off us1 us.toArray (by simpa using hfit)
          simp only at hz
          rw [hlen] at hz
          have hnew : RelL w lim (cells.take off ++ vc ++ cells.drop (off + size)) (us.take off ++ us1 ++ us.drop (off + size)) := ((hr.take off).append hrel1).append (hr.drop (off + size))
          obtain ⟨us', h1, h2⟩ := fill_rel parts vparts _ _ out hnew (by simpa using hl) (fun j p q hj hq => hp (j + 1) p q (by simpa using hj) (by simpa using hq)) hf
          refine ⟨us', ?_, h2⟩
          simp only [Instr.fill, hpl, hus1]
          rw [if_neg (by simp [hlen]; rw [← hlen]; exact hfit)]
          rw [hz]
          exact h1
        · cases hf
      · cases hf

theorem run_places {P : Program} (w : World) (fs : Array Field) (h : (fs.toList.all fun f => (P.info? f.type).isSome) = true) :
    (fs.mapM fun f => do pure (f.offset, ← sizeOf f.type) : Sem (Array (Nat × Nat))).run P w = .ok (fs.map fun f => (f.offset, P.cellsOf f.type)) w := by
  rw [Array.mapM_eq_mapM_toList]
  have key : ∀ (l : List Field), (l.all fun f => (P.info? f.type).isSome) = true →
      (l.mapM fun f => do pure (f.offset, ← sizeOf f.type) : Sem (List (Nat × Nat))).run P w = .ok (l.map fun f => (f.offset, P.cellsOf f.type)) w := by
    intro l
    induction l with
    | nil => intro _; simp
    | cons f l ih =>
      intro hl
      simp only [List.all_cons, Bool.and_eq_true] at hl
      obtain ⟨i, hi⟩ := Option.isSome_iff_exists.1 hl.1
      have ih' := ih hl.2
      simp only [List.mapM_cons, Sem.run_bind, run_sizeOf hi, Result.andThen_ok, Sem.run_pure, List.map_cons]
      rw [ih']
      rfl
  simp only [Sem.run_map, key fs.toList h, Result.andThen_ok]
  congr 1
  apply Array.toList_inj.1
  simp

theorem eval_parts {P : Program} {c : Ctx} (hc : c.P = P) {σ σ' : Nat → AV} {tm : Array Value} {w : World} {lim : Nat → Nat} {X : Nat → Nat → Option Nat} (h : Sim c σ' tm w lim X) (parts : Array (Nat × Operand))
    (hg : ∀ p ∈ parts.toList, getS P σ' p.2 = getS P σ p.2) :
    (parts.toList.map fun p => (p.1, getS P σ p.2)).length = ((parts.map fun p => (p.1, Act.eval ⟨tm, []⟩ p.2)).toList).length ∧
    ∀ (i : Nat) (p : Nat × AV) (q : Nat × Value), (parts.toList.map fun p => (p.1, getS P σ p.2))[i]? = some p → ((parts.map fun p => (p.1, Act.eval ⟨tm, []⟩ p.2)).toList)[i]? = some q → p.1 = q.1 ∧ SlotR P w lim X σ' 0 p.2 q.2 := by
  refine ⟨by simp, fun i p q hp hq => ?_⟩
  rw [Array.toList_map] at hq
  rw [List.getElem?_map] at hp hq
  cases hx : parts.toList[i]? with
  | none => rw [hx] at hp; cases hp
  | some x =>
    rw [hx] at hp hq
    simp only [Option.map_some, Option.some.injEq] at hp hq
    subst hp
    subst hq
    have hm : x ∈ parts.toList := List.mem_of_getElem? hx
    have := (getS_rel h x.2 0).2
    rw [hc, hg x hm] at this
    exact ⟨rfl, this⟩

theorem exok_build {P : Program} {o : Oper} {σ : Nat → AV} {T : TypeId} {parts : Array (Nat × Operand)} {fs : Array Field} {i : TypeInfo} {z : Value} {zc cs : List AV} (ho : o.op = .build T parts)
    (hT : P.underlying T = some (.struct fs)) (hi : P.info? T = some i) (hz : i.zero = some z) (hzc : ofCsS z.cells.toList = some zc) (hall : (fs.toList.all fun f => (P.info? f.type).isSome) = true)
    (hf : fillS (fun i => (fs[i]?).map fun f => (f.offset, P.cellsOf f.type)) zc (parts.toList.map fun p => (p.1, getS P σ p.2)) = some cs) : ExOK P o σ (.agg cs) [] [] := by
  refine exok_plain [] rfl fun c hc σ' tm w lim X hg hfp hsim => ?_
  rw [ho] at hg
  have hg' : ∀ p ∈ parts.toList, getS P σ' p.2 = getS P σ p.2 := fun p hp => hg p.2 (by
    simp only [Op.operands, List.mem_toArray]
    exact List.mem_map.2 ⟨p, hp, rfl⟩)
  obtain ⟨h1, h2⟩ := eval_parts hc hsim parts hg'
  obtain ⟨us', h3, h4⟩ := fill_rel (P := P) (X := X) (σ := σ') (k := 0) _ _ _ _ _ (ofCsS_relL (w := w) (lim := lim) hzc) h1 h2 hf
  refine ⟨.agg us'.toArray, ?_, .agg h4.1 h4.2.1 h4.2.2⟩
  have hpl : (fun (i : Nat) => (fs.map fun (f : Field) => (f.offset, P.cellsOf f.type))[i]?) = fun (i : Nat) => (fs[i]?).map fun (f : Field) => (f.offset, P.cellsOf f.type) := by
    funext i; simp
  have hb : (Instr.build T (parts.map fun p => (p.1, Act.eval ⟨tm, []⟩ p.2))).run P w = .ok (.agg us'.toArray) w := by
    simp only [Instr.build, Sem.run_bind, zeroValue, typeInfo, run_program, hi, hz, Result.andThen_ok, Sem.run_pure, run_underlying hT]
    have hp := run_places (P := P) w fs hall
    rw [hp]
    simp only [Result.andThen_ok]
    rw [hpl]
    rw [Array.toArray_toList] at h3
    rw [h3]
    rfl
  simp only [execOp, ho, Sem.run_bind, hb, Result.andThen_ok, Sem.run_pure]

end Go.AM
