/- From a given reading of the arguments to what stands for them. Generic: no program stands in it. -/
import Derived.Test.YtjfhdhplmibnfaaAmUse
import Derived.ChangeArms
import Derived.ChangeStays
import Derived.ChangeBook
import Derived.ChangeSame
import Derived.RowKit
import Derived.ChangeOld
namespace Go.AM

/-- Cells of a type. -/
def TyR (P : Program) : Nat → TypeId → List AV → Prop
  | 0, _, _ => False
  | d + 1, T, cs =>
    match P.underlying T with
    | some (.int k) => ∃ z, cs = [.val (.int k z)] ∧ (Lit.int k z).wf = true
    | some .bool => ∃ b, cs = [.val (.bool b)]
    | some .string => ∃ s, cs = [.val (.string s)]
    | some (.slice e) => ∃ xs : List (List AV), cs = [.slice false (P.cellsOf e) xs] ∧ xs.length ≤ maxLen ∧ ∀ x ∈ xs, TyR P d e x
    | some (.struct fs) => ∃ parts : List (List AV), cs = parts.flatten ∧ parts.length = fs.size ∧ ∀ (i : Nat) (f : Field) (p : List AV), fs[i]? = some f → parts[i]? = some p → TyR P d f.type p
    | _ => False

/-- A type of integers, bools, strings, and structs and slices of such; its layout. -/
def fineB (P : Program) : Nat → TypeId → Bool
  | 0, _ => false
  | d + 1, T =>
    match P.underlying T with
    | some (.int _) => true
    | some .bool => true
    | some .string => true
    | some (.slice e) => fineB P d e && decide (0 < P.cellsOf e)
    | some (.struct fs) => (fs.toList.all fun f => fineB P d f.type) && decide (P.cellsOf T = (fs.toList.map fun f => P.cellsOf f.type).sum) &&
        (fs.toList.zipIdx.all fun p => decide (p.1.offset = ((fs.toList.take p.2).map fun f => P.cellsOf f.type).sum))
    | _ => false

def rowLim (w : World) : Nat → Nat := fun b => match w.heap[b]? with | some (.cells c _ _) => c.size | _ => 0

theorem rowLim_lt {w : World} {b o : Nat} {u : Value} (h : w.cell? ⟨b, o, none⟩ = some u) : o < rowLim w b := by
  unfold World.cell? at h
  unfold rowLim
  split at h
  · rename_i c t fr hc
    have h' : c[o]? = some u := by simpa using h
    have hc' : w.heap[b]? = some (.cells c t fr) := hc
    rw [hc']
    exact (Array.getElem?_eq_some_iff.1 h').1
  · cases h

theorem RelL.flat {w : World} {lim : Nat → Nat} : ∀ (as : List (List AV)) (us : List (List Value)), as.length = us.length → (∀ (i : Nat) (a : List AV) (u : List Value), as[i]? = some a → us[i]? = some u → RelL w lim a u) → RelL w lim as.flatten us.flatten
  | [], [], _, _ => RelL.nil w lim
  | [], _ :: _, h, _ => by simp at h
  | _ :: _, [], h, _ => by simp at h
  | a :: as, u :: us, h, hr => by
    have h1 := hr 0 a u rfl rfl
    have h2 := RelL.flat as us (by simpa using h) fun i a' u' ha hu => hr (i + 1) a' u' (by simpa using ha) (by simpa using hu)
    refine ⟨by simp [h1.1, h2.1], fun c hc => ?_, fun i c v hc hv => ?_⟩
    · rw [List.flatten_cons, List.mem_append] at hc
      rcases hc with hc | hc
      · exact h1.2.1 c hc
      · exact h2.2.1 c hc
    · rw [List.flatten_cons] at hc hv
      by_cases hi : i < a.length
      · rw [List.getElem?_append_left hi] at hc
        rw [List.getElem?_append_left (by rw [← h1.1]; exact hi)] at hv
        exact h1.2.2 i c v hc hv
      · rw [List.getElem?_append_right (by omega)] at hc
        rw [List.getElem?_append_right (by rw [← h1.1]; omega), ← h1.1] at hv
        exact h2.2.2 _ c v hc hv

/-- A list in pieces. -/
theorem pieces {α : Type} : ∀ (ns : List Nat) (cs : List α), cs.length = ns.sum → ∃ ps : List (List α), ps.length = ns.length ∧ ps.flatten = cs ∧ ∀ (i : Nat) (n : Nat), ns[i]? = some n → ps[i]? = some ((cs.drop (ns.take i).sum).take n)
  | [], cs, h => ⟨[], rfl, by simp at h; simp [h], by simp⟩
  | n :: ns, cs, h => by
    obtain ⟨ps, h1, h2, h3⟩ := pieces ns (cs.drop n) (by simp only [List.sum_cons] at h; simp; omega)
    refine ⟨cs.take n :: ps, by simp [h1], by rw [List.flatten_cons, h2, List.take_append_drop], fun i m hi => ?_⟩
    cases i with
    | zero => simp at hi; subst hi; simp
    | succ i =>
      have := h3 i m (by simpa using hi)
      simp only [List.getElem?_cons_succ, this, List.take_succ_cons, List.sum_cons, List.drop_drop]

theorem list_choice {β : Type} {Q : Nat → β → Prop} : ∀ (n : Nat), (∀ i, i < n → ∃ b, Q i b) → ∃ l : List β, l.length = n ∧ ∀ (i : Nat) (b : β), l[i]? = some b → Q i b
  | 0, _ => ⟨[], rfl, by simp⟩
  | n + 1, h => by
    obtain ⟨l, h1, h2⟩ := list_choice n fun i hi => h i (by omega)
    obtain ⟨b, hb⟩ := h n (by omega)
    refine ⟨l ++ [b], by simp [h1], fun i c hc => ?_⟩
    by_cases hi : i < l.length
    · rw [List.getElem?_append_left hi] at hc
      exact h2 i c hc
    · rw [List.getElem?_append_right (by omega)] at hc
      have h0 : i - l.length = 0 := by
        have := (List.getElem?_eq_some_iff.1 hc).1
        simp at this
        omega
      rw [h0] at hc
      simp only [List.getElem?_cons_zero, Option.some.injEq] at hc
      subst hc
      have : i = n := by omega
      rw [this]
      exact hb

theorem flat_cells {s : Nat} {cell : Nat → Option Value} : ∀ (l : List (List Value)) (o : Nat), (∀ (i : Nat) (us : List Value), l[i]? = some us → us.length = s ∧ ∀ (k : Nat) (u : Value), us[k]? = some u → cell (o + i * s + k) = some u) →
    ∀ (j : Nat) (u : Value), l.flatten[j]? = some u → cell (o + j) = some u
  | [], o, _, j, u, h => by simp at h
  | us :: l, o, h, j, u, hj => by
    obtain ⟨h1, h2⟩ := h 0 us rfl
    rw [List.flatten_cons] at hj
    by_cases hlt : j < us.length
    · rw [List.getElem?_append_left hlt] at hj
      have := h2 j u hj
      simpa using this
    · rw [List.getElem?_append_right (by omega)] at hj
      have := flat_cells l (o + s) (fun i us' hi => by
        obtain ⟨g1, g2⟩ := h (i + 1) us' (by simpa using hi)
        refine ⟨g1, fun k u' hk => ?_⟩
        have := g2 k u' hk
        rw [Nat.add_mul, Nat.one_mul] at this
        rw [show o + s + i * s + k = o + (i * s + s) + k by omega]
        exact this) (j - us.length) u hj
      rw [show o + s + (j - us.length) = o + j by omega] at this
      exact this

section
variable {P : Program} {H : Type} {enc : TypeId × Value → H} {w : World} {sp : Nat → Bool} {held : Bool}

theorem open_ty : ∀ (d n : Nat) (T : TypeId) (cs : List Value) (x : DataW H × List MemPlace), fineB P d T = true → DataW.trod enc P w 0 sp held n T cs = some x → ∃ avs, TyR P d T avs ∧ RelL w (rowLim w) avs cs
  | 0, n, T, cs, x, hf, _ => by simp [fineB] at hf
  | d + 1, n, T, cs, x, hf, h => by
    simp only [fineB] at hf
    split at hf
    · rename_i k hk
      obtain ⟨z, rfl, _, hw⟩ := DataW.trod_int hk h
      refine ⟨[.val (.int k z)], ?_, rfl, by simp [AV.isCell], fun i c u hc hu => ?_⟩
      · simp only [TyR, hk]; exact ⟨z, rfl, hw⟩
      · cases i with
        | zero => simp at hc hu; subst hc; subst hu; exact .val rfl
        | succ i => simp at hc
    · rename_i hk
      obtain ⟨b, rfl, _⟩ := DataW.trod_bool hk h
      refine ⟨[.val (.bool b)], ?_, rfl, by simp [AV.isCell], fun i c u hc hu => ?_⟩
      · simp only [TyR, hk]; exact ⟨b, rfl⟩
      · cases i with
        | zero => simp at hc hu; subst hc; subst hu; exact .val rfl
        | succ i => simp at hc
    · rename_i hk
      obtain ⟨s, rfl, _⟩ := DataW.trod_string hk h
      refine ⟨[.val (.string s)], ?_, rfl, by simp [AV.isCell], fun i c u hc hu => ?_⟩
      · simp only [TyR, hk]; exact ⟨s, rfl⟩
      · cases i with
        | zero => simp at hc hu; subst hc; subst hu; exact .val rfl
        | succ i => simp at hc
    · rename_i e hk
      simp only [Bool.and_eq_true, decide_eq_true_eq] at hf
      rcases DataW.trod_slice hk h with ⟨rfl, _⟩ | ⟨a, len, cap, elems, rest, m, _, rfl, _, _, hlc, hcm, hel, hcells, _, _⟩
      · refine ⟨[.slice false (P.cellsOf e) []], ?_, rfl, by simp [AV.isCell], fun i c u hc hu => ?_⟩
        · simp only [TyR, hk]; exact ⟨[], rfl, by simp, by simp⟩
        · cases i with
          | zero => simp at hc hu; subst hc; subst hu; exact .sliceN
          | succ i => simp at hc
      · obtain ⟨l, hl1, hl2⟩ := list_choice (Q := fun i (p : List Value × List AV) => w.cells? 0 (a.add (i * P.cellsOf e)) (P.cellsOf e) = some p.1 ∧ TyR P d e p.2 ∧ RelL w (rowLim w) p.2 p.1) len fun i hi => by
          have h1 := hcells i hi
          obtain ⟨y, hy⟩ : ∃ y, elems[i]? = some y := ⟨_, List.getElem?_eq_getElem (by omega)⟩
          rw [hy, Option.bind_eq_some_iff] at h1
          obtain ⟨us, h2, h3⟩ := h1
          obtain ⟨avs, h4, h5⟩ := open_ty d m e us y hf.1 h3
          exact ⟨(us, avs), h2, h4, h5⟩
        have hall : ∀ p ∈ l, TyR P d e p.2 ∧ RelL w (rowLim w) p.2 p.1 ∧ p.1.length = P.cellsOf e := by
          intro p hp
          obtain ⟨i, hi⟩ := List.mem_iff_getElem?.1 hp
          obtain ⟨g1, g2, g3⟩ := hl2 i p hi
          exact ⟨g2, g3, (World.cells?_some g1).2.1⟩
        refine ⟨[.slice false (P.cellsOf e) (l.map (·.2))], ?_, rfl, by simp [AV.isCell], fun i c u hc hu => ?_⟩
        · simp only [TyR, hk]
          refine ⟨_, rfl, by simp; omega, fun y hy => ?_⟩
          obtain ⟨p, hp, rfl⟩ := List.mem_map.1 hy
          exact (hall p hp).1
        · cases i with
          | succ i => simp at hc
          | zero =>
            simp only [List.getElem?_cons_zero, Option.some.injEq] at hc hu
            subst hc
            subst hu
            cases l with
            | nil =>
              have : len = 0 := by simpa using hl1.symm
              subst this
              exact .sliceE (fun h => by cases h)
            | cons p l' =>
              have hcell : ∀ (j : Nat) (u : Value), ((p :: l').map (·.1)).flatten[j]? = some u → w.cell? ⟨a.block, a.off + j, none⟩ = some u := by
                refine flat_cells (s := P.cellsOf e) (cell := fun o => w.cell? ⟨a.block, o, none⟩) _ a.off fun i us hi => ?_
                rw [List.getElem?_map] at hi
                cases hpi : (p :: l')[i]? with
                | none => simp [hpi] at hi
                | some q =>
                  simp only [hpi, Option.map_some, Option.some.injEq] at hi
                  subst hi
                  obtain ⟨g1, _, _⟩ := hl2 i q hpi
                  obtain ⟨_, k2, k3⟩ := World.cells?_some g1
                  refine ⟨k2, fun k u hu => ?_⟩
                  have hk' : k < P.cellsOf e := by rw [← k2]; exact (List.getElem?_eq_some_iff.1 hu).1
                  have := k3 k hk'
                  rw [hu] at this
                  have hblk : ((a.add (i * P.cellsOf e)).add k).block = a.block ∧ ((a.add (i * P.cellsOf e)).add k).off = a.off + i * P.cellsOf e + k := by
                    unfold Addr.add
                    split <;> split <;> simp_all
                  have hspot : ((a.add (i * P.cellsOf e)).add k).spot = none := by
                    unfold World.cell? at this
                    split at this
                    · split at this
                      · cases this
                      · rename_i hs; simpa using hs
                    · cases this
                  have heq : (a.add (i * P.cellsOf e)).add k = ⟨a.block, a.off + i * P.cellsOf e + k, none⟩ := by
                    rw [← hblk.1, ← hblk.2, ← hspot]
                  rw [heq] at this
                  exact this
              have hspot : a.spot = none := by
                obtain ⟨g1, _, _⟩ := hl2 0 p rfl
                obtain ⟨_, k2, k3⟩ := World.cells?_some g1
                have := k3 0 hf.2
                obtain ⟨u, hu⟩ : ∃ u, p.1[0]? = some u := ⟨_, List.getElem?_eq_getElem (by rw [k2]; exact hf.2)⟩
                rw [hu] at this
                have ha : (a.add (0 * P.cellsOf e)).add 0 = a := by simp [Addr.add]
                rw [ha] at this
                unfold World.cell? at this
                split at this
                · split at this
                  · cases this
                  · rename_i hs; simpa using hs
                · cases this
              have ha : a = ⟨a.block, a.off, none⟩ := by rw [← hspot]
              have hlen : ((p :: l').map (·.2)).length = len := by rw [List.length_map]; exact hl1
              rw [ha, ← hlen]
              have hrel : RelL w (rowLim w) ((p :: l').map (·.2)).flatten ((p :: l').map (·.1)).flatten := by
                refine RelL.flat _ _ (by simp) fun i x us hx hus => ?_
                rw [List.getElem?_map] at hx hus
                cases hpi : (p :: l')[i]? with
                | none => simp [hpi] at hx
                | some q =>
                  simp only [hpi, Option.map_some, Option.some.injEq] at hx hus
                  subst hx
                  subst hus
                  exact (hl2 i q hpi).2.2
              have hsz : ∀ x ∈ (p :: l').map (·.2), x.length = P.cellsOf e := by
                intro x hx
                obtain ⟨q, hq, rfl⟩ := List.mem_map.1 hx
                obtain ⟨_, g2, g3⟩ := hall q hq
                rw [g2.1, g3]
              refine .sliceC (us := ((p :: l').map (·.1)).flatten) hsz (fun x hx => ?_) (fun h => by cases h) (by rw [hlen]; exact hlc) (fun hne => ?_) ?_ hcell hrel.2.2
              · obtain ⟨q, hq, rfl⟩ := List.mem_map.1 hx
                exact (hall q hq).2.1.2.1
              · have hpos : 0 < (((p :: l').map (·.1)).flatten).length := List.length_pos_iff.2 hne
                have hlast := hcell ((((p :: l').map (·.1)).flatten).length - 1) _ (List.getElem?_eq_getElem (by omega))
                have := rowLim_lt hlast
                omega
              · rw [← hrel.1, getD_replicate_flat _ _ hsz]
    · rename_i fs hk
      simp only [Bool.and_eq_true, decide_eq_true_eq, List.all_eq_true] at hf
      obtain ⟨⟨h1, h2⟩, h3⟩ := hf
      obtain ⟨xs, m, _, _, hlen, hxl, hparts⟩ := DataW.trod_struct hk h
      obtain ⟨ps, q1, q2, q3⟩ := pieces (fs.toList.map fun f => P.cellsOf f.type) cs (by rw [hlen, h2])
      have hps : ps.length = fs.size := by rw [q1]; simp
      obtain ⟨l, hl1, hl2⟩ := list_choice (Q := fun i (avs : List AV) => ∃ (f : Field) (us : List Value), fs[i]? = some f ∧ ps[i]? = some us ∧ TyR P d f.type avs ∧ RelL w (rowLim w) avs us) fs.size fun i hi => by
        have hfi : fs[i]? = some fs[i] := Array.getElem?_eq_getElem hi
        have hn : (fs.toList.map fun f => P.cellsOf f.type)[i]? = some (P.cellsOf fs[i].type) := by simp [hi]
        have h4 := q3 i _ hn
        have h5 := hparts i _ hfi
        have hoff := h3 (fs[i], i) (by rw [List.mem_zipIdx_iff_getElem?]; simp [hi])
        simp only at hoff
        rw [hoff, List.map_take] at h5
        obtain ⟨y, hy⟩ : ∃ y, xs[i]? = some y := ⟨_, List.getElem?_eq_getElem (by omega)⟩
        rw [hy] at h5
        obtain ⟨avs, h6, h7⟩ := open_ty d m _ _ y (h1 fs[i] (by simp)) h5
        exact ⟨avs, fs[i], _, hfi, h4, h6, h7⟩
      refine ⟨l.flatten, ?_, ?_⟩
      · simp only [TyR, hk]
        refine ⟨l, rfl, hl1, fun i f p hf hp => ?_⟩
        obtain ⟨f', us, g1, g2, g3, g4⟩ := hl2 i p hp
        rw [hf] at g1
        cases g1
        exact g3
      · rw [← q2]
        refine RelL.flat _ _ (by rw [hl1, hps]) fun i avs us ha hu => ?_
        obtain ⟨f', us', g1, g2, g3, g4⟩ := hl2 i avs ha
        rw [hu] at g2
        cases g2
        exact g4
    · cases hf

/-- What stands for an argument of a type. -/
def ArgTy (P : Program) (d : Nat) (T : TypeId) (x : AV) : Prop :=
  match P.underlying T with
  | some (.struct _) => ∃ cs, x = .agg cs ∧ TyR P d T cs
  | _ => x.isCell = true ∧ TyR P d T [x]

theorem relL_one {lim : Nat → Nat} {avs : List AV} {v : Value} (h : RelL w lim avs [v]) : ∃ x, avs = [x] ∧ x.isCell = true ∧ Rep w lim x v := by
  obtain ⟨x, rfl⟩ := List.length_eq_one_iff.1 (by simpa using h.1 : avs.length = 1)
  exact ⟨x, rfl, h.2.1 x (by simp), h.2.2 0 x v rfl rfl⟩

theorem open_arg {d : Nat} {T : TypeId} {v : Value} {x : DataW H} {ps : List MemPlace} {r : Reach} {base : Nat} (hf : fineB P d T = true) (hok : Value.okWide P w r base T v)
    (h : DataW.Trod enc P w 0 sp held T v x ps) : ∃ y, ArgTy P d T y ∧ ∀ X σ k, SlotR P w (rowLim w) X σ k y v := by
  obtain ⟨n, h⟩ := h
  obtain ⟨avs, h1, h2⟩ := open_ty d n T _ _ hf h
  cases d with
  | zero => simp [fineB] at hf
  | succ d =>
    have one : v.cells.toList = [v] → (∀ fs, P.underlying T ≠ some (.struct fs)) → ∃ y, ArgTy P (d + 1) T y ∧ ∀ X σ k, SlotR P w (rowLim w) X σ k y v := by
      intro hv hns
      rw [hv] at h2
      obtain ⟨y, rfl, h3, h4⟩ := relL_one h2
      refine ⟨y, ?_, fun X σ k => (cell_slotR h3 h4).2⟩
      unfold ArgTy
      split
      · rename_i fs hfs; exact (hns fs hfs).elim
      · exact ⟨h3, h1⟩
    simp only [fineB] at hf
    split at hf
    · rename_i kd hk
      obtain ⟨z, hz, _⟩ := DataW.trod_int hk h
      refine one ?_ (by rw [hk]; simp)
      simp only [Value.okWide, hk, Cell.okWide] at hok
      cases v <;> simp_all [Cell.ok, Value.cells]
    · rename_i hk
      refine one ?_ (by rw [hk]; simp)
      simp only [Value.okWide, hk, Cell.okWide] at hok
      cases v <;> simp_all [Cell.ok, Value.cells]
    · rename_i hk
      refine one ?_ (by rw [hk]; simp)
      simp only [Value.okWide, hk, Cell.okWide] at hok
      cases v <;> simp_all [Cell.ok, Value.cells]
    · rename_i e hk
      refine one ?_ (by rw [hk]; simp)
      simp only [Value.okWide, hk, Cell.okWide] at hok
      cases v <;> simp_all [Cell.ok, Value.cells]
    · rename_i fs hk
      simp only [Value.okWide, hk] at hok
      obtain ⟨cs, rfl, _, _⟩ := hok
      refine ⟨.agg avs, ?_, ?_⟩
      · unfold ArgTy
        simp only [hk]
        exact ⟨avs, rfl, h1⟩
      · have : cs = cs.toList.toArray := by simp
        intro X σ k
        show Rep w (rowLim w) (.agg avs) (.agg cs)
        rw [this]
        exact .agg h2.1 h2.2.1 h2.2.2
    · cases hf

theorem open_args {d : Nat} {r : Reach} {base : Nat} : ∀ (ts : List TypeId) (vs : List Value) (ds : List (DataW H)) (ps : List MemPlace), (∀ t ∈ ts, fineB P d t = true) →
    (∀ (j : Nat) (t : TypeId) (v : Value), ts[j]? = some t → vs[j]? = some v → Value.okWide P w r base t v) → DataW.TrodAll enc P w 0 sp held ts vs ds ps →
    vs.length = ts.length ∧ ∃ xs : List AV, xs.length = ts.length ∧ ∀ (i : Nat) (t : TypeId) (x : AV) (v : Value), ts[i]? = some t → xs[i]? = some x → vs[i]? = some v → ArgTy P d t x ∧ ∀ X σ k, SlotR P w (rowLim w) X σ k x v
  | [], [], [], ps, _, _, _ => ⟨rfl, [], rfl, by simp⟩
  | t :: ts, v :: vs, x :: ds, ps, hf, hok, h => by
    obtain ⟨p, q, h1, h2, _⟩ := h
    obtain ⟨y, g1, g2⟩ := open_arg (hf t (by simp)) (hok 0 t v rfl rfl) h1
    obtain ⟨k1, xs, k2, k3⟩ := open_args ts vs ds q (fun t ht => hf t (by simp [ht])) (fun j t' v' ht hv => hok (j + 1) t' v' (by simpa using ht) (by simpa using hv)) h2
    refine ⟨by simp [k1], y :: xs, by simp [k2], fun i t' x' v' ht hx hv => ?_⟩
    cases i with
    | zero =>
      simp only [List.getElem?_cons_zero, Option.some.injEq] at ht hx hv
      subst ht
      subst hx
      subst hv
      exact ⟨g1, g2⟩
    | succ i => exact k3 i t' x' v' (by simpa using ht) (by simpa using hx) (by simpa using hv)
  | [], _ :: _, _, _, _, _, h => h.elim
  | [], [], _ :: _, _, _, _, h => h.elim
  | _ :: _, [], _, _, _, _, h => h.elim
  | _ :: _, _ :: _, [], _, _, _, h => h.elim

theorem args_stay {w' : World} {sp' : Nat → Bool} (hl : laidOutB P = true) : ∀ (ts : List TypeId) (vs : List Value) (ds : List (DataW H)) (ps : List MemPlace), (∀ t ∈ ts, t < P.types.size ∧ P.readableRec t = true) →
    DataW.TrodAll enc P w 0 (fun _ => true) true ts vs ds ps → (∀ p ∈ ps, w.sameAt w' p) → (∀ p ∈ ps, sp' p.block = true) → DataW.TrodAll enc P w' 0 sp' true ts vs ds ps
  | [], [], [], _, _, h, _, _ => h
  | t :: ts, v :: vs, x :: ds, ps, ht, h, hs, hp => by
    obtain ⟨p, q, ⟨n, h1⟩, h2, rfl⟩ := h
    refine ⟨p, q, ⟨n, ?_⟩, args_stay hl ts vs ds q (fun t' h' => ht t' (by simp [h'])) h2 (fun z hz => hs z (by simp [hz])) (fun z hz => hp z (by simp [hz])), rfl⟩
    have hr := (ht t (by simp)).2
    exact DataW.trod_stays (T := InBook P t) (kids_book hl hr) (fun {t' e} h' hu => book_sized hr h' hu) (fun h => by cases h) ⟨(ht t (by simp)).1, book_self t⟩ h1 (fun z hz => hs z (by simp [hz])) (fun z hz => hp z (by simp [hz]))
  | [], _ :: _, _, _, _, h, _, _ => h.elim
  | [], [], _ :: _, _, _, h, _, _ => h.elim
  | _ :: _, [], _, _, _, h, _, _ => h.elim
  | _ :: _, _ :: _, [], _, _, h, _, _ => h.elim

theorem contract_true {fn : Func} {f : FuncId} {s : ChangeSpec} {apart fresh handsOn again : Bool} {tb : TypeId} {d : Nat} (hl : laidOutB P = true) (hpar : ∀ t ∈ fn.params.toList, fineB P d t = true ∧ t < P.types.size ∧ P.readableRec t = true)
    (hres : fn.resultTypes = #[tb]) (htb : P.underlying tb = some .bool) (hvars : s.vars = []) (hs : ∀ ds, ds.length = fn.params.size → s.fn H ds = { results := [.lit (.bool true)], args := ds })
    (hcall : ∀ xs : List AV, xs.length = fn.params.toList.length → (∀ (i : Nat) (t : TypeId) (x : AV), fn.params.toList[i]? = some t → xs[i]? = some x → ArgTy P d t x) → ∃ outs, CallOk P f xs (B true) outs)
    (W : World) (base : Nat) (args : Array Value) (ds gs : List (DataW H)) (before : List MemPlace)
    (hval : ∀ (j : Nat) t v, fn.params[j]? = some t → args[j]? = some v → Value.okWide P W .any base t v) (hW : DataW.Whole enc P fn.params.toList s.vars apart W args.toList ds gs before) :
    Calls P f args W fun e W' => ∃ v, e = .returned v ∧ s.post enc P fn apart fresh handsOn again W args v W' := by
  have hW' := hW
  obtain ⟨p, q, hA, hV, rfl, _, _⟩ := hW
  rw [hvars] at hV
  obtain ⟨rfl, rfl⟩ := ChangeShapes.trodVars_none hV
  obtain ⟨hlen, xs, hx1, hx2⟩ := open_args (r := .any) (base := base) _ _ _ _ (fun t ht => (hpar t ht).1) (fun j t v ht hv => hval j t v (by simpa using ht) (by simpa using hv)) hA
  have hdl : ds.length = fn.params.size := by
    have : ∀ (ts : List TypeId) (vs : List Value) (ds : List (DataW H)) (ps : List MemPlace), DataW.TrodAll enc P W 0 (fun _ => true) true ts vs ds ps → ds.length = ts.length := by
      intro ts
      induction ts with
      | nil => intro vs ds ps h; cases vs <;> cases ds <;> simp_all [DataW.TrodAll]
      | cons t ts ih =>
        intro vs ds ps h
        cases vs with
        | nil => exact h.elim
        | cons v vs =>
          cases ds with
          | nil => exact h.elim
          | cons x ds => obtain ⟨_, _, _, h2, _⟩ := h; simp [ih _ _ _ h2]
    simpa using this _ _ _ _ hA
  obtain ⟨outs, _, hc⟩ := hcall xs hx1 fun i t x ht hx => by
    obtain ⟨v, hv⟩ : ∃ v, args.toList[i]? = some v := ⟨_, List.getElem?_eq_getElem (by rw [hlen]; exact (List.getElem?_eq_some_iff.1 ht).1)⟩
    exact (hx2 i t x v ht hx hv).1
  have hcalls := hc W (rowLim W) (fun _ _ => none) args.toList (by rw [hlen, hx1]) (fun i => by
    cases hxi : xs[i]? with
    | none =>
      have : argS xs i = .dead := by simp [argS, hxi]
      rw [this]
      trivial
    | some x =>
      have hi := (List.getElem?_eq_some_iff.1 hxi).1
      obtain ⟨v, hv⟩ : ∃ v, args.toList[i]? = some v := ⟨_, List.getElem?_eq_getElem (by omega)⟩
      obtain ⟨t, ht⟩ : ∃ t, fn.params.toList[i]? = some t := ⟨_, List.getElem?_eq_getElem (by omega)⟩
      have h1 : argS xs i = x := by simp [argS, hxi]
      have h2 : args.toList.getD i undef = v := by rw [List.getD_eq_getElem?_getD, hv]; rfl
      rw [h1, h2]
      exact (hx2 i t x v ht hxi hv).2 _ _ _) (fun _ _ _ _ _ h => by cases h) (fun _ _ _ h => by cases h)
  rw [Array.toArray_toList] at hcalls
  refine hcalls.mono ?_
  rintro e W' ⟨v, lim', X', rfl, hst, hol, hrel, _, _⟩
  have hv : v = .bool true := by
    have h := hrel xs.length
    have h1 : argS (outs ++ [B true]) xs.length = B true := by
      simp only [argS]
      rw [List.getElem?_append_right (by omega), hol]
      simp
    have h2 : (args.toList ++ [v]).getD xs.length undef = v := by
      rw [List.getD_eq_getElem?_getD, List.getElem?_append_right (by omega), hlen, hx1]
      simp
    rw [h1, h2] at h
    exact rep_val h
  subst hv
  have hkept : ∀ b, b < W.heap.size → W'.heap[b]? = W.heap[b]? := fun b hb => (hst.blk b hb (by rintro ⟨_, _, h⟩; cases h)).1
  have hsame : ∀ z ∈ p ++ [], W.sameAt W' z := by
    intro z hz
    have hlt := hW'.lt z hz
    cases z with
    | cell b off =>
      show W'.cell? ⟨b, off, none⟩ = W.cell? ⟨b, off, none⟩
      unfold World.cell?
      rw [hkept b hlt]
    | map b => exact hkept b hlt
  refine ⟨_, rfl, ChangeShapes.post_of_same (pa := p) (pv := []) hW' (fun b sp hd => ?_) (fun sp hp => ?_) (fun sp _ => ?_) rfl ?_ hst.frz ?_⟩
  · rw [hs _ (by simpa using hdl), hres]
    exact ⟨[], [], ⟨1, by simp [DataW.trod, htb, Value.cells]⟩, rfl, rfl⟩
  · rw [hs _ (by simpa using hdl), List.append_nil]
    exact args_stay hl _ _ _ _ (fun t ht => (hpar t ht).2) hA (fun z hz => hsame z (by simpa using hz)) (fun z hz => hp z (by simpa using hz))
  · rw [hs _ (by simpa using hdl), hvars]
    rfl
  · refine ⟨hst.os, hst.output, fun i hi => ?_⟩
    rw [hkept i hi]
    cases W.heap[i]? with
    | none => rfl
    | some o => cases o <;> simp
  · exact RowKit.ok_one hres rfl (RowKit.okWide_bool_mk htb true)

end

end Go.AM
