/- What may stand for what: a slice that is full for one that is not, an empty one for one's own, and so on. Generic: no program stands in it. -/
import Derived.Test.YtjfhdhplmibnfaaAmEvo
namespace Go.AM

/-- A cell or component 'x' may stand where 'y' is looked for. -/
inductive CellW (P : Program) : AV → AV → Prop
  | same {x : AV} (h : x.isCell = true ∨ ∃ e xs, x = .own e xs) : CellW P x x
  | nil {s s' : Nat} {f : Bool} : CellW P (.slice true s []) (.slice f s' [])
  | imm {f : Bool} {s : Nat} {xs : List (List AV)} : CellW P (.slice f s xs) (.slice false s xs)
  | immN {f : Bool} {s s' : Nat} : CellW P (.slice f s []) (.slice false s' [])
  | own {e : TypeId} {xs : List (List AV)} : CellW P (.own e xs) (.slice false (P.cellsOf e) xs)
  | give {s : Nat} {e : TypeId} : CellW P (.slice true s []) (.own e [])

theorem rep_own {w : World} {lim : Nat → Nat} {e : TypeId} {xs : List (List AV)} {v : Value} (h : Rep w lim (.own e xs) v) : False := by cases h

theorem rep_weak {P : Program} {w : World} {lim : Nat → Nat} {x y : AV} {v : Value} (h : Rep w lim x v) (hw : CellW P x y) (hy : y.isCell = true) : Rep w lim y v := by
  cases hw with
  | same _ => exact h
  | nil => exact rep_nil (fun _ => rfl) h
  | imm => exact rep_imm h
  | immN => exact rep_nil (fun h => by cases h) h
  | own => exact (rep_own h).elim
  | give => cases hy

theorem cell_weak {P : Program} {w : World} {lim : Nat → Nat} {ob : Option Nat} {x y : AV} {v : Value} (h : CellR P w lim ob x v) (hw : CellW P x y) : ∃ ob', (ob' = ob ∨ ob' = none) ∧ CellR P w lim ob' y v := by
  cases hw with
  | same _ => exact ⟨ob, .inl rfl, h⟩
  | nil => exact ⟨ob, .inl rfl, rep_nil (fun _ => rfl) h⟩
  | imm => exact ⟨ob, .inl rfl, rep_imm h⟩
  | immN => exact ⟨ob, .inl rfl, rep_nil (fun h => by cases h) h⟩
  | own => exact ⟨ob, .inl rfl, OwnR.rep h false rfl⟩
  | give => exact ⟨none, .inr rfl, own_full h⟩

/-- A whole value. -/
inductive CompW (P : Program) : AV → AV → Prop
  | cell {x y : AV} (h : CellW P x y) : CompW P x y
  | agg {cs cs' : List AV} (hl : cs.length = cs'.length) (hc : ∀ c ∈ cs', c.isCell = true) (h : ∀ (i : Nat) (c c' : AV), cs[i]? = some c → cs'[i]? = some c' → CellW P c c') : CompW P (.agg cs) (.agg cs')

theorem rep_agg {w : World} {lim : Nat → Nat} {cs : List AV} {v : Value} (h : Rep w lim (.agg cs) v) : ∃ vs : List Value, v = .agg vs.toArray ∧ cs.length = vs.length ∧
    ∀ (i : Nat) (c : AV) (v : Value), cs[i]? = some c → vs[i]? = some v → Rep w lim c v := by
  cases h with
  | agg hl hc hr => exact ⟨_, rfl, hl, hr⟩

theorem comp_weak {P : Program} {w : World} {lim : Nat → Nat} {ob : Option Nat} {x y : AV} {v : Value} (h : CellR P w lim ob x v) (hw : CompW P x y) : ∃ ob', (ob' = ob ∨ ob' = none) ∧ CellR P w lim ob' y v := by
  cases hw with
  | cell hw => exact cell_weak h hw
  | @agg cs cs' hl hc hp =>
    refine ⟨ob, .inl rfl, ?_⟩
    obtain ⟨vs, rfl, h1, h2⟩ := rep_agg (show Rep w lim (.agg cs) v from h)
    refine Rep.agg (by omega) hc fun i c' u hc' hu => ?_
    obtain ⟨c, hcc⟩ : ∃ c, cs[i]? = some c := ⟨_, List.getElem?_eq_getElem (by rw [hl]; exact (List.getElem?_eq_some_iff.1 hc').1)⟩
    exact rep_weak (h2 i c u hcc hu) (hp i c c' hcc hc') (hc c' (List.mem_of_getElem? hc'))

theorem choose_obs {P : Program} {w : World} {lim : Nat → Nat} {cs cs' : List AV} {us : List Value} {Y : Nat → Option Nat} (hl : cs.length = cs'.length) (h : ∀ (i : Nat) (c : AV) (u : Value), cs[i]? = some c → us[i]? = some u → CellR P w lim (Y i) c u)
    (hw : ∀ (i : Nat) (c c' : AV), cs[i]? = some c → cs'[i]? = some c' → CompW P c c') :
    ∃ r : Nat → Option Nat, (∀ i, r i = Y i ∨ r i = none) ∧ ∀ (i : Nat) (c' : AV) (u : Value), cs'[i]? = some c' → us[i]? = some u → CellR P w lim (r i) c' u := by
  have key : ∀ i, ∃ ob : Option Nat, (ob = Y i ∨ ob = none) ∧ ∀ (c' : AV) (u : Value), cs'[i]? = some c' → us[i]? = some u → CellR P w lim ob c' u := by
    intro i
    cases hc' : cs'[i]? with
    | none => exact ⟨none, .inr rfl, fun c' u h => by cases h⟩
    | some c' =>
      cases hu : us[i]? with
      | none => exact ⟨none, .inr rfl, fun c' u _ h => by cases h⟩
      | some u =>
        obtain ⟨c, hc⟩ : ∃ c, cs[i]? = some c := ⟨_, List.getElem?_eq_getElem (by rw [hl]; exact (List.getElem?_eq_some_iff.1 hc').1)⟩
        obtain ⟨ob, h1, h2⟩ := comp_weak (h i c u hc hu) (hw i c c' hc hc')
        refine ⟨ob, h1, fun c2 u2 e1 e2 => ?_⟩
        cases e1
        cases e2
        exact h2
  obtain ⟨r, hr⟩ := Classical.axiomOfChoice key
  exact ⟨r, fun i => (hr i).1, fun i => (hr i).2⟩

inductive SlotW (P : Program) : AV → AV → Prop
  | dead {x : AV} : SlotW P x .dead
  | comp {x y : AV} (h : CompW P x y) : SlotW P x y
  | tuple {cs cs' : List AV} (hl : cs.length = cs'.length) (h : ∀ (i : Nat) (c c' : AV), cs[i]? = some c → cs'[i]? = some c' → CompW P c c') : SlotW P (.tuple cs) (.tuple cs')
  | box {cs cs' : List AV} (hl : cs.length = cs'.length) (h : ∀ (i : Nat) (c c' : AV), cs[i]? = some c → cs'[i]? = some c' → CellW P c c') : SlotW P (.box cs) (.box cs')
  | row {e : TypeId} {n cap : Nat} {xs : List (List AV)} : SlotW P (.box [.row e n cap xs]) (.box [.row e n cap xs])

theorem cellW_right {P : Program} {x y : AV} (h : CellW P x y) : y.isCell = true ∨ ∃ e xs, y = .own e xs := by
  cases h with
  | same h => exact h
  | nil => exact .inl rfl
  | imm => exact .inl rfl
  | immN => exact .inl rfl
  | own => exact .inl rfl
  | give => exact .inr ⟨_, _, rfl⟩

theorem cellW_left {P : Program} {x y : AV} (h : CellW P x y) : x.isCell = true ∨ ∃ e xs, x = .own e xs := by
  cases h with
  | same h => exact h
  | nil => exact .inl rfl
  | imm => exact .inl rfl
  | immN => exact .inl rfl
  | own => exact .inr ⟨_, _, rfl⟩
  | give => exact .inl rfl

theorem noRow_of {cs : List AV} (h : ∀ c ∈ cs, c.isCell = true ∨ ∃ e xs, c = .own e xs) : NoRow cs := by
  intro c hc e n cap xs he
  subst he
  rcases h _ hc with h | ⟨_, _, h⟩ <;> cases h

theorem noRow_left {P : Program} {cs cs' : List AV} (hl : cs.length = cs'.length) (h : ∀ (i : Nat) (c c' : AV), cs[i]? = some c → cs'[i]? = some c' → CellW P c c') : NoRow cs := by
  refine noRow_of fun c hc => ?_
  obtain ⟨i, hi⟩ := List.mem_iff_getElem?.1 hc
  have hlt : i < cs'.length := by rw [← hl]; exact (List.getElem?_eq_some_iff.1 hi).1
  exact cellW_left (h i c _ hi (List.getElem?_eq_getElem hlt))

theorem noRow_right {P : Program} {cs cs' : List AV} (hl : cs.length = cs'.length) (h : ∀ (i : Nat) (c c' : AV), cs[i]? = some c → cs'[i]? = some c' → CellW P c c') : NoRow cs' := by
  refine noRow_of fun c hc => ?_
  obtain ⟨i, hi⟩ := List.mem_iff_getElem?.1 hc
  have hlt : i < cs.length := by rw [hl]; exact (List.getElem?_eq_some_iff.1 hi).1
  exact cellW_right (h i _ c (List.getElem?_eq_getElem hlt) hi)

theorem slot_weak {P : Program} {w : World} {lim : Nat → Nat} {X : Nat → Nat → Option Nat} {σ : Nat → AV} {d : Nat} {x y : AV} {v : Value} (h : SlotR P w lim X σ d x v) (hw : SlotW P x y) :
    ∃ r : Nat → Option Nat, (∀ k, r k = X d k ∨ r k = none) ∧ ∀ (X' : Nat → Nat → Option Nat) (σ' : Nat → AV) (d' : Nat), X' d' = r → SlotR P w lim X' σ' d' y v := by
  cases hw with
  | dead => exact ⟨fun _ => none, fun _ => .inr rfl, fun _ _ _ _ => trivial⟩
  | comp hw =>
    have hc : CellR P w lim (X d 0) x v := by
      cases hw with
      | agg hl hc hp => exact h
      | cell hw =>
        rcases cellW_left hw with hx | ⟨e, xs, rfl⟩
        · cases x <;> simp [AV.isCell] at hx <;> exact h
        · exact h
    obtain ⟨ob, h1, h2⟩ := comp_weak hc hw
    refine ⟨fun k => if k = 0 then ob else none, fun k => ?_, fun X' σ' d' hX => ?_⟩
    · dsimp only
      split
      · rename_i hk; subst hk; exact h1
      · exact .inr rfl
    · have h3 : X' d' 0 = ob := by rw [hX]; rfl
      cases hw with
      | agg hl hc hp => exact h2
      | cell hw =>
        rcases cellW_right hw with hy | ⟨e, xs, rfl⟩
        · cases y <;> simp [AV.isCell] at hy <;> exact h2
        · show OwnR P w lim e xs v (X' d' 0)
          rw [h3]
          exact h2
  | @tuple cs cs' hl hp =>
    obtain ⟨us, rfl, h2, h3⟩ := h
    obtain ⟨r, g1, g2⟩ := choose_obs (Y := fun i => X d (i + 1)) hl h3 hp
    refine ⟨fun k => match k with | 0 => none | k + 1 => r k, fun k => ?_, fun X' σ' d' hX => ?_⟩
    · cases k with
      | zero => exact .inr rfl
      | succ k => exact g1 k
    · refine ⟨us, rfl, by rw [h2, hl], fun i c u hc hu => ?_⟩
      have : X' d' (i + 1) = r i := by rw [hX]
      rw [this]
      exact g2 i c u hc hu
  | row =>
    have hr := BoxR.row h
    exact ⟨fun k => match k with | 0 => X d 0 | k + 1 => none, fun k => by cases k with | zero => exact .inl rfl | succ k => exact .inr rfl,
      fun X' σ' d' hX => .inr ⟨_, _, _, _, rfl, by rw [hX]; exact hr⟩⟩
  | @box cs cs' hl hp =>
    obtain ⟨b, arr, t, h1, rfl, h3, h4, h5, h6, h7⟩ := BoxR.plain h (noRow_left hl hp)
    obtain ⟨r, g1, g2⟩ := choose_obs (P := P) (w := w) (lim := lim) (us := arr.toList) (Y := fun i => X d (i + 1)) hl (fun i c u hc hu => h7 i c u hc (by simpa using hu)) (fun i c c' hc hc' => .cell (hp i c c' hc hc'))
    refine ⟨fun k => match k with | 0 => X d 0 | k + 1 => r k, fun k => ?_, fun X' σ' d' hX => ?_⟩
    · cases k with
      | zero => exact .inl rfl
      | succ k => exact g1 k
    · refine .inl ⟨b, arr, t, by rw [hX]; exact h1, rfl, h3, by rw [h4, hl], h5, fun c hc => ?_, fun i c u hc hu => ?_⟩
      · obtain ⟨i, hi⟩ := List.mem_iff_getElem?.1 hc
        obtain ⟨c0, hc0⟩ : ∃ c0, cs[i]? = some c0 := ⟨_, List.getElem?_eq_getElem (by rw [hl]; exact (List.getElem?_eq_some_iff.1 hi).1)⟩
        exact cellW_right (hp i c0 c hc0 hi)
      · have : X' d' (i + 1) = r i := by rw [hX]
        rw [this]
        exact g2 i c u hc (by simpa using hu)

theorem WStep.wider {w : World} {lim : Nat → Nat} {w' : World} {lim' : Nat → Nat} {S S' : Nat → Prop} (h : WStep w lim w' lim' S) (hs : ∀ b, S b → S' b) : WStep w lim w' lim' S' :=
  ⟨h.os, h.tape, h.output, h.size, h.frz, fun b hb hn => h.blk b hb fun hS => hn (hs b hS), h.ext⟩

/-- Lists of slots, place by place. -/
def SlotsW (P : Program) (as bs : List AV) : Prop := as.length = bs.length ∧ ∀ (i : Nat) (a b : AV), as[i]? = some a → bs[i]? = some b → SlotW P a b

theorem slots_weak {P : Program} {w : World} {lim : Nat → Nat} {X : Nat → Nat → Option Nat} {as bs : List AV} {vs : Nat → Value} (h : ∀ i, SlotR P w lim X (argS as) i (argS as i) (vs i)) (hw : SlotsW P as bs) :
    ∃ X' : Nat → Nat → Option Nat, (∀ i k, X' i k = X i k ∨ X' i k = none) ∧ ∀ i, SlotR P w lim X' (argS bs) i (argS bs i) (vs i) := by
  have key : ∀ i, ∃ r : Nat → Option Nat, (∀ k, r k = X i k ∨ r k = none) ∧ ∀ X' : Nat → Nat → Option Nat, X' i = r → SlotR P w lim X' (argS bs) i (argS bs i) (vs i) := by
    intro i
    have hi := h i
    cases hb : bs[i]? with
    | none =>
      refine ⟨fun _ => none, fun _ => .inr rfl, fun X' _ => ?_⟩
      have : argS bs i = .dead := by simp [argS, hb]
      rw [this]
      trivial
    | some b =>
      obtain ⟨a, ha⟩ : ∃ a, as[i]? = some a := ⟨_, List.getElem?_eq_getElem (by rw [hw.1]; exact (List.getElem?_eq_some_iff.1 hb).1)⟩
      have h1 : argS as i = a := by simp [argS, ha]
      have h2 : argS bs i = b := by simp [argS, hb]
      rw [h1] at hi
      rw [h2]
      obtain ⟨r, g1, g2⟩ := slot_weak hi (hw.2 i a b ha hb)
      exact ⟨r, g1, fun X' hX => g2 X' _ _ hX⟩
  obtain ⟨X', hX⟩ := Classical.axiomOfChoice key
  exact ⟨X', fun i => (hX i).1, fun i => (hX i).2 X' rfl⟩

theorem dist_weak {X X' : Nat → Nat → Option Nat} (h : Dist X) (hX : ∀ i k, X' i k = X i k ∨ X' i k = none) : Dist X' := by
  intro d k d' k' b h1 h2
  rcases hX d k with e1 | e1
  · rcases hX d' k' with e2 | e2
    · exact h d k d' k' b (e1.symm.trans h1) (e2.symm.trans h2)
    · rw [e2] at h2; cases h2
  · rw [e1] at h1; cases h1

theorem CallOk.weak {P : Program} {f : FuncId} {as bs : List AV} {res res' : AV} {outs outs' : List AV} (h : CallOk P f bs res outs) (ha : SlotsW P as bs) (ho : SlotsW P (outs ++ [res]) (outs' ++ [res'])) : CallOk P f as res' outs' := by
  refine ⟨h.1, fun w lim X cargs hcl hrel hdist hsize => ?_⟩
  obtain ⟨X2, g1, g2⟩ := slots_weak hrel ha
  have hX2 : ∀ i k b, X2 i k = some b → X i k = some b := by
    intro i k b hb
    rcases g1 i k with e | e
    · rw [← e]; exact hb
    · rw [e] at hb; cases hb
  refine (h.2 w lim X2 cargs (by rw [hcl, ha.1]) g2 (dist_weak hdist g1) fun i k b hb => hsize i k b (hX2 i k b hb)).mono ?_
  rintro e w' ⟨v, lim', X', he, hst, hol, hr, hd, hin⟩
  obtain ⟨X3, k1, k2⟩ := slots_weak hr ho
  have hX3 : ∀ i k b, X3 i k = some b → X' i k = some b := by
    intro i k b hb
    rcases k1 i k with e | e
    · rw [← e]; exact hb
    · rw [e] at hb; cases hb
  have hll : outs.length = outs'.length := by have := ho.1; simpa using this
  refine ⟨v, lim', X3, he, hst.wider fun b ⟨i, k, hb⟩ => ⟨i, k, hX2 i k b hb⟩, by rw [← hll, hol, ha.1], k2, dist_weak hd k1, fun i k b hb => ?_⟩
  obtain ⟨m1, m2⟩ := hin i k b (hX3 i k b hb)
  exact ⟨m1, m2.imp (fun ⟨i, k, h⟩ => ⟨i, k, hX2 i k b h⟩) id⟩

theorem CallOk.stronger {P : Program} {f : FuncId} {as bs : List AV} {res : AV} {outs : List AV} (h : CallOk P f bs res outs) (ha : SlotsW P as bs) : CallOk P f as res outs := by
  refine ⟨h.1, fun w lim X cargs hcl hrel hdist hsize => ?_⟩
  obtain ⟨X2, g1, g2⟩ := slots_weak hrel ha
  have hX2 : ∀ i k b, X2 i k = some b → X i k = some b := by
    intro i k b hb
    rcases g1 i k with e | e
    · rw [← e]; exact hb
    · rw [e] at hb; cases hb
  refine (h.2 w lim X2 cargs (by rw [hcl, ha.1]) g2 (dist_weak hdist g1) fun i k b hb => hsize i k b (hX2 i k b hb)).mono ?_
  rintro e w' ⟨v, lim', X', he, hst, hol, hr, hd, hin⟩
  refine ⟨v, lim', X', he, hst.wider fun b ⟨i, k, hb⟩ => ⟨i, k, hX2 i k b hb⟩, by rw [hol, ha.1], hr, hd, fun i k b hb => ?_⟩
  obtain ⟨m1, m2⟩ := hin i k b hb
  exact ⟨m1, m2.imp (fun ⟨i, k, h⟩ => ⟨i, k, hX2 i k b h⟩) id⟩

end Go.AM
