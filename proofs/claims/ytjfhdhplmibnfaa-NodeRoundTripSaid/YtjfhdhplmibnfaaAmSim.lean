/- How the relation between abstract slots and a run's slots is kept. Generic: no program stands in it. -/
import Derived.Test.YtjfhdhplmibnfaaAmBase
namespace Go.AM

def upd (σ : Nat → AV) (d : Nat) (x : AV) : Nat → AV := fun i => if i = d then x else σ i

def updL : (Nat → AV) → List (Nat × AV) → (Nat → AV)
  | σ, [] => σ
  | σ, (d, x) :: us => updL (upd σ d x) us

theorem upd_same (σ : Nat → AV) (d : Nat) (x : AV) : upd σ d x d = x := by simp [upd]
theorem upd_other (σ : Nat → AV) {d i : Nat} (x : AV) (h : i ≠ d) : upd σ d x i = σ i := by simp [upd, h]

def rowX (X : Nat → Nat → Option Nat) (d : Nat) (r : Nat → Option Nat) : Nat → Nat → Option Nat := fun i => if i = d then r else X i

theorem rowX_same (X : Nat → Nat → Option Nat) (d : Nat) (r : Nat → Option Nat) : rowX X d r d = r := by simp [rowX]
theorem rowX_other (X : Nat → Nat → Option Nat) {d i : Nat} (r : Nat → Option Nat) (h : i ≠ d) : rowX X d r i = X i := by simp [rowX, h]

def noRow : Nat → Option Nat := fun _ => none
def oneRow (ob : Option Nat) : Nat → Option Nat := fun k => if k = 0 then ob else none

/-- A step of the world: only blocks in S (and new ones) have changed, and nothing that is stable. -/
structure WStep (w : World) (lim : Nat → Nat) (w' : World) (lim' : Nat → Nat) (S : Nat → Prop) : Prop where
  os : w'.os = w.os
  tape : w'.tape = w.tape
  output : w'.output = w.output
  size : w.heap.size ≤ w'.heap.size
  frz : ∀ a, w'.frozen? a = w.frozen? a
  blk : ∀ b, b < w.heap.size → ¬ S b → Kept w lim w' lim' b
  ext : Ext w lim w' lim'

theorem WStep.refl (w : World) (lim : Nat → Nat) (S : Nat → Prop) : WStep w lim w lim S :=
  ⟨rfl, rfl, rfl, Nat.le_refl _, fun _ => rfl, fun _ _ _ => ⟨rfl, rfl⟩, Ext.refl w lim⟩

theorem WStep.drew {w : World} {lim : Nat → Nat} {w' : World} {lim' : Nat → Nat} {S : Nat → Prop} (h : WStep w lim w' lim' S) : WStep w lim w'.drew lim' S :=
  ⟨h.os, h.tape, h.output, h.size, h.frz, h.blk, h.ext⟩

theorem Frm.step {c : Ctx} {w : World} {lim : Nat → Nat} {w' : World} {lim' : Nat → Nat} {S : Nat → Prop} (h : Frm c w lim) (hw : WStep w lim w' lim' S)
    (hS : ∀ b, S b → c.A b ∨ c.w0.heap.size ≤ b) : Frm c w' lim' where
  os := hw.os.trans h.os
  tape := hw.tape.trans h.tape
  output := hw.output.trans h.output
  size := Nat.le_trans h.size hw.size
  frz a := (hw.frz a).trans (h.frz a)
  blk b hb hA := by
    have hns : ¬ S b := fun hs => (hS b hs).elim hA (fun h => by omega)
    have h1 := h.blk b hb hA
    have h2 := hw.blk b (by have := h.size; omega) hns
    exact ⟨h2.1.trans h1.1, h2.2.trans h1.2⟩
  ext := h.ext.trans hw.ext h.size

/-- The relation of a slot under another table of blocks, and other slots. -/
theorem SlotR.chg {P : Program} {w : World} {lim : Nat → Nat} {X X' : Nat → Nat → Option Nat} {σ σ' : Nat → AV} {d : Nat} {x : AV} {v : Value}
    (h : SlotR P w lim X σ d x v) (hX : X' d = X d) (hp : ∀ d' cs, σ d' = .box cs → (∃ cs', σ' d' = .box cs' ∧ RowKept cs cs') ∧ X' d' 0 = X d' 0) : SlotR P w lim X' σ' d x v := by
  cases x with
  | ptr d' off =>
    obtain ⟨b, cs, h1, h2, h3⟩ := h
    obtain ⟨⟨cs', h4, _⟩, h5⟩ := hp d' cs h2
    exact ⟨b, cs', h5.trans h1, h4, h3⟩
  | mref d' =>
    obtain ⟨b, e, n, cap, xs, h1, h2, h3⟩ := h
    obtain ⟨⟨cs', h4, h6⟩, h5⟩ := hp d' _ h2
    obtain ⟨xs', rfl⟩ := h6 e n cap xs rfl
    exact ⟨b, e, n, cap, xs', h5.trans h1, h4, h3⟩
  | row e n cap xs => exact h
  | own e xs => show OwnR P w lim e xs v (X' d 0); rw [hX]; exact h
  | box cs => show BoxR P w lim (X' d) cs v; rw [hX]; exact h
  | tuple vs => 
    obtain ⟨us, h1, h2, h3⟩ := h
    refine ⟨us, h1, h2, ?_⟩
    rw [hX]
    exact h3
  | dead => trivial
  | gone => trivial
  | eptr cs => exact h
  | val v => exact h
  | agg cs => exact h
  | slice f s xs => exact h

/-- The world steps on; what it changes is in no slot. -/
theorem Sim.world {c : Ctx} {σ : Nat → AV} {tm : Array Value} {w : World} {lim : Nat → Nat} {X : Nat → Nat → Option Nat} (h : Sim c σ tm w lim X)
    {w' : World} {lim' : Nat → Nat} {S : Nat → Prop} (hw : WStep w lim w' lim' S) (hS : ∀ b, S b → (c.A b ∨ c.w0.heap.size ≤ b) ∧ ∀ i j, X i j ≠ some b) : Sim c σ tm w' lim' X where
  rel d := (h.rel d).mono hw.ext fun k b hb => hw.blk b (h.ours d k b hb).1 fun hs => (hS b hs).2 d k hb
  size := h.size
  out := h.out
  dist := h.dist
  ours d k b hb := ⟨Nat.lt_of_lt_of_le (h.ours d k b hb).1 hw.size, (h.ours d k b hb).2⟩
  frm := h.frm.step hw fun b hs => (hS b hs).1
  pin := h.pin

/-- A slot is written, and with it what belongs to it. -/
theorem Sim.putRow {c : Ctx} {σ : Nat → AV} {tm : Array Value} {w : World} {lim : Nat → Nat} {X : Nat → Nat → Option Nat} (h : Sim c σ tm w lim X)
    {w' : World} {lim' : Nat → Nat} {S : Nat → Prop} {d : Nat} {x : AV} {tm' : Array Value} (r : Nat → Option Nat) (hw : WStep w lim w' lim' S) (hS : ∀ b, S b → ∃ k, X d k = some b)
    (hd : d < c.nt) (hsz : tm'.size = tm.size) (hoth : ∀ i, i ≠ d → tm'.getD i undef = tm.getD i undef)
    (hb : (∀ cs, σ d ≠ .box cs) ∨ ((∃ cs, x = .box cs ∧ ∀ cs0, σ d = .box cs0 → RowKept cs0 cs) ∧ r 0 = X d 0 ∧ tm'.getD d undef = tm.getD d undef))
    (hx : SlotR c.P w' lim' (rowX X d r) (upd σ d x) d x (tm'.getD d undef))
    (hr1 : ∀ k b, r k = some b → b < w'.heap.size ∧ (c.A b ∨ c.w0.heap.size ≤ b) ∧ ∀ i j, i ≠ d → X i j ≠ some b)
    (hr2 : ∀ k k' b, r k = some b → r k' = some b → k = k') : Sim c (upd σ d x) tm' w' lim' (rowX X d r) where
  rel i := by
    by_cases hi : i = d
    · subst hi
      rw [upd_same]
      exact hx
    · rw [upd_other σ x hi, hoth i hi]
      have h1 := (h.rel i).mono hw.ext fun k b hb => hw.blk b (h.ours i k b hb).1 fun hs => by
        obtain ⟨k', hk'⟩ := hS b hs
        exact hi (h.dist i k d k' b hb hk').1
      refine h1.chg (rowX_other X r hi) fun d' cs hd' => ?_
      by_cases hdd : d' = d
      · subst hdd
        rcases hb with hb | ⟨⟨cs', hx', hk'⟩, hr, _⟩
        · exact (hb cs hd').elim
        · exact ⟨⟨cs', by rw [upd_same, hx'], hk' cs hd'⟩, by rw [rowX_same, hr]⟩
      · exact ⟨⟨cs, by rw [upd_other σ x hdd, hd'], RowKept.refl cs⟩, by rw [rowX_other X r hdd]⟩
  size := hsz.trans h.size
  out i hi := by rw [upd_other σ x (by omega)]; exact h.out i hi
  dist i k i' k' b h1 h2 := by
    by_cases hi : i = d <;> by_cases hi' : i' = d
    · subst hi; subst hi'
      rw [rowX_same] at h1 h2
      exact ⟨rfl, hr2 k k' b h1 h2⟩
    · subst hi
      rw [rowX_same] at h1
      rw [rowX_other X r hi'] at h2
      exact ((hr1 k b h1).2.2 i' k' hi' h2).elim
    · subst hi'
      rw [rowX_same] at h2
      rw [rowX_other X r hi] at h1
      exact ((hr1 k' b h2).2.2 i k hi h1).elim
    · rw [rowX_other X r hi] at h1
      rw [rowX_other X r hi'] at h2
      exact h.dist i k i' k' b h1 h2
  ours i k b h1 := by
    by_cases hi : i = d
    · subst hi
      rw [rowX_same] at h1
      exact ⟨(hr1 k b h1).1, (hr1 k b h1).2.1⟩
    · rw [rowX_other X r hi] at h1
      exact ⟨Nat.lt_of_lt_of_le (h.ours i k b h1).1 hw.size, (h.ours i k b h1).2⟩
  frm := h.frm.step hw fun b hs => by
    obtain ⟨k, hk⟩ := hS b hs
    exact (h.ours d k b hk).2
  pin i v hv := by
    obtain ⟨h1, cs, h2⟩ := h.pin i v hv
    by_cases hi : i = d
    · subst hi
      rcases hb with hb | ⟨⟨cs', rfl, _⟩, _, hv2⟩
      · exact (hb cs h2).elim
      · exact ⟨hv2.trans h1, cs', upd_same _ _ _⟩
    · exact ⟨(hoth i hi).trans h1, cs, by rw [upd_other σ x hi, h2]⟩

/-- A value that owns nothing. -/
def AV.plain : AV → Bool
  | .own _ _ => false
  | .box _ => false
  | .tuple _ => false
  | _ => true

/-- The relation of a value that owns nothing does not hang on its slot. -/
theorem SlotR.plain {P : Program} {w : World} {lim : Nat → Nat} {X X' : Nat → Nat → Option Nat} {σ σ' : Nat → AV} {d d' : Nat} {x : AV} {v : Value}
    (h : SlotR P w lim X σ d x v) (hx : x.plain = true) (hp : ∀ i cs, σ i = .box cs → (∃ cs', σ' i = .box cs' ∧ RowKept cs cs') ∧ X' i 0 = X i 0) : SlotR P w lim X' σ' d' x v := by
  cases x with
  | ptr i off =>
    obtain ⟨b, cs, h1, h2, h3⟩ := h
    obtain ⟨⟨cs', h4, _⟩, h5⟩ := hp i cs h2
    exact ⟨b, cs', h5.trans h1, h4, h3⟩
  | mref i =>
    obtain ⟨b, e, n, cap, xs, h1, h2, h3⟩ := h
    obtain ⟨⟨cs', h4, h6⟩, h5⟩ := hp i _ h2
    obtain ⟨xs', rfl⟩ := h6 e n cap xs rfl
    exact ⟨b, e, n, cap, xs', h5.trans h1, h4, h3⟩
  | row e n cap xs => exact h
  | own e xs => simp [AV.plain] at hx
  | box cs => simp [AV.plain] at hx
  | tuple vs => simp [AV.plain] at hx
  | dead => trivial
  | gone => trivial
  | eptr cs => exact h
  | val v => exact h
  | agg cs => exact h
  | slice f s xs => exact h

theorem getD_set (tm : Array Value) (d : Nat) (v : Value) (h : d < tm.size) : (tm.setIfInBounds d v).getD d undef = v := by
  simp [Array.getD, h]

theorem getD_set_other (tm : Array Value) (d i : Nat) (v : Value) (h : i ≠ d) : (tm.setIfInBounds d v).getD i undef = tm.getD i undef := by
  by_cases hi : i < tm.size
  · simp [Array.getD, hi, Ne.symm h]
  · simp [Array.getD, hi]

/-- A value that owns nothing is put into a slot. -/
theorem Sim.put {c : Ctx} {σ : Nat → AV} {tm : Array Value} {w : World} {lim : Nat → Nat} {X : Nat → Nat → Option Nat} (h : Sim c σ tm w lim X)
    {d k : Nat} {x : AV} {v : Value} (hd : d < c.nt) (hb : ∀ cs, σ d ≠ .box cs) (hp : x.plain = true) (hx : SlotR c.P w lim X σ k x v) :
    Sim c (upd σ d x) (tm.setIfInBounds d v) w lim (rowX X d noRow) := by
  refine h.putRow noRow (WStep.refl w lim (fun _ => False)) (fun _ hs => hs.elim) hd (by simp) (fun i hi => getD_set_other tm d i v hi) (.inl hb) ?_
    (fun k b hk => by simp [noRow] at hk) (fun k k' b hk => by simp [noRow] at hk)
  rw [getD_set tm d v (by rw [h.size]; exact hd)]
  refine hx.plain hp fun i cs hi => ?_
  have hne : i ≠ d := fun e => hb cs (e ▸ hi)
  exact ⟨⟨cs, by rw [upd_other σ x hne, hi], RowKept.refl cs⟩, by rw [rowX_other X noRow hne]⟩

/-- A slot is seen as less than it was. -/
theorem Sim.weaken {c : Ctx} {σ : Nat → AV} {tm : Array Value} {w : World} {lim : Nat → Nat} {X : Nat → Nat → Option Nat} (h : Sim c σ tm w lim X)
    {d k : Nat} {x : AV} (hd : d < c.nt) (hb : ∀ cs, σ d ≠ .box cs) (hp : x.plain = true) (hx : SlotR c.P w lim X σ k x (tm.getD d undef)) :
    Sim c (upd σ d x) tm w lim (rowX X d noRow) := by
  refine h.putRow noRow (WStep.refl w lim (fun _ => False)) (fun _ hs => hs.elim) hd rfl (fun i hi => rfl) (.inl hb) ?_
    (fun k b hk => by simp [noRow] at hk) (fun k k' b hk => by simp [noRow] at hk)
  refine hx.plain hp fun i cs hi => ?_
  have hne : i ≠ d := fun e => hb cs (e ▸ hi)
  exact ⟨⟨cs, by rw [upd_other σ x hne, hi], RowKept.refl cs⟩, by rw [rowX_other X noRow hne]⟩

/-- A slice of one's own is put into a slot. -/
theorem Sim.putOwn {c : Ctx} {σ : Nat → AV} {tm : Array Value} {w : World} {lim : Nat → Nat} {X : Nat → Nat → Option Nat} (h : Sim c σ tm w lim X)
    {d : Nat} {e : TypeId} {xs : List (List AV)} {v : Value} {ob : Option Nat} (hd : d < c.nt) (hb : ∀ cs, σ d ≠ .box cs) (hx : OwnR c.P w lim e xs v ob)
    (ho : ∀ b, ob = some b → (c.A b ∨ c.w0.heap.size ≤ b) ∧ ∀ i j, i ≠ d → X i j ≠ some b) :
    Sim c (upd σ d (.own e xs)) (tm.setIfInBounds d v) w lim (rowX X d (oneRow ob)) := by
  refine h.putRow (oneRow ob) (WStep.refl w lim (fun _ => False)) (fun _ hs => hs.elim) hd (by simp) (fun i hi => getD_set_other tm d i v hi) (.inl hb) ?_
    (fun k b hk => ?_) (fun k k' b hk hk' => ?_)
  · rw [getD_set tm d v (by rw [h.size]; exact hd)]
    show OwnR c.P w lim e xs v (rowX X d (oneRow ob) d 0)
    rw [rowX_same]
    exact hx
  · unfold oneRow at hk
    split at hk
    · subst hk
      exact ⟨hx.lt, (ho b rfl).1, (ho b rfl).2⟩
    · simp at hk
  · unfold oneRow at hk hk'
    split at hk <;> split at hk'
    · omega
    · simp at hk'
    · simp at hk
    · simp at hk

theorem getD_replicate_flat (xs : List (List AV)) (s : Nat) (h : ∀ x ∈ xs, x.length = s) : xs.flatten.length = xs.length * s := by
  induction xs with
  | nil => simp
  | cons x xs ih =>
    simp only [List.flatten_cons, List.length_append, List.length_cons]
    rw [h x (by simp), ih fun y hy => h y (by simp [hy]), Nat.add_mul]
    omega

/-- A slice of one's own, read. -/
theorem OwnR.rep {P : Program} {w : World} {lim : Nat → Nat} {e : TypeId} {xs : List (List AV)} {v : Value} {ob : Option Nat} (h : OwnR P w lim e xs v ob) (f : Bool) (hf : f = false) :
    Rep w lim (.slice f (P.cellsOf e) xs) v := by
  subst hf
  rcases h with ⟨us, h1, h2, h3, h4, h5, h6⟩ | ⟨rfl, _, a, rfl⟩
  case inr => exact .sliceE (fun h => by simp at h)
  rcases h1.2 with ⟨hv, hn⟩ | ⟨g, cap, cur, hv, hbg, hg, hnc, hcm, hcs, htake⟩
  · have : xs = [] := List.eq_nil_of_length_eq_zero hn
    subst this
    rw [hv]
    exact .sliceN
  · rw [hv]
    have hob : ob = some g := by rw [← h2, hv]; rfl
    refine .sliceC h4 h5 (fun h => by simp at h) hnc (fun _ => ?_) h1.1 (fun j u hj => ?_) h6
    · rw [h3 g hob]; omega
    · have hcell := h1.cells (g := g) (by rw [hv]; rfl) j u hj
      have hadd : (⟨g, 0, none⟩ : Addr).add j = ⟨g, 0 + j, none⟩ := by unfold Addr.add; split <;> simp_all
      rw [hadd] at hcell
      exact hcell

end Go.AM
