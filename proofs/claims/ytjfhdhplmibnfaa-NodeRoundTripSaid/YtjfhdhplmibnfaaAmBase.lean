/- Abstract values, what they stand for in a world, and how this is kept when a world grows. Generic: no program stands in it. -/
import Derived.WalkKit
import Derived.Laws.AppendOwnNone
namespace Go.AM

/-- Abstract values. 'slice' is an immutable list of elements (each a list of cells); 'own' is a slice that may be appended to; 'box' is the
content of a struct variable that lies behind the pointer in this slot; 'ptr d off' points into the box of slot d; 'eptr' points at immutable cells.
'box [row e n cap xs]' is a slice of length n that is written in place, of the elements xs; 'mref d' is that slice in another slot. -/
inductive AV where
  | dead
  | gone
  | val (v : Value)
  | agg (cs : List AV)
  | tuple (vs : List AV)
  | slice (full : Bool) (s : Nat) (xs : List (List AV))
  | own (e : TypeId) (xs : List (List AV))
  | box (cs : List AV)
  | ptr (d off : Nat)
  | eptr (cs : List AV)
  | row (e : TypeId) (n cap : Nat) (xs : List (List AV))
  | mref (d : Nat)

def scalar : Value → Bool
  | .bool _ => true
  | .int _ _ => true
  | .string _ => true
  | _ => false

def AV.isCell : AV → Bool
  | .val _ => true
  | .slice _ _ _ => true
  | _ => false

def AV.cells : AV → List AV
  | .agg cs => cs
  | x => [x]

/-- 'x' stands for 'v': what is read lies in cells that are never written again (below 'lim' of their block). -/
inductive Rep (w : World) (lim : Nat → Nat) : AV → Value → Prop
  | val {v : Value} (h : scalar v = true) : Rep w lim (.val v) v
  | agg {cs : List AV} {vs : List Value} (hl : cs.length = vs.length) (hc : ∀ c ∈ cs, c.isCell = true)
      (h : ∀ (i : Nat) (c : AV) (v : Value), cs[i]? = some c → vs[i]? = some v → Rep w lim c v) : Rep w lim (.agg cs) (.agg vs.toArray)
  | sliceN {full : Bool} {s : Nat} : Rep w lim (.slice full s []) (.slice none 0 0)
  | sliceE {full : Bool} {s : Nat} {a : Addr} {cap : Nat} (hf : full = true → cap = 0) : Rep w lim (.slice full s []) (.slice (some a) 0 cap)
  | sliceC {full : Bool} {s : Nat} {xs : List (List AV)} {b o cap : Nat} {us : List Value} (hs : ∀ e ∈ xs, e.length = s)
      (hc : ∀ e ∈ xs, ∀ c ∈ e, c.isCell = true) (hf : full = true → cap = xs.length) (hle : xs.length ≤ cap) (hlim : us ≠ [] → o + us.length ≤ lim b)
      (hus : us.length = xs.length * s) (hcell : ∀ (j : Nat) (u : Value), us[j]? = some u → w.cell? ⟨b, o + j, none⟩ = some u)
      (h : ∀ (j : Nat) (c : AV) (v : Value), xs.flatten[j]? = some c → us[j]? = some v → Rep w lim c v) : Rep w lim (.slice full s xs) (.slice (some ⟨b, o, none⟩) xs.length cap)

theorem scalar_oneCell {v : Value} (h : scalar v = true) : v.oneCell' = true := by cases v <;> simp_all [scalar, Value.oneCell']

theorem Rep.oneCell {w : World} {lim : Nat → Nat} {x : AV} {v : Value} (h : Rep w lim x v) (hx : x.isCell = true) : v.oneCell' = true := by
  cases h with
  | val h => exact scalar_oneCell h
  | agg => simp [AV.isCell] at hx
  | sliceN => rfl
  | sliceE _ => rfl
  | sliceC => rfl

/-- What is stable in 'w' is as it was. -/
def Ext (w : World) (lim : Nat → Nat) (w' : World) (lim' : Nat → Nat) : Prop :=
  ∀ (b : Nat), b < w.heap.size → lim b ≤ lim' b ∧ ∀ (o : Nat) (u : Value), o < lim b → w.cell? ⟨b, o, none⟩ = some u → w'.cell? ⟨b, o, none⟩ = some u

theorem Ext.refl (w : World) (lim : Nat → Nat) : Ext w lim w lim := fun _ _ => ⟨Nat.le_refl _, fun _ _ _ h => h⟩

theorem Ext.trans {w1 w2 w3 : World} {l1 l2 l3 : Nat → Nat} (h : Ext w1 l1 w2 l2) (k : Ext w2 l2 w3 l3) (hz : w1.heap.size ≤ w2.heap.size) : Ext w1 l1 w3 l3 :=
  fun b hb => ⟨Nat.le_trans (h b hb).1 (k b (by omega)).1, fun o u ho hu => (k b (by omega)).2 o u (Nat.lt_of_lt_of_le ho (h b hb).1) ((h b hb).2 o u ho hu)⟩

theorem lt_of_cell {w : World} {b o : Nat} {u : Value} (h : w.cell? ⟨b, o, none⟩ = some u) : b < w.heap.size := World.block_lt_of_cell? w ⟨b, o, none⟩ h

theorem Rep.mono {w w' : World} {lim lim' : Nat → Nat} (he : Ext w lim w' lim') {x : AV} {v : Value} (h : Rep w lim x v) : Rep w' lim' x v := by
  induction h with
  | val h => exact .val h
  | agg hl hc _ ih => exact .agg hl hc ih
  | sliceN => exact .sliceN
  | sliceE hf => exact .sliceE hf
  | @sliceC full s xs b o cap us hs hc hf hle hlim hus hcell _ ih =>
    by_cases hne : us = []
    · subst hne
      exact .sliceC (us := []) hs hc hf hle (fun h => (h rfl).elim) hus (by simp) (by simp)
    · have hl := hlim hne
      obtain ⟨u, rest, rfl⟩ : ∃ u rest, us = u :: rest := by cases us with | nil => exact (hne rfl).elim | cons u rest => exact ⟨u, rest, rfl⟩
      have hb := lt_of_cell (hcell 0 u rfl)
      exact .sliceC hs hc hf hle (fun _ => Nat.le_trans hl (he b hb).1) hus
        (fun j u' hj => (he b hb).2 _ _ (by have := (List.getElem?_eq_some_iff.1 hj).1; omega) (hcell j u' hj)) ih

/-- 'v' is a slice that this activation may append to; 'ob' is its block. -/
def OwnR (P : Program) (w : World) (lim : Nat → Nat) (e : TypeId) (xs : List (List AV)) (v : Value) (ob : Option Nat) : Prop :=
  (∃ us : List Value, w.ownsRow 0 e (P.cellsOf e) v xs.length us ∧ v.ownBlock = ob ∧ (∀ b, ob = some b → lim b = us.length) ∧
    (∀ x ∈ xs, x.length = P.cellsOf e) ∧ (∀ x ∈ xs, ∀ c ∈ x, c.isCell = true) ∧
    ∀ (j : Nat) (c : AV) (u : Value), xs.flatten[j]? = some c → us[j]? = some u → Rep w lim c u) ∨
  (xs = [] ∧ ob = none ∧ ∃ a, v = .slice (some a) 0 0)

/-- A cell of a box, or a component of a tuple: an immutable value, or a slice of one's own. -/
def CellR (P : Program) (w : World) (lim : Nat → Nat) (ob : Option Nat) (x : AV) (v : Value) : Prop :=
  match x with
  | .own e xs => OwnR P w lim e xs v ob
  | x => Rep w lim x v

/-- The content of a box. -/
def PlainR (P : Program) (w : World) (lim : Nat → Nat) (X : Nat → Option Nat) (cs : List AV) (v : Value) : Prop :=
  ∃ (b : Nat) (arr : Array Value) (t : TypeId), X 0 = some b ∧ v = .pointer (some ⟨b, 0, none⟩) ∧ w.heap[b]? = some (.cells arr t (0, 0)) ∧
    arr.size = cs.length ∧ lim b = 0 ∧ (∀ c ∈ cs, c.isCell = true ∨ ∃ e xs, c = .own e xs) ∧
    ∀ (i : Nat) (c : AV) (u : Value), cs[i]? = some c → arr[i]? = some u → CellR P w lim (X (i + 1)) c u

/-- The cells of a slice that is written in place. -/
def RowR (P : Program) (w : World) (lim : Nat → Nat) (ob : Option Nat) (e : TypeId) (n cap : Nat) (xs : List (List AV)) (v : Value) : Prop :=
  ∃ (b : Nat) (arr : Array Value), ob = some b ∧ v = .slice (some ⟨b, 0, none⟩) n cap ∧ w.heap[b]? = some (.cells arr e (0, 0)) ∧ lim b = 0 ∧ xs.length = n ∧ n ≤ cap ∧ cap ≤ maxLen ∧
    arr.size = cap * P.cellsOf e ∧ (∀ x ∈ xs, x.length = P.cellsOf e) ∧ (∀ x ∈ xs, ∀ c ∈ x, c.isCell = true) ∧
    ∀ (j : Nat) (c : AV) (u : Value), xs.flatten[j]? = some c → arr[j]? = some u → Rep w lim c u

def BoxR (P : Program) (w : World) (lim : Nat → Nat) (X : Nat → Option Nat) (cs : List AV) (v : Value) : Prop :=
  PlainR P w lim X cs v ∨ ∃ e n cap xs, cs = [.row e n cap xs] ∧ RowR P w lim (X 0) e n cap xs v

/-- It is no slice that is written in place. -/
def NoRow (cs : List AV) : Prop := ∀ c ∈ cs, ∀ e n cap xs, c ≠ .row e n cap xs

theorem BoxR.plain {P : Program} {w : World} {lim : Nat → Nat} {X : Nat → Option Nat} {cs : List AV} {v : Value} (h : BoxR P w lim X cs v) (hn : NoRow cs) : PlainR P w lim X cs v := by
  rcases h with h | ⟨e, n, cap, xs, rfl, _⟩
  · exact h
  · exact (hn (.row e n cap xs) (by simp) e n cap xs rfl).elim

theorem BoxR.row {P : Program} {w : World} {lim : Nat → Nat} {X : Nat → Option Nat} {e : TypeId} {n cap : Nat} {xs : List (List AV)} {v : Value} (h : BoxR P w lim X [.row e n cap xs] v) : RowR P w lim (X 0) e n cap xs v := by
  rcases h with ⟨b, arr, t, _, _, _, _, _, h6, _⟩ | ⟨e', n', cap', xs', h1, h2⟩
  · rcases h6 (.row e n cap xs) (by simp) with h | ⟨_, _, h⟩ <;> cases h
  · simp only [List.cons.injEq, AV.row.injEq, and_true] at h1
    obtain ⟨rfl, rfl, rfl, rfl⟩ := h1
    exact h2

theorem PlainR.noRow {P : Program} {w : World} {lim : Nat → Nat} {X : Nat → Option Nat} {cs : List AV} {v : Value} (h : PlainR P w lim X cs v) : NoRow cs := by
  obtain ⟨b, arr, t, _, _, _, _, _, h6, _⟩ := h
  intro c hc e n cap xs he
  subst he
  rcases h6 _ hc with h | ⟨_, _, h⟩ <;> cases h

theorem BoxR.zero {P : Program} {w : World} {lim : Nat → Nat} {X : Nat → Option Nat} {cs : List AV} {v : Value} (h : BoxR P w lim X cs v) : ∃ b, X 0 = some b := by
  rcases h with ⟨b, _, _, h1, _⟩ | ⟨e, n, cap, xs, _, b, _, h1, _⟩ <;> exact ⟨b, h1⟩

/-- What slot d holds. 'X d 0' is the block of its box or of its own slice, 'X d (i+1)' that of the own slice in cell or component i. -/
def SlotR (P : Program) (w : World) (lim : Nat → Nat) (X : Nat → Nat → Option Nat) (σ : Nat → AV) (d : Nat) (x : AV) (v : Value) : Prop :=
  match x with
  | .dead => True
  | .gone => True
  | .own e xs => OwnR P w lim e xs v (X d 0)
  | .box cs => BoxR P w lim (X d) cs v
  | .ptr d' off => ∃ b cs, X d' 0 = some b ∧ σ d' = .box cs ∧ v = .pointer (some ⟨b, off, none⟩)
  | .mref d' => ∃ b e n cap xs, X d' 0 = some b ∧ σ d' = .box [.row e n cap xs] ∧ v = .slice (some ⟨b, 0, none⟩) n cap
  | .eptr cs => ∃ (b o : Nat) (us : List Value), v = .pointer (some ⟨b, o, none⟩) ∧ us.length = cs.length ∧ (us ≠ [] → o + us.length ≤ lim b) ∧
      (∀ (j : Nat) (u : Value), us[j]? = some u → w.cell? ⟨b, o + j, none⟩ = some u) ∧ (∀ c ∈ cs, c.isCell = true) ∧
      ∀ (j : Nat) (c : AV) (u : Value), cs[j]? = some c → us[j]? = some u → Rep w lim c u
  | .tuple vs => ∃ us : List Value, v = .tuple us.toArray ∧ us.length = vs.length ∧
      ∀ (i : Nat) (c : AV) (u : Value), vs[i]? = some c → us[i]? = some u → CellR P w lim (X d (i + 1)) c u
  | x => Rep w lim x v

/-- A box stays a box; a slice that is written in place stays one, of its length. -/
def RowKept (cs cs' : List AV) : Prop := ∀ e n cap xs, cs = [.row e n cap xs] → ∃ xs', cs' = [.row e n cap xs']

theorem RowKept.refl (cs : List AV) : RowKept cs cs := fun _ _ _ xs h => ⟨xs, h⟩
theorem RowKept.of_plain {cs cs' : List AV} (h : NoRow cs) : RowKept cs cs' := fun e n cap xs he => (h (.row e n cap xs) (by rw [he]; simp) e n cap xs rfl).elim

/-- Block b is as it was, and so is its limit. -/
def Kept (w : World) (lim : Nat → Nat) (w' : World) (lim' : Nat → Nat) (b : Nat) : Prop := w'.heap[b]? = w.heap[b]? ∧ lim' b = lim b

theorem OwnR.lt {P : Program} {w : World} {lim : Nat → Nat} {e : TypeId} {xs : List (List AV)} {v : Value} {b : Nat} (h : OwnR P w lim e xs v (some b)) : b < w.heap.size := by
  rcases h with ⟨us, h1, h2, _⟩ | ⟨_, h, _⟩
  · exact (h1.lt b h2).2
  · cases h

theorem OwnR.mono {P : Program} {w w' : World} {lim lim' : Nat → Nat} {e : TypeId} {xs : List (List AV)} {v : Value} {ob : Option Nat}
    (h : OwnR P w lim e xs v ob) (he : Ext w lim w' lim') (hk : ∀ b, ob = some b → Kept w lim w' lim' b) : OwnR P w' lim' e xs v ob := by
  rcases h with ⟨us, h1, h2, h3, h4, h5, h6⟩ | h
  case inr => exact .inr h
  refine .inl ⟨us, ⟨h1.1, ?_⟩, h2, fun b hb => ((hk b hb).2.trans (h3 b hb)), h4, h5, fun j c u hc hu => (h6 j c u hc hu).mono he⟩
  rcases h1.2 with h | ⟨g, cap, cur, rfl, hb, hg, rest⟩
  · exact .inl h
  · refine .inr ⟨g, cap, cur, rfl, hb, ?_, rest⟩
    rw [(hk g (by rw [← h2]; rfl)).1]
    exact hg

theorem CellR.mono {P : Program} {w w' : World} {lim lim' : Nat → Nat} {ob : Option Nat} {x : AV} {v : Value}
    (h : CellR P w lim ob x v) (he : Ext w lim w' lim') (hk : ∀ b, ob = some b → Kept w lim w' lim' b) : CellR P w' lim' ob x v := by
  cases x <;> first | exact OwnR.mono h he hk | exact Rep.mono he h

theorem BoxR.mono {P : Program} {w w' : World} {lim lim' : Nat → Nat} {X : Nat → Option Nat} {cs : List AV} {v : Value}
    (h : BoxR P w lim X cs v) (he : Ext w lim w' lim') (hk : ∀ k b, X k = some b → Kept w lim w' lim' b) : BoxR P w' lim' X cs v := by
  rcases h with ⟨b, arr, t, h1, h2, h3, h4, h5, h6, h7⟩ | ⟨e, n, cap, xs, h0, b, arr, h1, h2, h3, h4, h5, h6, h7, h8, h9, h10, h11⟩
  · exact .inl ⟨b, arr, t, h1, h2, (hk 0 b h1).1.trans h3, h4, (hk 0 b h1).2.trans h5, h6, fun i c u hc hu => (h7 i c u hc hu).mono he (hk (i + 1))⟩
  · exact .inr ⟨e, n, cap, xs, h0, b, arr, h1, h2, (hk 0 b h1).1.trans h3, (hk 0 b h1).2.trans h4, h5, h6, h7, h8, h9, h10, fun j c u hc hu => (h11 j c u hc hu).mono he⟩

theorem SlotR.mono {P : Program} {w w' : World} {lim lim' : Nat → Nat} {X : Nat → Nat → Option Nat} {σ : Nat → AV} {d : Nat} {x : AV} {v : Value}
    (h : SlotR P w lim X σ d x v) (he : Ext w lim w' lim') (hk : ∀ k b, X d k = some b → Kept w lim w' lim' b) : SlotR P w' lim' X σ d x v := by
  cases x with
  | dead => trivial
  | gone => trivial
  | own e xs => exact OwnR.mono h he (hk 0)
  | box cs => exact BoxR.mono h he hk
  | ptr d' off => exact h
  | mref d' => exact h
  | row e n cap xs => exact Rep.mono he h
  | eptr cs =>
    obtain ⟨b, o, us, h1, h2, h3, h4, h5, h6⟩ := h
    by_cases hne : us = []
    · subst hne
      exact ⟨b, o, [], h1, h2, fun h => (h rfl).elim, by simp, h5, by simp⟩
    · have hl := h3 hne
      obtain ⟨u, rest, rfl⟩ : ∃ u rest, us = u :: rest := by cases us with | nil => exact (hne rfl).elim | cons u rest => exact ⟨u, rest, rfl⟩
      have hb := lt_of_cell (h4 0 u rfl)
      exact ⟨b, o, _, h1, h2, fun _ => Nat.le_trans hl (he b hb).1, fun j u' hj => (he b hb).2 _ _ (by have := (List.getElem?_eq_some_iff.1 hj).1; omega) (h4 j u' hj), h5, fun j c u hc hu => (h6 j c u hc hu).mono he⟩
  | tuple vs =>
    obtain ⟨us, h1, h2, h3⟩ := h
    exact ⟨us, h1, h2, fun i c u hc hu => (h3 i c u hc hu).mono he (hk (i + 1))⟩
  | val v => exact Rep.mono he h
  | agg cs => exact Rep.mono he h
  | slice f s xs => exact Rep.mono he h

/-- An activation: the world in which it was entered, and the blocks of the callers that it may write. -/
structure Ctx where
  P : Program
  w0 : World
  lim0 : Nat → Nat
  A : Nat → Prop
  nt : Nat
  /-- The slots of the callers' boxes. -/
  pin : Nat → Option Value

/-- What has become of the world since the activation was entered. -/
structure Frm (c : Ctx) (w : World) (lim : Nat → Nat) : Prop where
  os : w.os = c.w0.os
  tape : w.tape = c.w0.tape
  output : w.output = c.w0.output
  size : c.w0.heap.size ≤ w.heap.size
  frz : ∀ a, w.frozen? a = c.w0.frozen? a
  blk : ∀ b, b < c.w0.heap.size → ¬ c.A b → Kept c.w0 c.lim0 w lim b
  ext : Ext c.w0 c.lim0 w lim

structure Sim (c : Ctx) (σ : Nat → AV) (tm : Array Value) (w : World) (lim : Nat → Nat) (X : Nat → Nat → Option Nat) : Prop where
  rel : ∀ d, SlotR c.P w lim X σ d (σ d) (tm.getD d undef)
  size : tm.size = c.nt
  out : ∀ d, c.nt ≤ d → σ d = .dead
  dist : ∀ d k d' k' b, X d k = some b → X d' k' = some b → d = d' ∧ k = k'
  ours : ∀ d k b, X d k = some b → b < w.heap.size ∧ (c.A b ∨ c.w0.heap.size ≤ b)
  frm : Frm c w lim
  pin : ∀ d v, c.pin d = some v → tm.getD d undef = v ∧ ∃ cs, σ d = .box cs

end Go.AM
