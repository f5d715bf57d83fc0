/- The trees, run: what a function computes, as a plain function of its arguments' parts; and that a run which comes to its end is what the code does. Generic: no program stands in it. -/
import Derived.Test.YtjfhdhplmibnfaaAmRet
import Derived.Test.YtjfhdhplmibnfaaAmUse
namespace Go.AM

/-! what stands for a cell of a shape -/
@[reducible] def Sh.T : Sh → Type
  | .int _ => Int
  | .bool => Bool
  | .str => ByteArray
  | .slice _ => List (List AV)
  | .own _ => List (List AV)

@[reducible] def ShsT : List Sh → Type
  | [] => Unit
  | [s] => s.T
  | s :: t :: r => s.T × ShsT (t :: r)

def Sh.toV : (s : Sh) → s.T → V
  | .int _, z => .i z
  | .bool, z => .b z
  | .str, z => .s z
  | .slice _, z => .l z
  | .own _, z => .l z

def Sh.ofV : (s : Sh) → V → Option s.T
  | .int _, .i z => some z
  | .bool, .b z => some z
  | .str, .s z => some z
  | .slice _, .l z => some z
  | .own _, .l z => some z
  | _, _ => none

def toVs : (l : List Sh) → ShsT l → List V
  | [], _ => []
  | [s], x => [s.toV x]
  | s :: t :: r, x => s.toV x.1 :: toVs (t :: r) x.2

def ofVs : (l : List Sh) → List V → Option (ShsT l)
  | [], [] => some ()
  | [], _ :: _ => none
  | [s], [v] => s.ofV v
  | [_], [] => none
  | [_], _ :: _ :: _ => none
  | _ :: _ :: _, [] => none
  | s :: t :: r, v :: vs => match s.ofV v, ofVs (t :: r) vs with | some a, some b => some (a, b) | _, _ => none

theorem ofV_toV {s : Sh} {v : V} {x : s.T} (h : s.ofV v = some x) : s.toV x = v := by
  cases s <;> cases v <;> simp [Sh.ofV] at h <;> subst h <;> rfl

theorem ofVs_toVs : ∀ (l : List Sh) (vs : List V) (x : ShsT l), ofVs l vs = some x → toVs l x = vs
  | [], [], _, _ => rfl
  | [], _ :: _, _, h => by simp [ofVs] at h
  | [s], [v], x, h => by simp only [toVs, ofV_toV (show s.ofV v = some x from h)]
  | [_], [], _, h => by simp [ofVs] at h
  | [_], _ :: _ :: _, _, h => by simp [ofVs] at h
  | _ :: _ :: _, [], _, h => by simp [ofVs] at h
  | s :: t :: r, v :: vs, x, h => by
    simp only [ofVs] at h
    split at h
    · rename_i a b ha hb
      simp only [Option.some.injEq] at h
      subst h
      simp only [toVs, ofV_toV ha, ofVs_toVs (t :: r) vs b hb]
    · cases h

/-- A cell, read as one of its shape. -/
def Sh.ofE : (s : Sh) → AV → Option s.T
  | .int k, .val (.int k' z) => if k' = k then some z else none
  | .bool, .val (.bool b) => some b
  | .str, .val (.string b) => some b
  | .slice s, .slice false s' xs => if s' = s then some xs else none
  | _, _ => none

def ofEs : (l : List Sh) → List AV → Option (ShsT l)
  | [], [] => some ()
  | [], _ :: _ => none
  | [s], [c] => s.ofE c
  | [_], [] => none
  | [_], _ :: _ :: _ => none
  | _ :: _ :: _, [] => none
  | s :: t :: r, c :: cs => match s.ofE c, ofEs (t :: r) cs with | some a, some b => some (a, b) | _, _ => none

theorem ofE_den {s : Sh} {c : AV} {x : s.T} {n : Nat} {ρ : Nat → V} (h : s.ofE c = some x) (hρ : ρ n = s.toV x) : (shapeAt s n).den ρ = c := by
  unfold Sh.ofE at h
  split at h
  · split at h
    · simp only [Option.some.injEq] at h
      subst h
      rename_i hk
      subst hk
      simp only [shapeAt, SC.den, IE.den, hρ, Sh.toV, V.int]
    · cases h
  · simp only [Option.some.injEq] at h
    subst h
    simp only [shapeAt, SC.den, BE.den, hρ, Sh.toV, V.bool]
  · simp only [Option.some.injEq] at h
    subst h
    simp only [shapeAt, SC.den, SE.den, hρ, Sh.toV, V.str]
  · split at h
    · simp only [Option.some.injEq] at h
      subst h
      rename_i hk
      subst hk
      simp only [shapeAt, SC.den, LE.den, hρ, Sh.toV, V.list]
    · cases h
  · cases h

theorem ofEs_den : ∀ (l : List Sh) (cs : List AV) (x : ShsT l) (n : Nat) (ρ : Nat → V), ofEs l cs = some x → Fill ρ n (toVs l x) → (shapesAt l n).map (SC.den ρ) = cs
  | [], [], _, _, _, _, _ => rfl
  | [], _ :: _, _, _, _, h, _ => by simp [ofEs] at h
  | [s], [c], x, n, ρ, h, hf => by
    have h0 := hf 0 _ (show (toVs [s] x)[0]? = some (s.toV x) from rfl)
    rw [Nat.add_zero] at h0
    simp only [shapesAt, List.map_cons, List.map_nil, ofE_den (show s.ofE c = some x from h) h0]
  | [_], [], _, _, _, h, _ => by simp [ofEs] at h
  | [_], _ :: _ :: _, _, _, _, h, _ => by simp [ofEs] at h
  | _ :: _ :: _, [], _, _, _, h, _ => by simp [ofEs] at h
  | s :: t :: r, c :: cs, x, n, ρ, h, hf => by
    simp only [ofEs] at h
    split at h
    · rename_i a b ha hb
      simp only [Option.some.injEq] at h
      subst h
      obtain ⟨h0, h1⟩ := Fill.tail (show Fill ρ n (s.toV a :: toVs (t :: r) b) from hf)
      have h2 := ofEs_den (t :: r) cs b (n + 1) ρ hb h1
      rw [shapesAt, List.map_cons, ofE_den ha h0, h2]
    · cases h

/-! the steps of a run -/
section
open Classical in
/-- A requirement: where it fails, there is no outcome. -/
noncomputable def reqK {γ : Type} (p : Prop) (x : Option γ) : Option γ := if p then x else none
end

theorem reqK_pos {γ : Type} {p : Prop} (h : p) (x : Option γ) : reqK p x = x := if_pos h
theorem reqK_some {γ : Type} {p : Prop} {x : Option γ} {r : γ} (h : reqK p x = some r) : p ∧ x = some r := by
  unfold reqK at h
  split at h
  · exact ⟨‹_›, h⟩
  · cases h

section
open Classical in
/-- Whether a slice is nil is not known of an empty one: both ways must come to the same. -/
noncomputable def nilK {γ : Type} (p : Prop) (k : Bool → Option γ) : Option γ := if p then (if k true = k false then k true else none) else k false
end

theorem nilK_some {γ : Type} {p : Prop} {k : Bool → Option γ} {r : γ} (h : nilK p k = some r) (b : Bool) (hb : b = true → p) : k b = some r := by
  unfold nilK at h
  split at h
  · split at h
    · rename_i he
      cases b
      · rw [← he]; exact h
      · exact h
    · cases h
  · rename_i hp
    cases b
    · exact h
    · exact (hp (hb rfl)).elim

theorem nilK_of {γ : Type} {p : Prop} {k : Bool → Option γ} {r : γ} (h1 : p → k true = r) (h2 : k false = r) : nilK p k = r := by
  unfold nilK
  split
  · rename_i hp
    rw [h1 hp, h2, if_pos rfl]
  · exact h2

def elemK {γ : Type} (l : List (List AV)) (i : Int) (sh : List Sh) (k : ShsT sh → Option γ) : Option γ :=
  if 0 ≤ i then match l[i.toNat]? with | some cs => (match ofEs sh cs with | some r => k r | none => none) | none => none else none

theorem elemK_at {γ : Type} {l : List (List AV)} {i : Int} {sh : List Sh} {cs : List AV} {r : ShsT sh} (k : ShsT sh → Option γ) (h0 : 0 ≤ i) (h1 : l[i.toNat]? = some cs) (h2 : ofEs sh cs = some r) : elemK l i sh k = k r := by
  simp only [elemK, h0, if_true, h1, h2]

theorem elemK_some {γ : Type} {l : List (List AV)} {i : Int} {sh : List Sh} {k : ShsT sh → Option γ} {x : γ} (h : elemK l i sh k = some x) : 0 ≤ i ∧ ∃ cs r, l[i.toNat]? = some cs ∧ ofEs sh cs = some r ∧ k r = some x := by
  unfold elemK at h
  split at h
  · refine ⟨‹_›, ?_⟩
    split at h
    · split at h
      · exact ⟨_, _, ‹_›, ‹_›, h⟩
      · cases h
    · cases h
  · cases h

def iterL {γ : Type} (F : (List V → Option γ) → List V → Option γ) : Nat → List V → Option γ
  | 0 => fun _ => none
  | k + 1 => F (iterL F k)

/-- How often a loop may turn: more often than any list is long. -/
def FUEL : Nat := 1208925819614629174706176

/-! what a function is told to be -/
inductive AP where
  | c (s : Sh)
  | agg (l : List Sh)
  | box (l : List Sh)

def RSh.sh : RSh → List Sh
  | .c s => [s]
  | .agg l => l

def outShs : List AP → List Sh
  | [] => []
  | .box l :: r => l ++ outShs r
  | _ :: r => outShs r

def shsOf (rs : List RSh) (aps : List AP) : List Sh := rs.flatMap RSh.sh ++ outShs aps

structure Fun where
  args : List AP
  res : List RSh
  g : List V → Option (ShsT (shsOf res args))

def compDen (r : RSh) (us : List V) (j : Nat) : AV :=
  match r with
  | .c s => shDen s (vAt us j)
  | .agg l => .agg (shsDen l us j)

def compsDen : List RSh → List V → Nat → List AV
  | [], _, _ => []
  | r :: rs, us, j => compDen r us j :: compsDen rs us (j + r.sh.length)

def resDen (rs : List RSh) (us : List V) (j : Nat) : AV :=
  match rs with
  | [r] => compDen r us j
  | rs => .tuple (compsDen rs us j)

def outsDen : List AP → List V → Nat → List AV
  | [], _, _ => []
  | .box l :: r, us, j => .box (shsDen l us j) :: outsDen r us (j + l.length)
  | _ :: r, us, j => .dead :: outsDen r us j

def AP.n : AP → Nat
  | .c _ => 1
  | .agg l => l.length
  | .box l => l.length

def apDen (a : AP) (us : List V) (j : Nat) : AV :=
  match a with
  | .c s => shDen s (vAt us j)
  | .agg l => .agg (shsDen l us j)
  | .box l => .box (shsDen l us j)

def apsDen : List AP → List V → Nat → List AV
  | [], _, _ => []
  | a :: r, us, j => apDen a us j :: apsDen r us (j + a.n)

def resN (rs : List RSh) : Nat := (rs.flatMap RSh.sh).length

/-- The function is what it is told to be. -/
def Fun.Ok (P : Program) (f : FuncId) (S : Fun) : Prop :=
  ∀ vs r, S.g vs = some r → CallOk P f (apsDen S.args vs 0) (resDen S.res (toVs _ r) 0) (outsDen S.args (toVs _ r) (resN S.res))

def OkAll (P : Program) : List (FuncId × Fun) → Prop
  | [] => True
  | p :: r => p.2.Ok P p.1 ∧ OkAll P r

def lookF : List (FuncId × Fun) → FuncId → Option Fun
  | [], _ => none
  | p :: r, f => if p.1 = f then some p.2 else lookF r f

theorem lookF_ok {P : Program} : ∀ {Φ : List (FuncId × Fun)} {f : FuncId} {S : Fun}, OkAll P Φ → lookF Φ f = some S → S.Ok P f
  | [], _, _, _, h => by simp [lookF] at h
  | p :: r, f, S, ho, h => by
    simp only [lookF] at h
    split at h
    · rename_i hp
      simp only [Option.some.injEq] at h
      subst hp
      subst h
      exact ho.1
    · exact lookF_ok ho.2 h

/-! the arguments of a call, read as a function is told to take them -/
def decC (P : Program) : Sh → AV → Option V
  | .int k, .val (.int k' z) => if k' = k then some (.i z) else none
  | .bool, .val (.bool b) => some (.b b)
  | .str, .val (.string s) => some (.s s)
  | .slice s, .slice _ s' xs => if s' = s then some (.l xs) else (match xs with | [] => some (.l []) | _ :: _ => none)
  | .slice s, .own e xs => if P.cellsOf e = s then some (.l xs) else none
  | .own e, .own e' xs => if e' = e then some (.l xs) else none
  | .own _, .slice true _ xs => (match xs with | [] => some (.l []) | _ :: _ => none)
  | _, _ => none

def decCs (P : Program) : List Sh → List AV → Option (List V)
  | [], [] => some []
  | s :: ss, c :: cs => match decC P s c, decCs P ss cs with | some v, some vs => some (v :: vs) | _, _ => none
  | _, _ => none

def decA (P : Program) : AP → AV → Option (List V)
  | .c s, x => (decC P s x).map fun v => [v]
  | .agg l, .agg cs => if l.all Sh.imm = true then decCs P l cs else none
  | .box l, .box cs => decCs P l cs
  | _, _ => none

def decAs (P : Program) : List AP → List AV → Option (List V)
  | [], [] => some []
  | a :: as, x :: xs => match decA P a x, decAs P as xs with | some vs, some us => some (vs ++ us) | _, _ => none
  | _, _ => none

theorem decC_ok {P : Program} {s : Sh} {c : AV} {v : V} (h : decC P s c = some v) : CellW P c (shDen s v) := by
  unfold decC at h
  split at h
  · split at h
    · simp only [Option.some.injEq] at h; subst h; rename_i hk; subst hk; exact .same (.inl rfl)
    · cases h
  · simp only [Option.some.injEq] at h; subst h; exact .same (.inl rfl)
  · simp only [Option.some.injEq] at h; subst h; exact .same (.inl rfl)
  · split at h
    · simp only [Option.some.injEq] at h; subst h; rename_i hk; subst hk; exact .imm
    · split at h
      · simp only [Option.some.injEq] at h; subst h; exact .immN
      · cases h
  · split at h
    · simp only [Option.some.injEq] at h; subst h; rename_i hk; subst hk; exact .own
    · cases h
  · split at h
    · simp only [Option.some.injEq] at h; subst h; rename_i hk; subst hk; exact .same (.inr ⟨_, _, rfl⟩)
    · cases h
  · split at h
    · simp only [Option.some.injEq] at h; subst h; exact .give
    · cases h
  · cases h

theorem decCs_ok {P : Program} : ∀ (l : List Sh) (cs : List AV) (vs : List V), decCs P l cs = some vs → vs.length = l.length ∧ cs.length = l.length ∧ ∀ pre post : List V,
    ∀ (i : Nat) (c c' : AV), cs[i]? = some c → (shsDen l (pre ++ vs ++ post) pre.length)[i]? = some c' → CellW P c c'
  | [], [], vs, h => by
    simp only [decCs, Option.some.injEq] at h
    subst h
    exact ⟨rfl, rfl, fun _ _ i c c' h => by simp at h⟩
  | [], _ :: _, _, h => by simp [decCs] at h
  | _ :: _, [], _, h => by simp [decCs] at h
  | s :: ss, c :: cs, us, h => by
    simp only [decCs] at h
    split at h
    · rename_i v vs hv hvs
      simp only [Option.some.injEq] at h
      subst h
      obtain ⟨h1, h2, h3⟩ := decCs_ok (P := P) ss cs vs hvs
      refine ⟨by simp [h1], by simp [h2], fun pre post i c1 c2 hc1 hc2 => ?_⟩
      cases i with
      | zero =>
        simp only [shsDen, List.getElem?_cons_zero, Option.some.injEq] at hc1 hc2
        subst hc1
        subst hc2
        rw [List.append_assoc, List.cons_append, vAt_mid]
        exact decC_ok hv
      | succ i =>
        have := h3 (pre ++ [v]) post i c1 c2 (by simpa using hc1)
        simp only [List.append_assoc, List.cons_append, List.nil_append, List.length_append, List.length_cons, List.length_nil] at this
        simp only [shsDen, List.getElem?_cons_succ, List.append_assoc, List.cons_append] at hc2
        exact this hc2
    · cases h

theorem decA_ok {P : Program} {a : AP} {x : AV} {vs : List V} (h : decA P a x = some vs) : vs.length = a.n ∧ ∀ pre post : List V, SlotW P x (apDen a (pre ++ vs ++ post) pre.length) := by
  unfold decA at h
  split at h
  · cases hd : decC P _ x with
    | none => rw [hd] at h; cases h
    | some v =>
      rw [hd] at h
      simp only [Option.map_some, Option.some.injEq] at h
      subst h
      refine ⟨rfl, fun pre post => ?_⟩
      simp only [apDen, List.append_assoc, List.cons_append, List.nil_append, vAt_mid]
      exact .comp (.cell (decC_ok hd))
  · rename_i l cs
    split at h
    · rename_i hi
      obtain ⟨h1, h2, h3⟩ := decCs_ok (P := P) _ _ _ h
      exact ⟨h1, fun pre post => .comp (.agg (by rw [h2, shsDen_len]) (shsDen_cell _ _ _ hi) (h3 pre post))⟩
    · cases h
  · obtain ⟨h1, h2, h3⟩ := decCs_ok (P := P) _ _ _ h
    exact ⟨h1, fun pre post => .box (by rw [h2, shsDen_len]) (h3 pre post)⟩
  · cases h

theorem apsDen_len : ∀ (l : List AP) (us : List V) (j : Nat), (apsDen l us j).length = l.length
  | [], _, _ => rfl
  | _ :: ss, us, j => by simp [apsDen, apsDen_len ss us]

theorem decAs_ok {P : Program} : ∀ (as : List AP) (xs : List AV) (vs : List V), decAs P as xs = some vs → xs.length = as.length ∧ ∀ pre post : List V,
    ∀ (i : Nat) (c c' : AV), xs[i]? = some c → (apsDen as (pre ++ vs ++ post) pre.length)[i]? = some c' → SlotW P c c'
  | [], [], _, _ => ⟨rfl, fun _ _ i c c' h => by simp at h⟩
  | [], _ :: _, _, h => by simp [decAs] at h
  | _ :: _, [], _, h => by simp [decAs] at h
  | a :: as, x :: xs, ws, h => by
    simp only [decAs] at h
    split at h
    · rename_i vs us hv hus
      simp only [Option.some.injEq] at h
      subst h
      obtain ⟨h1, h2⟩ := decA_ok (P := P) hv
      obtain ⟨h3, h4⟩ := decAs_ok (P := P) as xs us hus
      refine ⟨by simp [h3], fun pre post i c1 c2 hc1 hc2 => ?_⟩
      cases i with
      | zero =>
        simp only [apsDen, List.getElem?_cons_zero, Option.some.injEq] at hc1 hc2
        subst hc1
        subst hc2
        have := h2 pre (us ++ post)
        simpa [List.append_assoc] using this
      | succ i =>
        have := h4 (pre ++ vs) post i c1 c2 (by simpa using hc1)
        rw [List.length_append, h1] at this
        simp only [apsDen, List.getElem?_cons_succ] at hc2
        refine this ?_
        simpa [List.append_assoc] using hc2
    · cases h

theorem decAs_slots {P : Program} {as : List AP} {xs : List AV} {vs : List V} (h : decAs P as xs = some vs) : SlotsW P xs (apsDen as vs 0) := by
  obtain ⟨h1, h2⟩ := decAs_ok (P := P) as xs vs h
  refine ⟨by rw [h1, apsDen_len], fun i c c' hc hc' => h2 [] [] i c c' hc ?_⟩
  simpa using hc'

/-- A call. -/
def callK {γ : Type} (P : Program) (S : Fun) (as : List AV) (k : List V → Option γ) : Option γ :=
  match decAs P S.args as with
  | some vs => (S.g vs).bind fun r => k (toVs _ r)
  | none => none

theorem callK_some {γ : Type} {S : Fun} {as : List AV} {k : List V → Option γ} {x : γ} {P : Program} (h : callK P S as k = some x) : ∃ vs r, decAs P S.args as = some vs ∧ S.g vs = some r ∧ k (toVs _ r) = some x := by
  unfold callK at h
  split at h
  · rename_i vs hvs
    rw [Option.bind_eq_some_iff] at h
    obtain ⟨r, h1, h2⟩ := h
    exact ⟨vs, r, hvs, h1, h2⟩
  · cases h

/-! the result of a call, as the tree writes it -/
def fitC (s : Sh) (x : SC) (m : Nat) : Bool :=
  match s, x with
  | .int k, .int k' (.var a) => decide (k' = k) && decide (a = m)
  | .bool, .bool (.var a) => decide (a = m)
  | .str, .str (.var a) => decide (a = m)
  | .slice s, .slice false s' (.var a) => decide (s' = s) && decide (a = m)
  | _, _ => false

def fitCs : List Sh → List SC → Nat → Bool
  | [], [], _ => true
  | s :: ss, c :: cs, m => fitC s c m && fitCs ss cs (m + 1)
  | _, _, _ => false

def fitT (r : RSh) (x : TC) (m : Nat) : Bool :=
  match r, x with
  | .c s, .c x => fitC s x m
  | .c (.own e), .own e' (.var a) => decide (e' = e) && decide (a = m)
  | .agg l, .agg cs => fitCs l cs m
  | _, _ => false

def fitTs : List RSh → List TC → Nat → Bool
  | [], [], _ => true
  | r :: rs, x :: xs, m => fitT r x m && fitTs rs xs (m + r.sh.length)
  | _, _, _ => false

def svTC : SV → Option TC
  | .c x => some (.c x)
  | .agg cs => some (.agg cs)
  | .own e l => some (.own e l)
  | _ => none

def fitR (rs : List RSh) (x : SV) (m : Nat) : Bool :=
  match rs with
  | [r] => match svTC x with | some y => fitT r y m | none => false
  | rs => match x with | .tuple vs => fitTs rs vs m | _ => false

def fitB (s : Sh) (x : BC) (m : Nat) : Bool :=
  match s, x with
  | s, .c x => fitC s x m
  | .own e, .own e' (.var a) => decide (e' = e) && decide (a = m)
  | _, _ => false

def fitBs : List Sh → List BC → Nat → Bool
  | [], [], _ => true
  | s :: ss, c :: cs, m => fitB s c m && fitBs ss cs (m + 1)
  | _, _, _ => false

def fitOs : List AP → List SV → Nat → Bool
  | [], [], _ => true
  | .box l :: r, .box cs :: xs, m => fitBs l cs m && fitOs r xs (m + l.length)
  | .c _ :: r, .dead :: xs, m => fitOs r xs m
  | .agg _ :: r, .dead :: xs, m => fitOs r xs m
  | _, _, _ => false

section
variable {ρ : Nat → V} {n : Nat} {us : List V}

theorem bind_at (j : Nat) (h : j < us.length) : bind ρ n us (n + j) = vAt us j := by
  unfold bind vAt
  rw [if_neg (by omega), show n + j - n = j by omega, List.getElem?_eq_getElem h]
  rfl

theorem fitC_den {s : Sh} {x : SC} {j : Nat} (h : fitC s x (n + j) = true) (hj : j < us.length) : x.den (bind ρ n us) = shDen s (vAt us j) := by
  unfold fitC at h
  split at h
  · simp only [Bool.and_eq_true, decide_eq_true_eq] at h
    obtain ⟨rfl, rfl⟩ := h
    simp only [SC.den, IE.den, bind_at j hj, shDen]
  · simp only [decide_eq_true_eq] at h
    subst h
    simp only [SC.den, BE.den, bind_at j hj, shDen]
  · simp only [decide_eq_true_eq] at h
    subst h
    simp only [SC.den, SE.den, bind_at j hj, shDen]
  · simp only [Bool.and_eq_true, decide_eq_true_eq] at h
    obtain ⟨rfl, rfl⟩ := h
    simp only [SC.den, LE.den, bind_at j hj, shDen]
  · cases h

theorem fitCs_den : ∀ (l : List Sh) (cs : List SC) (j : Nat), fitCs l cs (n + j) = true → j + l.length ≤ us.length → cs.map (SC.den (bind ρ n us)) = shsDen l us j
  | [], [], _, _, _ => rfl
  | [], _ :: _, _, h, _ => by simp [fitCs] at h
  | _ :: _, [], _, h, _ => by simp [fitCs] at h
  | s :: ss, c :: cs, j, h, hl => by
    simp only [fitCs, Bool.and_eq_true] at h
    simp only [List.length_cons] at hl
    rw [List.map_cons, shsDen, fitC_den h.1 (by omega), fitCs_den ss cs (j + 1) (by rw [← Nat.add_assoc]; exact h.2) (by omega)]

theorem fitT_den {r : RSh} {x : TC} {j : Nat} (h : fitT r x (n + j) = true) (hj : j + r.sh.length ≤ us.length) : x.den (bind ρ n us) = compDen r us j := by
  unfold fitT at h
  split at h
  · exact fitC_den h (by simp [RSh.sh] at hj; omega)
  · simp only [Bool.and_eq_true, decide_eq_true_eq] at h
    obtain ⟨rfl, rfl⟩ := h
    have hj' : j < us.length := by simp [RSh.sh] at hj; omega
    simp only [TC.den, LE.den, bind_at j hj', compDen, shDen]
  · simp only [TC.den, compDen, fitCs_den _ _ j h hj]
  · cases h

theorem fitTs_den : ∀ (rs : List RSh) (xs : List TC) (j : Nat), fitTs rs xs (n + j) = true → j + (rs.flatMap RSh.sh).length ≤ us.length → xs.map (TC.den (bind ρ n us)) = compsDen rs us j
  | [], [], _, _, _ => rfl
  | [], _ :: _, _, h, _ => by simp [fitTs] at h
  | _ :: _, [], _, h, _ => by simp [fitTs] at h
  | r :: rs, x :: xs, j, h, hl => by
    simp only [fitTs, Bool.and_eq_true] at h
    simp only [List.flatMap_cons, List.length_append] at hl
    rw [List.map_cons, compsDen, fitT_den h.1 (by omega), fitTs_den rs xs (j + r.sh.length) (by rw [← Nat.add_assoc]; exact h.2) (by omega)]

theorem svTC_den {x : SV} {y : TC} (h : svTC x = some y) (ρ : Nat → V) : x.den ρ = y.den ρ := by
  unfold svTC at h
  split at h <;> simp at h <;> subst h <;> rfl

theorem fitR_den {rs : List RSh} {x : SV} (h : fitR rs x n = true) (hl : resN rs ≤ us.length) : x.den (bind ρ n us) = resDen rs us 0 := by
  unfold fitR at h
  split at h
  · split at h
    · rename_i r y hy
      rw [svTC_den hy]
      exact fitT_den (j := 0) h (by simpa [resN] using hl)
    · cases h
  · rename_i hne
    split at h
    · rename_i vs
      have : resDen rs us 0 = .tuple (compsDen rs us 0) := by
        unfold resDen
        split
        · exact (hne _ rfl).elim
        · rfl
      rw [this]
      simp only [SV.den, fitTs_den rs vs 0 h (by simpa [resN] using hl)]
    · cases h

theorem fitB_den {s : Sh} {x : BC} {j : Nat} (h : fitB s x (n + j) = true) (hj : j < us.length) : x.den (bind ρ n us) = shDen s (vAt us j) := by
  unfold fitB at h
  split at h
  · exact fitC_den h hj
  · simp only [Bool.and_eq_true, decide_eq_true_eq] at h
    obtain ⟨rfl, rfl⟩ := h
    simp only [BC.den, LE.den, bind_at j hj, shDen]
  · cases h

theorem fitBs_den : ∀ (l : List Sh) (cs : List BC) (j : Nat), fitBs l cs (n + j) = true → j + l.length ≤ us.length → cs.map (BC.den (bind ρ n us)) = shsDen l us j
  | [], [], _, _, _ => rfl
  | [], _ :: _, _, h, _ => by simp [fitBs] at h
  | _ :: _, [], _, h, _ => by simp [fitBs] at h
  | s :: ss, c :: cs, j, h, hl => by
    simp only [fitBs, Bool.and_eq_true] at h
    simp only [List.length_cons] at hl
    rw [List.map_cons, shsDen, fitB_den h.1 (by omega), fitBs_den ss cs (j + 1) (by rw [← Nat.add_assoc]; exact h.2) (by omega)]

theorem fitOs_den : ∀ (aps : List AP) (xs : List SV) (j : Nat), fitOs aps xs (n + j) = true → j + (outShs aps).length ≤ us.length → xs.map (SV.den (bind ρ n us)) = outsDen aps us j
  | [], [], _, _, _ => rfl
  | [], _ :: _, _, h, _ => by simp [fitOs] at h
  | .box l :: r, x :: xs, j, h, hl => by
    cases x <;> simp [fitOs] at h
    rename_i cs
    simp only [outShs, List.length_append] at hl
    have h1 : cs.map (BC.den (bind ρ n us)) = shsDen l us j := fitBs_den l cs j h.1 (by omega)
    simp only [List.map_cons, outsDen, SV.den, h1, fitOs_den r xs (j + l.length) (by rw [← Nat.add_assoc]; exact h.2) (by omega)]
  | .c _ :: r, x :: xs, j, h, hl => by
    cases x <;> simp [fitOs] at h
    simp only [outShs] at hl
    simp only [List.map_cons, outsDen, SV.den, fitOs_den r xs j h hl]
  | .agg _ :: r, x :: xs, j, h, hl => by
    cases x <;> simp [fitOs] at h
    simp only [outShs] at hl
    simp only [List.map_cons, outsDen, SV.den, fitOs_den r xs j h hl]
  | .box _ :: _, [], _, h, _ => by simp [fitOs] at h
  | .c _ :: _, [], _, h, _ => by simp [fitOs] at h
  | .agg _ :: _, [], _, h, _ => by simp [fitOs] at h

end

theorem toVs_len : ∀ (l : List Sh) (x : ShsT l), (toVs l x).length = l.length
  | [], _ => rfl
  | [_], _ => rfl
  | _ :: t :: r, x => by simp [toVs, toVs_len (t :: r) x.2]

/-! what a function returns -/
def retT (P : Program) (r : RSh) (x : TC) : Option (List VE) :=
  match r, x with
  | .c s, .c x => (retC s x).map fun v => [v]
  | .c s, .own e l => (retOwn P s e l).map fun v => [v]
  | .agg l, .agg cs => if l.all Sh.imm = true then retCs l cs else none
  | _, _ => none

def retTs (P : Program) : List RSh → List TC → Option (List VE)
  | [], [] => some []
  | r :: rs, x :: xs => match retT P r x, retTs P rs xs with | some v, some vs => some (v ++ vs) | _, _ => none
  | _, _ => none

def retR (P : Program) (rs : List RSh) (x : SV) : Option (List VE) :=
  match rs with
  | [r] => match svTC x with | some y => retT P r y | none => none
  | rs => match x with | .tuple vs => retTs P rs vs | _ => none

def retOs (P : Program) : List AP → List SV → Option (List VE)
  | [], [] => some []
  | .box l :: r, .box cs :: xs => match retBs P l cs, retOs P r xs with | some v, some vs => some (v ++ vs) | _, _ => none
  | .c _ :: r, .dead :: xs => retOs P r xs
  | .agg _ :: r, .dead :: xs => retOs P r xs
  | _, _ => none

def retVals (P : Program) (aps : List AP) (rs : List RSh) (x : SV) (os : List SV) : Option (List VE) :=
  match retR P rs x, retOs P aps os with
  | some vs, some us => some (vs ++ us)
  | _, _ => none

section
variable {P : Program} {ρ : Nat → V}

theorem retT_ok {r : RSh} {x : TC} {vs : List VE} (h : retT P r x = some vs) : vs.length = r.sh.length ∧ ∀ pre post : List V, CompW P (x.den ρ) (compDen r (pre ++ vs.map (VE.den ρ) ++ post) pre.length) := by
  unfold retT at h
  split at h
  · cases hd : retC _ _ with
    | none => rw [hd] at h; cases h
    | some v =>
      rw [hd] at h
      simp only [Option.map_some, Option.some.injEq] at h
      subst h
      refine ⟨rfl, fun pre post => ?_⟩
      simp only [compDen, List.map_cons, List.map_nil, List.append_assoc, List.cons_append, List.nil_append, vAt_mid]
      exact .cell (retC_ok hd)
  · cases hd : retOwn P _ _ _ with
    | none => rw [hd] at h; cases h
    | some v =>
      rw [hd] at h
      simp only [Option.map_some, Option.some.injEq] at h
      subst h
      refine ⟨rfl, fun pre post => ?_⟩
      simp only [compDen, List.map_cons, List.map_nil, List.append_assoc, List.cons_append, List.nil_append, vAt_mid]
      exact .cell (retOwn_ok hd)
  · split at h
    · rename_i hi
      obtain ⟨h1, h2, h3⟩ := retCs_ok (P := P) (ρ := ρ) _ _ _ h
      exact ⟨h1, fun pre post => .agg (by rw [List.length_map, h2, shsDen_len]) (shsDen_cell _ _ _ hi) (h3 pre post)⟩
    · cases h
  · cases h

theorem compsDen_len : ∀ (rs : List RSh) (us : List V) (j : Nat), (compsDen rs us j).length = rs.length
  | [], _, _ => rfl
  | _ :: ss, us, j => by simp [compsDen, compsDen_len ss us]

theorem retTs_ok : ∀ (rs : List RSh) (xs : List TC) (vs : List VE), retTs P rs xs = some vs → vs.length = (rs.flatMap RSh.sh).length ∧ xs.length = rs.length ∧ ∀ pre post : List V,
    ∀ (i : Nat) (c c' : AV), (xs.map (TC.den ρ))[i]? = some c → (compsDen rs (pre ++ vs.map (VE.den ρ) ++ post) pre.length)[i]? = some c' → CompW P c c'
  | [], [], vs, h => by
    simp only [retTs, Option.some.injEq] at h
    subst h
    exact ⟨rfl, rfl, fun _ _ i c c' h => by simp at h⟩
  | [], _ :: _, _, h => by simp [retTs] at h
  | _ :: _, [], _, h => by simp [retTs] at h
  | r :: rs, x :: xs, us, h => by
    simp only [retTs] at h
    split at h
    · rename_i v vs hv hvs
      simp only [Option.some.injEq] at h
      subst h
      obtain ⟨h1, h2⟩ := retT_ok (P := P) (ρ := ρ) hv
      obtain ⟨h3, h4, h5⟩ := retTs_ok rs xs vs hvs
      refine ⟨by simp [h1, h3], by simp [h4], fun pre post i c1 c2 hc1 hc2 => ?_⟩
      cases i with
      | zero =>
        simp only [compsDen, List.map_cons, List.getElem?_cons_zero, Option.some.injEq] at hc1 hc2
        subst hc1
        subst hc2
        have := h2 pre (vs.map (VE.den ρ) ++ post)
        simpa [List.append_assoc] using this
      | succ i =>
        have := h5 (pre ++ v.map (VE.den ρ)) post i c1 c2 (by simpa using hc1)
        rw [List.length_append, List.length_map, h1] at this
        simp only [compsDen, List.getElem?_cons_succ] at hc2
        refine this ?_
        simpa [List.append_assoc] using hc2
    · cases h

theorem retR_ok {rs : List RSh} {x : SV} {vs : List VE} (h : retR P rs x = some vs) : vs.length = resN rs ∧ ∀ post : List V, SlotW P (x.den ρ) (resDen rs (vs.map (VE.den ρ) ++ post) 0) := by
  unfold retR at h
  split at h
  · split at h
    · rename_i r y hy
      obtain ⟨h1, h2⟩ := retT_ok (P := P) (ρ := ρ) h
      refine ⟨by simpa [resN] using h1, fun post => ?_⟩
      rw [svTC_den hy]
      have := h2 [] post
      exact .comp (by simpa [resDen] using this)
    · cases h
  · rename_i hne
    split at h
    · rename_i ys
      obtain ⟨h1, h2, h3⟩ := retTs_ok (P := P) (ρ := ρ) _ _ _ h
      refine ⟨h1, fun post => ?_⟩
      have : ∀ us, resDen rs us 0 = .tuple (compsDen rs us 0) := by
        intro us
        unfold resDen
        split
        · exact (hne _ rfl).elim
        · rfl
      rw [this]
      refine .tuple (by rw [List.length_map, h2, compsDen_len]) fun i c c' hc hc' => h3 [] post i c c' hc ?_
      simpa using hc'
    · cases h

theorem outsDen_len : ∀ (aps : List AP) (us : List V) (j : Nat), (outsDen aps us j).length = aps.length
  | [], _, _ => rfl
  | .box _ :: r, us, j => by simp [outsDen, outsDen_len r us]
  | .c _ :: r, us, j => by simp [outsDen, outsDen_len r us]
  | .agg _ :: r, us, j => by simp [outsDen, outsDen_len r us]

theorem retOs_ok : ∀ (aps : List AP) (xs : List SV) (vs : List VE), retOs P aps xs = some vs → vs.length = (outShs aps).length ∧ xs.length = aps.length ∧ ∀ pre post : List V,
    ∀ (i : Nat) (c c' : AV), (xs.map (SV.den ρ))[i]? = some c → (outsDen aps (pre ++ vs.map (VE.den ρ) ++ post) pre.length)[i]? = some c' → SlotW P c c'
  | [], [], vs, h => by
    simp only [retOs, Option.some.injEq] at h
    subst h
    exact ⟨rfl, rfl, fun _ _ i c c' h => by simp at h⟩
  | [], _ :: _, _, h => by simp [retOs] at h
  | .box _ :: _, [], _, h => by simp [retOs] at h
  | .c _ :: _, [], _, h => by simp [retOs] at h
  | .agg _ :: _, [], _, h => by simp [retOs] at h
  | .box l :: r, x :: xs, us, h => by
    cases x <;> simp only [retOs, reduceCtorEq] at h
    split at h
    · rename_i cs v vs hv hvs
      simp only [Option.some.injEq] at h
      subst h
      obtain ⟨h1, h2, h3⟩ := retBs_ok (P := P) (ρ := ρ) _ _ _ hv
      obtain ⟨h4, h5, h6⟩ := retOs_ok r xs vs hvs
      refine ⟨by simp [h1, h4, outShs], by simp [h5], fun pre post i c1 c2 hc1 hc2 => ?_⟩
      cases i with
      | zero =>
        simp only [outsDen, List.map_cons, List.getElem?_cons_zero, Option.some.injEq, SV.den] at hc1 hc2
        subst hc1
        subst hc2
        have := h3 pre (vs.map (VE.den ρ) ++ post)
        exact .box (by rw [List.length_map, h2, shsDen_len]) (by simpa [List.append_assoc] using this)
      | succ i =>
        have := h6 (pre ++ v.map (VE.den ρ)) post i c1 c2 (by simpa using hc1)
        rw [List.length_append, List.length_map, h1] at this
        simp only [outsDen, List.getElem?_cons_succ] at hc2
        refine this ?_
        simpa [List.append_assoc] using hc2
    · cases h
  | .c _ :: r, x :: xs, us, h => by
    cases x <;> simp only [retOs, reduceCtorEq] at h
    obtain ⟨h4, h5, h6⟩ := retOs_ok r xs us h
    refine ⟨h4, by simp [h5], fun pre post i c1 c2 hc1 hc2 => ?_⟩
    cases i with
    | zero =>
      simp only [outsDen, List.map_cons, List.getElem?_cons_zero, Option.some.injEq] at hc1 hc2
      subst hc2
      exact .dead
    | succ i => exact h6 pre post i c1 c2 (by simpa using hc1) (by simpa [outsDen] using hc2)
  | .agg _ :: r, x :: xs, us, h => by
    cases x <;> simp only [retOs, reduceCtorEq] at h
    obtain ⟨h4, h5, h6⟩ := retOs_ok r xs us h
    refine ⟨h4, by simp [h5], fun pre post i c1 c2 hc1 hc2 => ?_⟩
    cases i with
    | zero =>
      simp only [outsDen, List.map_cons, List.getElem?_cons_zero, Option.some.injEq] at hc1 hc2
      subst hc2
      exact .dead
    | succ i => exact h6 pre post i c1 c2 (by simpa using hc1) (by simpa [outsDen] using hc2)

theorem retVals_ok {aps : List AP} {rs : List RSh} {x : SV} {os : List SV} {vs : List VE} (h : retVals P aps rs x os = some vs) :
    SlotsW P (os.map (SV.den ρ) ++ [x.den ρ]) (outsDen aps (vs.map (VE.den ρ)) (resN rs) ++ [resDen rs (vs.map (VE.den ρ)) 0]) := by
  unfold retVals at h
  split at h
  · rename_i a b ha hb
    simp only [Option.some.injEq] at h
    subst h
    obtain ⟨h1, h2⟩ := retR_ok (ρ := ρ) ha
    obtain ⟨h3, h4, h5⟩ := retOs_ok (P := P) (ρ := ρ) _ _ _ hb
    have hlo : (os.map (SV.den ρ)).length = (outsDen aps ((a ++ b).map (VE.den ρ)) (resN rs)).length := by rw [List.length_map, h4, outsDen_len]
    refine ⟨by simp only [List.length_append, hlo, List.length_cons, List.length_nil], fun i c c' hc hc' => ?_⟩
    by_cases hi : i < (os.map (SV.den ρ)).length
    · rw [List.getElem?_append_left hi] at hc
      rw [List.getElem?_append_left (by rw [← hlo]; exact hi)] at hc'
      have := h5 (a.map (VE.den ρ)) [] i c c' hc
      rw [List.length_map, h1] at this
      exact this (by simpa using hc')
    · rw [List.getElem?_append_right (by omega)] at hc
      rw [List.getElem?_append_right (by rw [← hlo]; omega), ← hlo] at hc'
      have h0 : i - (os.map (SV.den ρ)).length = 0 := by
        have := (List.getElem?_eq_some_iff.1 hc).1
        simp only [List.length_cons, List.length_nil] at this
        omega
      rw [h0] at hc hc'
      simp only [List.getElem?_cons_zero, Option.some.injEq] at hc hc'
      subst hc
      subst hc'
      rw [List.map_append]
      exact h2 _
  · cases h

end

/-! the run -/
def updR {γ : Type} (A : Nat → List V → Option γ) (n : Nat) (B : List V → Option γ) : Nat → List V → Option γ := fun i vs => if i = n then B vs else A i vs

noncomputable def STree.run (P : Program) (Φ : List (FuncId × Fun)) (aps : List AP) (rs : List RSh) : STree → (Nat → List V → Option (ShsT (shsOf rs aps))) → (Nat → V) → Option (ShsT (shsOf rs aps))
  | .stuck _, _, _ => none
  | .branch b t e, A, ρ => if b.den ρ = true then t.run P Φ aps rs A ρ else e.run P Φ aps rs A ρ
  | .req p t, A, ρ => reqK (p.den ρ) (t.run P Φ aps rs A ρ)
  | .elem l i sh n t, A, ρ => elemK (l.den ρ) (i.den ρ) sh fun r => t.run P Φ aps rs A (bind ρ n (toVs sh r))
  | .nilq l n t, A, ρ => nilK (l.den ρ = []) fun b => t.run P Φ aps rs A (bind ρ n [.b b])
  | .call f args res outs n _ t, A, ρ =>
    match lookF Φ f with
    | some S => if fitR S.res res n = true ∧ fitOs S.args outs (n + resN S.res) = true then callK P S (args.map (SV.den ρ)) fun us => t.run P Φ aps rs A (bind ρ n us) else none
    | none => none
  | .loop lv init n t, A, ρ => iterL (fun rec vs => t.run P Φ aps rs (updR A lv rec) (bind zeroE n vs)) FUEL (init.map (VE.den ρ))
  | .again lv vals, A, ρ => A lv (vals.map (VE.den ρ))
  | .ret res outs, _, ρ => match retVals P aps rs res outs with | some vs => ofVs _ (vs.map (VE.den ρ)) | none => none

theorem least {p : Nat → Prop} (h : ∃ k, p k) : ∃ k, p k ∧ ∀ j, j < k → ¬ p j := by
  obtain ⟨k, hk⟩ := h
  induction k using Nat.strongRecOn with
  | _ k ih =>
    by_cases hj : ∃ j, j < k ∧ p j
    · obtain ⟨j, h1, h2⟩ := hj
      exact ih j h1 h2
    · exact ⟨k, hk, fun j h1 h2 => hj ⟨j, h1, h2⟩⟩

section
variable {P : Program} {Φ : List (FuncId × Fun)} {aps : List AP} {rs : List RSh}

theorem run_wp (hΦ : OkAll P Φ) {r : ShsT (shsOf rs aps)} {R : AV → List AV → Prop} (hR : ∀ x os, SlotsW P (os ++ [x]) (outsDen aps (toVs _ r) (resN rs) ++ [resDen rs (toVs _ r) 0]) → R x os) :
    ∀ (t : STree) (A' : Nat → List V → Option (ShsT (shsOf rs aps))) (A : Nat → List V → Prop) (ρ : Nat → V), (∀ lv vs, A' lv vs = some r → A lv vs) → t.run P Φ aps rs A' ρ = some r → t.wp P R A ρ
  | .stuck _, _, _, _, _, h => by simp [STree.run] at h
  | .branch b t e, A', A, ρ, hA, h => by
    simp only [STree.run] at h
    refine ⟨fun hb => ?_, fun hb => ?_⟩
    · rw [if_pos hb] at h
      exact run_wp hΦ hR t A' A ρ hA h
    · rw [if_neg (by rw [hb]; exact Bool.false_ne_true)] at h
      exact run_wp hΦ hR e A' A ρ hA h
  | .req p t, A', A, ρ, hA, h => by
    obtain ⟨h1, h2⟩ := reqK_some (show reqK (p.den ρ) (t.run P Φ aps rs A' ρ) = some r from h)
    exact ⟨h1, run_wp hΦ hR t A' A ρ hA h2⟩
  | .elem l i sh n t, A', A, ρ, hA, h => by
    obtain ⟨h0, cs, x, h1, h2, h3⟩ := elemK_some (show elemK (l.den ρ) (i.den ρ) sh (fun r => t.run P Φ aps rs A' (bind ρ n (toVs sh r))) = some r from h)
    refine ⟨toVs sh x, h0, ?_, run_wp hΦ hR t A' A _ hA h3⟩
    rw [h1, ofEs_den sh cs x n _ h2 (Fill.bind ρ n _)]
  | .nilq l n t, A', A, ρ, hA, h => fun b hb => run_wp hΦ hR t A' A _ hA (nilK_some (show nilK (l.den ρ = []) (fun b => t.run P Φ aps rs A' (bind ρ n [.b b])) = some r from h) b hb)
  | .call f args res outs n sh t, A', A, ρ, hA, h => by
    simp only [STree.run] at h
    split at h
    · rename_i S hS
      split at h
      · rename_i hfit
        obtain ⟨vs, x, h1, h2, h3⟩ := callK_some h
        have hlen := toVs_len _ x
        have hl2 : (shsOf S.res S.args).length = resN S.res + (outShs S.args).length := by simp [shsOf, resN]
        refine ⟨toVs _ x, ?_, run_wp hΦ hR t A' A _ hA h3⟩
        rw [fitR_den hfit.1 (by omega), fitOs_den S.args outs (resN S.res) hfit.2 (by omega)]
        exact (lookF_ok hΦ hS vs x h2).stronger (decAs_slots h1)
      · cases h
    · cases h
  | .loop lv init n t, A', A, ρ, hA, h => by
    let F := fun (rec : List V → Option (ShsT (shsOf rs aps))) vs => t.run P Φ aps rs (updR A' lv rec) (bind zeroE n vs)
    have hF : iterL F FUEL (init.map (VE.den ρ)) = some r := h
    have hm : ∀ vs, ∃ m : Nat, (∃ k, iterL F k vs = some r) → iterL F m vs = some r ∧ ∀ j, iterL F j vs = some r → m ≤ j := by
      intro vs
      by_cases hk : ∃ k, iterL F k vs = some r
      · obtain ⟨m, h1, h2⟩ := least hk
        exact ⟨m, fun _ => ⟨h1, fun j hj => Nat.le_of_not_lt fun hlt => h2 j hlt hj⟩⟩
      · exact ⟨0, fun h => (hk h).elim⟩
    obtain ⟨m, hm⟩ := Classical.axiomOfChoice hm
    refine ⟨fun vs => ∃ k, iterL F k vs = some r, m, ⟨FUEL, hF⟩, fun vs _ hk => ?_⟩
    obtain ⟨h1, h2⟩ := hm vs hk
    cases hmv : m vs with
    | zero => rw [hmv] at h1; cases h1
    | succ j =>
      rw [hmv] at h1
      refine run_wp hΦ hR t (updR A' lv (iterL F j)) _ _ (fun lv' vs' hv => ?_) h1
      unfold updR at hv
      unfold updA
      split at hv
      · rename_i he
        rw [if_pos he]
        refine ⟨⟨j, hv⟩, ?_⟩
        have := (hm vs' ⟨j, hv⟩).2 j hv
        omega
      · rename_i he
        rw [if_neg he]
        exact hA lv' vs' hv
  | .again lv vals, A', A, ρ, hA, h => hA lv _ h
  | .ret res outs, A', A, ρ, hA, h => by
    simp only [STree.run] at h
    split at h
    · rename_i vs hvs
      refine hR _ _ ?_
      rw [ofVs_toVs _ _ _ h]
      exact retVals_ok hvs
    · cases h

end

end Go.AM
