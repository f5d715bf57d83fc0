/- AmRun, AmRow, AmLift, AmSem, AmSize: texts of the proof, put together. -/
import Derived.Test.YtceopohbfkamiaaGreatM3
import Derived.ChangeArms
import Derived.ChangeStays
import Derived.ChangeBook
import Derived.ChangeSame
import Derived.RowKit
import Derived.ChangeOld
import GoSem.ClaimJoined
import GoSem.ClaimOpenFrom
import Derived.KernelRfl
import Derived.SizedLaws

section
namespace Go.AM

/-! what stands for a cell of a shape -/
@[reducible] def Sh.T : Sh → Type
  | .int _ => Int
  | .bool => Bool
  | .str => ByteArray
  | .slice _ => List (List AV)
  | .own _ => List (List AV)

@[reducible] def ShsT : List Sh → Type
  | [] => Unit
  | [s] => s.T
  | s :: t :: r => s.T × ShsT (t :: r)

def Sh.toV : (s : Sh) → s.T → V
  | .int _, z => .i z
  | .bool, z => .b z
  | .str, z => .s z
  | .slice _, z => .l z
  | .own _, z => .l z

def Sh.ofV : (s : Sh) → V → Option s.T
  | .int _, .i z => some z
  | .bool, .b z => some z
  | .str, .s z => some z
  | .slice _, .l z => some z
  | .own _, .l z => some z
  | _, _ => none

def toVs : (l : List Sh) → ShsT l → List V
  | [], _ => []
  | [s], x => [s.toV x]
  | s :: t :: r, x => s.toV x.1 :: toVs (t :: r) x.2

def ofVs : (l : List Sh) → List V → Option (ShsT l)
  | [], [] => some ()
  | [], _ :: _ => none
  | [s], [v] => s.ofV v
  | [_], [] => none
  | [_], _ :: _ :: _ => none
  | _ :: _ :: _, [] => none
  | s :: t :: r, v :: vs => match s.ofV v, ofVs (t :: r) vs with | some a, some b => some (a, b) | _, _ => none

theorem ofV_toV {s : Sh} {v : V} {x : s.T} (h : s.ofV v = some x) : s.toV x = v := by
  cases s <;> cases v <;> simp [Sh.ofV] at h <;> subst h <;> rfl

theorem ofVs_toVs : ∀ (l : List Sh) (vs : List V) (x : ShsT l), ofVs l vs = some x → toVs l x = vs
  | [], [], _, _ => rfl
  | [], _ :: _, _, h => by simp [ofVs] at h
  | [s], [v], x, h => by simp only [toVs, ofV_toV (show s.ofV v = some x from h)]
  | [_], [], _, h => by simp [ofVs] at h
  | [_], _ :: _ :: _, _, h => by simp [ofVs] at h
  | _ :: _ :: _, [], _, h => by simp [ofVs] at h
  | s :: t :: r, v :: vs, x, h => by
    simp only [ofVs] at h
    split at h
    · rename_i a b ha hb
      simp only [Option.some.injEq] at h
      subst h
      simp only [toVs, ofV_toV ha, ofVs_toVs (t :: r) vs b hb]
    · cases h

/-- A cell, read as one of its shape. -/
def Sh.ofE : (s : Sh) → AV → Option s.T
  | .int k, .val (.int k' z) => if k' = k then some z else none
  | .bool, .val (.bool b) => some b
  | .str, .val (.string b) => some b
  | .slice s, .slice false s' xs => if s' = s then some xs else none
  | _, _ => none

def ofEs : (l : List Sh) → List AV → Option (ShsT l)
  | [], [] => some ()
  | [], _ :: _ => none
  | [s], [c] => s.ofE c
  | [_], [] => none
  | [_], _ :: _ :: _ => none
  | _ :: _ :: _, [] => none
  | s :: t :: r, c :: cs => match s.ofE c, ofEs (t :: r) cs with | some a, some b => some (a, b) | _, _ => none

theorem ofE_den {s : Sh} {c : AV} {x : s.T} {n : Nat} {ρ : Nat → V} (h : s.ofE c = some x) (hρ : ρ n = s.toV x) : (shapeAt s n).den ρ = c := by
  unfold Sh.ofE at h
  split at h
  · split at h
    · simp only [Option.some.injEq] at h
      subst h
      rename_i hk
      subst hk
      simp only [shapeAt, SC.den, IE.den, hρ, Sh.toV, V.int]
    · cases h
  · simp only [Option.some.injEq] at h
    subst h
    simp only [shapeAt, SC.den, BE.den, hρ, Sh.toV, V.bool]
  · simp only [Option.some.injEq] at h
    subst h
    simp only [shapeAt, SC.den, SE.den, hρ, Sh.toV, V.str]
  · split at h
    · simp only [Option.some.injEq] at h
      subst h
      rename_i hk
      subst hk
      simp only [shapeAt, SC.den, LE.den, hρ, Sh.toV, V.list]
    · cases h
  · cases h

theorem ofEs_den : ∀ (l : List Sh) (cs : List AV) (x : ShsT l) (n : Nat) (ρ : Nat → V), ofEs l cs = some x → Fill ρ n (toVs l x) → (shapesAt l n).map (SC.den ρ) = cs
  | [], [], _, _, _, _, _ => rfl
  | [], _ :: _, _, _, _, h, _ => by simp [ofEs] at h
  | [s], [c], x, n, ρ, h, hf => by
    have h0 := hf 0 _ (show (toVs [s] x)[0]? = some (s.toV x) from rfl)
    rw [Nat.add_zero] at h0
    simp only [shapesAt, List.map_cons, List.map_nil, ofE_den (show s.ofE c = some x from h) h0]
  | [_], [], _, _, _, h, _ => by simp [ofEs] at h
  | [_], _ :: _ :: _, _, _, _, h, _ => by simp [ofEs] at h
  | _ :: _ :: _, [], _, _, _, h, _ => by simp [ofEs] at h
  | s :: t :: r, c :: cs, x, n, ρ, h, hf => by
    simp only [ofEs] at h
    split at h
    · rename_i a b ha hb
      simp only [Option.some.injEq] at h
      subst h
      obtain ⟨h0, h1⟩ := Fill.tail (show Fill ρ n (s.toV a :: toVs (t :: r) b) from hf)
      have h2 := ofEs_den (t :: r) cs b (n + 1) ρ hb h1
      rw [shapesAt, List.map_cons, ofE_den ha h0, h2]
    · cases h

/-! the steps of a run -/
/-- A requirement: where it fails, there is no outcome. -/
def reqK {γ : Type} (p : Prop) [Decidable p] (x : Option γ) : Option γ := if p then x else none

theorem reqK_pos {γ : Type} {p : Prop} {_ : Decidable p} (h : p) (x : Option γ) : reqK p x = x := if_pos h
theorem reqK_some {γ : Type} {p : Prop} {_ : Decidable p} {x : Option γ} {r : γ} (h : reqK p x = some r) : p ∧ x = some r := by
  unfold reqK at h
  split at h
  · exact ⟨‹_›, h⟩
  · cases h

section
open Classical in
/-- Whether a slice is nil is not known of an empty one: both ways must come to the same. -/
noncomputable def nilK {γ : Type} (p : Prop) (k : Bool → Option γ) : Option γ := if p then (if k true = k false then k true else none) else k false
end

theorem nilK_some {γ : Type} {p : Prop} {k : Bool → Option γ} {r : γ} (h : nilK p k = some r) (b : Bool) (hb : b = true → p) : k b = some r := by
  unfold nilK at h
  split at h
  · split at h
    · rename_i he
      cases b
      · rw [← he]; exact h
      · exact h
    · cases h
  · rename_i hp
    cases b
    · exact h
    · exact (hp (hb rfl)).elim

theorem nilK_of {γ : Type} {p : Prop} {k : Bool → Option γ} {r : γ} (h1 : p → k true = r) (h2 : k false = r) : nilK p k = r := by
  unfold nilK
  split
  · rename_i hp
    rw [h1 hp, h2, if_pos rfl]
  · exact h2

def elemK {γ : Type} (l : List (List AV)) (i : Int) (sh : List Sh) (k : ShsT sh → Option γ) : Option γ :=
  if 0 ≤ i then match l[i.toNat]? with | some cs => (match ofEs sh cs with | some r => k r | none => none) | none => none else none

theorem elemK_at {γ : Type} {l : List (List AV)} {i : Int} {sh : List Sh} {cs : List AV} {r : ShsT sh} (k : ShsT sh → Option γ) (h0 : 0 ≤ i) (h1 : l[i.toNat]? = some cs) (h2 : ofEs sh cs = some r) : elemK l i sh k = k r := by
  simp only [elemK, h0, if_true, h1, h2]

theorem elemK_some {γ : Type} {l : List (List AV)} {i : Int} {sh : List Sh} {k : ShsT sh → Option γ} {x : γ} (h : elemK l i sh k = some x) : 0 ≤ i ∧ ∃ cs r, l[i.toNat]? = some cs ∧ ofEs sh cs = some r ∧ k r = some x := by
  unfold elemK at h
  split at h
  · refine ⟨‹_›, ?_⟩
    split at h
    · split at h
      · exact ⟨_, _, ‹_›, ‹_›, h⟩
      · cases h
    · cases h
  · cases h

def iterL {γ : Type} (F : (List V → Option γ) → List V → Option γ) : Nat → List V → Option γ
  | 0 => fun _ => none
  | k + 1 => F (iterL F k)

/-- How often a loop may turn: more often than any list is long. -/
def FUEL : Nat := 1208925819614629174706176

/-! what a function is told to be -/
inductive AP where
  | c (s : Sh)
  | agg (l : List Sh)
  | box (l : List Sh)
  | gbox (l : List Sh)
  | clo (g : FuncId) (ds : List Nat)
  | dead

def RSh.sh : RSh → List Sh
  | .c s => [s]
  | .agg l => l

def outShs : List AP → List Sh
  | [] => []
  | .box l :: r => l ++ outShs r
  | .gbox l :: r => l ++ outShs r
  | _ :: r => outShs r

def shsOf (rs : List RSh) (aps : List AP) : List Sh := rs.flatMap RSh.sh ++ outShs aps

structure Fun where
  args : List AP
  res : List RSh
  g : List V → Option (ShsT (shsOf res args))

def compDen (r : RSh) (us : List V) (j : Nat) : AV :=
  match r with
  | .c s => shDen s (vAt us j)
  | .agg l => .agg (shsDen l us j)

def compsDen : List RSh → List V → Nat → List AV
  | [], _, _ => []
  | r :: rs, us, j => compDen r us j :: compsDen rs us (j + r.sh.length)

def resDen (rs : List RSh) (us : List V) (j : Nat) : AV :=
  match rs with
  | [r] => compDen r us j
  | rs => .tuple (compsDen rs us j)

def outsDen : List AP → List V → Nat → List AV
  | [], _, _ => []
  | .box l :: r, us, j => .box (shsDen l us j) :: outsDen r us (j + l.length)
  | .gbox l :: r, us, j => .gbox (shsDen l us j) :: outsDen r us (j + l.length)
  | _ :: r, us, j => .dead :: outsDen r us j

def AP.n : AP → Nat
  | .c _ => 1
  | .agg l => l.length
  | .box l => l.length
  | .gbox l => l.length
  | .clo _ _ => 0
  | .dead => 0

def apDen (a : AP) (us : List V) (j : Nat) : AV :=
  match a with
  | .c s => shDen s (vAt us j)
  | .agg l => .agg (shsDen l us j)
  | .box l => .box (shsDen l us j)
  | .gbox l => .gbox (shsDen l us j)
  | .clo g ds => .clo g ds
  | .dead => .dead

def apsDen : List AP → List V → Nat → List AV
  | [], _, _ => []
  | a :: r, us, j => apDen a us j :: apsDen r us (j + a.n)

def resN (rs : List RSh) : Nat := (rs.flatMap RSh.sh).length

/-- The function is what it is told to be. -/
def Fun.Ok (P : Program) (f : FuncId) (S : Fun) : Prop :=
  ∀ vs r, S.g vs = some r → CallOk P f (apsDen S.args vs 0) (resDen S.res (toVs _ r) 0) (outsDen S.args (toVs _ r) (resN S.res))

def OkAll (P : Program) : List (FuncId × Fun) → Prop
  | [] => True
  | p :: r => p.2.Ok P p.1 ∧ OkAll P r

/-- The function values among arguments. -/
def AP.sig : AP → Option (FuncId × List Nat)
  | .clo g ds => some (g, ds)
  | _ => none

def SV.sig : SV → Option (FuncId × List Nat)
  | .clo g ds => some (g, ds)
  | _ => none

def lookF : List (FuncId × Fun) → FuncId → List (FuncId × List Nat) → Option Fun
  | [], _, _ => none
  | p :: r, f, sg => if p.1 = f ∧ p.2.args.filterMap AP.sig = sg then some p.2 else lookF r f sg

theorem lookF_ok {P : Program} : ∀ {Φ : List (FuncId × Fun)} {f : FuncId} {sg : List (FuncId × List Nat)} {S : Fun}, OkAll P Φ → lookF Φ f sg = some S → S.Ok P f
  | [], _, _, _, _, h => by simp [lookF] at h
  | p :: r, f, sg, S, ho, h => by
    simp only [lookF] at h
    split at h
    · rename_i hp
      simp only [Option.some.injEq] at h
      obtain ⟨hp, _⟩ := hp
      subst hp
      subst h
      exact ho.1
    · exact lookF_ok ho.2 h

/-! the arguments of a call, read as a function is told to take them -/
def decC (P : Program) : Sh → AV → Option V
  | .int k, .val (.int k' z) => if k' = k then some (.i z) else none
  | .bool, .val (.bool b) => some (.b b)
  | .str, .val (.string s) => some (.s s)
  | .slice s, .slice _ s' xs => if s' = s then some (.l xs) else (match xs with | [] => some (.l []) | _ :: _ => none)
  | .slice s, .own e xs => if P.cellsOf e = s then some (.l xs) else none
  | .own e, .own e' xs => if e' = e then some (.l xs) else none
  | .own _, .slice true _ xs => (match xs with | [] => some (.l []) | _ :: _ => none)
  | _, _ => none

def decCs (P : Program) : List Sh → List AV → Option (List V)
  | [], [] => some []
  | s :: ss, c :: cs => match decC P s c, decCs P ss cs with | some v, some vs => some (v :: vs) | _, _ => none
  | _, _ => none

def decA (P : Program) : AP → AV → Option (List V)
  | .c s, x => (decC P s x).map fun v => [v]
  | .agg l, .agg cs => if l.all Sh.imm = true then decCs P l cs else none
  | .box l, .box cs => decCs P l cs
  | .gbox l, .gbox cs => decCs P l cs
  | .clo g ds, .clo g' ds' => if g' = g ∧ ds' = ds then some [] else none
  | .dead, .dead => some []
  | _, _ => none

def decAs (P : Program) : List AP → List AV → Option (List V)
  | [], [] => some []
  | a :: as, x :: xs => match decA P a x, decAs P as xs with | some vs, some us => some (vs ++ us) | _, _ => none
  | _, _ => none

theorem decC_ok {P : Program} {s : Sh} {c : AV} {v : V} (h : decC P s c = some v) : CellW P c (shDen s v) := by
  unfold decC at h
  split at h
  · split at h
    · simp only [Option.some.injEq] at h; subst h; rename_i hk; subst hk; exact .same (.inl rfl)
    · cases h
  · simp only [Option.some.injEq] at h; subst h; exact .same (.inl rfl)
  · simp only [Option.some.injEq] at h; subst h; exact .same (.inl rfl)
  · split at h
    · simp only [Option.some.injEq] at h; subst h; rename_i hk; subst hk; exact .imm
    · split at h
      · simp only [Option.some.injEq] at h; subst h; exact .immN
      · cases h
  · split at h
    · simp only [Option.some.injEq] at h; subst h; rename_i hk; subst hk; exact .own
    · cases h
  · split at h
    · simp only [Option.some.injEq] at h; subst h; rename_i hk; subst hk; exact .same (.inr ⟨_, _, rfl⟩)
    · cases h
  · split at h
    · simp only [Option.some.injEq] at h; subst h; exact .give
    · cases h
  · cases h

theorem decCs_ok {P : Program} : ∀ (l : List Sh) (cs : List AV) (vs : List V), decCs P l cs = some vs → vs.length = l.length ∧ cs.length = l.length ∧ ∀ pre post : List V,
    ∀ (i : Nat) (c c' : AV), cs[i]? = some c → (shsDen l (pre ++ vs ++ post) pre.length)[i]? = some c' → CellW P c c'
  | [], [], vs, h => by
    simp only [decCs, Option.some.injEq] at h
    subst h
    exact ⟨rfl, rfl, fun _ _ i c c' h => by simp at h⟩
  | [], _ :: _, _, h => by simp [decCs] at h
  | _ :: _, [], _, h => by simp [decCs] at h
  | s :: ss, c :: cs, us, h => by
    simp only [decCs] at h
    split at h
    · rename_i v vs hv hvs
      simp only [Option.some.injEq] at h
      subst h
      obtain ⟨h1, h2, h3⟩ := decCs_ok (P := P) ss cs vs hvs
      refine ⟨by simp [h1], by simp [h2], fun pre post i c1 c2 hc1 hc2 => ?_⟩
      cases i with
      | zero =>
        simp only [shsDen, List.getElem?_cons_zero, Option.some.injEq] at hc1 hc2
        subst hc1
        subst hc2
        rw [List.append_assoc, List.cons_append, vAt_mid]
        exact decC_ok hv
      | succ i =>
        have := h3 (pre ++ [v]) post i c1 c2 (by simpa using hc1)
        simp only [List.append_assoc, List.cons_append, List.nil_append, List.length_append, List.length_cons, List.length_nil] at this
        simp only [shsDen, List.getElem?_cons_succ, List.append_assoc, List.cons_append] at hc2
        exact this hc2
    · cases h

theorem decA_ok {P : Program} {a : AP} {x : AV} {vs : List V} (h : decA P a x = some vs) : vs.length = a.n ∧ ((∃ g ds, a = .clo g ds ∧ x = .clo g ds) ∨ ∀ pre post : List V, SlotW P x (apDen a (pre ++ vs ++ post) pre.length)) := by
  unfold decA at h
  split at h
  · cases hd : decC P _ x with
    | none => rw [hd] at h; cases h
    | some v =>
      rw [hd] at h
      simp only [Option.map_some, Option.some.injEq] at h
      subst h
      refine ⟨rfl, .inr fun pre post => ?_⟩
      simp only [apDen, List.append_assoc, List.cons_append, List.nil_append, vAt_mid]
      exact .comp (.cell (decC_ok hd))
  · rename_i l cs
    split at h
    · rename_i hi
      obtain ⟨h1, h2, h3⟩ := decCs_ok (P := P) _ _ _ h
      exact ⟨h1, .inr fun pre post => .comp (.agg (by rw [h2, shsDen_len]) (shsDen_cell _ _ _ hi) (h3 pre post))⟩
    · cases h
  · obtain ⟨h1, h2, h3⟩ := decCs_ok (P := P) _ _ _ h
    exact ⟨h1, .inr fun pre post => .box (by rw [h2, shsDen_len]) (h3 pre post)⟩
  · obtain ⟨h1, h2, h3⟩ := decCs_ok (P := P) _ _ _ h
    exact ⟨h1, .inr fun pre post => .gbox (by rw [h2, shsDen_len]) (h3 pre post)⟩
  · split at h
    · rename_i hh
      simp only [Option.some.injEq] at h
      subst h
      obtain ⟨rfl, rfl⟩ := hh
      exact ⟨rfl, .inl ⟨_, _, rfl, rfl⟩⟩
    · cases h
  · simp only [Option.some.injEq] at h
    subst h
    exact ⟨rfl, .inr fun _ _ => .dead⟩
  · cases h

theorem apsDen_len : ∀ (l : List AP) (us : List V) (j : Nat), (apsDen l us j).length = l.length
  | [], _, _ => rfl
  | _ :: ss, us, j => by simp [apsDen, apsDen_len ss us]

theorem decAs_ok {P : Program} : ∀ (as : List AP) (xs : List AV) (vs : List V), decAs P as xs = some vs → xs.length = as.length ∧ ∀ pre post : List V,
    ∀ (i : Nat) (c c' : AV), xs[i]? = some c → (apsDen as (pre ++ vs ++ post) pre.length)[i]? = some c' → (∃ g ds, as[i]? = some (.clo g ds) ∧ c = .clo g ds ∧ c' = .clo g ds) ∨ SlotW P c c'
  | [], [], _, _ => ⟨rfl, fun _ _ i c c' h => by simp at h⟩
  | [], _ :: _, _, h => by simp [decAs] at h
  | _ :: _, [], _, h => by simp [decAs] at h
  | a :: as, x :: xs, ws, h => by
    simp only [decAs] at h
    split at h
    · rename_i vs us hv hus
      simp only [Option.some.injEq] at h
      subst h
      obtain ⟨h1, h2⟩ := decA_ok (P := P) hv
      obtain ⟨h3, h4⟩ := decAs_ok (P := P) as xs us hus
      refine ⟨by simp [h3], fun pre post i c1 c2 hc1 hc2 => ?_⟩
      cases i with
      | zero =>
        simp only [apsDen, List.getElem?_cons_zero, Option.some.injEq] at hc1 hc2
        subst hc1
        subst hc2
        rcases h2 with ⟨g, ds, rfl, rfl⟩ | h2
        · exact .inl ⟨g, ds, rfl, rfl, rfl⟩
        · have := h2 pre (us ++ post)
          exact .inr (by simpa [List.append_assoc] using this)
      | succ i =>
        have := h4 (pre ++ vs) post i c1 c2 (by simpa using hc1)
        rw [List.length_append, h1] at this
        simp only [apsDen, List.getElem?_cons_succ] at hc2
        refine this ?_
        simpa [List.append_assoc] using hc2
    · cases h

/-- The boxes of the function values are among the arguments. -/
def apsClosed (as : List AP) : Bool := as.all fun a => match a with | .clo _ ds => ds.all (fun d => match as[d]? with | some (.gbox _) => true | _ => false) | _ => true

theorem apsDen_at : ∀ (as : List AP) (us : List V) (j i : Nat) (a : AP), as[i]? = some a → ∃ k, (apsDen as us j)[i]? = some (apDen a us k)
  | [], _, _, _, _, h => by simp at h
  | b :: as, us, j, 0, a, h => by
    simp only [List.getElem?_cons_zero, Option.some.injEq] at h
    subst h
    exact ⟨j, rfl⟩
  | b :: as, us, j, i + 1, a, h => by
    obtain ⟨k, hk⟩ := apsDen_at as us (j + b.n) i a (by simpa using h)
    exact ⟨k, by simpa [apsDen] using hk⟩

theorem decAs_slots {P : Program} {as : List AP} {xs : List AV} {vs : List V} (hc : apsClosed as = true) (h : decAs P as xs = some vs) : SlotsW P xs (apsDen as vs 0) := by
  obtain ⟨h1, h2⟩ := decAs_ok (P := P) as xs vs h
  refine ⟨by rw [h1, apsDen_len], fun i c c' hx hc' => ?_⟩
  rcases h2 [] [] i c c' hx (by simpa using hc') with ⟨g, ds, k1, rfl, rfl⟩ | hw
  · refine .inr ⟨g, ds, rfl, rfl, fun d hd => ?_⟩
    unfold apsClosed at hc
    rw [List.all_eq_true] at hc
    have h3 := hc _ (List.mem_of_getElem? k1)
    simp only at h3
    rw [List.all_eq_true] at h3
    have h4 := h3 d hd
    split at h4
    · rename_i l hl
      obtain ⟨k, hk⟩ := apsDen_at as vs 0 d _ hl
      simp only [argS, hk]
      rfl
    · cases h4
  · exact .inl hw

/-- A call. -/
def callK {γ : Type} (P : Program) (S : Fun) (as : List AV) (k : List V → Option γ) : Option γ :=
  match decAs P S.args as with
  | some vs => (S.g vs).bind fun r => k (toVs _ r)
  | none => none

theorem callK_some {γ : Type} {S : Fun} {as : List AV} {k : List V → Option γ} {x : γ} {P : Program} (h : callK P S as k = some x) : ∃ vs r, decAs P S.args as = some vs ∧ S.g vs = some r ∧ k (toVs _ r) = some x := by
  unfold callK at h
  split at h
  · rename_i vs hvs
    rw [Option.bind_eq_some_iff] at h
    obtain ⟨r, h1, h2⟩ := h
    exact ⟨vs, r, hvs, h1, h2⟩
  · cases h

/-! the result of a call, as the tree writes it -/
def fitC (s : Sh) (x : SC) (m : Nat) : Bool :=
  match s, x with
  | .int k, .int k' (.var a) => decide (k' = k) && decide (a = m)
  | .bool, .bool (.var a) => decide (a = m)
  | .str, .str (.var a) => decide (a = m)
  | .slice s, .slice false s' (.var a) => decide (s' = s) && decide (a = m)
  | _, _ => false

def fitCs : List Sh → List SC → Nat → Bool
  | [], [], _ => true
  | s :: ss, c :: cs, m => fitC s c m && fitCs ss cs (m + 1)
  | _, _, _ => false

def fitT (r : RSh) (x : TC) (m : Nat) : Bool :=
  match r, x with
  | .c s, .c x => fitC s x m
  | .c (.own e), .own e' (.var a) => decide (e' = e) && decide (a = m)
  | .agg l, .agg cs => fitCs l cs m
  | _, _ => false

def fitTs : List RSh → List TC → Nat → Bool
  | [], [], _ => true
  | r :: rs, x :: xs, m => fitT r x m && fitTs rs xs (m + r.sh.length)
  | _, _, _ => false

def svTC : SV → Option TC
  | .c x => some (.c x)
  | .agg cs => some (.agg cs)
  | .own e l => some (.own e l)
  | _ => none

def fitR (rs : List RSh) (x : SV) (m : Nat) : Bool :=
  match rs with
  | [r] => match svTC x with | some y => fitT r y m | none => false
  | rs => match x with | .tuple vs => fitTs rs vs m | _ => false

def fitB (s : Sh) (x : BC) (m : Nat) : Bool :=
  match s, x with
  | s, .c x => fitC s x m
  | .own e, .own e' (.var a) => decide (e' = e) && decide (a = m)
  | _, _ => false

def fitBs : List Sh → List BC → Nat → Bool
  | [], [], _ => true
  | s :: ss, c :: cs, m => fitB s c m && fitBs ss cs (m + 1)
  | _, _, _ => false

def fitOs : List AP → List SV → Nat → Bool
  | [], [], _ => true
  | .box l :: r, .box cs :: xs, m => fitBs l cs m && fitOs r xs (m + l.length)
  | .gbox l :: r, .gbox cs :: xs, m => fitBs l cs m && fitOs r xs (m + l.length)
  | .c _ :: r, .dead :: xs, m => fitOs r xs m
  | .agg _ :: r, .dead :: xs, m => fitOs r xs m
  | .clo _ _ :: r, .dead :: xs, m => fitOs r xs m
  | .dead :: r, .dead :: xs, m => fitOs r xs m
  | _, _, _ => false

section
variable {ρ : Nat → V} {n : Nat} {us : List V}

theorem bind_at (j : Nat) (h : j < us.length) : bind ρ n us (n + j) = vAt us j := by
  unfold bind vAt
  rw [if_neg (by omega), show n + j - n = j by omega, List.getElem?_eq_getElem h]
  rfl

theorem fitC_den {s : Sh} {x : SC} {j : Nat} (h : fitC s x (n + j) = true) (hj : j < us.length) : x.den (bind ρ n us) = shDen s (vAt us j) := by
  unfold fitC at h
  split at h
  · simp only [Bool.and_eq_true, decide_eq_true_eq] at h
    obtain ⟨rfl, rfl⟩ := h
    simp only [SC.den, IE.den, bind_at j hj, shDen]
  · simp only [decide_eq_true_eq] at h
    subst h
    simp only [SC.den, BE.den, bind_at j hj, shDen]
  · simp only [decide_eq_true_eq] at h
    subst h
    simp only [SC.den, SE.den, bind_at j hj, shDen]
  · simp only [Bool.and_eq_true, decide_eq_true_eq] at h
    obtain ⟨rfl, rfl⟩ := h
    simp only [SC.den, LE.den, bind_at j hj, shDen]
  · cases h

theorem fitCs_den : ∀ (l : List Sh) (cs : List SC) (j : Nat), fitCs l cs (n + j) = true → j + l.length ≤ us.length → cs.map (SC.den (bind ρ n us)) = shsDen l us j
  | [], [], _, _, _ => rfl
  | [], _ :: _, _, h, _ => by simp [fitCs] at h
  | _ :: _, [], _, h, _ => by simp [fitCs] at h
  | s :: ss, c :: cs, j, h, hl => by
    simp only [fitCs, Bool.and_eq_true] at h
    simp only [List.length_cons] at hl
    rw [List.map_cons, shsDen, fitC_den h.1 (by omega), fitCs_den ss cs (j + 1) (by rw [← Nat.add_assoc]; exact h.2) (by omega)]

theorem fitT_den {r : RSh} {x : TC} {j : Nat} (h : fitT r x (n + j) = true) (hj : j + r.sh.length ≤ us.length) : x.den (bind ρ n us) = compDen r us j := by
  unfold fitT at h
  split at h
  · exact fitC_den h (by simp [RSh.sh] at hj; omega)
  · simp only [Bool.and_eq_true, decide_eq_true_eq] at h
    obtain ⟨rfl, rfl⟩ := h
    have hj' : j < us.length := by simp [RSh.sh] at hj; omega
    simp only [TC.den, LE.den, bind_at j hj', compDen, shDen]
  · simp only [TC.den, compDen, fitCs_den _ _ j h hj]
  · cases h

theorem fitTs_den : ∀ (rs : List RSh) (xs : List TC) (j : Nat), fitTs rs xs (n + j) = true → j + (rs.flatMap RSh.sh).length ≤ us.length → xs.map (TC.den (bind ρ n us)) = compsDen rs us j
  | [], [], _, _, _ => rfl
  | [], _ :: _, _, h, _ => by simp [fitTs] at h
  | _ :: _, [], _, h, _ => by simp [fitTs] at h
  | r :: rs, x :: xs, j, h, hl => by
    simp only [fitTs, Bool.and_eq_true] at h
    simp only [List.flatMap_cons, List.length_append] at hl
    rw [List.map_cons, compsDen, fitT_den h.1 (by omega), fitTs_den rs xs (j + r.sh.length) (by rw [← Nat.add_assoc]; exact h.2) (by omega)]

theorem svTC_den {x : SV} {y : TC} (h : svTC x = some y) (ρ : Nat → V) : x.den ρ = y.den ρ := by
  unfold svTC at h
  split at h <;> simp at h <;> subst h <;> rfl

theorem fitR_den {rs : List RSh} {x : SV} (h : fitR rs x n = true) (hl : resN rs ≤ us.length) : x.den (bind ρ n us) = resDen rs us 0 := by
  unfold fitR at h
  split at h
  · split at h
    · rename_i r y hy
      rw [svTC_den hy]
      exact fitT_den (j := 0) h (by simpa [resN] using hl)
    · cases h
  · rename_i hne
    split at h
    · rename_i vs
      have : resDen rs us 0 = .tuple (compsDen rs us 0) := by
        unfold resDen
        split
        · exact (hne _ rfl).elim
        · rfl
      rw [this]
      simp only [SV.den, fitTs_den rs vs 0 h (by simpa [resN] using hl)]
    · cases h

theorem fitB_den {s : Sh} {x : BC} {j : Nat} (h : fitB s x (n + j) = true) (hj : j < us.length) : x.den (bind ρ n us) = shDen s (vAt us j) := by
  unfold fitB at h
  split at h
  · exact fitC_den h hj
  · simp only [Bool.and_eq_true, decide_eq_true_eq] at h
    obtain ⟨rfl, rfl⟩ := h
    simp only [BC.den, LE.den, bind_at j hj, shDen]
  · cases h

theorem fitBs_den : ∀ (l : List Sh) (cs : List BC) (j : Nat), fitBs l cs (n + j) = true → j + l.length ≤ us.length → cs.map (BC.den (bind ρ n us)) = shsDen l us j
  | [], [], _, _, _ => rfl
  | [], _ :: _, _, h, _ => by simp [fitBs] at h
  | _ :: _, [], _, h, _ => by simp [fitBs] at h
  | s :: ss, c :: cs, j, h, hl => by
    simp only [fitBs, Bool.and_eq_true] at h
    simp only [List.length_cons] at hl
    rw [List.map_cons, shsDen, fitB_den h.1 (by omega), fitBs_den ss cs (j + 1) (by rw [← Nat.add_assoc]; exact h.2) (by omega)]

theorem fitOs_den : ∀ (aps : List AP) (xs : List SV) (j : Nat), fitOs aps xs (n + j) = true → j + (outShs aps).length ≤ us.length → xs.map (SV.den (bind ρ n us)) = outsDen aps us j
  | [], [], _, _, _ => rfl
  | [], _ :: _, _, h, _ => by simp [fitOs] at h
  | .box l :: r, x :: xs, j, h, hl => by
    cases x <;> simp [fitOs] at h
    rename_i cs
    simp only [outShs, List.length_append] at hl
    have h1 : cs.map (BC.den (bind ρ n us)) = shsDen l us j := fitBs_den l cs j h.1 (by omega)
    simp only [List.map_cons, outsDen, SV.den, h1, fitOs_den r xs (j + l.length) (by rw [← Nat.add_assoc]; exact h.2) (by omega)]
  | .gbox l :: r, x :: xs, j, h, hl => by
    cases x <;> simp [fitOs] at h
    rename_i cs
    simp only [outShs, List.length_append] at hl
    have h1 : cs.map (BC.den (bind ρ n us)) = shsDen l us j := fitBs_den l cs j h.1 (by omega)
    simp only [List.map_cons, outsDen, SV.den, h1, fitOs_den r xs (j + l.length) (by rw [← Nat.add_assoc]; exact h.2) (by omega)]
  | .c _ :: r, x :: xs, j, h, hl => by
    cases x <;> simp [fitOs] at h
    simp only [outShs] at hl
    simp only [List.map_cons, outsDen, SV.den, fitOs_den r xs j h hl]
  | .agg _ :: r, x :: xs, j, h, hl => by
    cases x <;> simp [fitOs] at h
    simp only [outShs] at hl
    simp only [List.map_cons, outsDen, SV.den, fitOs_den r xs j h hl]
  | .clo _ _ :: r, x :: xs, j, h, hl => by
    cases x <;> simp [fitOs] at h
    simp only [outShs] at hl
    simp only [List.map_cons, outsDen, SV.den, fitOs_den r xs j h hl]
  | .dead :: r, x :: xs, j, h, hl => by
    cases x <;> simp [fitOs] at h
    simp only [outShs] at hl
    simp only [List.map_cons, outsDen, SV.den, fitOs_den r xs j h hl]
  | a :: _, [], _, h, _ => by cases a <;> simp [fitOs] at h

end

theorem toVs_len : ∀ (l : List Sh) (x : ShsT l), (toVs l x).length = l.length
  | [], _ => rfl
  | [_], _ => rfl
  | _ :: t :: r, x => by simp [toVs, toVs_len (t :: r) x.2]

/-! what a function returns -/
def retT (P : Program) (r : RSh) (x : TC) : Option (List VE) :=
  match r, x with
  | .c s, .c x => (retC s x).map fun v => [v]
  | .c s, .own e l => (retOwn P s e l).map fun v => [v]
  | .agg l, .agg cs => if l.all Sh.imm = true then retCs l cs else none
  | _, _ => none

def retTs (P : Program) : List RSh → List TC → Option (List VE)
  | [], [] => some []
  | r :: rs, x :: xs => match retT P r x, retTs P rs xs with | some v, some vs => some (v ++ vs) | _, _ => none
  | _, _ => none

def retR (P : Program) (rs : List RSh) (x : SV) : Option (List VE) :=
  match rs with
  | [r] => match svTC x with | some y => retT P r y | none => none
  | rs => match x with | .tuple vs => retTs P rs vs | _ => none

def retOs (P : Program) : List AP → List SV → Option (List VE)
  | [], [] => some []
  | .box l :: r, .box cs :: xs => match retBs P l cs, retOs P r xs with | some v, some vs => some (v ++ vs) | _, _ => none
  | .gbox l :: r, .gbox cs :: xs => match retBs P l cs, retOs P r xs with | some v, some vs => some (v ++ vs) | _, _ => none
  | .c _ :: r, .dead :: xs => retOs P r xs
  | .agg _ :: r, .dead :: xs => retOs P r xs
  | .clo _ _ :: r, .dead :: xs => retOs P r xs
  | .dead :: r, .dead :: xs => retOs P r xs
  | _, _ => none

def retVals (P : Program) (aps : List AP) (rs : List RSh) (x : SV) (os : List SV) : Option (List VE) :=
  match retR P rs x, retOs P aps os with
  | some vs, some us => some (vs ++ us)
  | _, _ => none

section
variable {P : Program} {ρ : Nat → V}

theorem retT_ok {r : RSh} {x : TC} {vs : List VE} (h : retT P r x = some vs) : vs.length = r.sh.length ∧ ∀ pre post : List V, CompW P (x.den ρ) (compDen r (pre ++ vs.map (VE.den ρ) ++ post) pre.length) := by
  unfold retT at h
  split at h
  · cases hd : retC _ _ with
    | none => rw [hd] at h; cases h
    | some v =>
      rw [hd] at h
      simp only [Option.map_some, Option.some.injEq] at h
      subst h
      refine ⟨rfl, fun pre post => ?_⟩
      simp only [compDen, List.map_cons, List.map_nil, List.append_assoc, List.cons_append, List.nil_append, vAt_mid]
      exact .cell (retC_ok hd)
  · cases hd : retOwn P _ _ _ with
    | none => rw [hd] at h; cases h
    | some v =>
      rw [hd] at h
      simp only [Option.map_some, Option.some.injEq] at h
      subst h
      refine ⟨rfl, fun pre post => ?_⟩
      simp only [compDen, List.map_cons, List.map_nil, List.append_assoc, List.cons_append, List.nil_append, vAt_mid]
      exact .cell (retOwn_ok hd)
  · split at h
    · rename_i hi
      obtain ⟨h1, h2, h3⟩ := retCs_ok (P := P) (ρ := ρ) _ _ _ h
      exact ⟨h1, fun pre post => .agg (by rw [List.length_map, h2, shsDen_len]) (shsDen_cell _ _ _ hi) (h3 pre post)⟩
    · cases h
  · cases h

theorem compsDen_len : ∀ (rs : List RSh) (us : List V) (j : Nat), (compsDen rs us j).length = rs.length
  | [], _, _ => rfl
  | _ :: ss, us, j => by simp [compsDen, compsDen_len ss us]

theorem retTs_ok : ∀ (rs : List RSh) (xs : List TC) (vs : List VE), retTs P rs xs = some vs → vs.length = (rs.flatMap RSh.sh).length ∧ xs.length = rs.length ∧ ∀ pre post : List V,
    ∀ (i : Nat) (c c' : AV), (xs.map (TC.den ρ))[i]? = some c → (compsDen rs (pre ++ vs.map (VE.den ρ) ++ post) pre.length)[i]? = some c' → CompW P c c'
  | [], [], vs, h => by
    simp only [retTs, Option.some.injEq] at h
    subst h
    exact ⟨rfl, rfl, fun _ _ i c c' h => by simp at h⟩
  | [], _ :: _, _, h => by simp [retTs] at h
  | _ :: _, [], _, h => by simp [retTs] at h
  | r :: rs, x :: xs, us, h => by
    simp only [retTs] at h
    split at h
    · rename_i v vs hv hvs
      simp only [Option.some.injEq] at h
      subst h
      obtain ⟨h1, h2⟩ := retT_ok (P := P) (ρ := ρ) hv
      obtain ⟨h3, h4, h5⟩ := retTs_ok rs xs vs hvs
      refine ⟨by simp [h1, h3], by simp [h4], fun pre post i c1 c2 hc1 hc2 => ?_⟩
      cases i with
      | zero =>
        simp only [compsDen, List.map_cons, List.getElem?_cons_zero, Option.some.injEq] at hc1 hc2
        subst hc1
        subst hc2
        have := h2 pre (vs.map (VE.den ρ) ++ post)
        simpa [List.append_assoc] using this
      | succ i =>
        have := h5 (pre ++ v.map (VE.den ρ)) post i c1 c2 (by simpa using hc1)
        rw [List.length_append, List.length_map, h1] at this
        simp only [compsDen, List.getElem?_cons_succ] at hc2
        refine this ?_
        simpa [List.append_assoc] using hc2
    · cases h

theorem retR_ok {rs : List RSh} {x : SV} {vs : List VE} (h : retR P rs x = some vs) : vs.length = resN rs ∧ ∀ post : List V, SlotW P (x.den ρ) (resDen rs (vs.map (VE.den ρ) ++ post) 0) := by
  unfold retR at h
  split at h
  · split at h
    · rename_i r y hy
      obtain ⟨h1, h2⟩ := retT_ok (P := P) (ρ := ρ) h
      refine ⟨by simpa [resN] using h1, fun post => ?_⟩
      rw [svTC_den hy]
      have := h2 [] post
      exact .comp (by simpa [resDen] using this)
    · cases h
  · rename_i hne
    split at h
    · rename_i ys
      obtain ⟨h1, h2, h3⟩ := retTs_ok (P := P) (ρ := ρ) _ _ _ h
      refine ⟨h1, fun post => ?_⟩
      have : ∀ us, resDen rs us 0 = .tuple (compsDen rs us 0) := by
        intro us
        unfold resDen
        split
        · exact (hne _ rfl).elim
        · rfl
      rw [this]
      refine .tuple (by rw [List.length_map, h2, compsDen_len]) fun i c c' hc hc' => h3 [] post i c c' hc ?_
      simpa using hc'
    · cases h

theorem outsDen_len : ∀ (aps : List AP) (us : List V) (j : Nat), (outsDen aps us j).length = aps.length
  | [], _, _ => rfl
  | a :: r, us, j => by cases a <;> simp [outsDen, outsDen_len r us]

theorem retOs_ok : ∀ (aps : List AP) (xs : List SV) (vs : List VE), retOs P aps xs = some vs → vs.length = (outShs aps).length ∧ xs.length = aps.length ∧ ∀ pre post : List V,
    ∀ (i : Nat) (c c' : AV), (xs.map (SV.den ρ))[i]? = some c → (outsDen aps (pre ++ vs.map (VE.den ρ) ++ post) pre.length)[i]? = some c' → SlotW P c c'
  | [], [], vs, h => by
    simp only [retOs, Option.some.injEq] at h
    subst h
    exact ⟨rfl, rfl, fun _ _ i c c' h => by simp at h⟩
  | [], _ :: _, _, h => by simp [retOs] at h
  | a :: _, [], _, h => by cases a <;> simp [retOs] at h
  | .box l :: r, x :: xs, us, h => by
    cases x <;> simp only [retOs, reduceCtorEq] at h
    split at h
    · rename_i cs v vs hv hvs
      simp only [Option.some.injEq] at h
      subst h
      obtain ⟨h1, h2, h3⟩ := retBs_ok (P := P) (ρ := ρ) _ _ _ hv
      obtain ⟨h4, h5, h6⟩ := retOs_ok r xs vs hvs
      refine ⟨by simp [h1, h4, outShs], by simp [h5], fun pre post i c1 c2 hc1 hc2 => ?_⟩
      cases i with
      | zero =>
        simp only [outsDen, List.map_cons, List.getElem?_cons_zero, Option.some.injEq, SV.den] at hc1 hc2
        subst hc1
        subst hc2
        have := h3 pre (vs.map (VE.den ρ) ++ post)
        exact .box (by rw [List.length_map, h2, shsDen_len]) (by simpa [List.append_assoc] using this)
      | succ i =>
        have := h6 (pre ++ v.map (VE.den ρ)) post i c1 c2 (by simpa using hc1)
        rw [List.length_append, List.length_map, h1] at this
        simp only [outsDen, List.getElem?_cons_succ] at hc2
        refine this ?_
        simpa [List.append_assoc] using hc2
    · cases h
  | .gbox l :: r, x :: xs, us, h => by
    cases x <;> simp only [retOs, reduceCtorEq] at h
    split at h
    · rename_i cs v vs hv hvs
      simp only [Option.some.injEq] at h
      subst h
      obtain ⟨h1, h2, h3⟩ := retBs_ok (P := P) (ρ := ρ) _ _ _ hv
      obtain ⟨h4, h5, h6⟩ := retOs_ok r xs vs hvs
      refine ⟨by simp [h1, h4, outShs], by simp [h5], fun pre post i c1 c2 hc1 hc2 => ?_⟩
      cases i with
      | zero =>
        simp only [outsDen, List.map_cons, List.getElem?_cons_zero, Option.some.injEq, SV.den] at hc1 hc2
        subst hc1
        subst hc2
        have := h3 pre (vs.map (VE.den ρ) ++ post)
        exact .gbox (by rw [List.length_map, h2, shsDen_len]) (by simpa [List.append_assoc] using this)
      | succ i =>
        have := h6 (pre ++ v.map (VE.den ρ)) post i c1 c2 (by simpa using hc1)
        rw [List.length_append, List.length_map, h1] at this
        simp only [outsDen, List.getElem?_cons_succ] at hc2
        refine this ?_
        simpa [List.append_assoc] using hc2
    · cases h
  | .c s :: r, x :: xs, us, h => by
    cases x <;> simp only [retOs, reduceCtorEq] at h
    exact retOs_dead (a := .c s) r xs us (retOs_ok r xs us h) (fun _ _ => rfl) rfl
  | .agg l :: r, x :: xs, us, h => by
    cases x <;> simp only [retOs, reduceCtorEq] at h
    exact retOs_dead (a := .agg l) r xs us (retOs_ok r xs us h) (fun _ _ => rfl) rfl
  | .clo g ds :: r, x :: xs, us, h => by
    cases x <;> simp only [retOs, reduceCtorEq] at h
    exact retOs_dead (a := .clo g ds) r xs us (retOs_ok r xs us h) (fun _ _ => rfl) rfl
  | .dead :: r, x :: xs, us, h => by
    cases x <;> simp only [retOs, reduceCtorEq] at h
    exact retOs_dead (a := .dead) r xs us (retOs_ok r xs us h) (fun _ _ => rfl) rfl
where
  retOs_dead {a : AP} (r : List AP) (xs : List SV) (us : List VE) (h : us.length = (outShs r).length ∧ xs.length = r.length ∧ ∀ pre post : List V,
      ∀ (i : Nat) (c c' : AV), (xs.map (SV.den ρ))[i]? = some c → (outsDen r (pre ++ us.map (VE.den ρ) ++ post) pre.length)[i]? = some c' → SlotW P c c')
      (ha : ∀ vs j, outsDen (a :: r) vs j = .dead :: outsDen r vs j) (hs : outShs (a :: r) = outShs r) : us.length = (outShs (a :: r)).length ∧ (SV.dead :: xs).length = (a :: r).length ∧ ∀ pre post : List V,
      ∀ (i : Nat) (c c' : AV), ((SV.dead :: xs).map (SV.den ρ))[i]? = some c → (outsDen (a :: r) (pre ++ us.map (VE.den ρ) ++ post) pre.length)[i]? = some c' → SlotW P c c' := by
    obtain ⟨h4, h5, h6⟩ := h
    refine ⟨by rw [hs]; exact h4, by simp [h5], fun pre post i c1 c2 hc1 hc2 => ?_⟩
    rw [ha] at hc2
    cases i with
    | zero =>
      simp only [List.map_cons, List.getElem?_cons_zero, Option.some.injEq] at hc1 hc2
      subst hc2
      exact .dead
    | succ i => exact h6 pre post i c1 c2 (by simpa using hc1) (by simpa using hc2)

theorem retVals_ok {aps : List AP} {rs : List RSh} {x : SV} {os : List SV} {vs : List VE} (h : retVals P aps rs x os = some vs) :
    SlotsW P (os.map (SV.den ρ) ++ [x.den ρ]) (outsDen aps (vs.map (VE.den ρ)) (resN rs) ++ [resDen rs (vs.map (VE.den ρ)) 0]) := by
  unfold retVals at h
  split at h
  · rename_i a b ha hb
    simp only [Option.some.injEq] at h
    subst h
    obtain ⟨h1, h2⟩ := retR_ok (ρ := ρ) ha
    obtain ⟨h3, h4, h5⟩ := retOs_ok (P := P) (ρ := ρ) _ _ _ hb
    have hlo : (os.map (SV.den ρ)).length = (outsDen aps ((a ++ b).map (VE.den ρ)) (resN rs)).length := by rw [List.length_map, h4, outsDen_len]
    refine ⟨by simp only [List.length_append, hlo, List.length_cons, List.length_nil], fun i c c' hc hc' => ?_⟩
    by_cases hi : i < (os.map (SV.den ρ)).length
    · rw [List.getElem?_append_left hi] at hc
      rw [List.getElem?_append_left (by rw [← hlo]; exact hi)] at hc'
      have := h5 (a.map (VE.den ρ)) [] i c c' hc
      rw [List.length_map, h1] at this
      exact .inl (this (by simpa using hc'))
    · rw [List.getElem?_append_right (by omega)] at hc
      rw [List.getElem?_append_right (by rw [← hlo]; omega), ← hlo] at hc'
      have h0 : i - (os.map (SV.den ρ)).length = 0 := by
        have := (List.getElem?_eq_some_iff.1 hc).1
        simp only [List.length_cons, List.length_nil] at this
        omega
      rw [h0] at hc hc'
      simp only [List.getElem?_cons_zero, Option.some.injEq] at hc hc'
      subst hc
      subst hc'
      rw [List.map_append]
      exact .inl (h2 _)
  · cases h

end

/-! the run -/
def updR {γ : Type} (A : Nat → List V → Option γ) (n : Nat) (B : List V → Option γ) : Nat → List V → Option γ := fun i vs => if i = n then B vs else A i vs

noncomputable def STree.run (P : Program) (Φ : List (FuncId × Fun)) (aps : List AP) (rs : List RSh) : STree → (Nat → List V → Option (ShsT (shsOf rs aps))) → (Nat → V) → Option (ShsT (shsOf rs aps))
  | .stuck _, _, _ => none
  | .branch b t e, A, ρ => if b.den ρ = true then t.run P Φ aps rs A ρ else e.run P Φ aps rs A ρ
  | .req p t, A, ρ => @reqK _ (p.den ρ) (p.decDen ρ) (t.run P Φ aps rs A ρ)
  | .elem l i sh n t, A, ρ => elemK (l.den ρ) (i.den ρ) sh fun r => t.run P Φ aps rs A (bind ρ n (toVs sh r))
  | .nilq l n t, A, ρ => nilK (l.den ρ = []) fun b => t.run P Φ aps rs A (bind ρ n [.b b])
  | .call f args res outs n _ t, A, ρ =>
    match lookF Φ f (args.filterMap SV.sig) with
    | some S => if fitR S.res res n = true ∧ fitOs S.args outs (n + resN S.res) = true ∧ apsClosed S.args = true then callK P S (args.map (SV.den ρ)) fun us => t.run P Φ aps rs A (bind ρ n us) else none
    | none => none
  | .loop lv init n t, A, ρ => iterL (fun rec vs => t.run P Φ aps rs (updR A lv rec) (bind zeroE n vs)) FUEL (init.map (VE.den ρ))
  | .again lv vals, A, ρ => A lv (vals.map (VE.den ρ))
  | .ret res outs, _, ρ => match retVals P aps rs res outs with | some vs => ofVs _ (vs.map (VE.den ρ)) | none => none

theorem least {p : Nat → Prop} (h : ∃ k, p k) : ∃ k, p k ∧ ∀ j, j < k → ¬ p j := by
  obtain ⟨k, hk⟩ := h
  induction k using Nat.strongRecOn with
  | _ k ih =>
    by_cases hj : ∃ j, j < k ∧ p j
    · obtain ⟨j, h1, h2⟩ := hj
      exact ih j h1 h2
    · exact ⟨k, hk, fun j h1 h2 => hj ⟨j, h1, h2⟩⟩

section
variable {P : Program} {Φ : List (FuncId × Fun)} {aps : List AP} {rs : List RSh}

theorem run_wp (hΦ : OkAll P Φ) {r : ShsT (shsOf rs aps)} {R : AV → List AV → Prop} (hR : ∀ x os, SlotsW P (os ++ [x]) (outsDen aps (toVs _ r) (resN rs) ++ [resDen rs (toVs _ r) 0]) → R x os) :
    ∀ (t : STree) (A' : Nat → List V → Option (ShsT (shsOf rs aps))) (A : Nat → List V → Prop) (ρ : Nat → V), (∀ lv vs, A' lv vs = some r → A lv vs) → t.run P Φ aps rs A' ρ = some r → t.wp P R A ρ
  | .stuck _, _, _, _, _, h => by simp [STree.run] at h
  | .branch b t e, A', A, ρ, hA, h => by
    simp only [STree.run] at h
    refine ⟨fun hb => ?_, fun hb => ?_⟩
    · rw [if_pos hb] at h
      exact run_wp hΦ hR t A' A ρ hA h
    · rw [if_neg (by rw [hb]; exact Bool.false_ne_true)] at h
      exact run_wp hΦ hR e A' A ρ hA h
  | .req p t, A', A, ρ, hA, h => by
    obtain ⟨h1, h2⟩ := reqK_some (show @reqK _ (p.den ρ) (p.decDen ρ) (t.run P Φ aps rs A' ρ) = some r from h)
    exact ⟨h1, run_wp hΦ hR t A' A ρ hA h2⟩
  | .elem l i sh n t, A', A, ρ, hA, h => by
    obtain ⟨h0, cs, x, h1, h2, h3⟩ := elemK_some (show elemK (l.den ρ) (i.den ρ) sh (fun r => t.run P Φ aps rs A' (bind ρ n (toVs sh r))) = some r from h)
    refine ⟨toVs sh x, h0, ?_, run_wp hΦ hR t A' A _ hA h3⟩
    rw [h1, ofEs_den sh cs x n _ h2 (Fill.bind ρ n _)]
  | .nilq l n t, A', A, ρ, hA, h => fun b hb => run_wp hΦ hR t A' A _ hA (nilK_some (show nilK (l.den ρ = []) (fun b => t.run P Φ aps rs A' (bind ρ n [.b b])) = some r from h) b hb)
  | .call f args res outs n sh t, A', A, ρ, hA, h => by
    simp only [STree.run] at h
    split at h
    · rename_i S hS
      split at h
      · rename_i hfit
        obtain ⟨vs, x, h1, h2, h3⟩ := callK_some h
        have hlen := toVs_len _ x
        have hl2 : (shsOf S.res S.args).length = resN S.res + (outShs S.args).length := by simp [shsOf, resN]
        refine ⟨toVs _ x, ?_, run_wp hΦ hR t A' A _ hA h3⟩
        rw [fitR_den hfit.1 (by omega), fitOs_den S.args outs (resN S.res) hfit.2.1 (by omega)]
        exact (lookF_ok hΦ hS vs x h2).stronger (decAs_slots hfit.2.2 h1)
      · cases h
    · cases h
  | .loop lv init n t, A', A, ρ, hA, h => by
    let F := fun (rec : List V → Option (ShsT (shsOf rs aps))) vs => t.run P Φ aps rs (updR A' lv rec) (bind zeroE n vs)
    have hF : iterL F FUEL (init.map (VE.den ρ)) = some r := h
    have hm : ∀ vs, ∃ m : Nat, (∃ k, iterL F k vs = some r) → iterL F m vs = some r ∧ ∀ j, iterL F j vs = some r → m ≤ j := by
      intro vs
      by_cases hk : ∃ k, iterL F k vs = some r
      · obtain ⟨m, h1, h2⟩ := least hk
        exact ⟨m, fun _ => ⟨h1, fun j hj => Nat.le_of_not_lt fun hlt => h2 j hlt hj⟩⟩
      · exact ⟨0, fun h => (hk h).elim⟩
    obtain ⟨m, hm⟩ := Classical.axiomOfChoice hm
    refine ⟨fun vs => ∃ k, iterL F k vs = some r, m, ⟨FUEL, hF⟩, fun vs _ hk => ?_⟩
    obtain ⟨h1, h2⟩ := hm vs hk
    cases hmv : m vs with
    | zero => rw [hmv] at h1; cases h1
    | succ j =>
      rw [hmv] at h1
      refine run_wp hΦ hR t (updR A' lv (iterL F j)) _ _ (fun lv' vs' hv => ?_) h1
      unfold updR at hv
      unfold updA
      split at hv
      · rename_i he
        rw [if_pos he]
        refine ⟨⟨j, hv⟩, ?_⟩
        have := (hm vs' ⟨j, hv⟩).2 j hv
        omega
      · rename_i he
        rw [if_neg he]
        exact hA lv' vs' hv
  | .again lv vals, A', A, ρ, hA, h => hA lv _ h
  | .ret res outs, A', A, ρ, hA, h => by
    simp only [STree.run] at h
    split at h
    · rename_i vs hvs
      refine hR _ _ ?_
      rw [ofVs_toVs _ _ _ h]
      exact retVals_ok hvs
    · cases h

end

end Go.AM
end

section
namespace Go.AM

/-- Cells of a type. -/
def TyR (P : Program) : Nat → TypeId → List AV → Prop
  | 0, _, _ => False
  | d + 1, T, cs =>
    match P.underlying T with
    | some (.int k) => ∃ z, cs = [.val (.int k z)] ∧ (Lit.int k z).wf = true
    | some .bool => ∃ b, cs = [.val (.bool b)]
    | some .string => ∃ s, cs = [.val (.string s)]
    | some (.slice e) => ∃ xs : List (List AV), cs = [.slice false (P.cellsOf e) xs] ∧ xs.length ≤ maxLen ∧ ∀ x ∈ xs, TyR P d e x
    | some (.struct fs) => ∃ parts : List (List AV), cs = parts.flatten ∧ parts.length = fs.size ∧ ∀ (i : Nat) (f : Field) (p : List AV), fs[i]? = some f → parts[i]? = some p → TyR P d f.type p
    | _ => False

/-- A type of integers, bools, strings, and structs and slices of such; its layout. -/
def fineB (P : Program) : Nat → TypeId → Bool
  | 0, _ => false
  | d + 1, T =>
    match P.underlying T with
    | some (.int _) => true
    | some .bool => true
    | some .string => true
    | some (.slice e) => fineB P d e && decide (0 < P.cellsOf e)
    | some (.struct fs) => (fs.toList.all fun f => fineB P d f.type) && decide (P.cellsOf T = (fs.toList.map fun f => P.cellsOf f.type).sum) &&
        (fs.toList.zipIdx.all fun p => decide (p.1.offset = ((fs.toList.take p.2).map fun f => P.cellsOf f.type).sum))
    | _ => false

def rowLim (w : World) : Nat → Nat := fun b => match w.heap[b]? with | some (.cells c _ _) => c.size | _ => 0

theorem rowLim_lt {w : World} {b o : Nat} {u : Value} (h : w.cell? ⟨b, o, none⟩ = some u) : o < rowLim w b := by
  unfold World.cell? at h
  unfold rowLim
  split at h
  · rename_i c t fr hc
    have h' : c[o]? = some u := by simpa using h
    have hc' : w.heap[b]? = some (.cells c t fr) := hc
    rw [hc']
    exact (Array.getElem?_eq_some_iff.1 h').1
  · cases h

theorem RelL.flat {w : World} {lim : Nat → Nat} : ∀ (as : List (List AV)) (us : List (List Value)), as.length = us.length → (∀ (i : Nat) (a : List AV) (u : List Value), as[i]? = some a → us[i]? = some u → RelL w lim a u) → RelL w lim as.flatten us.flatten
  | [], [], _, _ => RelL.nil w lim
  | [], _ :: _, h, _ => by simp at h
  | _ :: _, [], h, _ => by simp at h
  | a :: as, u :: us, h, hr => by
    have h1 := hr 0 a u rfl rfl
    have h2 := RelL.flat as us (by simpa using h) fun i a' u' ha hu => hr (i + 1) a' u' (by simpa using ha) (by simpa using hu)
    refine ⟨by simp [h1.1, h2.1], fun c hc => ?_, fun i c v hc hv => ?_⟩
    · rw [List.flatten_cons, List.mem_append] at hc
      rcases hc with hc | hc
      · exact h1.2.1 c hc
      · exact h2.2.1 c hc
    · rw [List.flatten_cons] at hc hv
      by_cases hi : i < a.length
      · rw [List.getElem?_append_left hi] at hc
        rw [List.getElem?_append_left (by rw [← h1.1]; exact hi)] at hv
        exact h1.2.2 i c v hc hv
      · rw [List.getElem?_append_right (by omega)] at hc
        rw [List.getElem?_append_right (by rw [← h1.1]; omega), ← h1.1] at hv
        exact h2.2.2 _ c v hc hv

/-- A list in pieces. -/
theorem pieces {α : Type} : ∀ (ns : List Nat) (cs : List α), cs.length = ns.sum → ∃ ps : List (List α), ps.length = ns.length ∧ ps.flatten = cs ∧ ∀ (i : Nat) (n : Nat), ns[i]? = some n → ps[i]? = some ((cs.drop (ns.take i).sum).take n)
  | [], cs, h => ⟨[], rfl, by simp at h; simp [h], by simp⟩
  | n :: ns, cs, h => by
    obtain ⟨ps, h1, h2, h3⟩ := pieces ns (cs.drop n) (by simp only [List.sum_cons] at h; simp; omega)
    refine ⟨cs.take n :: ps, by simp [h1], by rw [List.flatten_cons, h2, List.take_append_drop], fun i m hi => ?_⟩
    cases i with
    | zero => simp at hi; subst hi; simp
    | succ i =>
      have := h3 i m (by simpa using hi)
      simp only [List.getElem?_cons_succ, this, List.take_succ_cons, List.sum_cons, List.drop_drop]

theorem list_choice {β : Type} {Q : Nat → β → Prop} : ∀ (n : Nat), (∀ i, i < n → ∃ b, Q i b) → ∃ l : List β, l.length = n ∧ ∀ (i : Nat) (b : β), l[i]? = some b → Q i b
  | 0, _ => ⟨[], rfl, by simp⟩
  | n + 1, h => by
    obtain ⟨l, h1, h2⟩ := list_choice n fun i hi => h i (by omega)
    obtain ⟨b, hb⟩ := h n (by omega)
    refine ⟨l ++ [b], by simp [h1], fun i c hc => ?_⟩
    by_cases hi : i < l.length
    · rw [List.getElem?_append_left hi] at hc
      exact h2 i c hc
    · rw [List.getElem?_append_right (by omega)] at hc
      have h0 : i - l.length = 0 := by
        have := (List.getElem?_eq_some_iff.1 hc).1
        simp at this
        omega
      rw [h0] at hc
      simp only [List.getElem?_cons_zero, Option.some.injEq] at hc
      subst hc
      have : i = n := by omega
      rw [this]
      exact hb

theorem flat_cells {s : Nat} {cell : Nat → Option Value} : ∀ (l : List (List Value)) (o : Nat), (∀ (i : Nat) (us : List Value), l[i]? = some us → us.length = s ∧ ∀ (k : Nat) (u : Value), us[k]? = some u → cell (o + i * s + k) = some u) →
    ∀ (j : Nat) (u : Value), l.flatten[j]? = some u → cell (o + j) = some u
  | [], o, _, j, u, h => by simp at h
  | us :: l, o, h, j, u, hj => by
    obtain ⟨h1, h2⟩ := h 0 us rfl
    rw [List.flatten_cons] at hj
    by_cases hlt : j < us.length
    · rw [List.getElem?_append_left hlt] at hj
      have := h2 j u hj
      simpa using this
    · rw [List.getElem?_append_right (by omega)] at hj
      have := flat_cells l (o + s) (fun i us' hi => by
        obtain ⟨g1, g2⟩ := h (i + 1) us' (by simpa using hi)
        refine ⟨g1, fun k u' hk => ?_⟩
        have := g2 k u' hk
        rw [Nat.add_mul, Nat.one_mul] at this
        rw [show o + s + i * s + k = o + (i * s + s) + k by omega]
        exact this) (j - us.length) u hj
      rw [show o + s + (j - us.length) = o + j by omega] at this
      exact this

section
variable {P : Program} {H : Type} {enc : TypeId × Value → H} {w : World} {sp : Nat → Bool} {held : Bool}

theorem open_ty : ∀ (d n : Nat) (T : TypeId) (cs : List Value) (x : DataW H × List MemPlace), fineB P d T = true → DataW.trod enc P w 0 sp held n T cs = some x → ∃ avs, TyR P d T avs ∧ RelL w (rowLim w) avs cs
  | 0, n, T, cs, x, hf, _ => by simp [fineB] at hf
  | d + 1, n, T, cs, x, hf, h => by
    simp only [fineB] at hf
    split at hf
    · rename_i k hk
      obtain ⟨z, rfl, _, hw⟩ := DataW.trod_int hk h
      refine ⟨[.val (.int k z)], ?_, rfl, by simp [AV.isCell], fun i c u hc hu => ?_⟩
      · simp only [TyR, hk]; exact ⟨z, rfl, hw⟩
      · cases i with
        | zero => simp at hc hu; subst hc; subst hu; exact .val rfl
        | succ i => simp at hc
    · rename_i hk
      obtain ⟨b, rfl, _⟩ := DataW.trod_bool hk h
      refine ⟨[.val (.bool b)], ?_, rfl, by simp [AV.isCell], fun i c u hc hu => ?_⟩
      · simp only [TyR, hk]; exact ⟨b, rfl⟩
      · cases i with
        | zero => simp at hc hu; subst hc; subst hu; exact .val rfl
        | succ i => simp at hc
    · rename_i hk
      obtain ⟨s, rfl, _⟩ := DataW.trod_string hk h
      refine ⟨[.val (.string s)], ?_, rfl, by simp [AV.isCell], fun i c u hc hu => ?_⟩
      · simp only [TyR, hk]; exact ⟨s, rfl⟩
      · cases i with
        | zero => simp at hc hu; subst hc; subst hu; exact .val rfl
        | succ i => simp at hc
    · rename_i e hk
      simp only [Bool.and_eq_true, decide_eq_true_eq] at hf
      rcases DataW.trod_slice hk h with ⟨rfl, _⟩ | ⟨a, len, cap, elems, rest, m, _, rfl, _, _, hlc, hcm, hel, hcells, _, _⟩
      · refine ⟨[.slice false (P.cellsOf e) []], ?_, rfl, by simp [AV.isCell], fun i c u hc hu => ?_⟩
        · simp only [TyR, hk]; exact ⟨[], rfl, by simp, by simp⟩
        · cases i with
          | zero => simp at hc hu; subst hc; subst hu; exact .sliceN
          | succ i => simp at hc
      · obtain ⟨l, hl1, hl2⟩ := list_choice (Q := fun i (p : List Value × List AV) => w.cells? 0 (a.add (i * P.cellsOf e)) (P.cellsOf e) = some p.1 ∧ TyR P d e p.2 ∧ RelL w (rowLim w) p.2 p.1) len fun i hi => by
          have h1 := hcells i hi
          obtain ⟨y, hy⟩ : ∃ y, elems[i]? = some y := ⟨_, List.getElem?_eq_getElem (by omega)⟩
          rw [hy, Option.bind_eq_some_iff] at h1
          obtain ⟨us, h2, h3⟩ := h1
          obtain ⟨avs, h4, h5⟩ := open_ty d m e us y hf.1 h3
          exact ⟨(us, avs), h2, h4, h5⟩
        have hall : ∀ p ∈ l, TyR P d e p.2 ∧ RelL w (rowLim w) p.2 p.1 ∧ p.1.length = P.cellsOf e := by
          intro p hp
          obtain ⟨i, hi⟩ := List.mem_iff_getElem?.1 hp
          obtain ⟨g1, g2, g3⟩ := hl2 i p hi
          exact ⟨g2, g3, (World.cells?_some g1).2.1⟩
        refine ⟨[.slice false (P.cellsOf e) (l.map (·.2))], ?_, rfl, by simp [AV.isCell], fun i c u hc hu => ?_⟩
        · simp only [TyR, hk]
          refine ⟨_, rfl, by simp; omega, fun y hy => ?_⟩
          obtain ⟨p, hp, rfl⟩ := List.mem_map.1 hy
          exact (hall p hp).1
        · cases i with
          | succ i => simp at hc
          | zero =>
            simp only [List.getElem?_cons_zero, Option.some.injEq] at hc hu
            subst hc
            subst hu
            cases l with
            | nil =>
              have : len = 0 := by simpa using hl1.symm
              subst this
              exact .sliceE (fun h => by cases h)
            | cons p l' =>
              have hcell : ∀ (j : Nat) (u : Value), ((p :: l').map (·.1)).flatten[j]? = some u → w.cell? ⟨a.block, a.off + j, none⟩ = some u := by
                refine flat_cells (s := P.cellsOf e) (cell := fun o => w.cell? ⟨a.block, o, none⟩) _ a.off fun i us hi => ?_
                rw [List.getElem?_map] at hi
                cases hpi : (p :: l')[i]? with
                | none => simp [hpi] at hi
                | some q =>
                  simp only [hpi, Option.map_some, Option.some.injEq] at hi
                  subst hi
                  obtain ⟨g1, _, _⟩ := hl2 i q hpi
                  obtain ⟨_, k2, k3⟩ := World.cells?_some g1
                  refine ⟨k2, fun k u hu => ?_⟩
                  have hk' : k < P.cellsOf e := by rw [← k2]; exact (List.getElem?_eq_some_iff.1 hu).1
                  have := k3 k hk'
                  rw [hu] at this
                  have hblk : ((a.add (i * P.cellsOf e)).add k).block = a.block ∧ ((a.add (i * P.cellsOf e)).add k).off = a.off + i * P.cellsOf e + k := by
                    unfold Addr.add
                    split <;> split <;> simp_all
                  have hspot : ((a.add (i * P.cellsOf e)).add k).spot = none := by
                    unfold World.cell? at this
                    split at this
                    · split at this
                      · cases this
                      · rename_i hs; simpa using hs
                    · cases this
                  have heq : (a.add (i * P.cellsOf e)).add k = ⟨a.block, a.off + i * P.cellsOf e + k, none⟩ := by
                    rw [← hblk.1, ← hblk.2, ← hspot]
                  rw [heq] at this
                  exact this
              have hspot : a.spot = none := by
                obtain ⟨g1, _, _⟩ := hl2 0 p rfl
                obtain ⟨_, k2, k3⟩ := World.cells?_some g1
                have := k3 0 hf.2
                obtain ⟨u, hu⟩ : ∃ u, p.1[0]? = some u := ⟨_, List.getElem?_eq_getElem (by rw [k2]; exact hf.2)⟩
                rw [hu] at this
                have ha : (a.add (0 * P.cellsOf e)).add 0 = a := by simp [Addr.add]
                rw [ha] at this
                unfold World.cell? at this
                split at this
                · split at this
                  · cases this
                  · rename_i hs; simpa using hs
                · cases this
              have ha : a = ⟨a.block, a.off, none⟩ := by rw [← hspot]
              have hlen : ((p :: l').map (·.2)).length = len := by rw [List.length_map]; exact hl1
              rw [ha, ← hlen]
              have hrel : RelL w (rowLim w) ((p :: l').map (·.2)).flatten ((p :: l').map (·.1)).flatten := by
                refine RelL.flat _ _ (by simp) fun i x us hx hus => ?_
                rw [List.getElem?_map] at hx hus
                cases hpi : (p :: l')[i]? with
                | none => simp [hpi] at hx
                | some q =>
                  simp only [hpi, Option.map_some, Option.some.injEq] at hx hus
                  subst hx
                  subst hus
                  exact (hl2 i q hpi).2.2
              have hsz : ∀ x ∈ (p :: l').map (·.2), x.length = P.cellsOf e := by
                intro x hx
                obtain ⟨q, hq, rfl⟩ := List.mem_map.1 hx
                obtain ⟨_, g2, g3⟩ := hall q hq
                rw [g2.1, g3]
              refine .sliceC (us := ((p :: l').map (·.1)).flatten) hsz (fun x hx => ?_) (fun h => by cases h) (by rw [hlen]; exact hlc) (fun hne => ?_) ?_ hcell hrel.2.2
              · obtain ⟨q, hq, rfl⟩ := List.mem_map.1 hx
                exact (hall q hq).2.1.2.1
              · have hpos : 0 < (((p :: l').map (·.1)).flatten).length := List.length_pos_iff.2 hne
                have hlast := hcell ((((p :: l').map (·.1)).flatten).length - 1) _ (List.getElem?_eq_getElem (by omega))
                have := rowLim_lt hlast
                omega
              · rw [← hrel.1, getD_replicate_flat _ _ hsz]
    · rename_i fs hk
      simp only [Bool.and_eq_true, decide_eq_true_eq, List.all_eq_true] at hf
      obtain ⟨⟨h1, h2⟩, h3⟩ := hf
      obtain ⟨xs, m, _, _, hlen, hxl, hparts⟩ := DataW.trod_struct hk h
      obtain ⟨ps, q1, q2, q3⟩ := pieces (fs.toList.map fun f => P.cellsOf f.type) cs (by rw [hlen, h2])
      have hps : ps.length = fs.size := by rw [q1]; simp
      obtain ⟨l, hl1, hl2⟩ := list_choice (Q := fun i (avs : List AV) => ∃ (f : Field) (us : List Value), fs[i]? = some f ∧ ps[i]? = some us ∧ TyR P d f.type avs ∧ RelL w (rowLim w) avs us) fs.size fun i hi => by
        have hfi : fs[i]? = some fs[i] := Array.getElem?_eq_getElem hi
        have hn : (fs.toList.map fun f => P.cellsOf f.type)[i]? = some (P.cellsOf fs[i].type) := by simp [hi]
        have h4 := q3 i _ hn
        have h5 := hparts i _ hfi
        have hoff := h3 (fs[i], i) (by rw [List.mem_zipIdx_iff_getElem?]; simp [hi])
        simp only at hoff
        rw [hoff, List.map_take] at h5
        obtain ⟨y, hy⟩ : ∃ y, xs[i]? = some y := ⟨_, List.getElem?_eq_getElem (by omega)⟩
        rw [hy] at h5
        obtain ⟨avs, h6, h7⟩ := open_ty d m _ _ y (h1 fs[i] (by simp)) h5
        exact ⟨avs, fs[i], _, hfi, h4, h6, h7⟩
      refine ⟨l.flatten, ?_, ?_⟩
      · simp only [TyR, hk]
        refine ⟨l, rfl, hl1, fun i f p hf hp => ?_⟩
        obtain ⟨f', us, g1, g2, g3, g4⟩ := hl2 i p hp
        rw [hf] at g1
        cases g1
        exact g3
      · rw [← q2]
        refine RelL.flat _ _ (by rw [hl1, hps]) fun i avs us ha hu => ?_
        obtain ⟨f', us', g1, g2, g3, g4⟩ := hl2 i avs ha
        rw [hu] at g2
        cases g2
        exact g4
    · cases hf

/-- What stands for an argument of a type. -/
def ArgTy (P : Program) (d : Nat) (T : TypeId) (x : AV) : Prop :=
  match P.underlying T with
  | some (.struct _) => ∃ cs, x = .agg cs ∧ TyR P d T cs
  | _ => x.isCell = true ∧ TyR P d T [x]

theorem relL_one {lim : Nat → Nat} {avs : List AV} {v : Value} (h : RelL w lim avs [v]) : ∃ x, avs = [x] ∧ x.isCell = true ∧ Rep w lim x v := by
  obtain ⟨x, rfl⟩ := List.length_eq_one_iff.1 (by simpa using h.1 : avs.length = 1)
  exact ⟨x, rfl, h.2.1 x (by simp), h.2.2 0 x v rfl rfl⟩

theorem open_arg {d : Nat} {T : TypeId} {v : Value} {x : DataW H} {ps : List MemPlace} {r : Reach} {base : Nat} (hf : fineB P d T = true) (hok : Value.okWide P w r base T v)
    (h : DataW.Trod enc P w 0 sp held T v x ps) : ∃ y, ArgTy P d T y ∧ ∀ X σ k, SlotR P w (rowLim w) X σ k y v := by
  obtain ⟨n, h⟩ := h
  obtain ⟨avs, h1, h2⟩ := open_ty d n T _ _ hf h
  cases d with
  | zero => simp [fineB] at hf
  | succ d =>
    have one : v.cells.toList = [v] → (∀ fs, P.underlying T ≠ some (.struct fs)) → ∃ y, ArgTy P (d + 1) T y ∧ ∀ X σ k, SlotR P w (rowLim w) X σ k y v := by
      intro hv hns
      rw [hv] at h2
      obtain ⟨y, rfl, h3, h4⟩ := relL_one h2
      refine ⟨y, ?_, fun X σ k => (cell_slotR h3 h4).2⟩
      unfold ArgTy
      split
      · rename_i fs hfs; exact (hns fs hfs).elim
      · exact ⟨h3, h1⟩
    simp only [fineB] at hf
    split at hf
    · rename_i kd hk
      obtain ⟨z, hz, _⟩ := DataW.trod_int hk h
      refine one ?_ (by rw [hk]; simp)
      simp only [Value.okWide, hk, Cell.okWide] at hok
      cases v <;> simp_all [Cell.ok, Value.cells]
    · rename_i hk
      refine one ?_ (by rw [hk]; simp)
      simp only [Value.okWide, hk, Cell.okWide] at hok
      cases v <;> simp_all [Cell.ok, Value.cells]
    · rename_i hk
      refine one ?_ (by rw [hk]; simp)
      simp only [Value.okWide, hk, Cell.okWide] at hok
      cases v <;> simp_all [Cell.ok, Value.cells]
    · rename_i e hk
      refine one ?_ (by rw [hk]; simp)
      simp only [Value.okWide, hk, Cell.okWide] at hok
      cases v <;> simp_all [Cell.ok, Value.cells]
    · rename_i fs hk
      simp only [Value.okWide, hk] at hok
      obtain ⟨cs, rfl, _, _⟩ := hok
      refine ⟨.agg avs, ?_, ?_⟩
      · unfold ArgTy
        simp only [hk]
        exact ⟨avs, rfl, h1⟩
      · have : cs = cs.toList.toArray := by simp
        intro X σ k
        show Rep w (rowLim w) (.agg avs) (.agg cs)
        rw [this]
        exact .agg h2.1 h2.2.1 h2.2.2
    · cases hf

theorem open_args {d : Nat} {r : Reach} {base : Nat} : ∀ (ts : List TypeId) (vs : List Value) (ds : List (DataW H)) (ps : List MemPlace), (∀ t ∈ ts, fineB P d t = true) →
    (∀ (j : Nat) (t : TypeId) (v : Value), ts[j]? = some t → vs[j]? = some v → Value.okWide P w r base t v) → DataW.TrodAll enc P w 0 sp held ts vs ds ps →
    vs.length = ts.length ∧ ∃ xs : List AV, xs.length = ts.length ∧ ∀ (i : Nat) (t : TypeId) (x : AV) (v : Value), ts[i]? = some t → xs[i]? = some x → vs[i]? = some v → ArgTy P d t x ∧ ∀ X σ k, SlotR P w (rowLim w) X σ k x v
  | [], [], [], ps, _, _, _ => ⟨rfl, [], rfl, by simp⟩
  | t :: ts, v :: vs, x :: ds, ps, hf, hok, h => by
    obtain ⟨p, q, h1, h2, _⟩ := h
    obtain ⟨y, g1, g2⟩ := open_arg (hf t (by simp)) (hok 0 t v rfl rfl) h1
    obtain ⟨k1, xs, k2, k3⟩ := open_args ts vs ds q (fun t ht => hf t (by simp [ht])) (fun j t' v' ht hv => hok (j + 1) t' v' (by simpa using ht) (by simpa using hv)) h2
    refine ⟨by simp [k1], y :: xs, by simp [k2], fun i t' x' v' ht hx hv => ?_⟩
    cases i with
    | zero =>
      simp only [List.getElem?_cons_zero, Option.some.injEq] at ht hx hv
      subst ht
      subst hx
      subst hv
      exact ⟨g1, g2⟩
    | succ i => exact k3 i t' x' v' (by simpa using ht) (by simpa using hx) (by simpa using hv)
  | [], _ :: _, _, _, _, _, h => h.elim
  | [], [], _ :: _, _, _, _, h => h.elim
  | _ :: _, [], _, _, _, _, h => h.elim
  | _ :: _, _ :: _, [], _, _, _, h => h.elim

theorem args_stay {w' : World} {sp' : Nat → Bool} (hl : laidOutB P = true) : ∀ (ts : List TypeId) (vs : List Value) (ds : List (DataW H)) (ps : List MemPlace), (∀ t ∈ ts, t < P.types.size ∧ P.readableRec t = true) →
    DataW.TrodAll enc P w 0 (fun _ => true) true ts vs ds ps → (∀ p ∈ ps, w.sameAt w' p) → (∀ p ∈ ps, sp' p.block = true) → DataW.TrodAll enc P w' 0 sp' true ts vs ds ps
  | [], [], [], _, _, h, _, _ => h
  | t :: ts, v :: vs, x :: ds, ps, ht, h, hs, hp => by
    obtain ⟨p, q, ⟨n, h1⟩, h2, rfl⟩ := h
    refine ⟨p, q, ⟨n, ?_⟩, args_stay hl ts vs ds q (fun t' h' => ht t' (by simp [h'])) h2 (fun z hz => hs z (by simp [hz])) (fun z hz => hp z (by simp [hz])), rfl⟩
    have hr := (ht t (by simp)).2
    exact DataW.trod_stays (T := InBook P t) (kids_book hl hr) (fun {t' e} h' hu => book_sized hr h' hu) (fun h => by cases h) ⟨(ht t (by simp)).1, book_self t⟩ h1 (fun z hz => hs z (by simp [hz])) (fun z hz => hp z (by simp [hz]))
  | [], _ :: _, _, _, _, h, _, _ => h.elim
  | [], [], _ :: _, _, _, h, _, _ => h.elim
  | _ :: _, [], _, _, _, h, _, _ => h.elim
  | _ :: _, _ :: _, [], _, _, h, _, _ => h.elim

theorem contract_true {fn : Func} {f : FuncId} {s : ChangeSpec} {apart fresh handsOn again : Bool} {tb : TypeId} {d : Nat} (hl : laidOutB P = true) (hpar : ∀ t ∈ fn.params.toList, fineB P d t = true ∧ t < P.types.size ∧ P.readableRec t = true)
    (hres : fn.resultTypes = #[tb]) (htb : P.underlying tb = some .bool) (hvars : s.vars = []) (hs : ∀ ds, ds.length = fn.params.size → s.fn H ds = { results := [.lit (.bool true)], args := ds })
    (hcall : ∀ xs : List AV, xs.length = fn.params.toList.length → (∀ (i : Nat) (t : TypeId) (x : AV), fn.params.toList[i]? = some t → xs[i]? = some x → ArgTy P d t x) → ∃ outs, CallOk P f xs (B true) outs)
    (W : World) (base : Nat) (args : Array Value) (ds gs : List (DataW H)) (before : List MemPlace)
    (hval : ∀ (j : Nat) t v, fn.params[j]? = some t → args[j]? = some v → Value.okWide P W .any base t v) (hW : DataW.Whole enc P fn.params.toList s.vars apart W args.toList ds gs before) :
    Calls P f args W fun e W' => ∃ v, e = .returned v ∧ s.post enc P fn apart fresh handsOn again W args v W' := by
  have hW' := hW
  obtain ⟨p, q, hA, hV, rfl, _, _⟩ := hW
  rw [hvars] at hV
  obtain ⟨rfl, rfl⟩ := ChangeShapes.trodVars_none hV
  obtain ⟨hlen, xs, hx1, hx2⟩ := open_args (r := .any) (base := base) _ _ _ _ (fun t ht => (hpar t ht).1) (fun j t v ht hv => hval j t v (by simpa using ht) (by simpa using hv)) hA
  have hdl : ds.length = fn.params.size := by
    have : ∀ (ts : List TypeId) (vs : List Value) (ds : List (DataW H)) (ps : List MemPlace), DataW.TrodAll enc P W 0 (fun _ => true) true ts vs ds ps → ds.length = ts.length := by
      intro ts
      induction ts with
      | nil => intro vs ds ps h; cases vs <;> cases ds <;> simp_all [DataW.TrodAll]
      | cons t ts ih =>
        intro vs ds ps h
        cases vs with
        | nil => exact h.elim
        | cons v vs =>
          cases ds with
          | nil => exact h.elim
          | cons x ds => obtain ⟨_, _, _, h2, _⟩ := h; simp [ih _ _ _ h2]
    simpa using this _ _ _ _ hA
  obtain ⟨outs, _, hc⟩ := hcall xs hx1 fun i t x ht hx => by
    obtain ⟨v, hv⟩ : ∃ v, args.toList[i]? = some v := ⟨_, List.getElem?_eq_getElem (by rw [hlen]; exact (List.getElem?_eq_some_iff.1 ht).1)⟩
    exact (hx2 i t x v ht hx hv).1
  have hng : xs.countP AV.isG = 0 := by
    rw [List.countP_eq_zero]
    intro x hx hg
    obtain ⟨i, hi⟩ := List.mem_iff_getElem?.1 hx
    have hlt := (List.getElem?_eq_some_iff.1 hi).1
    obtain ⟨v, hv⟩ : ∃ v, args.toList[i]? = some v := ⟨_, List.getElem?_eq_getElem (by omega)⟩
    obtain ⟨t, ht⟩ : ∃ t, fn.params.toList[i]? = some t := ⟨_, List.getElem?_eq_getElem (by omega)⟩
    have hr := (hx2 i t x v ht hi hv).2 (fun _ _ => none) (fun _ => .dead) 0
    cases x <;> simp [AV.isG] at hg
    obtain ⟨v', b, _, _, h, _⟩ := hr
    cases h
  have hcalls := hc W (rowLim W) (fun _ _ => none) args.toList (by rw [hng, hlen, hx1]; exact Nat.le_refl _) (fun i => by
    cases hxi : xs[i]? with
    | none =>
      have : argS xs i = .dead := by simp [argS, hxi]
      rw [this]
      trivial
    | some x =>
      have hi := (List.getElem?_eq_some_iff.1 hxi).1
      obtain ⟨v, hv⟩ : ∃ v, args.toList[i]? = some v := ⟨_, List.getElem?_eq_getElem (by omega)⟩
      obtain ⟨t, ht⟩ : ∃ t, fn.params.toList[i]? = some t := ⟨_, List.getElem?_eq_getElem (by omega)⟩
      have h1 : argS xs i = x := by simp [argS, hxi]
      have h2 : args.toList.getD i undef = v := by rw [List.getD_eq_getElem?_getD, hv]; rfl
      rw [h1, h2]
      exact (hx2 i t x v ht hxi hv).2 _ _ _) (fun _ _ _ _ _ h => by cases h) (fun _ _ _ h => by cases h)
  rw [Array.toArray_toList] at hcalls
  refine hcalls.mono ?_
  rintro e W' ⟨v, lim', X', rfl, hst, hol, hrel, _, _, _⟩
  have hv : v = .bool true := by
    have h := hrel xs.length
    have h1 : argS (outs ++ [B true]) xs.length = B true := by
      simp only [argS]
      rw [List.getElem?_append_right (by omega), hol]
      simp
    have h2 : retAt xs.length args.toList v xs.length = v := if_pos rfl
    rw [h1, h2] at h
    exact rep_val h
  subst hv
  have hkept : ∀ b, b < W.heap.size → W'.heap[b]? = W.heap[b]? := fun b hb => (hst.blk b hb (by rintro ⟨_, _, h⟩; cases h)).1
  have hsame : ∀ z ∈ p ++ [], W.sameAt W' z := by
    intro z hz
    have hlt := hW'.lt z hz
    cases z with
    | cell b off =>
      show W'.cell? ⟨b, off, none⟩ = W.cell? ⟨b, off, none⟩
      unfold World.cell?
      rw [hkept b hlt]
    | map b => exact hkept b hlt
  refine ⟨_, rfl, ChangeShapes.post_of_same (pa := p) (pv := []) hW' (fun b sp hd => ?_) (fun sp hp => ?_) (fun sp _ => ?_) rfl ?_ hst.frz ?_⟩
  · rw [hs _ (by simpa using hdl), hres]
    exact ⟨[], [], ⟨1, by simp [DataW.trod, htb, Value.cells]⟩, rfl, rfl⟩
  · rw [hs _ (by simpa using hdl), List.append_nil]
    exact args_stay hl _ _ _ _ (fun t ht => (hpar t ht).2) hA (fun z hz => hsame z (by simpa using hz)) (fun z hz => hp z (by simpa using hz))
  · rw [hs _ (by simpa using hdl), hvars]
    rfl
  · refine ⟨hst.os, hst.output, fun i hi => ?_⟩
    rw [hkept i hi]
    cases W.heap[i]? with
    | none => rfl
    | some o => cases o <;> simp
  · exact RowKit.ok_one hres rfl (RowKit.okWide_bool_mk htb true)

end

end Go.AM
end

section
namespace Go.AM
open Go
set_option linter.unusedSimpArgs false
set_option linter.unusedVariables false

def blank : Char := Char.ofNat 32

theorem words_blank (r : List Char) : wordsSigns (blank :: r) = [] :: wordsSigns r := by
  show wordsSigns (Char.ofNat 32 :: r) = _
  rw [wordsSigns]

theorem words_other (c : Char) (r : List Char) (h : c ≠ blank) : wordsSigns (c :: r) = match wordsSigns r with | w :: ws => (c :: w) :: ws | [] => [[c]] := by
  rw [wordsSigns]
  · rfl
  · exact h

theorem words_word (r : List Char) : ∀ (w : List Char), (w.all fun c => c != blank) = true → wordsSigns (w ++ blank :: r) = w :: wordsSigns r
  | [], _ => words_blank r
  | c :: w, h => by
    rw [List.all_cons, Bool.and_eq_true] at h
    rw [List.cons_append, words_other c _ (by simpa using h.1), words_word r w h.2]

theorem behind_words {L : List Char} (h1 : ((L.take 7).all fun c => c != blank) = true) (h2 : (((L.drop 8).take 64).all fun c => c != blank) = true) (h3 : (((L.drop 73).take 3).all fun c => c != blank) = true)
    (hL : L = L.take 7 ++ blank :: ((L.drop 8).take 64 ++ blank :: ((L.drop 73).take 3 ++ blank :: L.drop 77))) (hm : ((L.take 7 == "harness".toList || L.take 7 == "ownmain".toList) && isSumSigns ((L.drop 8).take 64)) = true)
    (hc : (L.drop 73).take 3 = "cut".toList) : ∃ ws, behindMainWord (wordsSigns L) = "cut".toList :: ws := by
  refine ⟨wordsSigns (L.drop 77), ?_⟩
  have h : wordsSigns L = L.take 7 :: (L.drop 8).take 64 :: (L.drop 73).take 3 :: wordsSigns (L.drop 77) := by
    rw [hL, words_word _ _ h1, words_word _ _ h2, words_word _ _ h3, ← hL]
  rw [h, behindMainWord, if_pos hm, hc]

theorem enters_of {P : Program} {ws : List (List Char)} (h : behindMainWord (wordsSigns P.initOrder.toList) = "cut".toList :: ws) (h1 : P.laysLater = false) (h2 : P.bearsReflect = false) (h3 : P.doorFits [] = true) : P.mayEnter = true := by
  unfold Program.mayEnter
  rw [h]
  have hs : stripLifts liftWords ("cut".toList :: ws) = ([], "cut".toList :: ws) := by kernel_rfl
  simp only [hs]
  simp [h1, h2, h3]

theorem lifts_of {P : Program} {ws : List (List Char)} (h : behindMainWord (wordsSigns P.initOrder.toList) = "cut".toList :: ws) : P.headLifts = [] := by
  unfold Program.headLifts
  rw [h]
  have hs : stripLifts liftWords ("cut".toList :: ws) = ([], "cut".toList :: ws) := by kernel_rfl
  simp only [hs]
  simp

theorem final_of {P : Program} {ws : List (List Char)} (h : behindMainWord (wordsSigns P.initOrder.toList) = "cut".toList :: ws) : P.liftsFinal = false := by
  unfold Program.liftsFinal
  rw [lifts_of h, h]
  have hs : ("cut".toList == "carried".toList) = false := by decide +kernel
  simp [hs]

theorem make_of {P : Program} {ws : List (List Char)} (h : behindMainWord (wordsSigns P.initOrder.toList) = "cut".toList :: ws) : P.make = some .cut := by
  unfold Program.make
  rw [h]
  simp

end Go.AM
end

section
namespace Go.AM

/-- Lists of elements. -/
abbrev LL : Type := List (List AV)

/-- Requirements, by name. -/
def bytesP (l : List (List AV)) : Prop := ∀ e ∈ l, ∃ n : Int, 0 ≤ n ∧ n ≤ 255 ∧ e = [.val (.int .u8 n)]
def roomP (a b : List (List AV)) (k : Nat) : Prop := (a.length + b.length) * (k + 1) ≤ roomMax

def makeP (a : Int) (k : Nat) : Prop := 0 ≤ a ∧ a.toNat * (k + 1) ≤ roomMax

instance (l : List (List AV)) : Decidable (bytesP l) := bytesDec l
instance (a b : List (List AV)) (k : Nat) : Decidable (roomP a b k) := inferInstanceAs (Decidable ((a.length + b.length) * (k + 1) ≤ roomMax))
instance (a : Int) (k : Nat) : Decidable (makeP a k) := inferInstanceAs (Decidable (0 ≤ a ∧ a.toNat * (k + 1) ≤ roomMax))
instance (l : List (List AV)) : Decidable (l ≠ []) := consDec l

/-- The laws of comparisons and tests, together: a set for simp. -/
theorem CQ : (∀ a b : Int, (cop .lss a b = true) = (a < b)) ∧ (∀ a b : Int, (cop .lss a b = false) = (b ≤ a)) ∧ (∀ a b : Int, (cop .leq a b = true) = (a ≤ b)) ∧ (∀ a b : Int, (cop .leq a b = false) = (b < a)) ∧
    (∀ a b : Int, (cop .gtr a b = true) = (b < a)) ∧ (∀ a b : Int, (cop .gtr a b = false) = (a ≤ b)) ∧ (∀ a b : Int, (cop .geq a b = true) = (b ≤ a)) ∧ (∀ a b : Int, (cop .geq a b = false) = (a < b)) ∧
    (∀ a b : Int, (cop .eql a b = true) = (a = b)) ∧ (∀ a b : Int, (cop .eql a b = false) = (a ≠ b)) ∧ (∀ a b : Int, (cop .neq a b = true) = (a ≠ b)) ∧ (∀ a b : Int, (cop .neq a b = false) = (a = b)) ∧
    (∀ b : Bool, (¬b = true) = (b = false)) ∧ (∀ b : Bool, (¬b = false) = (b = true)) ∧ (∀ b : Bool, ((!b) = true) = (b = false)) ∧ (∀ b : Bool, ((!b) = false) = (b = true)) ∧
    (∀ a b : Bool, ((a && b) = true) = (a = true ∧ b = true)) ∧ (∀ a b : Bool, ((a || b) = true) = (a = true ∨ b = true)) ∧ (∀ {p : Prop} [Decidable p], (decide p = true) = p) ∧ (∀ {p : Prop} {_ : Decidable p}, decide p = false ↔ ¬p) ∧
    ((false = true) = False) ∧ ((true = false) = False) ∧ (∀ {α β : Type} (a : α) (f : α → Option β), (some a).bind f = f a) ∧ (∀ {α : Type} (x y : α), (some x = some y) = (x = y)) ∧
    (∀ p : Prop, (False ↔ p) = ¬p) ∧ (∀ p : Prop, (True ↔ p) = p) ∧ (∀ p : Prop, (p ↔ False) = ¬p) ∧ (∀ p : Prop, (p ↔ True) = p) :=
  ⟨cop_lss_t, cop_lss_f, cop_leq_t, cop_leq_f, cop_gtr_t, cop_gtr_f, cop_geq_t, cop_geq_f, cop_eql_t, cop_eql_f, cop_neq_t, cop_neq_f, Bool.not_eq_true, Bool.not_eq_false, Bool.not_eq_true', Bool.not_eq_false', Bool.and_eq_true, Bool.or_eq_true,
    @decide_eq_true_eq, @decide_eq_false_iff_not, Bool.false_eq_true, Bool.true_eq_false, @Option.bind_some, @Option.some.injEq, false_iff, true_iff, iff_false, iff_true⟩

/-- Step by step through what a function computes. -/
theorem ite_goal {α : Type} {c : Prop} [Decidable c] {a b x : α} (h1 : c → a = x) (h2 : ¬ c → b = x) : (if c then a else b) = x := by
  by_cases h : c
  · rw [if_pos h]; exact h1 h
  · rw [if_neg h]; exact h2 h

theorem req_goal {γ : Type} {p : Prop} {_ : Decidable p} {a x : Option γ} (h : p) (h2 : a = x) : reqK p a = x := by rw [reqK_pos h]; exact h2

theorem bind_goal {α β : Type} {a : Option α} {v : α} {f : α → Option β} {x : Option β} (h : a = some v) (h2 : f v = x) : a.bind f = x := by rw [h]; exact h2

/-! the parts of a tree -/
def STree.next : STree → STree
  | .branch _ t _ => t
  | .req _ t => t
  | .elem _ _ _ _ t => t
  | .nilq _ _ t => t
  | .call _ _ _ _ _ _ t => t
  | .loop _ _ _ t => t
  | t => t

def STree.other : STree → STree
  | .branch _ _ e => e
  | t => t

def STree.nexts : Nat → STree → STree
  | 0, t => t
  | k + 1, t => STree.nexts k t.next

/-- 0: on; 1: the other branch; k: on so many steps. -/
def STree.go : STree → List Nat → STree
  | t, [] => t
  | t, 0 :: p => t.next.go p
  | t, 1 :: p => t.other.go p
  | t, k :: p => (STree.nexts k t).go p

/-! a tuple behind its first parts -/
@[reducible] def d2 {α β γ : Type} (r : α × β × γ) : γ := r.2.2
@[reducible] def d4 {α β γ δ ε : Type} (r : α × β × γ × δ × ε) : ε := r.2.2.2.2
@[reducible] def d8 {a b c d e f g h i : Type} (r : a × b × c × d × e × f × g × h × i) : i := d4 (d4 r)
@[reducible] def d16 {a b c d e f g h i j k l m n o p q : Type} (r : a × b × c × d × e × f × g × h × i × j × k × l × m × n × o × p × q) : q := d8 (d8 r)

def AP.hp : AP → HP
  | .c s => .c s
  | .agg l => .agg l
  | .box l => .box l
  | .gbox l => .gbox l
  | .clo g ds => .clo g ds
  | .dead => .dead

def argsAt : List AP → Nat → List SV
  | [], _ => []
  | a :: r, n => hpAt a.hp n :: argsAt r (n + a.n)

def apsN : List AP → Nat
  | [] => 0
  | a :: r => a.n + apsN r

def apsFine (l : List AP) : Bool := l.all fun a => a.hp.fine

theorem apDen_hp (a : AP) (us : List V) (j : Nat) : apDen a us j = hpDen a.hp us j := by cases a <;> rfl

theorem argsAt_den : ∀ (l : List AP) (n : Nat) (us : List V), apsFine l = true → (argsAt l n).map (SV.den (envL us)) = apsDen l us n
  | [], _, _, _ => rfl
  | a :: r, n, us, h => by
    simp only [apsFine, List.all_cons, Bool.and_eq_true] at h
    rw [argsAt, List.map_cons, apsDen, apDen_hp, hpAt_sh (m := n) h.1 (ρ := envL us) (us := us) (fun j _ => rfl), argsAt_den r (n + a.n) us h.2]

theorem argsAt_bd : ∀ (l : List AP) (n : Nat), ∀ x ∈ argsAt l n, x.bd (n + apsN l)
  | [], _ => by simp [argsAt]
  | a :: r, n => by
    intro x hx
    simp only [argsAt, List.mem_cons] at hx
    rcases hx with rfl | hx
    · have hb : (hpAt a.hp n).bd (n + a.n) := by
        cases a with
        | c s => cases s <;> exact Nat.lt_succ_self n
        | agg l => exact shapesAt_bd l n
        | box l => exact boxesAt_bd l n
        | gbox l => exact boxesAt_bd l n
        | clo g ds => trivial
        | dead => trivial
      exact SV.bd_mono (by simp only [apsN]; omega) _ hb
    · have := argsAt_bd r (n + a.n) x hx
      rw [apsN, ← Nat.add_assoc]
      exact this

section
variable {P : Program}

theorem fun_ok {Φ : List (FuncId × Fun)} {E : Env} (hm : P.follows .mixedOrders = true) (hps : PlainSound P E.plain) {f : FuncId} {fn : Func} {S : Fun} {n : Nat} {T : STree} (hf : P.funcs[f]? = some fn) (hname : (fn.name == "runtime.NumGoroutine") = false)
    (hfine : apsFine S.args = true) (hn : apsN S.args = n) (eq : evFn P E fn (argsAt S.args 0) n = T) (hΦ : OkAll P Φ) (hg : ∀ vs, S.g vs = T.run P Φ S.args S.res (fun _ _ => none) (envL vs)) : S.Ok P f := by
  intro vs r h
  rw [hg] at h
  have := callOk_ofR (R := fun x os => SlotsW P (os ++ [x]) (outsDen S.args (toVs _ r) (resN S.res) ++ [resDen S.res (toVs _ r) 0])) hm hps hf hname (args := argsAt S.args 0) (n := n) (ρ := envL vs)
    (fun a ha => by have := argsAt_bd S.args 0 a ha; rwa [Nat.zero_add, hn] at this) (fun _ _ h => h) (by rw [eq]; exact run_wp hΦ (fun _ _ h => h) T _ _ _ (fun _ _ h => by cases h) h)
  rw [argsAt_den S.args 0 vs hfine] at this
  exact this

end

end Go.AM
end

section
namespace Go.AM

def TyZ (P : Program) : Nat → TypeId → List AV → Prop
  | 0, _, _ => False
  | d + 1, T, cs =>
    match P.underlying T with
    | some (.int k) => ∃ z, cs = [.val (.int k z)] ∧ (Lit.int k z).wf = true
    | some .bool => ∃ b, cs = [.val (.bool b)]
    | some .string => ∃ s, cs = [.val (.string s)]
    | some (.slice e) => ∃ xs : List (List AV), cs = [.slice false (P.cellsOf e) xs] ∧ xs.length * P.bytesOf e ≤ reachBytes ∧ xs.length ≤ maxLen ∧ ∀ x ∈ xs, TyZ P d e x
    | some (.struct fs) => ∃ parts : List (List AV), cs = parts.flatten ∧ parts.length = fs.size ∧ ∀ (i : Nat) (f : Field) (p : List AV), fs[i]? = some f → parts[i]? = some p → TyZ P d f.type p
    | _ => False

theorem weights_all {H : Type} {P : Program} {e : TypeId} {d : DataW H} {z : Nat} : ∀ {l : List (DataW H)}, d ∈ l → z ∈ d.weights P e → z ∈ DataW.weightsAll P e l
  | y :: l, h, hz => by
    simp only [DataW.weightsAll]
    rcases List.mem_cons.1 h with rfl | h
    · exact List.mem_append_left _ hz
    · exact List.mem_append_right _ (weights_all h hz)

theorem weights_front {H : Type} {P : Program} {z : Nat} : ∀ (ts us : List TypeId) (ds gs : List (DataW H)), z ∈ DataW.weightsEach P ts ds → z ∈ DataW.weightsEach P (ts ++ us) (ds ++ gs)
  | [], _, _, _, h => by simp [DataW.weightsEach] at h
  | _ :: _, _, [], _, h => by simp [DataW.weightsEach] at h
  | t :: ts, us, d :: ds, gs, h => by
    simp only [DataW.weightsEach, List.cons_append, List.mem_append] at h ⊢
    rcases h with h | h
    · exact .inl h
    · exact .inr (weights_front ts us ds gs h)

section
variable {P : Program} {H : Type} {enc : TypeId × Value → H} {w : World} {sp : Nat → Bool} {held : Bool}

theorem open_tz : ∀ (d n : Nat) (T : TypeId) (cs : List Value) (x : DataW H × List MemPlace), fineB P d T = true → (∀ z ∈ x.1.weights P T, z ≤ reachBytes) → DataW.trod enc P w 0 sp held n T cs = some x → ∃ avs, TyZ P d T avs ∧ RelL w (rowLim w) avs cs
  | 0, n, T, cs, x, hf, _, _ => by simp [fineB] at hf
  | d + 1, n, T, cs, x, hf, hz, h => by
    simp only [fineB] at hf
    split at hf
    · rename_i k hk
      obtain ⟨z, rfl, _, hw⟩ := DataW.trod_int hk h
      refine ⟨[.val (.int k z)], ?_, rfl, by simp [AV.isCell], fun i c u hc hu => ?_⟩
      · simp only [TyZ, hk]; exact ⟨z, rfl, hw⟩
      · cases i with
        | zero => simp at hc hu; subst hc; subst hu; exact .val rfl
        | succ i => simp at hc
    · rename_i hk
      obtain ⟨b, rfl, _⟩ := DataW.trod_bool hk h
      refine ⟨[.val (.bool b)], ?_, rfl, by simp [AV.isCell], fun i c u hc hu => ?_⟩
      · simp only [TyZ, hk]; exact ⟨b, rfl⟩
      · cases i with
        | zero => simp at hc hu; subst hc; subst hu; exact .val rfl
        | succ i => simp at hc
    · rename_i hk
      obtain ⟨s, rfl, _⟩ := DataW.trod_string hk h
      refine ⟨[.val (.string s)], ?_, rfl, by simp [AV.isCell], fun i c u hc hu => ?_⟩
      · simp only [TyZ, hk]; exact ⟨s, rfl⟩
      · cases i with
        | zero => simp at hc hu; subst hc; subst hu; exact .val rfl
        | succ i => simp at hc
    · rename_i e hk
      simp only [Bool.and_eq_true, decide_eq_true_eq] at hf
      rcases DataW.trod_slice hk h with ⟨rfl, _⟩ | ⟨a, len, cap, elems, rest, m, _, rfl, hxe, _, hlc, hcm, hel, hcells, _, _⟩
      · refine ⟨[.slice false (P.cellsOf e) []], ?_, rfl, by simp [AV.isCell], fun i c u hc hu => ?_⟩
        · simp only [TyZ, hk]; exact ⟨[], rfl, by simp, by simp, by simp⟩
        · cases i with
          | zero => simp at hc hu; subst hc; subst hu; exact .sliceN
          | succ i => simp at hc
      · obtain ⟨l, hl1, hl2⟩ := list_choice (Q := fun i (p : List Value × List AV) => w.cells? 0 (a.add (i * P.cellsOf e)) (P.cellsOf e) = some p.1 ∧ TyZ P d e p.2 ∧ RelL w (rowLim w) p.2 p.1) len fun i hi => by
          have h1 := hcells i hi
          obtain ⟨y, hy⟩ : ∃ y, elems[i]? = some y := ⟨_, List.getElem?_eq_getElem (by omega)⟩
          rw [hy, Option.bind_eq_some_iff] at h1
          obtain ⟨us, h2, h3⟩ := h1
          obtain ⟨avs, h4, h5⟩ := open_tz d m e us y hf.1 (fun z hzz => hz z (by
            rw [hxe]
            simp only [DataW.weights, hk]
            refine List.mem_cons_of_mem _ (List.mem_append_left _ (weights_all (d := y.1) ?_ hzz))
            exact List.mem_map.2 ⟨y, List.mem_of_getElem? hy, rfl⟩)) h3
          exact ⟨(us, avs), h2, h4, h5⟩
        have hall : ∀ p ∈ l, TyZ P d e p.2 ∧ RelL w (rowLim w) p.2 p.1 ∧ p.1.length = P.cellsOf e := by
          intro p hp
          obtain ⟨i, hi⟩ := List.mem_iff_getElem?.1 hp
          obtain ⟨g1, g2, g3⟩ := hl2 i p hi
          exact ⟨g2, g3, (World.cells?_some g1).2.1⟩
        refine ⟨[.slice false (P.cellsOf e) (l.map (·.2))], ?_, rfl, by simp [AV.isCell], fun i c u hc hu => ?_⟩
        · simp only [TyZ, hk]
          refine ⟨_, rfl, ?_, by simp; omega, fun y hy => ?_⟩
          · have h0 := hz (((elems.map (·.1)).length + (rest.map (·.1)).length) * P.bytesOf e) (by rw [hxe]; simp only [DataW.weights, hk]; exact List.mem_cons_self ..)
            have h1 : (l.map (·.2)).length ≤ (elems.map (·.1)).length + (rest.map (·.1)).length := by simp only [List.length_map]; omega
            exact Nat.le_trans (Nat.mul_le_mul_right _ h1) h0
          obtain ⟨p, hp, rfl⟩ := List.mem_map.1 hy
          exact (hall p hp).1
        · cases i with
          | succ i => simp at hc
          | zero =>
            simp only [List.getElem?_cons_zero, Option.some.injEq] at hc hu
            subst hc
            subst hu
            cases l with
            | nil =>
              have : len = 0 := by simpa using hl1.symm
              subst this
              exact .sliceE (fun h => by cases h)
            | cons p l' =>
              have hcell : ∀ (j : Nat) (u : Value), ((p :: l').map (·.1)).flatten[j]? = some u → w.cell? ⟨a.block, a.off + j, none⟩ = some u := by
                refine flat_cells (s := P.cellsOf e) (cell := fun o => w.cell? ⟨a.block, o, none⟩) _ a.off fun i us hi => ?_
                rw [List.getElem?_map] at hi
                cases hpi : (p :: l')[i]? with
                | none => simp [hpi] at hi
                | some q =>
                  simp only [hpi, Option.map_some, Option.some.injEq] at hi
                  subst hi
                  obtain ⟨g1, _, _⟩ := hl2 i q hpi
                  obtain ⟨_, k2, k3⟩ := World.cells?_some g1
                  refine ⟨k2, fun k u hu => ?_⟩
                  have hk' : k < P.cellsOf e := by rw [← k2]; exact (List.getElem?_eq_some_iff.1 hu).1
                  have := k3 k hk'
                  rw [hu] at this
                  have hblk : ((a.add (i * P.cellsOf e)).add k).block = a.block ∧ ((a.add (i * P.cellsOf e)).add k).off = a.off + i * P.cellsOf e + k := by
                    unfold Addr.add
                    split <;> split <;> simp_all
                  have hspot : ((a.add (i * P.cellsOf e)).add k).spot = none := by
                    unfold World.cell? at this
                    split at this
                    · split at this
                      · cases this
                      · rename_i hs; simpa using hs
                    · cases this
                  have heq : (a.add (i * P.cellsOf e)).add k = ⟨a.block, a.off + i * P.cellsOf e + k, none⟩ := by
                    rw [← hblk.1, ← hblk.2, ← hspot]
                  rw [heq] at this
                  exact this
              have hspot : a.spot = none := by
                obtain ⟨g1, _, _⟩ := hl2 0 p rfl
                obtain ⟨_, k2, k3⟩ := World.cells?_some g1
                have := k3 0 hf.2
                obtain ⟨u, hu⟩ : ∃ u, p.1[0]? = some u := ⟨_, List.getElem?_eq_getElem (by rw [k2]; exact hf.2)⟩
                rw [hu] at this
                have ha : (a.add (0 * P.cellsOf e)).add 0 = a := by simp [Addr.add]
                rw [ha] at this
                unfold World.cell? at this
                split at this
                · split at this
                  · cases this
                  · rename_i hs; simpa using hs
                · cases this
              have ha : a = ⟨a.block, a.off, none⟩ := by rw [← hspot]
              have hlen : ((p :: l').map (·.2)).length = len := by rw [List.length_map]; exact hl1
              rw [ha, ← hlen]
              have hrel : RelL w (rowLim w) ((p :: l').map (·.2)).flatten ((p :: l').map (·.1)).flatten := by
                refine RelL.flat _ _ (by simp) fun i x us hx hus => ?_
                rw [List.getElem?_map] at hx hus
                cases hpi : (p :: l')[i]? with
                | none => simp [hpi] at hx
                | some q =>
                  simp only [hpi, Option.map_some, Option.some.injEq] at hx hus
                  subst hx
                  subst hus
                  exact (hl2 i q hpi).2.2
              have hsz : ∀ x ∈ (p :: l').map (·.2), x.length = P.cellsOf e := by
                intro x hx
                obtain ⟨q, hq, rfl⟩ := List.mem_map.1 hx
                obtain ⟨_, g2, g3⟩ := hall q hq
                rw [g2.1, g3]
              refine .sliceC (us := ((p :: l').map (·.1)).flatten) hsz (fun x hx => ?_) (fun h => by cases h) (by rw [hlen]; exact hlc) (fun hne => ?_) ?_ hcell hrel.2.2
              · obtain ⟨q, hq, rfl⟩ := List.mem_map.1 hx
                exact (hall q hq).2.1.2.1
              · have hpos : 0 < (((p :: l').map (·.1)).flatten).length := List.length_pos_iff.2 hne
                have hlast := hcell ((((p :: l').map (·.1)).flatten).length - 1) _ (List.getElem?_eq_getElem (by omega))
                have := rowLim_lt hlast
                omega
              · rw [← hrel.1, getD_replicate_flat _ _ hsz]
    · rename_i fs hk
      simp only [Bool.and_eq_true, decide_eq_true_eq, List.all_eq_true] at hf
      obtain ⟨⟨h1, h2⟩, h3⟩ := hf
      obtain ⟨xs, m, _, hxe, hlen, hxl, hparts⟩ := DataW.trod_struct hk h
      obtain ⟨ps, q1, q2, q3⟩ := pieces (fs.toList.map fun f => P.cellsOf f.type) cs (by rw [hlen, h2])
      have hps : ps.length = fs.size := by rw [q1]; simp
      obtain ⟨l, hl1, hl2⟩ := list_choice (Q := fun i (avs : List AV) => ∃ (f : Field) (us : List Value), fs[i]? = some f ∧ ps[i]? = some us ∧ TyZ P d f.type avs ∧ RelL w (rowLim w) avs us) fs.size fun i hi => by
        have hfi : fs[i]? = some fs[i] := Array.getElem?_eq_getElem hi
        have hn : (fs.toList.map fun f => P.cellsOf f.type)[i]? = some (P.cellsOf fs[i].type) := by simp [hi]
        have h4 := q3 i _ hn
        have h5 := hparts i _ hfi
        have hoff := h3 (fs[i], i) (by rw [List.mem_zipIdx_iff_getElem?]; simp [hi])
        simp only at hoff
        rw [hoff, List.map_take] at h5
        obtain ⟨y, hy⟩ : ∃ y, xs[i]? = some y := ⟨_, List.getElem?_eq_getElem (by omega)⟩
        rw [hy] at h5
        obtain ⟨avs, h6, h7⟩ := open_tz d m _ _ y (h1 fs[i] (by simp)) (fun z hzz => hz z (by
          rw [hxe]
          simp only [DataW.weights, hk]
          exact DataW.weights_mem_each (j := i) (t := fs[i].type) (d := y.1) (by simp [hi]) (by simp [hy]) z hzz)) h5
        exact ⟨avs, fs[i], _, hfi, h4, h6, h7⟩
      refine ⟨l.flatten, ?_, ?_⟩
      · simp only [TyZ, hk]
        refine ⟨l, rfl, hl1, fun i f p hf hp => ?_⟩
        obtain ⟨f', us, g1, g2, g3, g4⟩ := hl2 i p hp
        rw [hf] at g1
        cases g1
        exact g3
      · rw [← q2]
        refine RelL.flat _ _ (by rw [hl1, hps]) fun i avs us ha hu => ?_
        obtain ⟨f', us', g1, g2, g3, g4⟩ := hl2 i avs ha
        rw [hu] at g2
        cases g2
        exact g4
    · cases hf

/-- What stands for an argument of a type. -/
def ArgTz (P : Program) (d : Nat) (T : TypeId) (x : AV) : Prop :=
  match P.underlying T with
  | some (.struct _) => ∃ cs, x = .agg cs ∧ TyZ P d T cs
  | _ => x.isCell = true ∧ TyZ P d T [x]

theorem open_argz {d : Nat} {T : TypeId} {v : Value} {x : DataW H} {ps : List MemPlace} {r : Reach} {base : Nat} (hf : fineB P d T = true) (hz : ∀ z ∈ x.weights P T, z ≤ reachBytes) (hok : Value.okWide P w r base T v)
    (h : DataW.Trod enc P w 0 sp held T v x ps) : ∃ y, ArgTz P d T y ∧ ∀ X σ k, SlotR P w (rowLim w) X σ k y v := by
  obtain ⟨n, h⟩ := h
  obtain ⟨avs, h1, h2⟩ := open_tz d n T _ _ hf hz h
  cases d with
  | zero => simp [fineB] at hf
  | succ d =>
    have one : v.cells.toList = [v] → (∀ fs, P.underlying T ≠ some (.struct fs)) → ∃ y, ArgTz P (d + 1) T y ∧ ∀ X σ k, SlotR P w (rowLim w) X σ k y v := by
      intro hv hns
      rw [hv] at h2
      obtain ⟨y, rfl, h3, h4⟩ := relL_one h2
      refine ⟨y, ?_, fun X σ k => (cell_slotR h3 h4).2⟩
      unfold ArgTz
      split
      · rename_i fs hfs; exact (hns fs hfs).elim
      · exact ⟨h3, h1⟩
    simp only [fineB] at hf
    split at hf
    · rename_i kd hk
      obtain ⟨z, hz, _⟩ := DataW.trod_int hk h
      refine one ?_ (by rw [hk]; simp)
      simp only [Value.okWide, hk, Cell.okWide] at hok
      cases v <;> simp_all [Cell.ok, Value.cells]
    · rename_i hk
      refine one ?_ (by rw [hk]; simp)
      simp only [Value.okWide, hk, Cell.okWide] at hok
      cases v <;> simp_all [Cell.ok, Value.cells]
    · rename_i hk
      refine one ?_ (by rw [hk]; simp)
      simp only [Value.okWide, hk, Cell.okWide] at hok
      cases v <;> simp_all [Cell.ok, Value.cells]
    · rename_i e hk
      refine one ?_ (by rw [hk]; simp)
      simp only [Value.okWide, hk, Cell.okWide] at hok
      cases v <;> simp_all [Cell.ok, Value.cells]
    · rename_i fs hk
      simp only [Value.okWide, hk] at hok
      obtain ⟨cs, rfl, _, _⟩ := hok
      refine ⟨.agg avs, ?_, ?_⟩
      · unfold ArgTz
        simp only [hk]
        exact ⟨avs, rfl, h1⟩
      · have : cs = cs.toList.toArray := by simp
        intro X σ k
        show Rep w (rowLim w) (.agg avs) (.agg cs)
        rw [this]
        exact .agg h2.1 h2.2.1 h2.2.2
    · cases hf

theorem open_argzs {d : Nat} {r : Reach} {base : Nat} : ∀ (ts : List TypeId) (vs : List Value) (ds : List (DataW H)) (ps : List MemPlace), (∀ t ∈ ts, fineB P d t = true) → (∀ z ∈ DataW.weightsEach P ts ds, z ≤ reachBytes) →
    (∀ (j : Nat) (t : TypeId) (v : Value), ts[j]? = some t → vs[j]? = some v → Value.okWide P w r base t v) → DataW.TrodAll enc P w 0 sp held ts vs ds ps →
    vs.length = ts.length ∧ ∃ xs : List AV, xs.length = ts.length ∧ ∀ (i : Nat) (t : TypeId) (x : AV) (v : Value), ts[i]? = some t → xs[i]? = some x → vs[i]? = some v → ArgTz P d t x ∧ ∀ X σ k, SlotR P w (rowLim w) X σ k x v
  | [], [], [], ps, _, _, _, _ => ⟨rfl, [], rfl, by simp⟩
  | t :: ts, v :: vs, x :: ds, ps, hf, hz, hok, h => by
    obtain ⟨p, q, h1, h2, _⟩ := h
    obtain ⟨y, g1, g2⟩ := open_argz (hf t (by simp)) (fun z hzz => hz z (by simp only [DataW.weightsEach]; exact List.mem_append_left _ hzz)) (hok 0 t v rfl rfl) h1
    obtain ⟨k1, xs, k2, k3⟩ := open_argzs ts vs ds q (fun t ht => hf t (by simp [ht])) (fun z hzz => hz z (by simp only [DataW.weightsEach]; exact List.mem_append_right _ hzz)) (fun j t' v' ht hv => hok (j + 1) t' v' (by simpa using ht) (by simpa using hv)) h2
    refine ⟨by simp [k1], y :: xs, by simp [k2], fun i t' x' v' ht hx hv => ?_⟩
    cases i with
    | zero =>
      simp only [List.getElem?_cons_zero, Option.some.injEq] at ht hx hv
      subst ht
      subst hx
      subst hv
      exact ⟨g1, g2⟩
    | succ i => exact k3 i t' x' v' (by simpa using ht) (by simpa using hx) (by simpa using hv)
  | [], _ :: _, _, _, _, _, _, h => h.elim
  | [], [], _ :: _, _, _, _, _, h => h.elim
  | _ :: _, [], _, _, _, _, _, h => h.elim
  | _ :: _, _ :: _, [], _, _, _, _, h => h.elim

theorem contract_trues {fn : Func} {f : FuncId} {s : ChangeSpec} {apart fresh handsOn again : Bool} {tb : TypeId} {d : Nat} (hl : laidOutB P = true) (hpar : ∀ t ∈ fn.params.toList, fineB P d t = true ∧ t < P.types.size ∧ P.readableRec t = true)
    (hres : fn.resultTypes = #[tb]) (htb : P.underlying tb = some .bool) (hvars : s.vars = []) (hs : ∀ ds, ds.length = fn.params.size → s.fn H ds = { results := [.lit (.bool true)], args := ds })
    (hcall : ∀ xs : List AV, xs.length = fn.params.toList.length → (∀ (i : Nat) (t : TypeId) (x : AV), fn.params.toList[i]? = some t → xs[i]? = some x → ArgTz P d t x) → ∃ outs, CallOk P f xs (B true) outs)
    (W : World) (base : Nat) (args : Array Value) (ds gs : List (DataW H)) (before : List MemPlace)
    (hval : ∀ (j : Nat) t v, fn.params[j]? = some t → args[j]? = some v → Value.okWide P W .any base t v) (hW : DataW.Whole enc P fn.params.toList s.vars apart W args.toList ds gs before)
    (hz : (DataW.weightsEach P (fn.params.toList ++ s.plain.varTypes P) (ds ++ gs)).all (· ≤ reachBytes) = true) :
    Calls P f args W fun e W' => ∃ v, e = .returned v ∧ s.post enc P fn apart fresh handsOn again W args v W' := by
  have hW' := hW
  obtain ⟨p, q, hA, hV, rfl, _, _⟩ := hW
  rw [hvars] at hV
  obtain ⟨rfl, rfl⟩ := ChangeShapes.trodVars_none hV
  have hz0 : ∀ z ∈ DataW.weightsEach P fn.params.toList ds, z ≤ reachBytes := by
    intro z hzz
    refine of_decide_eq_true (List.all_eq_true.1 hz z ?_)
    exact weights_front _ _ _ _ hzz
  obtain ⟨hlen, xs, hx1, hx2⟩ := open_argzs (r := .any) (base := base) _ _ _ _ (fun t ht => (hpar t ht).1) hz0 (fun j t v ht hv => hval j t v (by simpa using ht) (by simpa using hv)) hA
  have hdl : ds.length = fn.params.size := by
    have : ∀ (ts : List TypeId) (vs : List Value) (ds : List (DataW H)) (ps : List MemPlace), DataW.TrodAll enc P W 0 (fun _ => true) true ts vs ds ps → ds.length = ts.length := by
      intro ts
      induction ts with
      | nil => intro vs ds ps h; cases vs <;> cases ds <;> simp_all [DataW.TrodAll]
      | cons t ts ih =>
        intro vs ds ps h
        cases vs with
        | nil => exact h.elim
        | cons v vs =>
          cases ds with
          | nil => exact h.elim
          | cons x ds => obtain ⟨_, _, _, h2, _⟩ := h; simp [ih _ _ _ h2]
    simpa using this _ _ _ _ hA
  obtain ⟨outs, _, hc⟩ := hcall xs hx1 fun i t x ht hx => by
    obtain ⟨v, hv⟩ : ∃ v, args.toList[i]? = some v := ⟨_, List.getElem?_eq_getElem (by rw [hlen]; exact (List.getElem?_eq_some_iff.1 ht).1)⟩
    exact (hx2 i t x v ht hx hv).1
  have hng : xs.countP AV.isG = 0 := by
    rw [List.countP_eq_zero]
    intro x hx hg
    obtain ⟨i, hi⟩ := List.mem_iff_getElem?.1 hx
    have hlt := (List.getElem?_eq_some_iff.1 hi).1
    obtain ⟨v, hv⟩ : ∃ v, args.toList[i]? = some v := ⟨_, List.getElem?_eq_getElem (by omega)⟩
    obtain ⟨t, ht⟩ : ∃ t, fn.params.toList[i]? = some t := ⟨_, List.getElem?_eq_getElem (by omega)⟩
    have hr := (hx2 i t x v ht hi hv).2 (fun _ _ => none) (fun _ => .dead) 0
    cases x <;> simp [AV.isG] at hg
    obtain ⟨v', b, _, _, h, _⟩ := hr
    cases h
  have hcalls := hc W (rowLim W) (fun _ _ => none) args.toList (by rw [hng, hlen, hx1]; exact Nat.le_refl _) (fun i => by
    cases hxi : xs[i]? with
    | none =>
      have : argS xs i = .dead := by simp [argS, hxi]
      rw [this]
      trivial
    | some x =>
      have hi := (List.getElem?_eq_some_iff.1 hxi).1
      obtain ⟨v, hv⟩ : ∃ v, args.toList[i]? = some v := ⟨_, List.getElem?_eq_getElem (by omega)⟩
      obtain ⟨t, ht⟩ : ∃ t, fn.params.toList[i]? = some t := ⟨_, List.getElem?_eq_getElem (by omega)⟩
      have h1 : argS xs i = x := by simp [argS, hxi]
      have h2 : args.toList.getD i undef = v := by rw [List.getD_eq_getElem?_getD, hv]; rfl
      rw [h1, h2]
      exact (hx2 i t x v ht hxi hv).2 _ _ _) (fun _ _ _ _ _ h => by cases h) (fun _ _ _ h => by cases h)
  rw [Array.toArray_toList] at hcalls
  refine hcalls.mono ?_
  rintro e W' ⟨v, lim', X', rfl, hst, hol, hrel, _, _, _⟩
  have hv : v = .bool true := by
    have h := hrel xs.length
    have h1 : argS (outs ++ [B true]) xs.length = B true := by
      simp only [argS]
      rw [List.getElem?_append_right (by omega), hol]
      simp
    have h2 : retAt xs.length args.toList v xs.length = v := if_pos rfl
    rw [h1, h2] at h
    exact rep_val h
  subst hv
  have hkept : ∀ b, b < W.heap.size → W'.heap[b]? = W.heap[b]? := fun b hb => (hst.blk b hb (by rintro ⟨_, _, h⟩; cases h)).1
  have hsame : ∀ z ∈ p ++ [], W.sameAt W' z := by
    intro z hz
    have hlt := hW'.lt z hz
    cases z with
    | cell b off =>
      show W'.cell? ⟨b, off, none⟩ = W.cell? ⟨b, off, none⟩
      unfold World.cell?
      rw [hkept b hlt]
    | map b => exact hkept b hlt
  refine ⟨_, rfl, ChangeShapes.post_of_same (pa := p) (pv := []) hW' (fun b sp hd => ?_) (fun sp hp => ?_) (fun sp _ => ?_) rfl ?_ hst.frz ?_⟩
  · rw [hs _ (by simpa using hdl), hres]
    exact ⟨[], [], ⟨1, by simp [DataW.trod, htb, Value.cells]⟩, rfl, rfl⟩
  · rw [hs _ (by simpa using hdl), List.append_nil]
    exact args_stay hl _ _ _ _ (fun t ht => (hpar t ht).2) hA (fun z hz => hsame z (by simpa using hz)) (fun z hz => hp z (by simpa using hz))
  · rw [hs _ (by simpa using hdl), hvars]
    rfl
  · refine ⟨hst.os, hst.output, fun i hi => ?_⟩
    rw [hkept i hi]
    cases W.heap[i]? with
    | none => rfl
    | some o => cases o <;> simp
  · exact RowKit.ok_one hres rfl (RowKit.okWide_bool_mk htb true)

end

end Go.AM
end
