/- The evaluator of one operation is sound. Generic: no program stands in it. -/
import Derived.Test.YtjfhdhplmibnfaaAmWp
namespace Go.AM

theorem mkBranch_wp {P : Program} {R : AV → List AV → Prop} {A : Nat → List V → Prop} {ρ : Nat → V} {b : BE} {t e : STree} (h : (mkBranch b t e).wp P R A ρ) :
    (b.den ρ = true → t.wp P R A ρ) ∧ (b.den ρ = false → e.wp P R A ρ) := by
  unfold mkBranch at h
  split at h
  · exact ⟨fun _ => h, fun hb => by simp [BE.den] at hb⟩
  · exact ⟨fun hb => by simp [BE.den] at hb, fun _ => h⟩
  · exact h

theorem mkNot_den (b : BE) (ρ : Nat → V) : (mkNot b).den ρ = !b.den ρ := by unfold mkNot; split <;> rfl
theorem mkNot_bd {b : BE} {n : Nat} (h : b.bd n) : (mkNot b).bd n := by
  unfold mkNot
  split
  · trivial
  · exact h

theorem ofC_den {v : Value} (ρ : Nat → V) : (ofC v).map (SC.den ρ) = ofCS v := by
  cases v with
  | slice a l c => cases a <;> cases l <;> cases c <;> rfl
  | _ => rfl

theorem ofCs_den (ρ : Nat → V) : ∀ (vs : List Value), (ofCs vs).map (List.map (SC.den ρ)) = ofCsS vs
  | [] => rfl
  | v :: vs => by
    have h1 := ofC_den (v := v) ρ
    have h2 := ofCs_den ρ vs
    simp only [ofCs, ofCsS]
    cases hc : ofC v <;> cases hcs : ofCs vs <;> rw [hc] at h1 <;> rw [hcs] at h2 <;> simp at h1 h2 <;> rw [← h1] <;> try rw [← h2]
    · simp
    · simp
    · simp
    · simp

theorem ofC_bd {v : Value} {c : SC} {n : Nat} (h : ofC v = some c) : c.bd n := by
  unfold ofC at h
  split at h <;> simp at h <;> subst h <;> trivial

theorem ofCs_bd {n : Nat} : ∀ {vs : List Value} {cs : List SC}, ofCs vs = some cs → ∀ c ∈ cs, c.bd n
  | [], cs, h => by simp [ofCs] at h; subst h; simp
  | v :: vs, cs, h => by
    simp only [ofCs] at h
    split at h
    · rename_i c cs' hc hcs
      simp at h
      subst h
      intro x hx
      rcases List.mem_cons.1 hx with rfl | hx
      · exact ofC_bd hc
      · exact ofCs_bd hcs x hx
    · simp at h

theorem ofV_den (v : Value) (ρ : Nat → V) : (ofV v).den ρ = ofVS v := by
  cases v with
  | agg cs =>
    have := ofCs_den ρ cs.toList
    simp only [ofV, ofVS]
    rw [← this]
    cases ofCs cs.toList <;> rfl
  | slice a l c =>
    have := ofC_den (v := .slice a l c) ρ
    simp only [ofV, ofVS]
    rw [← this]
    cases ofC (.slice a l c) <;> rfl
  | _ => rfl

theorem ofV_bd (v : Value) (n : Nat) : (ofV v).bd n := by
  unfold ofV
  split
  · split
    · rename_i l hl; exact ofCs_bd hl
    · trivial
  · split
    · rename_i c hc; exact ofC_bd (v := v) hc
    · trivial

theorem boxO_den (t : Nat) (cs : List BC) (ρ : Nat → V) : (boxO t cs).den ρ = boxS t (cs.map (BC.den ρ)) := by
  match cs with
  | [] => rfl
  | [.row _ _ _ _] => rfl
  | [.own _ _] => rfl
  | [.c x] => cases x <;> rfl
  | a :: b :: r =>
    cases a with
    | c x => cases x <;> rfl
    | _ => rfl

theorem boxO_bd (t : Nat) (cs : List BC) (n : Nat) : (boxO t cs).bd n := by
  unfold boxO
  split <;> trivial

theorem getO_den (P : Program) (g : Nat → SV) (ρ : Nat → V) (x : Operand) : (getO P g x).den ρ = getS P (fun d => (g d).den ρ) x := by
  cases x with
  | tmp t =>
    simp only [getO, getS]
    cases g t with
    | c x => cases x <;> rfl
    | box cs => exact boxO_den t cs ρ
    | _ => rfl
  | const v => exact ofV_den v ρ
  | global g => rfl
  | func f => rfl

theorem getO_bd {P : Program} {g : Nat → SV} {n : Nat} (hg : ∀ d, (g d).bd n) (x : Operand) : (getO P g x).bd n := by
  cases x with
  | tmp t =>
    have := hg t
    simp only [getO]
    cases hs : g t <;> rw [hs] at this <;> first | exact this | exact boxO_bd _ _ _ | trivial
  | const v => exact ofV_bd v n
  | global g => trivial
  | func f => trivial

theorem getS_of {P : Program} {g : Nat → SV} {x : Operand} {y : SV} (ρ : Nat → V) (h : getO P g x = y) : getS P (fun d => (g d).den ρ) x = y.den ρ := by rw [← getO_den, h]

def Goal (P : Program) (R : AV → List AV → Prop) (A : Nat → List V → Prop) (ρ : Nat → V) (g : Nat → SV) (o : Oper) (n : Nat) (k : K) : Prop :=
  ∃ ρ' n' x us fp, n ≤ n' ∧ (∀ m, m < n → ρ' m = ρ m) ∧ x.bd n' ∧ (∀ u ∈ us, u.2.bd n') ∧ (k x us fp n').wp P R A ρ' ∧
    ExOK P o (fun d => (g d).den ρ) (x.den ρ') (us.map fun u => (u.1, u.2.den ρ')) fp

section
variable {P : Program} {R : AV → List AV → Prop} {A : Nat → List V → Prop} {ρ : Nat → V} {g : Nat → SV} {o : Oper} {n : Nat} {k : K}

theorem goal0 {x : SV} {us : Ups} {fp : List Nat} (hk : (k x us fp n).wp P R A ρ) (hx : x.bd n) (hus : ∀ u ∈ us, u.2.bd n)
    (hex : ExOK P o (fun d => (g d).den ρ) (x.den ρ) (us.map fun u => (u.1, u.2.den ρ)) fp) : Goal P R A ρ g o n k :=
  ⟨ρ, n, x, us, fp, Nat.le_refl _, fun _ _ => rfl, hx, hus, hk, hex⟩

theorem goalP {x : SV} {fp : List Nat} (hk : (k x [] fp n).wp P R A ρ) (hx : x.bd n) (hex : ExOK P o (fun d => (g d).den ρ) (x.den ρ) [] fp) : Goal P R A ρ g o n k :=
  goal0 hk hx (by simp) hex

/-- The values of cells that are integers or bools. -/
def valOf (ρ : Nat → V) : SC → Value
  | .int k e => .int k (e.den ρ)
  | .bool b => .bool (b.den ρ)
  | .str s => .string (s.den ρ)
  | .slice _ _ _ => .slice none 0 0

theorem kindsV_of (ρ : Nat → V) : ∀ (L : List Sh) (cs : List SC), kindsOk L cs = true → kindsV L (cs.map (valOf ρ)) ∧ cs.map (SC.den ρ) = (cs.map (valOf ρ)).map AV.val ∧ ∀ u ∈ cs.map (valOf ρ), scalar u = true
  | [], [], _ => ⟨trivial, rfl, by simp⟩
  | [], _ :: _, h => by simp [kindsOk] at h
  | _ :: _, [], h => by simp [kindsOk] at h
  | s :: L, c :: cs, h => by
    simp only [kindsOk, Bool.and_eq_true] at h
    obtain ⟨h1, h2, h3⟩ := kindsV_of ρ L cs h.2
    have h0 := h.1
    cases s <;> cases c <;> simp [kindOk] at h0
    · refine ⟨⟨h0, h1⟩, by simp only [List.map_cons, h2]; rfl, ?_⟩
      intro u hu
      rw [List.map_cons] at hu
      rcases List.mem_cons.1 hu with rfl | hu
      · rfl
      · exact h3 u hu
    · refine ⟨h1, by simp only [List.map_cons, h2]; rfl, ?_⟩
      intro u hu
      rw [List.map_cons] at hu
      rcases List.mem_cons.1 hu with rfl | hu
      · rfl
      · exact h3 u hu

theorem aggEq_den (ρ : Nat → V) : ∀ (xs ys : List SC) (e : BE), aggEq xs ys = some e → e.den ρ = eqV (xs.map (valOf ρ)) (ys.map (valOf ρ))
  | [], [], e, h => by simp [aggEq] at h; subst h; rfl
  | [], _ :: _, e, h => by simp [aggEq] at h
  | _ :: _, [], e, h => by simp [aggEq] at h
  | a :: as, b :: bs, e, h => by
    simp only [aggEq] at h
    split at h
    · rename_i x y hx hy
      simp at h
      subst h
      have ih := aggEq_den ρ as bs y hy
      cases a <;> cases b <;> simp [cellEq] at hx
      · obtain ⟨_, rfl⟩ := hx
        simp only [BE.den, List.map_cons, valOf, eqV, ih, cop]
      · subst hx
        simp only [BE.den, List.map_cons, valOf, eqV, ih]
    · simp at h

theorem aggEq_bd {n : Nat} : ∀ (xs ys : List SC) (e : BE), (∀ c ∈ xs, c.bd n) → (∀ c ∈ ys, c.bd n) → aggEq xs ys = some e → e.bd n
  | [], [], e, _, _, h => by simp [aggEq] at h; subst h; trivial
  | [], _ :: _, e, _, _, h => by simp [aggEq] at h
  | _ :: _, [], e, _, _, h => by simp [aggEq] at h
  | a :: as, b :: bs, e, hx, hy, h => by
    simp only [aggEq] at h
    split at h
    · rename_i x y hx' hy'
      simp at h
      subst h
      have ih := aggEq_bd as bs y (fun c hc => hx c (by simp [hc])) (fun c hc => hy c (by simp [hc])) hy'
      have ha := hx a (by simp)
      have hb := hy b (by simp)
      cases a <;> cases b <;> simp [cellEq] at hx'
      · obtain ⟨_, rfl⟩ := hx'
        exact ⟨⟨ha, hb⟩, ih⟩
      · subst hx'
        exact ⟨⟨ha, hb⟩, ih⟩
    · simp at h

theorem agg_vals {w : World} {lim : Nat → Nat} {us : List Value} {v : Value} (h : Rep w lim (.agg (us.map AV.val)) v) : v = .agg us.toArray := by
  have key : ∀ y, Rep w lim y v → y = .agg (us.map AV.val) → v = .agg us.toArray := by
    intro y hy he
    cases hy with
    | @agg cs vs hl hc hr =>
      injection he with he
      subst he
      have hlen : us.length = vs.length := by simpa using hl
      have : vs = us := by
        apply List.ext_getElem hlen.symm
        intro i h1 h2
        exact rep_val (hr i (.val us[i]) vs[i] (by simp [h2]) (by simp [h1]))
      rw [this]
    | val _ => cases he
    | sliceN => cases he
    | sliceE _ => cases he
    | sliceC _ _ _ _ _ _ _ _ => cases he
  exact key _ h rfl

theorem exok_struct {T T' : TypeId} {x y : Operand} {op : BinOp} {us vs : List Value} {σ : Nat → AV} {L : List Sh} {plain : List TypeId} (hps : PlainSound P plain) (hT : T ∈ plain) (hL : leafs P 8 T = some L) (ho : o.op = .binOp op T x y T')
    (hop : op = .eql ∨ op = .neq) (hx : getS P σ x = .agg (us.map AV.val)) (hy : getS P σ y = .agg (vs.map AV.val)) (hu : kindsV L us) (hv : kindsV L vs) :
    ExOK P o σ (.val (.bool (if op = .eql then eqV us vs else !eqV us vs))) [] [] := by
  refine exok_plain [] rfl fun c hc σ' tm w lim X hg hfp hsim => ⟨.bool (if op = .eql then eqV us vs else !eqV us vs), ?_, .val rfl⟩
  rw [ho] at hg
  have h1 := agg_vals (opnd hc hsim hx (hg x (by simp [Op.operands])))
  have h2 := agg_vals (opnd hc hsim hy (hg y (by simp [Op.operands])))
  obtain ⟨p1, p2⟩ := hps T hT
  have p3 := p2 L hL us vs hu hv w
  rcases hop with rfl | rfl
  · simp only [execOp, ho, h1, h2, Sem.run_bind, run_eqGuard_agg w .eql T x y us.toArray vs.toArray p1, Result.andThen_ok, run_eql_struct, p3]
    simp
  · simp only [execOp, ho, h1, h2, Sem.run_bind, run_eqGuard_agg w .neq T x y us.toArray vs.toArray p1, Result.andThen_ok, run_neq_struct, p3]
    simp

theorem bin_sound {plain : List TypeId} {op : BinOp} {T T' : TypeId} {xo yo : Operand} (hps : PlainSound P plain) (hg : ∀ d, (g d).bd n) (ho : o.op = .binOp op T xo yo T')
    (h : (bin P plain op T (getO P g xo) (getO P g yo) fun v => k v [] [] n).wp P R A ρ) : Goal P R A ρ g o n k := by
  have bx := getO_bd (P := P) hg xo
  have bY := getO_bd (P := P) hg yo
  generalize hx : getO P g xo = x at h bx
  generalize hy : getO P g yo = y at h bY
  have sx := getS_of ρ hx
  have sy := getS_of ρ hy
  unfold bin at h
  split at h
  · rename_i kx a ky b
    have arith : ∀ (i : IOp), kx = ky → iopOf op = some i → (i = .quo ∨ i = .rem → b.den ρ ≠ 0) → (k (.c (.int kx (.bin i kx a b))) [] [] n).wp P R A ρ → Goal P R A ρ g o n k := by
      intro i hk hi hz hk'
      subst hk
      exact goalP hk' ⟨bx, bY⟩ (exok_iop ho hi sx sy hz)
    have comp : ∀ (i : COp), kx = ky → copOf op = some i → (k (.c (.bool (.cmp i a b))) [] [] n).wp P R A ρ → Goal P R A ρ g o n k := by
      intro i hk hi hk'
      subst hk
      exact goalP hk' ⟨bx, bY⟩ (exok_cop ho hi sx sy)
    split at h
    · exact goalP h.2 ⟨bx, bY⟩ (exok_shift ho (.inl ⟨rfl, rfl⟩) sx sy h.1)
    · exact goalP h.2 ⟨bx, bY⟩ (exok_shift ho (.inr ⟨rfl, rfl⟩) sx sy h.1)
    · split at h
      · rename_i hk
        split at h <;> first
          | exact h.elim
          | exact arith _ hk rfl (by simp) h
          | exact arith _ hk rfl (fun _ => h.1) h.2
          | exact comp _ hk rfl h
      · exact h.elim
  · rename_i a b
    split at h
    · exact goalP h ⟨bx, bY⟩ (exok_str (op := .eql) ho (.inl rfl) sx sy)
    · exact goalP h ⟨bx, bY⟩ (exok_str (op := .neq) ho (.inr rfl) sx sy)
    · exact h.elim
  · rename_i a b
    split at h
    · rename_i hT
      split at h
      · exact goalP h ⟨bx, bY⟩ (exok_bool (op := .eql) ho hT (.inl rfl) sx sy)
      · exact goalP h ⟨bx, bY⟩ (exok_bool (op := .neq) ho hT (.inr rfl) sx sy)
      · exact h.elim
    · exact h.elim
  · rename_i xs ys
    split at h
    · rename_i e hpl he
      simp only [isPlain, Bool.and_eq_true, List.contains_iff_mem] at hpl
      obtain ⟨hT, hk⟩ := hpl
      cases hL : leafs P 8 T with
      | none => simp [hL] at hk
      | some L =>
        rw [hL] at hk
        simp only [Bool.and_eq_true] at hk
        obtain ⟨u1, u2, u3⟩ := kindsV_of ρ L xs hk.1
        obtain ⟨v1, v2, v3⟩ := kindsV_of ρ L ys hk.2
        have hbd := aggEq_bd xs ys e bx bY he
        have sx' : getS P (fun d => (g d).den ρ) xo = .agg ((xs.map (valOf ρ)).map AV.val) := by rw [sx, ← u2]; rfl
        have sy' : getS P (fun d => (g d).den ρ) yo = .agg ((ys.map (valOf ρ)).map AV.val) := by rw [sy, ← v2]; rfl
        split at h
        · refine goalP h hbd ?_
          have := exok_struct (o := o) (op := .eql) hps hT hL ho (.inl rfl) sx' sy' u1 v1
          rw [if_pos rfl, ← aggEq_den ρ xs ys e he] at this
          exact this
        · refine goalP h hbd ?_
          have := exok_struct (o := o) (op := .neq) hps hT hL ho (.inr rfl) sx' sy' u1 v1
          rw [if_neg (by simp), ← aggEq_den ρ xs ys e he] at this
          exact this
        · exact h.elim
    · exact h.elim
  · exact h.elim

end

end Go.AM
