/- What one operation does to the slots. Generic: no program stands in it. -/
import Derived.Test.YtjfhdhplmibnfaaAmDen
import Derived.Test.YtjfhdhplmibnfaaAmSim
namespace Go.AM

def ofCS : Value → Option AV
  | .slice none 0 0 => some (.slice true 0 [])
  | .bool b => some (.val (.bool b))
  | .int k n => some (.val (.int k n))
  | .string s => some (.val (.string s))
  | _ => none

def ofCsS : List Value → Option (List AV)
  | [] => some []
  | v :: vs =>
    match ofCS v, ofCsS vs with
    | some c, some cs => some (c :: cs)
    | _, _ => none

def ofVS : Value → AV
  | .agg cs => match ofCsS cs.toList with | some l => .agg l | none => .dead
  | v => match ofCS v with | some c => c | none => .dead

/-- A box, as an operand: the pointer to it, or the slice that it is. -/
def boxS (t : Nat) (cs : List AV) : AV :=
  match cs with
  | [.row _ _ _ _] => .mref t
  | _ => .ptr t 0

def getS (P : Program) (σ : Nat → AV) : Operand → AV
  | .tmp t =>
    match σ t with
    | .box cs => boxS t cs
    | .own e xs => .slice false (P.cellsOf e) xs
    | .tuple _ => .dead
    | x => x
  | .const v => ofVS v
  | _ => .dead

def mayPutS (old new : AV) : Bool :=
  match old, new with
  | .box _, _ => false
  | .dead, .box _ => true
  | _, .box _ => false
  | _, _ => true

theorem mayPutS_old {old new : AV} (h : mayPutS old new = true) : ∀ cs, old ≠ .box cs := by
  intro cs e
  subst e
  cases new <;> simp [mayPutS] at h

def After (c : Ctx) (dst : Option Tmp) (σ1 : Nat → AV) (x : AV) (tm : Array Value) (v : Value) (w' : World) : Prop :=
  match dst with
  | some d => d < c.nt → mayPutS (σ1 d) x = true → ∃ lim' X', Sim c (upd σ1 d x) (tm.setIfInBounds d v) w' lim' X'
  | none => ∃ lim' X', Sim c σ1 tm w' lim' X'

def ExOK (P : Program) (o : Oper) (σ : Nat → AV) (x : AV) (us : List (Nat × AV)) (fp : List Nat) : Prop :=
  ∀ (c : Ctx), c.P = P → ∀ (σ' : Nat → AV) (tm : Array Value) (w : World) (lim : Nat → Nat) (X : Nat → Nat → Option Nat),
    (∀ d ∈ usesOf o ++ fp ++ us.map (·.1), σ' d = σ d) → Sim c σ' tm w lim X → ∀ (next : Act → World → Prop) (Q : Exit → Act → World → Prop),
      (∀ v w', After c o.dst (updL σ' us) x tm v w' → next (Act.put ⟨tm, []⟩ o.dst v) w') → o.wp P ⟨tm, []⟩ w next Q

theorem wp_of_run {P : Program} {o : Oper} {a : Act} {w w' : World} {v : Value} {next : Act → World → Prop} {Q : Exit → Act → World → Prop}
    (hr : (execOp a.eval o).run P w = .ok (.value v) w') (h : next (a.put o.dst v) w') : o.wp P a w next Q := by
  unfold Oper.wp; rw [hr]; exact h

theorem after_plain {c : Ctx} {dst : Option Tmp} {σ1 : Nat → AV} {x : AV} {tm : Array Value} {v : Value} {w : World} {lim : Nat → Nat} {X : Nat → Nat → Option Nat} {k : Nat}
    (h : Sim c σ1 tm w lim X) (hp : x.plain = true) (hx : SlotR c.P w lim X σ1 k x v) : After c dst σ1 x tm v w := by
  cases dst with
  | none => exact ⟨lim, X, h⟩
  | some d => exact fun hd hm => ⟨lim, _, h.put hd (mayPutS_old hm) hp hx⟩

theorem ofCS_rep {w : World} {lim : Nat → Nat} {v : Value} {c : AV} (h : ofCS v = some c) : c.isCell = true ∧ Rep w lim c v := by
  unfold ofCS at h
  split at h <;> simp at h <;> subst h
  · exact ⟨rfl, .sliceN⟩
  · exact ⟨rfl, .val rfl⟩
  · exact ⟨rfl, .val rfl⟩
  · exact ⟨rfl, .val rfl⟩

theorem ofCsS_rep {w : World} {lim : Nat → Nat} : ∀ {vs : List Value} {cs : List AV}, ofCsS vs = some cs → cs.length = vs.length ∧ (∀ c ∈ cs, c.isCell = true) ∧
    ∀ (i : Nat) (c : AV) (v : Value), cs[i]? = some c → vs[i]? = some v → Rep w lim c v
  | [], cs, h => by
    simp [ofCsS] at h
    subst h
    simp
  | v :: vs, cs, h => by
    simp only [ofCsS] at h
    split at h
    · rename_i c cs' hc hcs
      simp at h
      subst h
      obtain ⟨h1, h2, h3⟩ := ofCsS_rep (w := w) (lim := lim) hcs
      refine ⟨by simp [h1], fun x hx => ?_, fun i x u hx hu => ?_⟩
      · rcases List.mem_cons.1 hx with rfl | hx
        · exact (ofCS_rep (w := w) (lim := lim) hc).1
        · exact h2 x hx
      · cases i with
        | zero => simp at hx hu; subst hx; subst hu; exact (ofCS_rep hc).2
        | succ i => exact h3 i x u (by simpa using hx) (by simpa using hu)
    · simp at h

theorem ofVS_rel {P : Program} {w : World} {lim : Nat → Nat} {X : Nat → Nat → Option Nat} {σ : Nat → AV} {k : Nat} (v : Value) :
    (ofVS v).plain = true ∧ SlotR P w lim X σ k (ofVS v) v := by
  unfold ofVS
  split
  · rename_i cs
    split
    · rename_i l hl
      obtain ⟨h1, h2, h3⟩ := ofCsS_rep (w := w) (lim := lim) hl
      refine ⟨rfl, ?_⟩
      have : cs = cs.toList.toArray := by simp
      show Rep w lim (.agg l) (.agg cs)
      rw [this]
      exact .agg h1 h2 h3
    · exact ⟨rfl, trivial⟩
  · split
    · rename_i c hc
      obtain ⟨h1, h2⟩ := ofCS_rep (w := w) (lim := lim) hc
      cases c <;> simp [AV.isCell] at h1
      · exact ⟨rfl, h2⟩
      · exact ⟨rfl, h2⟩
    · exact ⟨rfl, trivial⟩

/-- What an operand is read as. -/
theorem getS_rel {c : Ctx} {σ : Nat → AV} {tm : Array Value} {w : World} {lim : Nat → Nat} {X : Nat → Nat → Option Nat} (h : Sim c σ tm w lim X) (x : Operand) (k : Nat) :
    (getS c.P σ x).plain = true ∧ SlotR c.P w lim X σ k (getS c.P σ x) (Act.eval ⟨tm, []⟩ x) := by
  cases x with
  | tmp t =>
    have ht := h.rel t
    have hev : Act.eval ⟨tm, []⟩ (.tmp t) = tm.getD t undef := rfl
    rw [hev]
    cases hs : σ t with
    | box cs =>
      rw [hs] at ht
      have hr : BoxR c.P w lim (X t) cs (tm.getD t undef) := ht
      simp only [getS, hs]
      unfold boxS
      split
      · rename_i e n cap xs
        obtain ⟨b, arr, h1, h2, _⟩ := hr.row
        exact ⟨rfl, b, e, n, cap, xs, h1, hs, h2⟩
      · rename_i hn
        have hp : PlainR c.P w lim (X t) cs (tm.getD t undef) := by
          rcases hr with h | ⟨e, n, cap, xs, h, _⟩
          · exact h
          · exact (hn e n cap xs h).elim
        obtain ⟨b, arr, ty, h1, h2, _⟩ := hp
        exact ⟨rfl, b, cs, h1, hs, h2⟩
    | mref d => rw [hs] at ht; simp only [getS, hs]; exact ⟨rfl, ht⟩
    | row e n cap xs => rw [hs] at ht; simp only [getS, hs]; exact ⟨rfl, ht⟩
    | own e xs => rw [hs] at ht; simp only [getS, hs]; exact ⟨rfl, OwnR.rep ht false rfl⟩
    | tuple vs => simp only [getS, hs]; exact ⟨rfl, trivial⟩
    | dead => simp only [getS, hs]; exact ⟨rfl, trivial⟩
    | gone => simp only [getS, hs]; exact ⟨rfl, trivial⟩
    | ptr d off => rw [hs] at ht; simp only [getS, hs]; exact ⟨rfl, ht⟩
    | eptr cs => rw [hs] at ht; simp only [getS, hs]; exact ⟨rfl, ht⟩
    | val v => rw [hs] at ht; simp only [getS, hs]; exact ⟨rfl, ht⟩
    | agg cs => rw [hs] at ht; simp only [getS, hs]; exact ⟨rfl, ht⟩
    | slice f s xs => rw [hs] at ht; simp only [getS, hs]; exact ⟨rfl, ht⟩
  | const v => exact ofVS_rel v
  | global g => exact ⟨rfl, trivial⟩
  | func f => exact ⟨rfl, trivial⟩

theorem getS_congr {P : Program} {σ σ' : Nat → AV} {x : Operand} (h : ∀ t, slotOf x = some t → σ' t = σ t) : getS P σ' x = getS P σ x := by
  cases x with
  | tmp t => simp only [getS, h t rfl]
  | const v => rfl
  | global g => rfl
  | func f => rfl

theorem mem_uses {o : Oper} {x : Operand} {t : Nat} (hx : x ∈ o.op.operands) (ht : slotOf x = some t) : t ∈ usesOf o :=
  List.mem_filterMap.2 ⟨x, by simpa using hx, ht⟩

/-- An operation that only computes. -/
theorem exok_plain {P : Program} {o : Oper} {σ : Nat → AV} {x : AV} (fp : List Nat) (hp : x.plain = true)
    (h : ∀ (c : Ctx), c.P = P → ∀ (σ' : Nat → AV) (tm : Array Value) (w : World) (lim : Nat → Nat) (X : Nat → Nat → Option Nat),
      (∀ y ∈ o.op.operands, getS P σ' y = getS P σ y) → (∀ d ∈ fp, σ' d = σ d) → Sim c σ' tm w lim X →
      ∃ v, (execOp (Act.eval ⟨tm, []⟩) o).run P w = .ok (.value v) w ∧ SlotR P w lim X σ' 0 x v) : ExOK P o σ x [] fp := by
  intro c hc σ' tm w lim X hag hsim next Q hn
  obtain ⟨v, hr, hx⟩ := h c hc σ' tm w lim X (fun y hy => getS_congr fun t ht => hag t (by simp [mem_uses hy ht])) (fun d hd => hag d (by simp [hd])) hsim
  exact wp_of_run hr (hn v w (after_plain hsim hp (k := 0) (by rw [hc]; exact hx)))

theorem rep_val {w : World} {lim : Nat → Nat} {u v : Value} (h : Rep w lim (.val u) v) : v = u := by cases h; rfl

theorem exok_move {P : Program} {o : Oper} {σ : Nat → AV} {x : Operand} (ho : o.op = .move x ∨ o.op = .assign x) : ExOK P o σ (getS P σ x) [] [] := by
  have hmem : x ∈ o.op.operands := by rcases ho with ho | ho <;> rw [ho] <;> simp [Op.operands]
  intro c hc σ' tm w lim X hag hsim next Q hn
  have hg : getS P σ' x = getS P σ x := getS_congr fun t ht => hag t (by simp [mem_uses hmem ht])
  obtain ⟨h1, h2⟩ := getS_rel hsim x 0
  rw [hc, hg] at h1 h2
  refine wp_of_run (v := Act.eval ⟨tm, []⟩ x) ?_ (hn _ w (after_plain hsim h1 (k := 0) (by rw [hc]; exact h2)))
  rcases ho with ho | ho <;> simp [execOp, ho]


theorem opnd {P : Program} {c : Ctx} (hc : c.P = P) {σ σ' : Nat → AV} {tm : Array Value} {w : World} {lim : Nat → Nat} {X : Nat → Nat → Option Nat} (h : Sim c σ' tm w lim X) {x : Operand} {y : AV}
    (hx : getS P σ x = y) (hg : getS P σ' x = getS P σ x) : SlotR P w lim X σ' 0 y (Act.eval ⟨tm, []⟩ x) := by
  have := (getS_rel h x 0).2
  rw [hc, hg, hx] at this
  exact this

theorem opnd_val {P : Program} {c : Ctx} (hc : c.P = P) {σ σ' : Nat → AV} {tm : Array Value} {w : World} {lim : Nat → Nat} {X : Nat → Nat → Option Nat} (h : Sim c σ' tm w lim X) {x : Operand} {u : Value}
    (hx : getS P σ x = .val u) (hg : getS P σ' x = getS P σ x) : Act.eval ⟨tm, []⟩ x = u := rep_val (opnd hc h hx hg)

theorem exok_pick {P : Program} {o : Oper} {σ : Nat → AV} {cd a b : Operand} {v : Bool} (ho : o.op = .pick cd a b) (hv : getS P σ cd = .val (.bool v)) :
    ExOK P o σ (if v = true then getS P σ a else getS P σ b) [] [] := by
  intro c hc σ' tm w lim X hag hsim next Q hn
  have hg : ∀ y ∈ o.op.operands, getS P σ' y = getS P σ y := fun y hy => getS_congr fun t ht => hag t (by simp [mem_uses hy ht])
  rw [ho] at hg
  simp only [Op.operands] at hg
  have h1 := opnd_val hc hsim hv (hg cd (by simp))
  obtain ⟨ha1, ha2⟩ := getS_rel hsim a 0
  obtain ⟨hb1, hb2⟩ := getS_rel hsim b 0
  rw [hc, hg a (by simp)] at ha1 ha2
  rw [hc, hg b (by simp)] at hb1 hb2
  cases v with
  | true =>
    refine wp_of_run (v := Act.eval ⟨tm, []⟩ a) ?_ (hn _ w (after_plain hsim ha1 (k := 0) (by rw [hc]; exact ha2)))
    simp [execOp, ho, h1, asBool]
  | false =>
    refine wp_of_run (v := Act.eval ⟨tm, []⟩ b) ?_ (hn _ w (after_plain hsim hb1 (k := 0) (by rw [hc]; exact hb2)))
    simp [execOp, ho, h1, asBool]

/-- An operation on scalars that gives a scalar. -/
theorem exok_scalar {P : Program} {o : Oper} {σ : Nat → AV} {v : Value} (hv : scalar v = true)
    (h : ∀ (a : Act) (w : World), (∀ y ∈ o.op.operands, ∀ u, getS P σ y = .val u → a.eval y = u) → (execOp a.eval o).run P w = .ok (.value v) w) : ExOK P o σ (.val v) [] [] := by
  refine exok_plain [] rfl fun c hc σ' tm w lim X hg _ hsim => ⟨v, h ⟨tm, []⟩ w fun y hy u hu => opnd_val hc hsim hu (hg y hy), .val hv⟩

def iopOf : BinOp → Option IOp
  | .add => some .add
  | .sub => some .sub
  | .mul => some .mul
  | .quo => some .quo
  | .rem => some .rem
  | .and => some .and
  | .or => some .or
  | .xor => some .xor
  | .andNot => some .andNot
  | _ => none

theorem exok_iop {P : Program} {o : Oper} {σ : Nat → AV} {op : BinOp} {i : IOp} {T T' : TypeId} {x y : Operand} {k : IntKind} {a b : Int} (ho : o.op = .binOp op T x y T')
    (hi : iopOf op = some i) (hx : getS P σ x = .val (.int k a)) (hy : getS P σ y = .val (.int k b)) (hz : i = .quo ∨ i = .rem → b ≠ 0) : ExOK P o σ (.val (.int k (iop i k a b))) [] [] := by
  refine exok_scalar rfl fun ac w h => ?_
  rw [ho] at h
  simp only [Op.operands] at h
  have h1 := h x (by simp) _ hx
  have h2 := h y (by simp) _ hy
  cases op <;> simp [iopOf] at hi <;> subst hi <;>
    simp [execOp, ho, h1, h2, eqGuard, binOp, Op.intArith, Op.intDiv, Op.intBits, iop] <;> exact fun hb => (hz (by simp) hb).elim

def copOf : BinOp → Option COp
  | .eql => some .eql
  | .neq => some .neq
  | .lss => some .lss
  | .leq => some .leq
  | .gtr => some .gtr
  | .geq => some .geq
  | _ => none

theorem exok_cop {P : Program} {o : Oper} {σ : Nat → AV} {op : BinOp} {i : COp} {T T' : TypeId} {x y : Operand} {k : IntKind} {a b : Int} (ho : o.op = .binOp op T x y T')
    (hi : copOf op = some i) (hx : getS P σ x = .val (.int k a)) (hy : getS P σ y = .val (.int k b)) : ExOK P o σ (.val (.bool (cop i a b))) [] [] := by
  refine exok_scalar rfl fun ac w h => ?_
  rw [ho] at h
  simp only [Op.operands] at h
  have h1 := h x (by simp) _ hx
  have h2 := h y (by simp) _ hy
  cases op <;> simp [copOf] at hi <;> subst hi <;>
    simp [execOp, ho, h1, h2, eqGuard, binOp, Op.intCmp, cop]

theorem exok_shift {P : Program} {o : Oper} {σ : Nat → AV} {op : BinOp} {i : IOp} {T T' : TypeId} {x y : Operand} {k k' : IntKind} {a b : Int} (ho : o.op = .binOp op T x y T')
    (hi : (op = .shl ∧ i = .shl) ∨ (op = .shr ∧ i = .shr)) (hx : getS P σ x = .val (.int k a)) (hy : getS P σ y = .val (.int k' b)) (hb : 0 ≤ b) : ExOK P o σ (.val (.int k (iop i k a b))) [] [] := by
  refine exok_scalar rfl fun ac w h => ?_
  rw [ho] at h
  simp only [Op.operands] at h
  have h1 := h x (by simp) _ hx
  have h2 := h y (by simp) _ hy
  rcases hi with ⟨rfl, rfl⟩ | ⟨rfl, rfl⟩ <;> simp [execOp, ho, h1, h2, eqGuard, binOp, Op.shift, iop, Int.not_lt.2 hb]

theorem exok_str {P : Program} {o : Oper} {σ : Nat → AV} {op : BinOp} {T T' : TypeId} {x y : Operand} {a b : ByteArray} (ho : o.op = .binOp op T x y T')
    (hop : op = .eql ∨ op = .neq) (hx : getS P σ x = .val (.string a)) (hy : getS P σ y = .val (.string b)) :
    ExOK P o σ (.val (.bool (if op = .eql then a.toList == b.toList else !(a.toList == b.toList)))) [] [] := by
  refine exok_scalar rfl fun ac w h => ?_
  rw [ho] at h
  simp only [Op.operands] at h
  have h1 := h x (by simp) _ hx
  have h2 := h y (by simp) _ hy
  rcases hop with rfl | rfl <;> simp [execOp, ho, h1, h2, eqGuard, binOp, Op.stringOp]

theorem exok_bool {P : Program} {o : Oper} {σ : Nat → AV} {op : BinOp} {T T' : TypeId} {x y : Operand} {a b : Bool} (ho : o.op = .binOp op T x y T') (hT : P.underlying T = some .bool)
    (hop : op = .eql ∨ op = .neq) (hx : getS P σ x = .val (.bool a)) (hy : getS P σ y = .val (.bool b)) :
    ExOK P o σ (.val (.bool (if op = .eql then a == b else !(a == b)))) [] [] := by
  refine exok_scalar rfl fun ac w h => ?_
  rw [ho] at h
  simp only [Op.operands] at h
  have h1 := h x (by simp) _ hx
  have h2 := h y (by simp) _ hy
  have he : (Op.equal T (.bool a) (.bool b)).run P w = .ok (a == b) w := run_equalIn_bool' w 9999 T a b hT
  rcases hop with rfl | rfl <;> simp [execOp, ho, h1, h2, eqGuard, binOp, he]

theorem exok_not {P : Program} {o : Oper} {σ : Nat → AV} {T : TypeId} {x : Operand} {b : Bool} (ho : o.op = .unOp .not T x) (hx : getS P σ x = .val (.bool b)) :
    ExOK P o σ (.val (.bool !b)) [] [] := by
  refine exok_scalar rfl fun ac w h => ?_
  rw [ho] at h
  simp only [Op.operands] at h
  have h1 := h x (by simp) _ hx
  simp [execOp, ho, h1, Op.unary]

theorem exok_neg {P : Program} {o : Oper} {σ : Nat → AV} {T : TypeId} {x : Operand} {k : IntKind} {n : Int} (ho : o.op = .unOp .neg T x) (hx : getS P σ x = .val (.int k n)) :
    ExOK P o σ (.val (.int k (iop .sub k 0 n))) [] [] := by
  refine exok_scalar rfl fun ac w h => ?_
  rw [ho] at h
  simp only [Op.operands] at h
  have h1 := h x (by simp) _ hx
  simp [execOp, ho, h1, Op.unary, Op.intArith, iop]

theorem exok_conv {P : Program} {o : Oper} {σ : Nat → AV} {S T : TypeId} {x : Operand} {k k1 k2 : IntKind} {n : Int} (ho : o.op = .convert S T x) (hS : P.underlying S = some (.int k1)) (hT : P.underlying T = some (.int k2))
    (hx : getS P σ x = .val (.int k n)) : ExOK P o σ (.val (.int k2 (k2.wrap n))) [] [] := by
  refine exok_scalar rfl fun ac w h => ?_
  rw [ho] at h
  simp only [Op.operands] at h
  have h1 := h x (by simp) _ hx
  simp [execOp, ho, h1, convert, run_underlying hS, run_underlying hT, Conv.intToInt]

theorem exok_minmax {P : Program} {o : Oper} {σ : Nat → AV} {cl : Call} {mn : Bool} {x y : Operand} {k : IntKind} {a b : Int} (ho : o.op = .call cl) (hcl : cl.callee = .builtin (if mn = true then .min else .max))
    (hargs : cl.args.toList = [x, y]) (hx : getS P σ x = .val (.int k a)) (hy : getS P σ y = .val (.int k b)) :
    ExOK P o σ (.val (.int k (iop (if mn = true then .min else .max) k a b))) [] [] := by
  refine exok_scalar rfl fun ac w h => ?_
  have hargs' : cl.args = #[x, y] := by
    apply Array.toList_inj.1
    rw [hargs]
  rw [ho] at h
  simp only [Op.operands, Call.operands, hargs', hcl] at h
  have h1 := h x (by simp) _ hx
  have h2 := h y (by simp) _ hy
  cases mn
  · simp [execOp, ho, hcl, resolve, hargs', h1, h2, invoke, builtin, Builtin.max_, Builtin.max2, iop]
    omega
  · simp [execOp, ho, hcl, resolve, hargs', h1, h2, invoke, builtin, Builtin.min_, Builtin.min2, iop]
    omega

end Go.AM
