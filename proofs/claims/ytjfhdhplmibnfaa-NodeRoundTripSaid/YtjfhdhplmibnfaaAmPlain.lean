/- Types that '==' compares cell by cell. Generic: no program stands in it. -/
import Derived.Test.YtjfhdhplmibnfaaAmFin
import Derived.Laws.StructEq
namespace Go.AM

def flatField (P : Program) (p : Field × Nat) : Bool :=
  (p.1.name != "_") && (p.1.offset == p.2) && match P.underlying p.1.type with | some (.int _) => true | some .bool => true | _ => false

def flatB (P : Program) (T : TypeId) : Bool :=
  match P.underlying T with
  | some (.struct fs) => (fs.toList.zipIdx.all (flatField P)) && !P.stoodInHeld T && !P.eqGuardType P.depth T
  | _ => false

section
variable {P : Program}

theorem flat_fields (w : World) (us vs : List Value) : ∀ (fs : List Field) (n : Nat) (L : List Sh), ((fs.zipIdx n).all (flatField P)) = true →
    fs.foldr (fun f acc => match leafs P 7 f.type, acc with | some a, some b => some (a ++ b) | _, _ => none) (some []) = some L → kindsV L (us.drop n) → kindsV L (vs.drop n) →
    (Op.eqFields 9999 us.toArray vs.toArray fs).run P w = .ok (eqV (us.drop n) (vs.drop n)) w
  | [], n, L, _, hL, hu, hv => by
    simp only [List.foldr_nil, Option.some.injEq] at hL
    subst hL
    cases h : us.drop n with
    | nil => simp [Op.eqFields, eqV]
    | cons x l => rw [h] at hu; exact hu.elim
  | f :: fs, n, L, hf, hL, hu, hv => by
    rw [List.zipIdx_cons, List.all_cons, Bool.and_eq_true] at hf
    obtain ⟨h0, hrest⟩ := hf
    simp only [flatField, Bool.and_eq_true, bne_iff_ne, ne_eq, beq_iff_eq] at h0
    obtain ⟨⟨hname, hoff⟩, hty⟩ := h0
    simp only [List.foldr_cons] at hL
    split at hL
    case h_2 => cases hL
    rename_i a L' ha hL'
    simp only [Option.some.injEq] at hL
    subst hL
    have hdrop : ∀ (l : List Value) (x : Value) (r : List Value), l.drop n = x :: r → l[n]? = some x ∧ r = l.drop (n + 1) := by
      intro l x r h
      refine ⟨?_, ?_⟩
      · have := congrArg (fun l => l[0]?) h
        simpa using this
      · have := congrArg (fun l => l.drop 1) h
        simpa [List.drop_drop] using this.symm
    split at hty
    · rename_i k hk
      have ha' : a = [.int k] := by
        simp only [leafs, hk, Option.some.injEq] at ha
        exact ha.symm
      subst ha'
      cases h1 : us.drop n with
      | nil => rw [h1] at hu; exact hu.elim
      | cons x us' =>
        cases h2 : vs.drop n with
        | nil => rw [h2] at hv; exact hv.elim
        | cons y vs' =>
          rw [h1] at hu
          rw [h2] at hv
          cases x <;> try exact hu.elim
          cases y <;> try exact hv.elim
          obtain ⟨rfl, hu⟩ := hu
          obtain ⟨rfl, hv⟩ := hv
          obtain ⟨x1, x2⟩ := hdrop us _ _ h1
          obtain ⟨y1, y2⟩ := hdrop vs _ _ h2
          have ih := flat_fields w us vs fs (n + 1) L' hrest hL' (by rw [← x2]; exact hu) (by rw [← y2]; exact hv)
          have p1 : ∀ (l : List Value) (x : Value), l[n]? = some x → (part f.type l.toArray f.offset).run P w = .ok x w := by
            intro l x h
            rw [hoff]
            have : l.toArray[n]? = some x := by simpa using h
            simp [part, isAgg, run_underlying hk, this]
          simp only [Op.eqFields, hname, ne_eq, not_false_eq_true, if_true, Sem.run_bind, p1 us _ x1, p1 vs _ y1, Result.andThen_ok, run_equalIn_int w 9998 f.type _ _ _ _ hk, eqV, Sem.run_ite]
          rename_i i j
          cases h : (i == j)
          · simp
          · rw [x2, y2]
            simpa using ih
    · rename_i hk
      have ha' : a = [.bool] := by
        simp only [leafs, hk, Option.some.injEq] at ha
        exact ha.symm
      subst ha'
      cases h1 : us.drop n with
      | nil => rw [h1] at hu; exact hu.elim
      | cons x us' =>
        cases h2 : vs.drop n with
        | nil => rw [h2] at hv; exact hv.elim
        | cons y vs' =>
          rw [h1] at hu
          rw [h2] at hv
          cases x <;> try exact hu.elim
          cases y <;> try exact hv.elim
          obtain ⟨x1, x2⟩ := hdrop us _ _ h1
          obtain ⟨y1, y2⟩ := hdrop vs _ _ h2
          have ih := flat_fields w us vs fs (n + 1) L' hrest hL' (by rw [← x2]; exact hu) (by rw [← y2]; exact hv)
          have p1 : ∀ (l : List Value) (x : Value), l[n]? = some x → (part f.type l.toArray f.offset).run P w = .ok x w := by
            intro l x h
            rw [hoff]
            have : l.toArray[n]? = some x := by simpa using h
            simp [part, isAgg, run_underlying hk, this]
          simp only [Op.eqFields, hname, ne_eq, not_false_eq_true, if_true, Sem.run_bind, p1 us _ x1, p1 vs _ y1, Result.andThen_ok, run_equalIn_bool' w 9998 f.type _ _ hk, eqV, Sem.run_ite]
          rename_i i j
          cases h : (i == j)
          · simp
          · rw [x2, y2]
            simpa using ih
    · cases hty

theorem plain_of {plain : List TypeId} (h : plain.all (flatB P) = true) : PlainSound P plain := by
  intro T hT
  rw [List.all_eq_true] at h
  have hf := h T hT
  unfold flatB at hf
  split at hf
  · rename_i fs hfs
    simp only [Bool.and_eq_true, Bool.not_eq_true'] at hf
    obtain ⟨⟨h1, h2⟩, h3⟩ := hf
    refine ⟨h3, fun L hL us vs hu hv w => ?_⟩
    have hfo : P.fieldsOf T = fs := by simp only [Program.fieldsOf, hfs]
    rw [run_equalIn_struct w 9999 T _ _ (by rw [hfo]; exact hfs) h2, hfo]
    have := flat_fields w us vs fs.toList 0 L h1 (by
      rw [leafs] at hL
      simp only [hfs] at hL
      exact hL) (by simpa using hu) (by simpa using hv)
    simpa using this
  · cases hf

end

end Go.AM
