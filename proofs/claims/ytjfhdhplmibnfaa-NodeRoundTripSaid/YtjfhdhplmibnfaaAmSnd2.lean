/- The evaluator of one operation is sound, the other operations. Generic: no program stands in it. -/
import Derived.Test.YtjfhdhplmibnfaaAmSound
namespace Go.AM

theorem scden_cell (ρ : Nat → V) (c : SC) : (c.den ρ).isCell = true := by cases c <;> rfl

theorem cells_den {x : SV} {cs : List SC} (ρ : Nat → V) (h : x.cells = some cs) : (x.den ρ).cells? = some (cs.map (SC.den ρ)) := by
  cases x with
  | c y =>
    simp only [SV.cells, Option.some.injEq] at h
    subst h
    cases y <;> rfl
  | agg ds =>
    simp only [SV.cells, Option.some.injEq] at h
    subst h
    rfl
  | _ => simp [SV.cells] at h

theorem cells_bd {x : SV} {cs : List SC} {n : Nat} (h : x.cells = some cs) (hx : x.bd n) : ∀ c ∈ cs, c.bd n := by
  cases x with
  | c y =>
    simp only [SV.cells, Option.some.injEq] at h
    subst h
    intro c hc
    simp at hc
    subst hc
    exact hx
  | agg ds =>
    simp only [SV.cells, Option.some.injEq] at h
    subst h
    exact hx
  | _ => simp [SV.cells] at h

theorem fillA_den (ρ : Nat → V) (place : Nat → Option (Nat × Nat)) : ∀ (parts : List (Nat × SV)) (cells out : List SC), fillA place cells parts = some out →
    fillS place (cells.map (SC.den ρ)) (parts.map fun p => (p.1, p.2.den ρ)) = some (out.map (SC.den ρ))
  | [], cells, out, h => by simp only [fillA, Option.some.injEq] at h; subst h; rfl
  | (i, v) :: parts, cells, out, h => by
    simp only [fillA] at h
    split at h
    · rename_i off size vc hp hv
      split at h
      · rename_i hc
        have ih := fillA_den ρ place parts _ out h
        simp only [List.map_append, List.map_take, List.map_drop] at ih
        simp only [List.map_cons, fillS, hp, cells_den ρ hv]
        rw [if_pos (by simpa using hc)]
        exact ih
      · cases h
    · cases h

theorem fillA_bd {n : Nat} (place : Nat → Option (Nat × Nat)) : ∀ (parts : List (Nat × SV)) (cells out : List SC), (∀ c ∈ cells, c.bd n) → (∀ p ∈ parts, p.2.bd n) → fillA place cells parts = some out → ∀ c ∈ out, c.bd n
  | [], cells, out, hc, _, h => by simp only [fillA, Option.some.injEq] at h; subst h; exact hc
  | (i, v) :: parts, cells, out, hc, hp, h => by
    simp only [fillA] at h
    split at h
    · rename_i off size vc hpl hv
      split at h
      · refine fillA_bd place parts _ out (fun c hcc => ?_) (fun p hp' => hp p (by simp [hp'])) h
        rcases List.mem_append.1 hcc with h1 | h1
        · rcases List.mem_append.1 h1 with h1 | h1
          · exact hc c (List.mem_of_mem_take h1)
          · exact cells_bd hv (hp (i, v) (by simp)) c h1
        · exact hc c (List.mem_of_mem_drop h1)
      · cases h
    · cases h

theorem ceOf_den (ρ : Nat → V) : ∀ (cs : List SC), (ceOf cs).den ρ = cs.map (SC.den ρ)
  | [] => rfl
  | c :: cs => by simp only [ceOf, CE.den, ceOf_den ρ cs, List.map_cons]

theorem ceOf_bd {n : Nat} : ∀ (cs : List SC), (∀ c ∈ cs, c.bd n) → (ceOf cs).bd n
  | [], _ => trivial
  | c :: cs, h => ⟨h c (by simp), ceOf_bd cs fun x hx => h x (by simp [hx])⟩

theorem lOf_den (ρ : Nat → V) (size : Nat) (cs : List SC) : ∀ (n : Nat), (lOf size cs n).den ρ = elems size (cs.map (SC.den ρ)) n
  | 0 => rfl
  | n + 1 => by
    simp only [lOf, LE.den, lOf_den ρ size cs n, ceOf_den, elems, List.range_succ, List.map_append, List.map_cons, List.map_nil, List.map_take, List.map_drop]

theorem lOf_bd {m : Nat} (size : Nat) (cs : List SC) (h : ∀ c ∈ cs, c.bd m) : ∀ (n : Nat), (lOf size cs n).bd m
  | 0 => trivial
  | n + 1 => ⟨lOf_bd size cs h n, ceOf_bd _ fun c hc => h c (List.mem_of_mem_drop (List.mem_of_mem_take hc))⟩

theorem stripB_den (P : Program) (ρ : Nat → V) (b : BC) : (stripB P b).den ρ = stripS P (b.den ρ) := by
  cases b with
  | c x => cases x <;> rfl
  | own e l => rfl
  | row e m cp l => rfl

/-- A box that is no slice written in place. -/
theorem plainB_ok {cs : List BC} (h : plainB cs = true) (ρ : Nat → V) : NoRow (cs.map (BC.den ρ)) := by
  intro c hc e n cap xs he
  obtain ⟨b, hb, rfl⟩ := List.mem_map.1 hc
  unfold plainB at h
  rw [List.all_eq_true] at h
  have := h b hb
  cases b with
  | c x => cases x <;> cases he
  | own e l => cases he
  | row _ _ _ _ => cases this

theorem stripB_bd {P : Program} {n : Nat} {b : BC} (h : b.bd n) : (stripB P b).bd n := by
  cases b with
  | row e m cp l => exact h.2.2
  | _ => exact h

theorem zeroB_ok {P : Program} {T : TypeId} {cs : List BC} (ρ : Nat → V) (n : Nat) (h : zeroB P T = some cs) :
    ∃ i z, P.info? T = some i ∧ i.zero = some z ∧ zeroOk (cs.map (BC.den ρ)) z.cells.toList ∧ ∀ c ∈ cs, c.bd n := by
  unfold zeroB at h
  split at h
  · rename_i i hi
    split at h
    · rename_i z hz
      split at h
      · rename_i sc hsc
        split at h
        · rename_i hlen
          simp only [Option.some.injEq] at h
          subst h
          have hl : sc.length = z.cells.toList.length := by
            have h1 := ofCs_den ρ z.cells.toList
            rw [hsc] at h1
            have h2 := (ofCsS_rep (w := default) (lim := fun _ => 0) h1.symm).1
            simpa using h2
          refine ⟨i, z, hi, hz, ⟨by simp [hlen, hl], fun j x u hx hu => ?_⟩, fun c hc => ?_⟩
          · rw [List.getElem?_map, List.getElem?_zipWith] at hx
            cases h1 : (sliceElems P 8 T)[j]? with
            | none => simp [h1] at hx
            | some e =>
              cases h2 : sc[j]? with
              | none => simp [h1, h2] at hx
              | some c =>
                simp only [h1, h2, Option.map_some, Option.some.injEq] at hx
                have hcu : ofC u = some c := by
                  have key : ∀ (vs : List Value) (cs : List SC) (j : Nat), ofCs vs = some cs → cs[j]? = some c → vs[j]? = some u → ofC u = some c := by
                    intro vs
                    induction vs with
                    | nil => intro cs j _ _ h; simp at h
                    | cons v vs ih =>
                      intro cs j h hc hv
                      simp only [ofCs] at h
                      split at h
                      · rename_i c' cs' hc' hcs'
                        simp only [Option.some.injEq] at h
                        subst h
                        cases j with
                        | zero => simp at hc hv; subst hc; subst hv; exact hc'
                        | succ j => exact ih cs' j hcs' (by simpa using hc) (by simpa using hv)
                      · cases h
                  exact key _ _ j hsc h2 hu
                have hnorm : (∃ e', zeroCell e c = .own e' .nil ∧ u = .slice none 0 0) ∨ zeroCell e c = .c c := by
                  cases e with
                  | none => right; cases c <;> rfl
                  | some e =>
                    cases c with
                    | slice f s l =>
                      cases f with
                      | false => right; cases l <;> rfl
                      | true =>
                        cases l with
                        | nil =>
                          left
                          refine ⟨e, rfl, ?_⟩
                          unfold ofC at hcu
                          split at hcu <;> simp at hcu
                          rfl
                        | _ => right; rfl
                    | _ => right; rfl
                rcases hnorm with ⟨e', h3, h4⟩ | h3
                · rw [h3] at hx
                  exact .inr ⟨e', hx.symm, h4⟩
                · rw [h3] at hx
                  left
                  rw [← ofC_den ρ, hcu, ← hx]
                  rfl
          · obtain ⟨j, hj⟩ := List.mem_iff_getElem?.1 hc
            rw [List.getElem?_zipWith] at hj
            cases h1 : (sliceElems P 8 T)[j]? with
            | none => simp [h1] at hj
            | some e =>
              cases h2 : sc[j]? with
              | none => simp [h1, h2] at hj
              | some c' =>
                simp only [h1, h2, Option.some.injEq] at hj
                subst hj
                have hb : c'.bd n := ofCs_bd hsc c' (List.mem_of_getElem? h2)
                unfold zeroCell
                split
                · trivial
                · exact hb
        · cases h
      · cases h
    · cases h
  · cases h

theorem shapeAt_bd (s : Sh) (n : Nat) : (shapeAt s n).bd (n + 1) := by cases s <;> exact Nat.lt_succ_self n

theorem shapesAt_bd : ∀ (l : List Sh) (n : Nat), ∀ c ∈ shapesAt l n, c.bd (n + l.length)
  | [], n, c, h => by simp [shapesAt] at h
  | s :: ss, n, c, h => by
    rcases List.mem_cons.1 h with rfl | h
    · exact SC.bd_mono (by simp) _ (shapeAt_bd s n)
    · have := shapesAt_bd ss (n + 1) c h
      exact SC.bd_mono (by simp only [List.length_cons]; omega) _ this

theorem boxAt_bd (s : Sh) (n : Nat) : (boxAt s n).bd (n + 1) := by cases s <;> exact Nat.lt_succ_self n

theorem boxesAt_bd : ∀ (l : List Sh) (n : Nat), ∀ c ∈ boxesAt l n, c.bd (n + l.length)
  | [], n, c, h => by simp [boxesAt] at h
  | s :: ss, n, c, h => by
    rcases List.mem_cons.1 h with rfl | h
    · exact BC.bd_mono (by simp) _ (boxAt_bd s n)
    · have := boxesAt_bd ss (n + 1) c h
      exact BC.bd_mono (by simp only [List.length_cons]; omega) _ this

theorem outsOf_le : ∀ (as : List SV) (n : Nat), n ≤ (outsOf as n).2.2
  | [], n => Nat.le_refl n
  | a :: as, n => by
    cases a with
    | box cs =>
      simp only [outsOf]
      exact Nat.le_trans (Nat.le_add_right _ _) (outsOf_le as _)
    | _ => exact outsOf_le as n

theorem outsOf_len : ∀ (as : List SV) (n : Nat), (outsOf as n).1.length = as.length
  | [], n => rfl
  | a :: as, n => by
    cases a <;> simp only [outsOf, List.length_cons, outsOf_len as]

theorem outsOf_bd : ∀ (as : List SV) (n : Nat), ∀ x ∈ (outsOf as n).1, x.bd (outsOf as n).2.2
  | [], n, x, h => by simp [outsOf] at h
  | a :: as, n, x, h => by
    cases a with
    | box cs =>
      simp only [outsOf] at h ⊢
      rcases List.mem_cons.1 h with rfl | h
      · intro c hc
        have h1 := boxesAt_bd (cs.map shOfB) n c hc
        exact BC.bd_mono (outsOf_le as _) _ h1
      · exact outsOf_bd as _ x h
    | _ =>
      simp only [outsOf] at h ⊢
      rcases List.mem_cons.1 h with rfl | h
      · trivial
      · exact outsOf_bd as _ x h

theorem outsOf_box : ∀ (as : List SV) (n i : Nat) (cs : List BC) (y : SV), as[i]? = some (.box cs) → (outsOf as n).1[i]? = some y → ∃ cs', y = .box cs'
  | [], n, i, cs, y, h, _ => by simp at h
  | a :: as, n, i, cs, y, h, h' => by
    cases i with
    | zero =>
      simp only [List.getElem?_cons_zero, Option.some.injEq] at h
      subst h
      simp only [outsOf, List.getElem?_cons_zero, Option.some.injEq] at h'
      exact ⟨_, h'.symm⟩
    | succ i =>
      have h1 : as[i]? = some (.box cs) := by simpa using h
      cases a with
      | box ds => simp only [outsOf, List.getElem?_cons_succ] at h'; exact outsOf_box as _ i cs y h1 h'
      | _ => simp only [outsOf, List.getElem?_cons_succ] at h'; exact outsOf_box as _ i cs y h1 h'

theorem rshTC_bd (r : RSh) (n : Nat) : (rshTC r n).1.bd (n + (rshTC r n).2.length) := by
  cases r with
  | c s => cases s <;> exact Nat.lt_succ_self n
  | agg l => exact shapesAt_bd l n

theorem resTuple_ok {P : Program} {fresh : Bool} : ∀ (Ts : List TypeId) (n : Nat) (vs : List TC) (sh : List Sh) (n' : Nat), resTuple P fresh Ts n = some (vs, sh, n') → n ≤ n' ∧ ∀ v ∈ vs, v.bd n'
  | [], n, vs, sh, n', h => by
    simp only [resTuple, Option.some.injEq, Prod.mk.injEq] at h
    obtain ⟨rfl, rfl, rfl⟩ := h
    exact ⟨Nat.le_refl _, by simp⟩
  | T :: Ts, n, vs, sh, n', h => by
    simp only [resTuple] at h
    split at h
    · rename_i r hr
      split at h
      · rename_i vs' sh' m hm
        simp only [Option.some.injEq, Prod.mk.injEq] at h
        obtain ⟨rfl, rfl, rfl⟩ := h
        obtain ⟨h1, h2⟩ := resTuple_ok Ts _ vs' sh' m hm
        refine ⟨by omega, fun v hv => ?_⟩
        rcases List.mem_cons.1 hv with rfl | hv
        · exact TC.bd_mono h1 _ (rshTC_bd r n)
        · exact h2 v hv
      · cases h
    · cases h

theorem tcSV_den (ρ : Nat → V) (x : TC) : (tcSV x).den ρ = x.den ρ := by cases x <;> rfl
theorem tcSV_bd {n : Nat} {x : TC} (h : x.bd n) : (tcSV x).bd n := by cases x <;> exact h

theorem tc_retval (ρ : Nat → V) (x : TC) : retval (x.den ρ) := by
  cases x with
  | c y => cases y <;> first | exact .inl (.inl ⟨_, rfl⟩) | exact .inl (.inr (.inr ⟨_, _, _, rfl⟩))
  | agg cs => exact .inl (.inr (.inl ⟨_, rfl⟩))
  | own e l => exact .inr (.inl ⟨_, _, rfl⟩)

theorem resultAt_ok {P : Program} {fresh : Bool} {Ts : List TypeId} {n n' : Nat} {res : SV} {sh : List Sh} (h : resultAt P fresh Ts n = some (res, sh, n')) :
    n ≤ n' ∧ res.bd n' ∧ ∀ ρ, retval (res.den ρ) := by
  unfold resultAt at h
  split at h
  · rename_i x sh' m hm
    simp only [Option.some.injEq, Prod.mk.injEq] at h
    obtain ⟨rfl, rfl, rfl⟩ := h
    obtain ⟨h1, h2⟩ := resTuple_ok Ts n [x] sh' m hm
    exact ⟨h1, tcSV_bd (h2 x (by simp)), fun ρ => by rw [tcSV_den]; exact tc_retval ρ x⟩
  · rename_i vs sh' m _ hm
    simp only [Option.some.injEq, Prod.mk.injEq] at h
    obtain ⟨rfl, rfl, rfl⟩ := h
    obtain ⟨h1, h2⟩ := resTuple_ok Ts n vs sh' m hm
    exact ⟨h1, h2, fun ρ => .inr (.inr ⟨_, rfl⟩)⟩
  · cases h

def SAK.den (ρ : Nat → V) : SAK → AK
  | .imm x => .imm (x.den ρ)
  | .own t e l => .own t e (l.den ρ)
  | .box d cs => .box d (cs.map (BC.den ρ))

theorem sak_av (ρ : Nat → V) (a : SAK) : (a.den ρ).av = a.sv.den ρ := by cases a <;> rfl
theorem sak_slot (ρ : Nat → V) (a : SAK) : (a.den ρ).slot = a.slot := by cases a <;> rfl

theorem argOf_ok {P : Program} {g : Nat → SV} {x : Operand} {a : SAK} (ρ : Nat → V) (h : argOf P g x = some a) : (a.den ρ).ok P (fun d => (g d).den ρ) x := by
  unfold argOf at h
  split at h
  · rename_i t e l h1 h2
    simp only [Option.some.injEq] at h
    subst h
    have hx : x = .tmp t := by cases x <;> simp [slotOf] at h1; rw [h1]
    subst hx
    simp only [slotOf, Option.map_some, Option.some.injEq] at h2
    exact ⟨rfl, by show (g t).den ρ = _; rw [h2]; rfl⟩
  · split at h
    · rename_i v hv
      simp only [Option.some.injEq] at h
      subst h
      refine ⟨getS_of ρ hv, ?_⟩
      cases v <;> first | exact .inl ⟨_, rfl⟩ | exact .inr (.inr ⟨_, _, _, rfl⟩)
    · rename_i cs hv
      simp only [Option.some.injEq] at h
      subst h
      exact ⟨getS_of ρ hv, .inr (.inl ⟨_, rfl⟩)⟩
    · rename_i d hv
      split at h
      · rename_i cs hcs
        split at h
        · rename_i hpl
          simp only [Option.some.injEq] at h
          subst h
          exact ⟨getS_of ρ hv, by show (g d).den ρ = _; rw [hcs]; rfl, plainB_ok hpl ρ⟩
        · cases h
      · cases h
    · cases h

theorem argsOf_ok {P : Program} {g : Nat → SV} (ρ : Nat → V) : ∀ (xs : List Operand) (as : List SAK), argsOf P g xs = some as →
    xs.length = as.length ∧ ∀ (i : Nat) (x : Operand) (a : AK), xs[i]? = some x → (as.map (SAK.den ρ))[i]? = some a → a.ok P (fun d => (g d).den ρ) x
  | [], as, h => by simp only [argsOf, Option.some.injEq] at h; subst h; exact ⟨rfl, by simp⟩
  | x :: xs, as, h => by
    simp only [argsOf] at h
    split at h
    · rename_i a as' ha has
      simp only [Option.some.injEq] at h
      subst h
      obtain ⟨h1, h2⟩ := argsOf_ok ρ xs as' has
      refine ⟨by simp [h1], fun i y b hy hb => ?_⟩
      cases i with
      | zero =>
        simp only [List.map_cons, List.getElem?_cons_zero, Option.some.injEq] at hy hb
        subst hy
        subst hb
        exact argOf_ok ρ ha
      | succ i => exact h2 i y b (by simpa using hy) (by simpa using hb)
    · cases h

theorem nodupB_ok : ∀ (l : List Nat), nodupB l = true → l.Nodup
  | [], _ => List.nodup_nil
  | x :: xs, h => by
    simp only [nodupB, Bool.and_eq_true, Bool.not_eq_true', List.contains_eq_mem, decide_eq_false_iff_not] at h
    exact List.nodup_cons.2 ⟨h.1, nodupB_ok xs h.2⟩

theorem upsOf_den (ρ ρ' : Nat → V) : ∀ (as : List SAK) (os : List SV), upsS (as.map (SAK.den ρ)) (os.map (SV.den ρ')) = (upsOf as os).map fun u => (u.1, u.2.den ρ')
  | [], os => by cases os <;> rfl
  | a :: as, [] => by cases a <;> rfl
  | a :: as, o :: os => by
    cases a <;> simp only [List.map_cons, SAK.den, upsS, upsOf, upsOf_den ρ ρ' as os] <;> rfl

theorem upsOf_bd {n : Nat} : ∀ (as : List SAK) (os : List SV), (∀ o ∈ os, o.bd n) → ∀ u ∈ upsOf as os, u.2.bd n
  | [], os, _, u, h => by cases os <;> simp [upsOf] at h
  | a :: as, [], _, u, h => by cases a <;> simp [upsOf] at h
  | a :: as, o :: os, ho, u, h => by
    cases a with
    | imm x => exact upsOf_bd as os (fun o' h' => ho o' (by simp [h'])) u h
    | own t e l =>
      rcases List.mem_cons.1 h with rfl | h
      · trivial
      · exact upsOf_bd as os (fun o' h' => ho o' (by simp [h'])) u h
    | box d cs =>
      rcases List.mem_cons.1 h with rfl | h
      · exact ho o (by simp)
      · exact upsOf_bd as os (fun o' h' => ho o' (by simp [h'])) u h

end Go.AM
