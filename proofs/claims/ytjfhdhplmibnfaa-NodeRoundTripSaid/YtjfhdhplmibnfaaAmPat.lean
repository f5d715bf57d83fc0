/- What a slot is told to hold, and what stands there: the head of a loop. Generic: no program stands in it. -/
import Derived.Test.YtjfhdhplmibnfaaAmWeak
namespace Go.AM

def Fill (ρ : Nat → V) (n : Nat) (l : List V) : Prop := ∀ (j : Nat) (v : V), l[j]? = some v → ρ (n + j) = v

theorem Fill.tail {ρ : Nat → V} {n : Nat} {v : V} {l : List V} (h : Fill ρ n (v :: l)) : ρ n = v ∧ Fill ρ (n + 1) l :=
  ⟨h 0 v rfl, fun j u hj => by rw [show n + 1 + j = n + (j + 1) by omega]; exact h (j + 1) u (by simpa using hj)⟩

theorem Fill.app {ρ : Nat → V} {n : Nat} {l l' : List V} (h : Fill ρ n (l ++ l')) : Fill ρ n l ∧ Fill ρ (n + l.length) l' :=
  ⟨fun j v hj => h j v (by rw [List.getElem?_append_left (List.getElem?_eq_some_iff.1 hj).1]; exact hj),
   fun j v hj => by
    rw [show n + l.length + j = n + (l.length + j) by omega]
    exact h _ v (by rw [List.getElem?_append_right (by omega)]; simpa using hj)⟩

theorem Fill.bind (ρ : Nat → V) (n : Nat) (vs : List V) : Fill (bind ρ n vs) n vs := by
  intro j v hj
  unfold AM.bind
  rw [if_neg (by omega), show n + j - n = j by omega, hj]
  rfl

def vAt (us : List V) (j : Nat) : V := (us[j]?).getD (.i 0)

def shDen : Sh → V → AV
  | .int k, v => .val (.int k v.int)
  | .bool, v => .val (.bool v.bool)
  | .str, v => .val (.string v.str)
  | .slice s, v => .slice false s v.list
  | .own e, v => .own e v.list

def shsDen : List Sh → List V → Nat → List AV
  | [], _, _ => []
  | s :: ss, us, j => shDen s (vAt us j) :: shsDen ss us (j + 1)

theorem shDen_cell {s : Sh} (h : s.imm = true) (v : V) : (shDen s v).isCell = true := by cases s <;> simp [Sh.imm] at h <;> rfl

theorem vAt_mid (pre post : List V) (v : V) : vAt (pre ++ v :: post) pre.length = v := by simp [vAt]

theorem shsDen_len : ∀ (l : List Sh) (us : List V) (j : Nat), (shsDen l us j).length = l.length
  | [], _, _ => rfl
  | _ :: ss, us, j => by simp [shsDen, shsDen_len ss us (j + 1)]

theorem shsDen_cell : ∀ (l : List Sh) (us : List V) (j : Nat), l.all Sh.imm = true → ∀ c ∈ shsDen l us j, c.isCell = true
  | [], _, _, _ => by simp [shsDen]
  | s :: ss, us, j, h => by
    rw [List.all_cons, Bool.and_eq_true] at h
    intro c hc
    rcases List.mem_cons.1 hc with rfl | hc
    · exact shDen_cell h.1 _
    · exact shsDen_cell ss us (j + 1) h.2 c hc

section
variable {P : Program} {ρ : Nat → V}

theorem retC_ok {s : Sh} {x : SC} {v : VE} (h : retC s x = some v) : CellW P (x.den ρ) (shDen s (v.den ρ)) := by
  unfold retC at h
  split at h
  · split at h
    · simp only [Option.some.injEq] at h; subst h; rename_i hk; subst hk; exact .same (.inl rfl)
    · cases h
  · simp only [Option.some.injEq] at h; subst h; exact .same (.inl rfl)
  · simp only [Option.some.injEq] at h; subst h; exact .same (.inl rfl)
  · split at h
    · simp only [Option.some.injEq] at h; subst h; rename_i hk; subst hk; exact .imm
    · split at h
      · simp only [Option.some.injEq] at h; subst h; exact .immN
      · cases h
  · split at h
    · simp only [Option.some.injEq] at h; subst h; exact .give
    · cases h
  · cases h

theorem retOwn_ok {s : Sh} {e : TypeId} {l : LE} {v : VE} (h : retOwn P s e l = some v) : CellW P (.own e (l.den ρ)) (shDen s (v.den ρ)) := by
  unfold retOwn at h
  split at h
  · split at h
    · simp only [Option.some.injEq] at h; subst h; rename_i hk; subst hk; exact .same (.inr ⟨_, _, rfl⟩)
    · cases h
  · split at h
    · simp only [Option.some.injEq] at h; subst h; rename_i hk; subst hk; exact .own
    · cases h
  · cases h

theorem retCs_ok : ∀ (l : List Sh) (cs : List SC) (vs : List VE), retCs l cs = some vs → vs.length = l.length ∧ cs.length = l.length ∧ ∀ pre post : List V,
    ∀ (i : Nat) (c c' : AV), (cs.map (SC.den ρ))[i]? = some c → (shsDen l (pre ++ vs.map (VE.den ρ) ++ post) pre.length)[i]? = some c' → CellW P c c'
  | [], [], vs, h => by
    simp only [retCs, Option.some.injEq] at h
    subst h
    exact ⟨rfl, rfl, fun _ _ i c c' h => by simp at h⟩
  | [], _ :: _, _, h => by simp [retCs] at h
  | _ :: _, [], _, h => by simp [retCs] at h
  | s :: ss, c :: cs, us, h => by
    simp only [retCs] at h
    split at h
    · rename_i v vs hv hvs
      simp only [Option.some.injEq] at h
      subst h
      obtain ⟨h1, h2, h3⟩ := retCs_ok ss cs vs hvs
      refine ⟨by simp [h1], by simp [h2], fun pre post i c1 c2 hc1 hc2 => ?_⟩
      cases i with
      | zero =>
        simp only [shsDen, List.map_cons, List.getElem?_cons_zero, Option.some.injEq] at hc1 hc2
        subst hc1
        subst hc2
        rw [List.append_assoc, List.cons_append, vAt_mid]
        exact retC_ok hv
      | succ i =>
        have := h3 (pre ++ [v.den ρ]) post i c1 c2 (by simpa using hc1)
        simp only [List.append_assoc, List.cons_append, List.nil_append, List.length_append, List.length_cons, List.length_nil] at this
        simp only [shsDen, List.map_cons, List.getElem?_cons_succ, List.append_assoc, List.cons_append] at hc2
        exact this hc2
    · cases h

theorem retB_ok {s : Sh} {x : BC} {v : VE} (h : retB P s x = some v) : CellW P (x.den ρ) (shDen s (v.den ρ)) := by
  unfold retB at h
  split at h
  · exact retC_ok h
  · exact retOwn_ok h
  · cases h

theorem retBs_ok : ∀ (l : List Sh) (cs : List BC) (vs : List VE), retBs P l cs = some vs → vs.length = l.length ∧ cs.length = l.length ∧ ∀ pre post : List V,
    ∀ (i : Nat) (c c' : AV), (cs.map (BC.den ρ))[i]? = some c → (shsDen l (pre ++ vs.map (VE.den ρ) ++ post) pre.length)[i]? = some c' → CellW P c c'
  | [], [], vs, h => by
    simp only [retBs, Option.some.injEq] at h
    subst h
    exact ⟨rfl, rfl, fun _ _ i c c' h => by simp at h⟩
  | [], _ :: _, _, h => by simp [retBs] at h
  | _ :: _, [], _, h => by simp [retBs] at h
  | s :: ss, c :: cs, us, h => by
    simp only [retBs] at h
    split at h
    · rename_i v vs hv hvs
      simp only [Option.some.injEq] at h
      subst h
      obtain ⟨h1, h2, h3⟩ := retBs_ok ss cs vs hvs
      refine ⟨by simp [h1], by simp [h2], fun pre post i c1 c2 hc1 hc2 => ?_⟩
      cases i with
      | zero =>
        simp only [shsDen, List.map_cons, List.getElem?_cons_zero, Option.some.injEq] at hc1 hc2
        subst hc1
        subst hc2
        rw [List.append_assoc, List.cons_append, vAt_mid]
        exact retB_ok hv
      | succ i =>
        have := h3 (pre ++ [v.den ρ]) post i c1 c2 (by simpa using hc1)
        simp only [List.append_assoc, List.cons_append, List.nil_append, List.length_append, List.length_cons, List.length_nil] at this
        simp only [shsDen, List.map_cons, List.getElem?_cons_succ, List.append_assoc, List.cons_append] at hc2
        exact this hc2
    · cases h


end

theorem shDen_right (s : Sh) (v : V) : (shDen s v).isCell = true ∨ ∃ e xs, shDen s v = .own e xs := by
  cases s
  · exact .inl rfl
  · exact .inl rfl
  · exact .inl rfl
  · exact .inl rfl
  · exact .inr ⟨_, _, rfl⟩

theorem shsDen_right : ∀ (l : List Sh) (us : List V) (j : Nat), ∀ c ∈ shsDen l us j, c.isCell = true ∨ ∃ e xs, c = .own e xs
  | [], _, _ => by simp [shsDen]
  | s :: ss, us, j => by
    intro c hc
    rcases List.mem_cons.1 hc with rfl | hc
    · exact shDen_right _ _
    · exact shsDen_right ss us (j + 1) c hc


theorem shapeAt_sh {s : Sh} (hs : s.imm = true) {n : Nat} {ρ : Nat → V} {v : V} (h : ρ n = v) : (shapeAt s n).den ρ = shDen s v := by
  subst h
  cases s <;> simp [Sh.imm] at hs <;> rfl

theorem shapesAt_sh : ∀ (l : List Sh) (n m : Nat) (ρ : Nat → V) (us : List V), l.all Sh.imm = true → (∀ j, j < l.length → ρ (n + j) = vAt us (m + j)) → (shapesAt l n).map (SC.den ρ) = shsDen l us m
  | [], _, _, _, _, _, _ => rfl
  | s :: ss, n, m, ρ, us, hi, h => by
    rw [List.all_cons, Bool.and_eq_true] at hi
    rw [shapesAt, List.map_cons, shsDen, shapeAt_sh hi.1 (show ρ n = vAt us m from h 0 (by simp)), shapesAt_sh ss (n + 1) (m + 1) ρ us hi.2 fun j hj => by
      have := h (j + 1) (by simp; omega)
      rw [show n + 1 + j = n + (j + 1) by omega, show m + 1 + j = m + (j + 1) by omega]
      exact this]

theorem boxAt_sh {s : Sh} {n : Nat} {ρ : Nat → V} {v : V} (h : ρ n = v) : (boxAt s n).den ρ = shDen s v := by
  subst h
  cases s <;> rfl

theorem boxesAt_sh : ∀ (l : List Sh) (n m : Nat) (ρ : Nat → V) (us : List V), (∀ j, j < l.length → ρ (n + j) = vAt us (m + j)) → (boxesAt l n).map (BC.den ρ) = shsDen l us m
  | [], _, _, _, _, _ => rfl
  | s :: ss, n, m, ρ, us, h => by
    rw [boxesAt, List.map_cons, shsDen, boxAt_sh (show ρ n = vAt us m from h 0 (by simp)), boxesAt_sh ss (n + 1) (m + 1) ρ us fun j hj => by
      have := h (j + 1) (by simp; omega)
      rw [show n + 1 + j = n + (j + 1) by omega, show m + 1 + j = m + (j + 1) by omega]
      exact this]

def hpDen (h : HP) (us : List V) (j : Nat) : AV :=
  match h with
  | .c s => shDen s (vAt us j)
  | .agg l => .agg (shsDen l us j)
  | .box l => .box (shsDen l us j)
  | .row e => .box [.row e (vAt us j).int.toNat (vAt us (j + 1)).int.toNat (vAt us (j + 2)).list]
  | .mref d => .mref d
  | .ptr d o => .ptr d o
  | .dead => .dead

def HP.fine : HP → Bool
  | .agg l => l.all Sh.imm
  | _ => true

theorem hpAt_sh {h : HP} (hf : h.fine = true) {n m : Nat} {ρ : Nat → V} {us : List V} (hρ : ∀ j, j < h.n → ρ (n + j) = vAt us (m + j)) : (hpAt h n).den ρ = hpDen h us m := by
  cases h with
  | c s =>
    have h0 := hρ 0 (Nat.zero_lt_one)
    simp only [Nat.add_zero] at h0
    cases s <;> simp only [hpAt, hpDen, SV.den, shapeAt, SC.den, IE.den, BE.den, SE.den, LE.den, h0, shDen]
  | agg l => simp only [hpAt, hpDen, SV.den, shapesAt_sh l n m ρ us hf hρ]
  | box l => simp only [hpAt, hpDen, SV.den, boxesAt_sh l n m ρ us hρ]
  | row e =>
    have h0 := hρ 0 (by simp [HP.n])
    have h1 := hρ 1 (by simp [HP.n])
    have h2 := hρ 2 (by simp [HP.n])
    simp only [Nat.add_zero] at h0
    simp only [hpAt, hpDen, SV.den, List.map_cons, List.map_nil, BC.den, IE.den, LE.den, h0, h1, h2]
  | mref d => rfl
  | ptr d o => rfl
  | dead => rfl

/-- What refers to a box. -/
def RefW (h : HP) (x : AV) : Prop := (∃ d o, h = .ptr d o ∧ x = .ptr d o) ∨ ∃ d, h = .mref d ∧ x = .mref d

theorem hpVals_ok {P : Program} {ρ : Nat → V} {h : HP} {x : SV} {vs : List VE} (hv : hpVals P h x = some vs) : vs.length = h.n ∧ h.fine = true ∧ ∀ pre post : List V,
    RefW h (x.den ρ) ∨ SlotW P (x.den ρ) (hpDen h (pre ++ vs.map (VE.den ρ) ++ post) pre.length) := by
  unfold hpVals at hv
  split at hv
  · cases hd : retC _ _ with
    | none => rw [hd] at hv; cases hv
    | some v =>
      rw [hd] at hv
      simp only [Option.map_some, Option.some.injEq] at hv
      subst hv
      refine ⟨rfl, rfl, fun pre post => .inr ?_⟩
      simp only [hpDen, List.map_cons, List.map_nil, List.append_assoc, List.cons_append, List.nil_append, vAt_mid]
      exact .comp (.cell (retC_ok hd))
  · cases hd : retOwn P _ _ _ with
    | none => rw [hd] at hv; cases hv
    | some v =>
      rw [hd] at hv
      simp only [Option.map_some, Option.some.injEq] at hv
      subst hv
      refine ⟨rfl, rfl, fun pre post => .inr ?_⟩
      simp only [hpDen, List.map_cons, List.map_nil, List.append_assoc, List.cons_append, List.nil_append, vAt_mid]
      exact .comp (.cell (retOwn_ok hd))
  · split at hv
    · rename_i hi
      obtain ⟨h1, h2, h3⟩ := retCs_ok (P := P) (ρ := ρ) _ _ _ hv
      exact ⟨h1, hi, fun pre post => .inr (.comp (.agg (by rw [List.length_map, h2, shsDen_len]) (shsDen_cell _ _ _ hi) (h3 pre post)))⟩
    · cases hv
  · obtain ⟨h1, h2, h3⟩ := retBs_ok (P := P) (ρ := ρ) _ _ _ hv
    exact ⟨h1, rfl, fun pre post => .inr (.box (by rw [List.length_map, h2, shsDen_len]) (h3 pre post))⟩
  · split at hv
    · rename_i hh
      simp only [Option.some.injEq] at hv
      subst hv
      subst hh
      refine ⟨rfl, rfl, fun pre post => .inr ?_⟩
      have e0 : ∀ (a b c : V), vAt (pre ++ [a, b, c] ++ post) pre.length = a ∧ vAt (pre ++ [a, b, c] ++ post) (pre.length + 1) = b ∧ vAt (pre ++ [a, b, c] ++ post) (pre.length + 2) = c := by
        intro a b c
        refine ⟨?_, ?_, ?_⟩ <;> simp [vAt]
      simp only [hpDen, List.map_cons, List.map_nil, (e0 _ _ _).1, (e0 _ _ _).2.1, (e0 _ _ _).2.2]
      exact .row
    · cases hv
  · split at hv
    · rename_i hh
      simp only [Option.some.injEq] at hv
      subst hv
      subst hh
      exact ⟨rfl, rfl, fun _ _ => .inl (.inr ⟨_, rfl, rfl⟩)⟩
    · cases hv
  · split at hv
    · rename_i hh
      simp only [Option.some.injEq] at hv
      subst hv
      obtain ⟨rfl, rfl⟩ := hh
      exact ⟨rfl, rfl, fun _ _ => .inl (.inl ⟨_, _, rfl, rfl⟩)⟩
    · cases hv
  · simp only [Option.some.injEq] at hv
    subst hv
    exact ⟨rfl, rfl, fun _ _ => .inr .dead⟩
  · cases hv

/-- The slots of a head, each with its place among the values. -/
theorem headVals_at {P : Program} {g : Nat → SV} {ρ : Nat → V} : ∀ (hs : List (Nat × HP)) (n : Nat) (ves : List VE) (pre : List V), headVals P g hs = some ves → pre.length = n →
    (headUps hs n).2 = n + ves.length ∧ (headUps hs n).1.map (·.1) = hs.map (·.1) ∧ ∀ u ∈ (headUps hs n).1, ∃ h, (u.1, h) ∈ hs ∧ ∃ m, u.2 = hpAt h m ∧ m + h.n ≤ n + ves.length ∧ h.fine = true ∧
      ∀ post : List V, RefW h ((g u.1).den ρ) ∨ SlotW P ((g u.1).den ρ) (hpDen h (pre ++ ves.map (VE.den ρ) ++ post) m)
  | [], n, ves, pre, h, hp => by
    simp only [headVals, Option.some.injEq] at h
    subst h
    exact ⟨rfl, rfl, by simp [headUps]⟩
  | p :: r, n, ves, pre, h, hp => by
    simp only [headVals] at h
    split at h
    · rename_i v vs hv hvs
      simp only [Option.some.injEq] at h
      subst h
      obtain ⟨h1, h2, h3⟩ := hpVals_ok (P := P) (ρ := ρ) hv
      obtain ⟨g1, g2, g3⟩ := headVals_at r (n + p.2.n) vs (pre ++ v.map (VE.den ρ)) hvs (by simp [hp, h1])
      refine ⟨by simp only [headUps, g1, List.length_append, h1]; omega, by simp only [headUps, List.map_cons, g2], fun u hu => ?_⟩
      simp only [headUps, List.mem_cons] at hu
      rcases hu with rfl | hu
      · refine ⟨p.2, by simp, n, rfl, by simp only [List.length_append, h1]; omega, h2, fun post => ?_⟩
        have := h3 pre (vs.map (VE.den ρ) ++ post)
        rw [hp] at this
        simpa [List.append_assoc] using this
      · obtain ⟨h, k1, m, k2, k3, k4, k5⟩ := g3 u hu
        refine ⟨h, by simp [k1], m, k2, by simp only [List.length_append, h1]; omega, k4, fun post => ?_⟩
        have := k5 post
        simpa [List.append_assoc] using this
    · cases h

theorem headUps_bd : ∀ (hs : List (Nat × HP)) (n : Nat), n ≤ (headUps hs n).2 ∧ ∀ u ∈ (headUps hs n).1, u.2.bd (headUps hs n).2
  | [], n => ⟨Nat.le_refl _, by simp [headUps]⟩
  | p :: r, n => by
    obtain ⟨h1, h2⟩ := headUps_bd r (n + p.2.n)
    refine ⟨by simp only [headUps]; omega, fun u hu => ?_⟩
    simp only [headUps, List.mem_cons] at hu
    rcases hu with rfl | hu
    · have hb : (hpAt p.2 n).bd (n + p.2.n) := by
        cases hp : p.2 with
        | c s => cases s <;> exact Nat.lt_succ_self n
        | agg l => exact shapesAt_bd l n
        | box l => exact boxesAt_bd l n
        | row e =>
          intro c hc
          rw [List.mem_singleton.1 hc]
          exact ⟨by show n < n + 3; omega, by show n + 1 < n + 3; omega, by show n + 2 < n + 3; omega⟩
        | mref d => trivial
        | ptr d o => trivial
        | dead => trivial
      exact SV.bd_mono (by simpa [headUps] using h1) _ hb
    · exact h2 u hu

/-- What becomes of a slot that is seen as less. -/
def HeadW (P : Program) (σ σ' : Nat → AV) (d : Nat) : Prop :=
  SlotW P (σ d) (σ' d) ∨ (∃ d' o, σ d = .ptr d' o ∧ σ' d = .ptr d' o ∧ (∃ cs, σ' d' = .box cs)) ∨ ∃ d', σ d = .mref d' ∧ σ' d = .mref d' ∧ (∃ cs, σ' d' = .box cs)

theorem slot_weak_box {P : Program} {w : World} {lim : Nat → Nat} {X : Nat → Nat → Option Nat} {σ : Nat → AV} {d : Nat} {x : AV} {cs : List AV} {v : Value} (h : SlotR P w lim X σ d x v) (hw : SlotW P x (.box cs)) :
    ∃ r : Nat → Option Nat, (∀ k, r k = X d k ∨ r k = none) ∧ r 0 = X d 0 ∧ (∃ cs0, x = .box cs0) ∧ ∀ (X' : Nat → Nat → Option Nat) (σ' : Nat → AV) (d' : Nat), X' d' = r → SlotR P w lim X' σ' d' (.box cs) v := by
  cases hw with
  | comp hw =>
    cases hw with
    | cell hw => rcases cellW_right hw with h | ⟨_, _, h⟩ <;> cases h
  | row =>
    have hr := BoxR.row h
    exact ⟨fun k => match k with | 0 => X d 0 | k + 1 => none, fun k => by cases k with | zero => exact .inl rfl | succ k => exact .inr rfl, rfl, ⟨_, rfl⟩,
      fun X' σ' d' hX => .inr ⟨_, _, _, _, rfl, by rw [hX]; exact hr⟩⟩
  | @box cs0 _ hl hp =>
    obtain ⟨r, h1, h2⟩ := slot_weak h (.box hl hp)
    refine ⟨fun k => match k with | 0 => X d 0 | k + 1 => r (k + 1), fun k => ?_, rfl, ⟨cs0, rfl⟩, fun X' σ' d' hX => ?_⟩
    · cases k with
      | zero => exact .inl rfl
      | succ k => exact h1 (k + 1)
    · have h3 := h2 (fun i => if i = d' then r else X' i) σ' d' (by simp)
      obtain ⟨b, arr, t, g1, g2, g3, g4, g5, g6, g7⟩ := BoxR.plain h3 (noRow_right hl hp)
      obtain ⟨b', arr', t', f1, f2, _⟩ := BoxR.plain h (noRow_left hl hp)
      refine .inl ⟨b, arr, t, ?_, g2, g3, g4, g5, g6, fun i c u hc hu => ?_⟩
      · rw [hX, f1]
        rw [g2] at f2
        simp only [Value.pointer.injEq, Option.some.injEq, Addr.mk.injEq] at f2
        rw [f2.1]
      · have := g7 i c u hc hu
        simp only [if_true] at this
        rw [hX]
        exact this

theorem slotW_ptr {P : Program} {x : AV} {d o : Nat} (h : SlotW P x (.ptr d o)) : False := by
  cases h with
  | comp hw => cases hw with | cell hw => rcases cellW_right hw with h | ⟨_, _, h⟩ <;> cases h

theorem slotW_mref {P : Program} {x : AV} {d : Nat} (h : SlotW P x (.mref d)) : False := by
  cases h with
  | comp hw => cases hw with | cell hw => rcases cellW_right hw with h | ⟨_, _, h⟩ <;> cases h

theorem slotW_row {P : Program} {e : TypeId} {n cap : Nat} {xs : List (List AV)} {cs : List AV} (h : SlotW P (.box [.row e n cap xs]) (.box cs)) : cs = [.row e n cap xs] := by
  cases h with
  | comp hw => cases hw with | cell hw => rcases cellW_right hw with h | ⟨_, _, h⟩ <;> cases h
  | row => rfl
  | box hl hp => exact (noRow_left hl hp (.row e n cap xs) (by simp) _ _ _ _ rfl).elim

theorem Sim.head {c : Ctx} {σ σ' : Nat → AV} {tm : Array Value} {w : World} {lim : Nat → Nat} {X : Nat → Nat → Option Nat} (h : Sim c σ tm w lim X) (hw : ∀ d, HeadW c.P σ σ' d) (hout : ∀ d, c.nt ≤ d → σ' d = .dead)
    (hpin : ∀ d v, c.pin d = some v → ∃ cs, σ' d = .box cs) : ∃ X', Sim c σ' tm w lim X' := by
  have key : ∀ d, ∃ r : Nat → Option Nat, (∀ k, r k = X d k ∨ r k = none) ∧ ((∃ cs, σ' d = .box cs) → r 0 = X d 0 ∧ ∃ cs0, σ d = .box cs0) ∧
      ((∀ d' o, σ' d ≠ .ptr d' o) → (∀ d', σ' d ≠ .mref d') → ∀ X' : Nat → Nat → Option Nat, X' d = r → SlotR c.P w lim X' σ' d (σ' d) (tm.getD d undef)) := by
    intro d
    have hd := h.rel d
    rcases hw d with hs | ⟨d', o, h1, h2, h3⟩ | ⟨d', h1, h2, h3⟩
    · by_cases hb : ∃ cs, σ' d = .box cs
      · obtain ⟨cs, hcs⟩ := hb
        rw [hcs] at hs
        obtain ⟨r, g1, g2, g3, g4⟩ := slot_weak_box hd hs
        refine ⟨r, g1, fun _ => ⟨g2, g3⟩, fun _ _ X' hX => ?_⟩
        rw [hcs]
        exact g4 X' σ' d hX
      · obtain ⟨r, g1, g2⟩ := slot_weak hd hs
        exact ⟨r, g1, fun h => (hb h).elim, fun _ _ X' hX => g2 X' σ' d hX⟩
    · exact ⟨fun _ => none, fun _ => .inr rfl, fun ⟨cs, hcs⟩ => by (rw [h2] at hcs; cases hcs), fun hn => (hn d' o h2).elim⟩
    · exact ⟨fun _ => none, fun _ => .inr rfl, fun ⟨cs, hcs⟩ => by (rw [h2] at hcs; cases hcs), fun _ hn => (hn d' h2).elim⟩
  obtain ⟨X', hX⟩ := Classical.axiomOfChoice key
  have hle : ∀ d k b, X' d k = some b → X d k = some b := by
    intro d k b hb
    rcases (hX d).1 k with e | e
    · rw [← e]; exact hb
    · rw [e] at hb; cases hb
  refine ⟨X', ⟨fun d => ?_, h.size, hout, fun d k d' k' b h1 h2 => h.dist d k d' k' b (hle _ _ _ h1) (hle _ _ _ h2), fun d k b hb => h.ours d k b (hle _ _ _ hb), h.frm, fun d v hv => ⟨(h.pin d v hv).1, hpin d v hv⟩⟩⟩
  by_cases hp : ∃ d' o, σ' d = .ptr d' o
  · obtain ⟨d', o, hp⟩ := hp
    rcases hw d with hs | ⟨d2, o2, h1, h2, cs', h3⟩ | ⟨d2, h1, h2, cs', h3⟩
    · rw [hp] at hs
      exact (slotW_ptr hs).elim
    · rw [h2] at hp
      injection hp with e1 e2
      subst e1
      subst e2
      have hd := h.rel d
      rw [h1] at hd
      obtain ⟨b, cs, g1, g2, g3⟩ := hd
      rw [h2]
      refine ⟨b, cs', ?_, h3, g3⟩
      rw [((hX d2).2.1 ⟨cs', h3⟩).1, g1]
    · rw [h2] at hp; cases hp
  · by_cases hm : ∃ d', σ' d = .mref d'
    · obtain ⟨d', hm⟩ := hm
      rcases hw d with hs | ⟨d2, o2, h1, h2, cs', h3⟩ | ⟨d2, h1, h2, cs', h3⟩
      · rw [hm] at hs
        exact (slotW_mref hs).elim
      · rw [h2] at hm; cases hm
      · rw [h2] at hm
        injection hm with e1
        subst e1
        have hd := h.rel d
        rw [h1] at hd
        obtain ⟨b, e, n, cap, xs, g1, g2, g3⟩ := hd
        have hcs : cs' = [.row e n cap xs] := by
          rcases hw d2 with hs | ⟨d3, o3, k1, k2, _⟩ | ⟨d3, k1, k2, _⟩
          · rw [g2, h3] at hs; exact slotW_row hs
          · rw [g2] at k1; cases k1
          · rw [g2] at k1; cases k1
        rw [h2]
        refine ⟨b, e, n, cap, xs, ?_, by rw [h3, hcs], g3⟩
        rw [((hX d2).2.1 ⟨cs', h3⟩).1, g1]
    · exact (hX d).2.2 (fun d' o e => hp ⟨d', o, e⟩) (fun d' e => hm ⟨d', e⟩) X' rfl

end Go.AM
