/- The evaluator of one operation is sound: put together. Generic: no program stands in it. -/
import Derived.Test.YtjfhdhplmibnfaaAmSnd2
namespace Go.AM

theorem us1 {t n : Nat} {x : SV} (h : x.bd n) : ∀ u ∈ [(t, x)], u.2.bd n := by
  intro u hu
  rw [List.mem_singleton] at hu
  subst hu
  exact h

theorem us2 {t t' n : Nat} {x y : SV} (h : x.bd n) (h' : y.bd n) : ∀ u ∈ [(t, x), (t', y)], u.2.bd n := by
  intro u hu
  rcases List.mem_cons.1 hu with rfl | hu
  · exact h
  · exact us1 h' u hu

section
variable {P : Program} {E : Env} {tk : Bool} {R : AV → List AV → Prop} {A : Nat → List V → Prop} {ρ : Nat → V} {g : Nat → SV} {o : Oper} {n : Nat} {k : K}

theorem op_move {x : Operand} (hg : ∀ d, (g d).bd n) (ho : o.op = .move x) (h : (evOp P E tk g o n k).wp P R A ρ) : Goal P R A ρ g o n k := by
  have plain : (k (getO P g x) [] [] n).wp P R A ρ → Goal P R A ρ g o n k := fun hk => goalP hk (getO_bd hg x) (by rw [getO_den]; exact exok_move (.inl ho))
  simp only [evOp, ho] at h
  split at h
  · rename_i t
    have ht := hg t
    split at h
    · rename_i vs hv
      rw [hv] at ht
      exact goal0 h ht (us1 trivial) (exok_tuple ho (by rw [hv]; rfl))
    · rename_i e xs hv
      rw [hv] at ht
      split at h
      · exact goal0 h ht (us1 ht) (exok_take (.inl ho) (by rw [hv]; rfl))
      · refine plain ?_
        have : getO P g (.tmp t) = .c (.slice false (P.cellsOf e) xs) := by simp only [getO, hv]
        rw [this]
        exact h
    · exact plain h
  · exact plain h

theorem op_assign {x : Operand} (hg : ∀ d, (g d).bd n) (ho : o.op = .assign x) (h : (evOp P E tk g o n k).wp P R A ρ) : Goal P R A ρ g o n k := by
  have plain : (k (getO P g x) [] [] n).wp P R A ρ → Goal P R A ρ g o n k := fun hk => goalP hk (getO_bd hg x) (by rw [getO_den]; exact exok_move (.inr ho))
  simp only [evOp, ho] at h
  split at h
  · rename_i t
    have ht := hg t
    split at h
    · exact h.elim
    · rename_i e xs hv
      rw [hv] at ht
      split at h
      · exact goal0 h ht (us1 ht) (exok_take (.inr ho) (by rw [hv]; rfl))
      · refine plain ?_
        have : getO P g (.tmp t) = .c (.slice false (P.cellsOf e) xs) := by simp only [getO, hv]
        rw [this]
        exact h
    · exact plain h
  · split at h
    · exact goalP h trivial (exok_nil ho)
    · exact h.elim
  · exact plain h

theorem op_pick {c a b : Operand} (hg : ∀ d, (g d).bd n) (ho : o.op = .pick c a b) (h : (evOp P E tk g o n k).wp P R A ρ) : Goal P R A ρ g o n k := by
  simp only [evOp, ho] at h
  split at h
  · rename_i v hv
    obtain ⟨h1, h2⟩ := mkBranch_wp h
    have hc := getS_of ρ hv
    have hex := exok_pick ho hc
    cases hb : v.den ρ with
    | true =>
      rw [hb, if_pos rfl] at hex
      exact goalP (h1 hb) (getO_bd hg a) (by rw [getO_den]; exact hex)
    | false =>
      rw [hb, if_neg (by simp)] at hex
      exact goalP (h2 hb) (getO_bd hg b) (by rw [getO_den]; exact hex)
  · exact h.elim

theorem op_alloc {T : TypeId} (ho : o.op = .alloc T) (h : (evOp P E tk g o n k).wp P R A ρ) : Goal P R A ρ g o n k := by
  simp only [evOp, ho] at h
  split at h
  · rename_i cs hcs
    obtain ⟨i, z, h1, h2, h3, h4⟩ := zeroB_ok ρ n hcs
    exact goalP h h4 (exok_alloc ho h1 h2 h3)
  · exact h.elim

theorem op_box {T : TypeId} {x : Operand} (hg : ∀ d, (g d).bd n) (ho : o.op = .box T x) (h : (evOp P E tk g o n k).wp P R A ρ) : Goal P R A ρ g o n k := by
  simp only [evOp, ho] at h
  split at h
  · rename_i cs hcs
    refine goalP h (fun c hc => ?_) ?_
    · obtain ⟨y, hy, rfl⟩ := List.mem_map.1 hc
      exact cells_bd hcs (getO_bd hg x) y hy
    · have hd := cells_den ρ hcs
      have := exok_box ho (getO_den P g ρ x).symm hd
      have he : ((SV.box (cs.map .c)).den ρ) = .box (cs.map (SC.den ρ)) := by simp only [SV.den, List.map_map]; rfl
      rw [he]
      exact this
  · exact h.elim

theorem parts_den (parts : Array (Nat × Operand)) : (parts.toList.map fun p => (p.1, getS P (fun d => (g d).den ρ) p.2)) = (parts.toList.map fun p => (p.1, getO P g p.2)).map fun p => (p.1, p.2.den ρ) := by
  rw [List.map_map]
  refine List.map_congr_left fun p _ => ?_
  simp only [Function.comp, getO_den]

theorem parts_bd (hg : ∀ d, (g d).bd n) (parts : Array (Nat × Operand)) : ∀ p ∈ (parts.toList.map fun p => (p.1, getO P g p.2)), p.2.bd n := by
  intro p hp
  obtain ⟨q, _, rfl⟩ := List.mem_map.1 hp
  exact getO_bd hg q.2

theorem op_build {T : TypeId} {parts : Array (Nat × Operand)} (hg : ∀ d, (g d).bd n) (ho : o.op = .build T parts) (h : (evOp P E tk g o n k).wp P R A ρ) : Goal P R A ρ g o n k := by
  simp only [evOp, ho] at h
  split at h
  · rename_i fs i hT hi
    split at h
    · rename_i hall
      split at h
      · rename_i z hz
        split at h
        · rename_i zc hzc
          split at h
          · rename_i cs hcs
            refine goalP h (fillA_bd _ _ _ _ (ofCs_bd hzc) (parts_bd hg parts) hcs) ?_
            have h1 := ofCs_den ρ z.cells.toList
            rw [hzc] at h1
            refine exok_build ho hT hi hz h1.symm hall ?_
            rw [parts_den]
            exact fillA_den ρ _ _ _ _ hcs
          · exact h.elim
        · exact h.elim
      · exact h.elim
    · exact h.elim
  · exact h.elim

theorem rep_nil {w : World} {lim : Nat → Nat} {f g : Bool} {s s' : Nat} {v : Value} (hg : g = true → f = true) (h : Rep w lim (.slice f s []) v) : Rep w lim (.slice g s' []) v := by
  have key : ∀ (y : AV), Rep w lim y v → y = .slice f s [] → Rep w lim (.slice g s' []) v := by
    intro y hy hye
    cases hy with
    | sliceN => exact .sliceN
    | @sliceE f' s2 a cap hf =>
      injection hye with h1 h2 h3
      exact .sliceE fun h => hf (h1.trans (hg h))
    | @sliceC f' s2 xs b o cap us hs hc hf hle hlim hus hcell hr =>
      injection hye with h1 h2 h3
      subst h3
      exact .sliceE fun h => by have := hf (h1.trans (hg h)); simpa using this
    | val _ => cases hye
    | agg _ _ _ => cases hye
  exact key _ h rfl

theorem rep_imm {w : World} {lim : Nat → Nat} {f : Bool} {s : Nat} {xs : List (List AV)} {v : Value} (h : Rep w lim (.slice f s xs) v) : Rep w lim (.slice false s xs) v := by
  have key : ∀ (y : AV), Rep w lim y v → y = .slice f s xs → Rep w lim (.slice false s xs) v := by
    intro y hy hye
    cases hy with
    | sliceN => injection hye with h1 h2 h3; subst h3; exact .sliceN
    | @sliceE f' s2 a cap hf => injection hye with h1 h2 h3; subst h3; exact .sliceE fun h => by cases h
    | @sliceC f' s2 xs b o cap us hs hc hf hle hlim hus hcell hr =>
      injection hye with h1 h2 h3
      subst h2
      subst h3
      exact .sliceC hs hc (fun h => by cases h) hle hlim hus hcell hr
    | val _ => cases hye
    | agg _ _ _ => cases hye
  exact key _ h rfl

theorem normC_ok (ρ : Nat → V) {s : Sh} {c c' : SC} (h : normC s c = some c') : ∀ (w : World) (lim : Nat → Nat) (u : Value), Rep w lim (c.den ρ) u → Rep w lim (c'.den ρ) u := by
  unfold normC at h
  split at h
  · split at h
    · simp only [Option.some.injEq] at h
      subst h
      rename_i hk
      subst hk
      exact fun w lim u hr => rep_imm hr
    · split at h
      · simp only [Option.some.injEq] at h
        subst h
        exact fun w lim u hr => rep_nil (fun h => by cases h) hr
      · cases h
  · simp only [Option.some.injEq] at h
    subst h
    exact fun _ _ _ h => h

theorem normC_bd {n : Nat} {s : Sh} {c c' : SC} (h : normC s c = some c') (hb : c.bd n) : c'.bd n := by
  unfold normC at h
  split at h
  · split at h
    · simp only [Option.some.injEq] at h
      subst h
      exact hb
    · split at h
      · simp only [Option.some.injEq] at h
        subst h
        trivial
      · cases h
  · simp only [Option.some.injEq] at h
    subst h
    exact hb

theorem normCs_bd {n : Nat} : ∀ (l : List Sh) (cs cs' : List SC), normCs l cs = some cs' → (∀ c ∈ cs, c.bd n) → ∀ c ∈ cs', c.bd n
  | [], [], _, h, _ => by simp only [normCs, Option.some.injEq] at h; subst h; simp
  | [], _ :: _, _, h, _ => by simp [normCs] at h
  | _ :: _, [], _, h, _ => by simp [normCs] at h
  | s :: ss, c :: cs, r, h, hb => by
    simp only [normCs] at h
    split at h
    · rename_i v vs hv hvs
      simp only [Option.some.injEq] at h
      subst h
      intro x hx
      rcases List.mem_cons.1 hx with rfl | hx
      · exact normC_bd hv (hb c (by simp))
      · exact normCs_bd ss cs vs hvs (fun y hy => hb y (by simp [hy])) x hx
    · cases h

theorem normCs_at (ρ : Nat → V) : ∀ (l : List Sh) (cs cs' : List SC), normCs l cs = some cs' → cs'.length = cs.length ∧ ∀ (i : Nat) (c : SC), cs'[i]? = some c → ∃ c0, cs[i]? = some c0 ∧ ∀ (w : World) (lim : Nat → Nat) (u : Value), Rep w lim (c0.den ρ) u → Rep w lim (c.den ρ) u
  | [], [], _, h => by simp only [normCs, Option.some.injEq] at h; subst h; exact ⟨rfl, by simp⟩
  | [], _ :: _, _, h => by simp [normCs] at h
  | _ :: _, [], _, h => by simp [normCs] at h
  | s :: ss, c :: cs, r, h => by
    simp only [normCs] at h
    split at h
    · rename_i v vs hv hvs
      simp only [Option.some.injEq] at h
      subst h
      obtain ⟨h1, h2⟩ := normCs_at ρ ss cs vs hvs
      refine ⟨by simp [h1], fun i x hx => ?_⟩
      cases i with
      | zero =>
        simp only [List.getElem?_cons_zero, Option.some.injEq] at hx
        subst hx
        exact ⟨c, rfl, normC_ok ρ hv⟩
      | succ i => exact h2 i x (by simpa using hx)
    · cases h

theorem normCs_ok (ρ : Nat → V) (l : List Sh) (cs cs' : List SC) (h : normCs l cs = some cs') : (cs'.map (SC.den ρ)).length = (cs.map (SC.den ρ)).length ∧
    ∀ (w : World) (lim : Nat → Nat) (us : List Value), RelL w lim (cs.map (SC.den ρ)) us → RelL w lim (cs'.map (SC.den ρ)) us := by
  obtain ⟨h1, h2⟩ := normCs_at ρ l cs cs' h
  refine ⟨by simp [h1], fun w lim us hr => ⟨by rw [← hr.1]; simp [h1], fun x hx => ?_, fun i x u hx hu => ?_⟩⟩
  · obtain ⟨y, _, rfl⟩ := List.mem_map.1 hx
    exact scden_cell ρ y
  · rw [List.getElem?_map] at hx
    cases hc : cs'[i]? with
    | none => rw [hc] at hx; cases hx
    | some c =>
      rw [hc] at hx
      simp only [Option.map_some, Option.some.injEq] at hx
      subst hx
      obtain ⟨c0, g1, g2⟩ := h2 i c hc
      exact g2 w lim u (hr.2.2 i _ u (by rw [List.getElem?_map, g1]; rfl) hu)

theorem op_buildSlice {T : TypeId} {len : Nat} {parts : Array (Nat × Operand)} (hg : ∀ d, (g d).bd n) (ho : o.op = .buildSlice T len parts) (h : (evOp P E tk g o n k).wp P R A ρ) : Goal P R A ρ g o n k := by
  simp only [evOp, ho] at h
  split at h
  · rename_i e hT
    split at h
    · rename_i i hi
      split at h
      · rename_i z hz
        split at h
        · rename_i zc hzc
          split at h
          · rename_i hh
            split at h
            · rename_i cs sh hcs hsh
              split at h
              · rename_i cs' hcs'
                have hb : ∀ c ∈ cs, c.bd n := fillA_bd _ _ _ _ (fun c hc => by
                  obtain ⟨l, hl, hc⟩ := List.mem_flatten.1 hc
                  rw [(List.mem_replicate.1 hl).2] at hc
                  exact ofCs_bd hzc c hc) (parts_bd hg parts) hcs
                refine goalP h (x := .own e _) (lOf_bd _ _ (normCs_bd _ _ _ hcs' hb) _) ?_
                have h1 := ofCs_den ρ z.cells.toList
                rw [hzc] at h1
                have h2 := fillA_den ρ _ _ _ _ hcs
                rw [← parts_den, List.map_flatten, List.map_replicate] at h2
                have := exok_buildSlice ho hT hi hz h1.symm hh.1 hh.2.1 hh.2.2 h2 (normCs_ok ρ _ _ _ hcs')
                rw [← lOf_den] at this
                exact this
              · exact h.elim
            · exact h.elim
          · exact h.elim
        · exact h.elim
      · exact h.elim
    · exact h.elim
  · exact h.elim

theorem sc_strip (ρ : Nat → V) (x : SC) : stripS P (x.den ρ) = x.den ρ := by cases x <;> rfl

theorem op_load {T : TypeId} {a : Operand} (hg : ∀ d, (g d).bd n) (ho : o.op = .load T a) (h : (evOp P E tk g o n k).wp P R A ρ) : Goal P R A ρ g o n k := by
  have ba := getO_bd (P := P) hg a
  simp only [evOp, ho] at h
  split at h
  · rename_i d off hT ha
    split at h
    · rename_i cs hcs
      split at h
      · rename_i hle
        have hb := hg d
        rw [hcs] at hb
        refine goalP h (fun c hc => ?_) ?_
        · obtain ⟨y, hy, rfl⟩ := List.mem_map.1 hc
          exact stripB_bd (hb y (List.mem_of_mem_drop (List.mem_of_mem_take hy)))
        · have := exok_load_agg (cs := cs.map (BC.den ρ)) ho hT (getS_of ρ ha) (by rw [hcs]; rfl) (by simpa using hle.1) (plainB_ok hle.2 ρ)
          have he : (SV.agg (((cs.drop off).take (P.cellsOf T)).map (stripB P))).den ρ = .agg (((((cs.map (BC.den ρ)).drop off).take (P.cellsOf T))).map (stripS P)) := by
            simp only [SV.den, List.map_map, ← List.map_take, ← List.map_drop]
            congr 1
            exact List.map_congr_left fun b _ => stripB_den P ρ b
          rw [he]
          exact this
      · exact h.elim
    · exact h.elim
  · rename_i d off hT ha
    split at h
    · rename_i cs hcs
      have hb := hg d
      rw [hcs] at hb
      have hd : (fun d => (g d).den ρ) d = .box (cs.map (BC.den ρ)) := by show (g d).den ρ = _; rw [hcs]; rfl
      split at h
      case isFalse => exact h.elim
      rename_i hpl
      have hnr := plainB_ok hpl ρ
      split at h
      · rename_i e xs hx
        have hx' : (cs.map (BC.den ρ))[off]? = some (.own e (xs.den ρ)) := by rw [List.getElem?_map, hx]; rfl
        have hbx := hb _ (List.mem_of_getElem? hx)
        split at h
        · refine goal0 h hbx (us1 (fun c hc => ?_)) ?_
          · rcases List.mem_or_eq_of_mem_set hc with hc | rfl
            · exact hb c hc
            · exact hbx
          · have := exok_load_own ho hT (getS_of ρ ha) hd hx' hnr
            simp only [List.map_cons, List.map_nil, SV.den, List.map_set]
            exact this
        · exact goalP h hbx (exok_load_cell ho hT (getS_of ρ ha) hd hx' hnr)
      · rename_i x hx
        have hx' : (cs.map (BC.den ρ))[off]? = some (x.den ρ) := by rw [List.getElem?_map, hx]; rfl
        have := exok_load_cell ho hT (getS_of ρ ha) hd hx' hnr
        rw [sc_strip] at this
        exact goalP h (hb _ (List.mem_of_getElem? hx)) this
      · exact h.elim
      · exact h.elim
    · exact h.elim
  · rename_i cs hT ha
    rw [ha] at ba
    split at h
    · rename_i hle
      refine goalP h (fun c hc => ba c (List.mem_of_mem_take hc)) ?_
      have := exok_load_eagg (cs := cs.map (SC.den ρ)) ho hT (getS_of ρ ha) (by simpa using hle)
      rw [← List.map_take] at this
      exact this
    · exact h.elim
  · rename_i cs hT ha
    rw [ha] at ba
    split at h
    · rename_i x rest
      exact goalP h (ba x (by simp)) (exok_load_ecell (cs := rest.map (SC.den ρ)) ho hT (getS_of ρ ha))
    · exact h.elim
  · exact h.elim

theorem op_store {T : TypeId} {a x : Operand} (hg : ∀ d, (g d).bd n) (ho : o.op = .store T a x) (h : (evOp P E tk g o n k).wp P R A ρ) : Goal P R A ρ g o n k := by
  have bx := getO_bd (P := P) hg x
  simp only [evOp, ho] at h
  split at h
  · rename_i d off ha
    split at h
    · rename_i cs hcs
      have hb := hg d
      rw [hcs] at hb
      have hd : (fun d => (g d).den ρ) d = .box (cs.map (BC.den ρ)) := by show (g d).den ρ = _; rw [hcs]; rfl
      split at h
      · rename_i t e xs h1 h2
        have hx : x = .tmp t := by cases x <;> simp [slotOf] at h1; rw [h1]
        subst hx
        simp only [slotOf, Option.map_some, Option.some.injEq] at h2
        have ht := hg t
        rw [h2] at ht
        split at h
        · rename_i hh
          refine goal0 h trivial (us2 ht (fun c hc => ?_)) ?_
          · rcases List.mem_or_eq_of_mem_set hc with hc | rfl
            · exact hb c hc
            · exact ht
          · have := exok_store_own (e := e) (xs := xs.den ρ) ho (getS_of ρ ha) hd (by show (g t).den ρ = _; rw [h2]; rfl) hh.1 (by simpa using hh.2.1) (plainB_ok hh.2.2 ρ)
            simp only [List.map_cons, List.map_nil, SV.den, List.map_set]
            exact this
        · exact h.elim
      · split at h
        · rename_i vc hvc
          split at h
          · rename_i hh
            refine goal0 h trivial (us1 (fun c hc => ?_)) ?_
            · rcases List.mem_append.1 hc with hc | hc
              · rcases List.mem_append.1 hc with hc | hc
                · exact hb c (List.mem_of_mem_take hc)
                · obtain ⟨y, hy, rfl⟩ := List.mem_map.1 hc
                  exact cells_bd hvc bx y hy
              · exact hb c (List.mem_of_mem_drop hc)
            · have := exok_store (vc := vc.map (SC.den ρ)) ho (getS_of ρ ha) hd (getO_den P g ρ x).symm (cells_den ρ hvc) (by simpa using hh.1) (by omega) (by simpa using hh.2.2.1) (plainB_ok hh.2.2.2 ρ)
              have he : (SV.box (cs.take off ++ vc.map .c ++ cs.drop (off + P.cellsOf T))).den ρ = .box ((cs.map (BC.den ρ)).take off ++ vc.map (SC.den ρ) ++ (cs.map (BC.den ρ)).drop (off + P.cellsOf T)) := by
                simp only [SV.den, List.map_append, List.map_map, List.map_take, List.map_drop]
                rfl
              simp only [List.map_cons, List.map_nil, he]
              exact this
          · exact h.elim
        · exact h.elim
    · exact h.elim
  · rename_i d i s off ha
    split at h
    · rename_i e m cp l vc hcs hvc
      have hb := hg d
      rw [hcs] at hb
      have hb1 := hb _ (List.mem_singleton.2 rfl)
      have hpt := getO_bd (P := P) hg a
      rw [ha] at hpt
      have hd : (fun d => (g d).den ρ) d = .box [.row e (m.den ρ).toNat (cp.den ρ).toNat (l.den ρ)] := by show (g d).den ρ = _; rw [hcs]; rfl
      split at h
      · rename_i sh hsh
        split at h
        · rename_i vc' hvc'
          split at h
          · rename_i hh
            obtain ⟨r1, r2, h⟩ := h
            have r1' : 0 ≤ i.den ρ := r1
            have r2' : i.den ρ < m.den ρ := r2
            have hbv := normCs_bd _ _ _ hvc' (cells_bd hvc bx)
            refine goal0 h trivial (us1 (fun c hc => ?_)) ?_
            · rw [List.mem_singleton] at hc
              subst hc
              exact ⟨hb1.1, hb1.2.1, hb1.2.2, hpt, ceOf_bd _ hbv⟩
            · obtain ⟨h1, h2, h3, h4⟩ := hh
              subst h1
              have := exok_store_row (vc := vc.map (SC.den ρ)) (vc' := vc'.map (SC.den ρ)) ho (getS_of ρ ha) hd (getO_den P g ρ x).symm (cells_den ρ hvc) (by simpa using h2) (by omega) (by omega) h4 (normCs_ok ρ _ _ _ hvc')
              rw [← ceOf_den] at this
              exact this
          · exact h.elim
        · exact h.elim
      · exact h.elim
    · exact h.elim
  · exact h.elim

theorem op_nilCheck {x : Operand} (hg : ∀ d, (g d).bd n) (ho : o.op = .nilCheck x) (h : (evOp P E tk g o n k).wp P R A ρ) : Goal P R A ρ g o n k := by
  have bx := getO_bd (P := P) hg x
  simp only [evOp, ho] at h
  split at h
  · rename_i d off hx
    exact goalP h trivial (exok_nilCheck ho (getS_of ρ hx) (.inl ⟨_, _, rfl⟩))
  · rename_i cs hx
    rw [hx] at bx
    exact goalP h bx (exok_nilCheck ho (getS_of ρ hx) (.inr ⟨_, rfl⟩))
  · rename_i d i s off hx
    rw [hx] at bx
    exact goalP h bx (exok_nilCheck ho (getS_of ρ hx) (.inl ⟨_, _, rfl⟩))
  · exact h.elim

theorem op_unOp {op : UnOp} {T : TypeId} {x : Operand} (hg : ∀ d, (g d).bd n) (ho : o.op = .unOp op T x) (h : (evOp P E tk g o n k).wp P R A ρ) : Goal P R A ρ g o n k := by
  have bx := getO_bd (P := P) hg x
  simp only [evOp, ho] at h
  split at h
  · rename_i b hx
    rw [hx] at bx
    refine goalP h (mkNot_bd bx) ?_
    have := exok_not ho (getS_of ρ hx)
    rw [← mkNot_den] at this
    exact this
  · rename_i kd e hx
    rw [hx] at bx
    exact goalP h ⟨trivial, bx⟩ (exok_neg ho (getS_of ρ hx))
  · exact h.elim

theorem op_convert {S T : TypeId} {x : Operand} (hg : ∀ d, (g d).bd n) (ho : o.op = .convert S T x) (h : (evOp P E tk g o n k).wp P R A ρ) : Goal P R A ρ g o n k := by
  have bx := getO_bd (P := P) hg x
  simp only [evOp, ho] at h
  split at h
  · rename_i hS hT hx
    rw [hx] at bx
    exact goalP h bx (exok_conv ho hS hT (getS_of ρ hx))
  · rename_i hS hT hx
    rw [hx] at bx
    split at h
    · rename_i he
      split at h
      · rename_i hs
        subst hs
        exact goalP h.2 bx (exok_bytes ho hS he hT (getS_of ρ hx) h.1)
      · exact h.elim
    · exact h.elim
  · exact h.elim

theorem op_fieldAddr {T : TypeId} {x : Operand} {f : Nat} (hg : ∀ d, (g d).bd n) (ho : o.op = .fieldAddr T x f) (h : (evOp P E tk g o n k).wp P R A ρ) : Goal P R A ρ g o n k := by
  have bx := getO_bd (P := P) hg x
  simp only [evOp, ho] at h
  split at h
  · rename_i hf hx
    exact goalP h trivial (exok_field_ptr ho hf (getS_of ρ hx))
  · rename_i off cs hf hx
    rw [hx] at bx
    refine goalP h (fun c hc => bx c (List.mem_of_mem_drop hc)) ?_
    have := exok_field_eptr (cs := cs.map (SC.den ρ)) ho hf (getS_of ρ hx)
    rw [← List.map_drop] at this
    exact this
  · rename_i off d i s off' hf hx
    rw [hx] at bx
    refine goalP h bx ?_
    have := exok_field_ptr ho hf (getS_of ρ hx)
    rw [Nat.add_assoc] at this
    exact this
  · exact h.elim

theorem op_indexAddr {T : TypeId} {x i : Operand} (hg : ∀ d, (g d).bd n) (ho : o.op = .indexAddr T x i) (h : (evOp P E tk g o n k).wp P R A ρ) : Goal P R A ρ g o n k := by
  simp only [evOp, ho] at h
  split at h
  · rename_i hT hx hi
    split at h
    · rename_i sh hsh
      split at h
      · rename_i hh
        obtain ⟨vs, h1, h2, h3⟩ := h
        exact ⟨bind ρ n vs, n + sh.length, .eptr (shapesAt sh n), [], [], Nat.le_add_right _ _, bind_lt ρ n vs, shapesAt_bd sh n, by simp, h3,
          exok_index ho hT hh.1 (by omega) (getS_of ρ hx) (getS_of ρ hi) h1 h2⟩
      · exact h.elim
    · exact h.elim
  · rename_i e d kd ix hT hx hi
    split at h
    · rename_i e' m cp l hcs
      split at h
      · rename_i hh
        obtain ⟨rfl, h0⟩ := hh
        obtain ⟨r1, r2, h⟩ := h
        have r1' : 0 ≤ ix.den ρ := r1
        have r2' : ix.den ρ < m.den ρ := r2
        have bi := getO_bd (P := P) hg i
        rw [hi] at bi
        exact goalP h bi (exok_index_row ho hT (by omega) (getS_of ρ hx) (by show (g d).den ρ = _; rw [hcs]; rfl) (getS_of ρ hi) r1' (by omega))
      · exact h.elim
    · exact h.elim
  · exact h.elim

theorem op_make {T : TypeId} {a b : Operand} (hg : ∀ d, (g d).bd n) (ho : o.op = .makeSlice T a b) (h : (evOp P E tk g o n k).wp P R A ρ) : Goal P R A ρ g o n k := by
  simp only [evOp, ho] at h
  split at h
  · rename_i t t' ha hb
    have hxa : a = .tmp t := by cases a <;> simp [slotOf] at ha; rw [ha]
    have hxb : b = .tmp t' := by cases b <;> simp [slotOf] at hb; rw [hb]
    subst hxa
    subst hxb
    split at h
    · rename_i e kd m hT hx
      have bm := getO_bd (P := P) hg (.tmp t)
      rw [hx] at bm
      split at h
      · rename_i i hi
        split at h
        · rename_i z hz
          split at h
          · rename_i zc sh hzc hsh
            split at h
            · rename_i zc' hzc'
              split at h
              · rename_i hh
                obtain ⟨rfl, hzs⟩ := hh
                have h1 := ofCs_den ρ z.cells.toList
                rw [hzc] at h1
                refine goalP h.2 (fun c hc => ?_) ?_
                · rw [List.mem_singleton] at hc
                  subst hc
                  exact ⟨bm, bm, bm, ceOf_bd _ (normCs_bd _ _ _ hzc' (ofCs_bd hzc))⟩
                · have := exok_make (zc := zc.map (SC.den ρ)) (zc' := zc'.map (SC.den ρ)) ho hT hi hz hzs h1.symm (getS_of ρ hx) h.1.1 h.1.2 (normCs_ok ρ _ _ _ hzc')
                  rw [← ceOf_den] at this
                  exact this
              · exact h.elim
            · exact h.elim
          · exact h.elim
        · exact h.elim
      · exact h.elim
    · exact h.elim
  · exact h.elim

theorem op_slice {T : TypeId} {x : Operand} {lo hi mx : Option Operand} (hg : ∀ d, (g d).bd n) (ho : o.op = .slice T x lo hi mx) (h : (evOp P E tk g o n k).wp P R A ρ) : Goal P R A ρ g o n k := by
  have bx := getO_bd (P := P) hg x
  simp only [evOp, ho] at h
  split at h
  · rename_i e full s xs hT hx
    rw [hx] at bx
    have sx := getS_of ρ hx
    split at h
    · rename_i hh
      have hs0 : P.cellsOf e ≠ 0 := by omega
      unfold sliceOp at h
      split at h
      · rename_i k1 k2 h1 h2 h3
        cases lo with
        | some y => simp at h1
        | none =>
          cases hi with
          | none => simp at h2
          | some y =>
            cases mx with
            | none => simp at h3
            | some z =>
              simp only [Option.map_some, Option.some.injEq] at h2 h3
              exact goalP h trivial (exok_cut00 ho hT hs0 sx (getS_of ρ h2) (getS_of ρ h3))
      · rename_i h1 h2 h3
        cases lo with
        | some y => simp at h1
        | none =>
          cases hi with
          | some y => simp at h2
          | none =>
            cases mx with
            | some z => simp at h3
            | none =>
              have := exok_cut (l := 0) (h := (xs.den ρ).length) (f' := full) ho hT hh.1 hs0 sx (Nat.zero_le _) (Nat.le_refl _) (.inl ⟨rfl, rfl⟩) (.inl ⟨rfl, rfl⟩) (fun h => ⟨h, rfl⟩)
              rw [List.take_length, List.drop_zero] at this
              exact goalP h bx this
      · rename_i kl l h1 h2 h3
        cases lo with
        | none => simp at h1
        | some y =>
          cases hi with
          | some y => simp at h2
          | none =>
            cases mx with
            | some z => simp at h3
            | none =>
              simp only [Option.map_some, Option.some.injEq] at h1
              have by1 := getO_bd (P := P) hg y
              rw [h1] at by1
              obtain ⟨r1, r2, h⟩ := h
              have r1' : 0 ≤ l.den ρ := r1
              have r2' : l.den ρ ≤ ((xs.den ρ).length : Int) := r2
              have sy := getS_of ρ h1
              have e1 : ((l.den ρ).toNat : Int) = l.den ρ := Int.toNat_of_nonneg r1'
              have := exok_cut (l := (l.den ρ).toNat) (h := (xs.den ρ).length) (f' := full) ho hT hh.1 hs0 sx (by omega) (Nat.le_refl _) (.inr ⟨y, kl, rfl, by rw [e1]; exact sy⟩) (.inl ⟨rfl, rfl⟩) (fun h => ⟨h, rfl⟩)
              rw [List.take_length] at this
              exact goalP h ⟨bx, by1⟩ this
      · rename_i kl l h1 h2 h3
        cases lo with
        | some y => simp at h1
        | none =>
          cases hi with
          | none => simp at h2
          | some y =>
            cases mx with
            | some z => simp at h3
            | none =>
              simp only [Option.map_some, Option.some.injEq] at h2
              have by1 := getO_bd (P := P) hg y
              rw [h2] at by1
              obtain ⟨r1, r2, h⟩ := h
              have r1' : 0 ≤ l.den ρ := r1
              have r2' : l.den ρ ≤ ((xs.den ρ).length : Int) := r2
              have sy := getS_of ρ h2
              have e1 : ((l.den ρ).toNat : Int) = l.den ρ := Int.toNat_of_nonneg r1'
              have := exok_cut (l := 0) (h := (l.den ρ).toNat) (f' := false) ho hT hh.1 hs0 sx (Nat.zero_le _) (by omega) (.inl ⟨rfl, rfl⟩) (.inr ⟨y, kl, rfl, by rw [e1]; exact sy⟩) (fun h => by simp at h)
              rw [List.drop_zero] at this
              exact goalP h ⟨bx, by1⟩ this
      · rename_i kl l kh hb h1 h2 h3
        cases lo with
        | none => simp at h1
        | some y =>
          cases hi with
          | none => simp at h2
          | some z =>
            cases mx with
            | some z => simp at h3
            | none =>
              simp only [Option.map_some, Option.some.injEq] at h1 h2
              have by1 := getO_bd (P := P) hg y
              rw [h1] at by1
              have by2 := getO_bd (P := P) hg z
              rw [h2] at by2
              obtain ⟨r1, r2, r3, h⟩ := h
              have r1' : 0 ≤ l.den ρ := r1
              have r2' : l.den ρ ≤ hb.den ρ := r2
              have r3' : hb.den ρ ≤ ((xs.den ρ).length : Int) := r3
              have sy := getS_of ρ h1
              have sz := getS_of ρ h2
              have e1 : ((l.den ρ).toNat : Int) = l.den ρ := Int.toNat_of_nonneg r1'
              have e2 : ((hb.den ρ).toNat : Int) = hb.den ρ := Int.toNat_of_nonneg (by omega)
              have := exok_cut (l := (l.den ρ).toNat) (h := (hb.den ρ).toNat) (f' := false) ho hT hh.1 hs0 sx (by omega) (by omega) (.inr ⟨y, kl, rfl, by rw [e1]; exact sy⟩) (.inr ⟨z, kh, rfl, by rw [e2]; exact sz⟩) (fun h => by simp at h)
              exact goalP h ⟨⟨bx, by2⟩, by1⟩ this
      · exact h.elim
    · exact h.elim
  · exact h.elim

theorem op_extract {x : Operand} {i : Nat} (hg : ∀ d, (g d).bd n) (ho : o.op = .extract x i) (h : (evOp P E tk g o n k).wp P R A ρ) : Goal P R A ρ g o n k := by
  simp only [evOp, ho] at h
  split at h
  · rename_i t vs h1 h2
    have hx : x = .tmp t := by cases x <;> simp [slotOf] at h1; rw [h1]
    subst hx
    simp only [slotOf, Option.map_some, Option.some.injEq] at h2
    have hb := hg t
    rw [h2] at hb
    have ht : (fun d => (g d).den ρ) t = .tuple (vs.map (TC.den ρ)) := by show (g t).den ρ = _; rw [h2]; rfl
    split at h
    · rename_i e xs hv
      have hv' : (vs.map (TC.den ρ))[i]? = some (.own e (xs.den ρ)) := by rw [List.getElem?_map, hv]; rfl
      have hbx := hb _ (List.mem_of_getElem? hv)
      refine goal0 h hbx (us1 (fun c hc => ?_)) ?_
      · rcases List.mem_or_eq_of_mem_set hc with hc | rfl
        · exact hb c hc
        · exact hbx
      · have := exok_extract_own (P := P) (σ := fun d => (g d).den ρ) ho ht hv'
        simp only [List.map_cons, List.map_nil, SV.den, List.map_set]
        exact this
    · rename_i y hv
      have hv' : (vs.map (TC.den ρ))[i]? = some (y.den ρ) := by rw [List.getElem?_map, hv]; rfl
      refine goalP h (hb _ (List.mem_of_getElem? hv)) (exok_extract (σ := fun d => (g d).den ρ) ho ht hv' ?_ ?_ ?_ ?_ ?_)
      · cases y <;> rfl
      all_goals first
        | (intro d p; cases y <;> simp [SV.den, SC.den])
        | (intro d; cases y <;> simp [SV.den, SC.den])
        | (cases y <;> simp [SV.den, SC.den])
    · rename_i cs hv
      have hv' : (vs.map (TC.den ρ))[i]? = some (.agg (cs.map (SC.den ρ))) := by rw [List.getElem?_map, hv]; rfl
      exact goalP h (hb _ (List.mem_of_getElem? hv)) (exok_extract (σ := fun d => (g d).den ρ) ho ht hv' rfl (fun _ _ h => by cases h) (fun _ h => by cases h) (fun h => by cases h) (fun h => by cases h))
    · exact h.elim
  · exact h.elim

theorem op_len {c : Call} (hg : ∀ d, (g d).bd n) (ho : o.op = .call c) (hc : c.callee = .builtin .len) (h : (evOp P E tk g o n k).wp P R A ρ) : Goal P R A ρ g o n k := by
  simp only [evOp, ho, hc] at h
  split at h
  · rename_i x T hargs hts
    have bx := getO_bd (P := P) hg x
    split at h
    · rename_i d hx
      split at h
      · rename_i e e' m cp l hT hcs
        have hb := hg d
        rw [hcs] at hb
        have hb1 := hb _ (List.mem_singleton.2 rfl)
        exact goalP h hb1.2.2 (exok_len_row ho hc hargs hts hT (getS_of ρ hx) (by show (g d).den ρ = _; rw [hcs]; rfl))
      · exact h.elim
    · unfold lenOp at h
      split at h
      · rename_i hT hx
        rw [hx] at bx
        exact goalP h bx (exok_len_slice ho hc hargs hts hT (getS_of ρ hx))
      · rename_i hT hx
        rw [hx] at bx
        exact goalP h bx (exok_len_str ho hc hargs hts hT (getS_of ρ hx))
      · exact h.elim
  · exact h.elim

theorem op_copy {c : Call} (hg : ∀ d, (g d).bd n) (ho : o.op = .call c) (hc : c.callee = .builtin .copy) (h : (evOp P E tk g o n k).wp P R A ρ) : Goal P R A ρ g o n k := by
  simp only [evOp, ho, hc] at h
  split at h
  · rename_i x y T T' hargs hts
    split at h
    · rename_i e d f s ys hT hx hy
      split at h
      · rename_i e' m cp l hcs
        split at h
        · rename_i hh
          obtain ⟨rfl, h1, rfl⟩ := hh
          have hb := hg d
          rw [hcs] at hb
          have hb1 := hb _ (List.mem_singleton.2 rfl)
          have by1 := getO_bd (P := P) hg y
          rw [hy] at by1
          refine goal0 h trivial (us1 (fun c hc => ?_)) (exok_copy_row (f := f) ho hc hargs hts hT h1 (getS_of ρ hx) (by show (g d).den ρ = _; rw [hcs]; rfl) (getS_of ρ hy))
          rw [List.mem_singleton] at hc
          subst hc
          exact ⟨hb1.1, hb1.2.1, hb1.2.2, by1⟩
        · exact h.elim
      · exact h.elim
    · exact h.elim
  · exact h.elim

theorem appendOp_ok {c : Call} {T : TypeId} {x y : Operand} (src : Option Nat) {xv : SV} (hg : ∀ d, (g d).bd n) (ho : o.op = .call c) (hc : c.callee = .builtin .append) (hargs : c.args.toList = [x, y])
    (hts : c.argTypes.toList = [T, T]) (hsrc : ∀ t, src = some t → x = .tmp t ∧ xv = g t) (hnone : src = none → xv = getO P g x)
    (h : (appendOp P T src xv (getO P g y) fun v us => k v us [] n).wp P R A ρ) : Goal P R A ρ g o n k := by
  have bY := getO_bd (P := P) hg y
  have hxv : xv.bd n := by
    cases src with
    | none => rw [hnone rfl]; exact getO_bd hg x
    | some t => rw [(hsrc t rfl).2]; exact hg t
  unfold appendOp at h
  split at h
  · rename_i e hT
    split at h
    · rename_i i hi
      split at h
      · rename_i z hz
        split at h
        · rename_i hh
          split at h
          · rename_i e' xs f s ys hy
            rw [hy] at bY
            split at h
            · rename_i t
              obtain ⟨rfl, hx⟩ := hsrc t rfl
              split at h
              · rename_i he
                obtain ⟨rfl, rfl⟩ := he
                refine goal0 h.2 ⟨hxv, bY⟩ (us1 hxv) ?_
                exact exok_append_own (σ := fun d => (g d).den ρ) ho hc hargs hts hT hi hz hh.1 (by show (g t).den ρ = _; rw [← hx]; rfl) (getS_of ρ hy) h.1
              · exact h.elim
            · exact h.elim
          · rename_i s0 f s ys hy
            rw [hy] at bY
            split at h
            · rename_i he
              subst he
              refine goal0 h.2 bY (by simp) ?_
              have hx : getS P (fun d => (g d).den ρ) x = .slice true s0 [] := by
                cases src with
                | none => exact getS_of ρ (hnone rfl).symm
                | some t =>
                  obtain ⟨rfl, hx⟩ := hsrc t rfl
                  simp only [getS, ← hx]
                  rfl
              exact exok_append_full (σ := fun d => (g d).den ρ) ho hc hargs hts hT hi hz hh.1 hx (getS_of ρ hy) h.1
            · exact h.elim
          · exact h.elim
        · exact h.elim
      · exact h.elim
    · exact h.elim
  · exact h.elim

theorem op_append {c : Call} (hg : ∀ d, (g d).bd n) (ho : o.op = .call c) (hc : c.callee = .builtin .append) (h : (evOp P E tk g o n k).wp P R A ρ) : Goal P R A ρ g o n k := by
  simp only [evOp, ho, hc] at h
  split at h
  · rename_i x y T T' hargs hts
    split at h
    · rename_i hTT
      subst hTT
      split at h
      · rename_i t ht
        have hx : x = .tmp t := by cases x <;> simp [slotOf] at ht; rw [ht]
        exact appendOp_ok (some t) hg ho hc hargs hts (fun t' ht' => by simp only [Option.some.injEq] at ht'; subst ht'; exact ⟨hx, rfl⟩) (fun h => by cases h) h
      · exact appendOp_ok none hg ho hc hargs hts (fun t' ht' => by cases ht') (fun _ => rfl) h
    · exact h.elim
  · exact h.elim

theorem two_of {c : Call} {ka kb : IntKind} {a b : IE} (h : c.args.toList.map (getO P g) = [.c (.int ka a), .c (.int kb b)]) :
    ∃ x y, c.args.toList = [x, y] ∧ getO P g x = .c (.int ka a) ∧ getO P g y = .c (.int kb b) := by
  cases hl : c.args.toList with
  | nil => simp [hl] at h
  | cons x l =>
    cases l with
    | nil => simp [hl] at h
    | cons y l =>
      cases l with
      | nil => simp only [hl, List.map_cons, List.map_nil, List.cons.injEq, and_true] at h; exact ⟨x, y, rfl, h.1, h.2⟩
      | cons z l => simp [hl] at h

theorem op_min {c : Call} (hg : ∀ d, (g d).bd n) (ho : o.op = .call c) (hc : c.callee = .builtin .min) (h : (evOp P E tk g o n k).wp P R A ρ) : Goal P R A ρ g o n k := by
  simp only [evOp, ho, hc] at h
  split at h
  · rename_i ka a kb b hl
    obtain ⟨x, y, h1, h2, h3⟩ := two_of hl
    split at h
    · rename_i he
      subst he
      have b1 := getO_bd (P := P) hg x
      have b2 := getO_bd (P := P) hg y
      rw [h2] at b1
      rw [h3] at b2
      exact goalP h ⟨b1, b2⟩ (exok_minmax (mn := true) ho hc h1 (getS_of ρ h2) (getS_of ρ h3))
    · exact h.elim
  · exact h.elim

theorem op_max {c : Call} (hg : ∀ d, (g d).bd n) (ho : o.op = .call c) (hc : c.callee = .builtin .max) (h : (evOp P E tk g o n k).wp P R A ρ) : Goal P R A ρ g o n k := by
  simp only [evOp, ho, hc] at h
  split at h
  · rename_i ka a kb b hl
    obtain ⟨x, y, h1, h2, h3⟩ := two_of hl
    split at h
    · rename_i he
      subst he
      have b1 := getO_bd (P := P) hg x
      have b2 := getO_bd (P := P) hg y
      rw [h2] at b1
      rw [h3] at b2
      exact goalP h ⟨b1, b2⟩ (exok_minmax (mn := false) ho hc h1 (getS_of ρ h2) (getS_of ρ h3))
    · exact h.elim
  · exact h.elim

theorem sak_slots (ρ : Nat → V) (l : List SAK) : (l.map (SAK.den ρ)).filterMap AK.slot = l.filterMap SAK.slot := by
  rw [List.filterMap_map]
  congr 1
  funext a
  exact sak_slot ρ a

theorem op_call {c : Call} {f : FuncId} (ho : o.op = .call c) (hc : c.callee = .value (.func f)) (h : (evOp P E tk g o n k).wp P R A ρ) : Goal P R A ρ g o n k := by
  simp only [evOp, ho, hc] at h
  split at h
  · rename_i saks Ts hs _
    split at h
    · rename_i hnd
      split at h
      · rename_i res sh n' hr
        obtain ⟨q1, q2, q3⟩ := resultAt_ok hr
        obtain ⟨vs, h1, h2⟩ := h
        obtain ⟨a1, a2⟩ := argsOf_ok ρ _ _ hs
        have hlen : ((outsOf (saks.map SAK.sv) n').1).length = saks.length := by rw [outsOf_len, List.length_map]
        refine ⟨bind ρ n vs, (outsOf (saks.map SAK.sv) n').2.2, res, upsOf saks (outsOf (saks.map SAK.sv) n').1, saks.filterMap SAK.slot, Nat.le_trans q1 (outsOf_le _ _), bind_lt ρ n vs, SV.bd_mono (outsOf_le _ _) _ q2,
          upsOf_bd _ _ (outsOf_bd _ _), h2, ?_⟩
        have := exok_call (σ := fun d => (g d).den ρ) (aks := saks.map (SAK.den ρ)) (res := res.den (bind ρ n vs)) (outs := (outsOf (saks.map SAK.sv) n').1.map (SV.den (bind ρ n vs))) ho hc (by simpa using a1) a2
          (by rw [sak_slots]; exact nodupB_ok _ hnd) (by simp [hlen]) (fun i d cs y hi hy => ?_) (q3 _) ?_
        · rw [upsOf_den, sak_slots] at this
          exact this
        · rw [List.getElem?_map] at hi hy
          cases hsi : saks[i]? with
          | none => simp [hsi] at hi
          | some a =>
            cases hyi : (outsOf (saks.map SAK.sv) n').1[i]? with
            | none => simp [hyi] at hy
            | some y0 =>
              simp only [hsi, hyi, Option.map_some, Option.some.injEq] at hi hy
              subst hy
              cases a with
              | imm x => cases hi
              | own t e l => cases hi
              | box d0 cs0 =>
                obtain ⟨cs', rfl⟩ := outsOf_box (saks.map SAK.sv) n' i cs0 y0 (by rw [List.getElem?_map, hsi]; rfl) hyi
                exact ⟨_, rfl⟩
        · have he : (saks.map (SAK.den ρ)).map AK.av = (saks.map SAK.sv).map (SV.den ρ) := by
            rw [List.map_map, List.map_map]
            exact List.map_congr_left fun a _ => sak_av ρ a
          rw [he]
          exact h1
      · exact h.elim
    · exact h.elim
  · exact h.elim

theorem evOp_sound (hps : PlainSound P E.plain) (hg : ∀ d, (g d).bd n) (h : (evOp P E tk g o n k).wp P R A ρ) : Goal P R A ρ g o n k := by
  cases ho : o.op with
  | move x => exact op_move hg ho h
  | assign x => exact op_assign hg ho h
  | pick c a b => exact op_pick hg ho h
  | alloc T => exact op_alloc ho h
  | box T x => exact op_box hg ho h
  | build T parts => exact op_build hg ho h
  | buildSlice T len parts => exact op_buildSlice hg ho h
  | load T a => exact op_load hg ho h
  | store T a x => exact op_store hg ho h
  | nilCheck x => exact op_nilCheck hg ho h
  | binOp op T x y T' => exact bin_sound hps hg ho (by simp only [evOp, ho] at h; exact h)
  | unOp op T x => exact op_unOp hg ho h
  | convert S T x => exact op_convert hg ho h
  | fieldAddr T x f => exact op_fieldAddr hg ho h
  | indexAddr T x i => exact op_indexAddr hg ho h
  | makeSlice T a b => exact op_make hg ho h
  | slice T x lo hi mx => exact op_slice hg ho h
  | extract x i => exact op_extract hg ho h
  | call c =>
    cases hc : c.callee with
    | builtin b =>
      cases b with
      | len => exact op_len hg ho hc h
      | append => exact op_append hg ho hc h
      | copy => exact op_copy hg ho hc h
      | min => exact op_min hg ho hc h
      | max => exact op_max hg ho hc h
      | _ => simp only [evOp, ho, hc] at h; exact h.elim
    | value x =>
      cases x with
      | func f => exact op_call ho hc h
      | _ => simp only [evOp, ho, hc] at h; exact h.elim
    | _ => simp only [evOp, ho, hc] at h; exact h.elim
  | _ => simp only [evOp, ho] at h; exact h.elim

end

end Go.AM
